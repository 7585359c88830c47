/- Part 11. -/
import Derived.Test.YtepgcjbhabnciaaGreatLe10
namespace Go.Proofs.YtepgcjbhabnciaaGreat
set_option maxRecDepth 100000
set_option maxHeartbeats 8000000
open Go.RowKit Go.Proofs.Tryz
variable {w:World}
section
abbrev bR:=Int×Nd
def eZ (w:World) (C:Nat->Prop) (g:Nat) (s:bR):Prop:=
 ∃d f e h j i k m l a c b,aj w g 236 #[.int .u64 s.1,.int .i64 s.2.lev,.slice d f e,.int .i64 s.2.right,.slice h j i,.slice k m l,.slice a c b]/\
  Bt w C d f e s.2.high/\Tx w C h j i s.2.keys/\Tx w C k m l s.2.vals/\It w C a c b s.2.kids
def ptr (g:Nat):Value:= .pointer (some ⟨g,0,none⟩)
def Ma (p:Nat) (v:Value) (bs:List Nat):Nat->Prop:=fun b=>b=p\/v.ownBlock=some b\/b∈bs
structure lL (w:World) (F:Nat->Prop) (p:Nat) (nodes:Int) (sl:List bR) (root:Int) (A:Option Addr) (n c:Nat) (bs:List Nat):Prop where
 len:Hid (n=sl.length)
 blen:Hid (bs.length=n)
 blk:aj w p 178 #[.int .i64 nodes,.slice A n c,.int .i64 root]
 row:w.ownsRow 0 232 1 (.slice A n c) n (bs.map ptr)
 fp:F p
 frow:∀b,(Value.slice A n c).ownBlock=some b->F b
 fbs:∀b∈bs,F b
 nodup:bs.Nodup
 slot:∀(i g:Nat) (s:bR),bs[i]? =some g->sl[i]? =some s->eZ w (fun b=>F b/\¬Ma p (.slice A n c) bs b) g s
def gM (w:World) (F:Nat->Prop) (p:Nat) (nodes:Int) (sl:List bR) (root:Int):Prop:=∃A n c bs,lL w F p nodes sl root A n c bs
section
variable {S F G C D:Nat->Prop} {w w':World} {p:Nat} {nodes root:Int} {sl:List bR} {A:Option Addr} {n c:Nat} {bs:List Nat}
theorem eZ.weak {g:Nat} {s:bR} (h:eZ w C g s) (a:∀b,C b->D b):eZ w D g s:=by
 obtain⟨m,o,n,p,r,q,t,v,u,c,e,d,f,i,j,k,l⟩:=h;exact⟨m,o,n,p,r,q,t,v,u,c,e,d,f,i.weak a,j.weak a,k.weak a,l.weak a⟩
theorem eZ.chg {g:Nat} {s:bR} (h:eZ w C g s) (y:ag S w w') (o:¬S g) (a:∀b,C b->¬S b):eZ w' C g s:=by
 obtain⟨n,p,c,q,t,r,u,x,v,d,f,e,i,j,k,l,m⟩:=h;exact⟨n,p,c,q,t,r,u,x,v,d,f,e,i.chg y o,j.chg y a,k.chg y a,l.chg y a,m.chg y a⟩
theorem Bt.lt {a:List UInt8} {m d:Nat} (h:Bt w C A m d a):Bt w (fun b=>C b/\b<w.heap.size) A m d a:=⟨h.1,h.2.1,h.2.2.1,h.2.2.2.lt Nat.zero_lt_one⟩
theorem It.lt {ks:List Int} {m d:Nat} (h:It w C A m d ks):It w (fun b=>C b/\b<w.heap.size) A m d ks:=⟨h.1,h.2.1,h.2.2.1,h.2.2.2.lt Nat.zero_lt_one⟩
theorem Tx.lt {ts:List (List UInt8)} {m d:Nat} (h:Tx w C A m d ts):Tx w (fun b=>C b/\b<w.heap.size) A m d ts:=
 let⟨c,e,f,vs,g,j⟩:=h;⟨c,e,f,vs,g.lt Nat.zero_lt_one,fun i t k=>let⟨v,a,b⟩:=j i t k;⟨v,a,b.lt⟩⟩
theorem eZ.lt {g:Nat} {s:bR} (h:eZ w C g s):eZ w (fun b=>C b/\b<w.heap.size) g s:=by
 obtain⟨m,n,a,o,q,p,r,u,t,c,e,d,f,i,j,k,l⟩:=h;exact⟨m,n,a,o,q,p,r,u,t,c,e,d,f,i.lt,j.lt,k.lt,l.lt⟩
theorem lL.weak (h:lL w F p nodes sl root A n c bs) (k:∀_b,F _b->G _b):lL w G p nodes sl root A n c bs:=
 ⟨h.len,h.blen,h.blk,h.row,k _ h.fp,fun _b a=>k _ (h.frow _b a),fun _b a=>k _ (h.fbs _b a),h.nodup,fun i g s d e=>(h.slot i g s d e).weak (fun _b a=>⟨k _ a.1,a.2⟩)⟩
theorem gM.weak (h:gM w F p nodes sl root) (k:∀b,F b->G b):gM w G p nodes sl root:=let⟨A,n,c,bs,h⟩:=h;⟨A,n,c,bs,h.weak k⟩
theorem lL.chg (h:lL w F p nodes sl root A n c bs) (y:ag S w w') (K:∀_b,F _b->¬S _b):lL w' F p nodes sl root A n c bs:=
 ⟨h.len,h.blen,h.blk.chg y (K _ h.fp),aD h.row y (fun g a=>K _ (h.frow g a)),h.fp,h.frow,h.fbs,h.nodup,fun i g s a d=>(h.slot i g s a d).chg y (K _ (h.fbs g (List.mem_of_getElem? a))) (fun _b e=>K _ e.1)⟩
theorem gM.chg (h:gM w F p nodes sl root) (y:ag S w w') (K:∀b,F b->¬S b):gM w' F p nodes sl root:=let⟨A,n,c,bs,h⟩:=h;⟨A,n,c,bs,h.chg y K⟩
theorem gM.below (h:gM w F p nodes sl root) (a:Below w.heap.size w w'):gM w' F p nodes sl root:=h.chg (ag.of_below (S:=Nil) a) (fun _ _ b=>b)
theorem lL.below (h:lL w F p nodes sl root A n c bs) (a:Below w.heap.size w w'):lL w' F p nodes sl root A n c bs:=h.chg (ag.of_below (S:=Nil) a) (fun _ _ b=>b)
theorem lL.cells (h:lL w F p nodes sl root A n c bs):w.cell? ⟨p,0,none⟩=some (.int .i64 nodes)/\w.cell? ⟨p,1,none⟩=some (.slice A n c)/\w.cell? ⟨p,2,none⟩=some (.int .i64 root)/\∀o,w.frozen? ⟨p,o,none⟩=false:=
 ⟨by rw [h.blk.cell];rfl,by rw [h.blk.cell];rfl,by rw [h.blk.cell];rfl,h.blk.frozen⟩
theorem lL.at_ (h:lL w F p nodes sl root A n c bs) {k:Nat} (b:k<n):∃r g,A=some ⟨r,0,none⟩/\bs[k]? =some g/\w.cell? ⟨r,k,none⟩=some (.pointer (some ⟨g,0,none⟩)):=by
 have hl:k<bs.length:=by have:bs.length=n:=h.blen;omega
 obtain⟨r,cap,hv,_,_⟩:=h.row.form (by omega);have a:A=some ⟨r,0,none⟩:=by injection hv
 subst a;refine⟨r,bs[k],rfl,List.getElem?_eq_getElem hl,?_⟩;have:=h.row.cells (g:=r) rfl k (ptr bs[k]) (by rw [List.getElem?_map,List.getElem?_eq_getElem hl];rfl);rw [iT,Nat.zero_add] at this;exact this
end
theorem aj.ne_ {w:World} {g d:Nat} {t e:TypeId} {cs b:Array Value} (h:aj w g t cs) (a:aj w d e b) (c:t≠e):g≠d:=by
 rintro rfl;unfold aj at h a;rw [h] at a;injection a with a
 injection a with _ f
 exact c f
theorem iy {w:World} {base:Nat} {e t:TypeId} {size n g:Nat} {v:Value} {xs:List Value} {cs:Array Value} (h:w.ownsRow base e size v n xs) (d:aj w g t cs) (a:e≠t):v.ownBlock≠some g:=by
 rcases h.2 with⟨rfl,_⟩|⟨b,cap,cur,rfl,_,f,_⟩
 ·simp [Value.ownBlock]
 ·intro c;have:b=g:=by simpa [Value.ownBlock] using c
  subst this;exact aj.ne_ (t:=e) f d a rfl
section
variable {S F G C D:Nat->Prop} {w w':World} {p:Nat} {nodes root:Int} {sl:List bR} {A:Option Addr} {n c:Nat} {bs:List Nat}
theorem lL.ne_p (h:lL w F p nodes sl root A n c bs) {g:Nat} (b:g∈bs):g≠p:=by
 obtain⟨i,hi,rfl⟩:=List.mem_iff_getElem.1 b;have d:i<sl.length:=by have k:n=sl.length:=h.len;have l:bs.length=n:=h.blen;omega
 obtain⟨m,q,o,r,t,s,u,x,v,e,j,f,a,_⟩:=h.slot i bs[i] sl[i] (List.getElem?_eq_getElem hi) (List.getElem?_eq_getElem d);exact a.ne_ h.blk (by decide)
theorem lL.ne_row (h:lL w F p nodes sl root A n c bs) {g:Nat} (b:g∈bs):(Value.slice A n c).ownBlock≠some g:=by
 obtain⟨i,hi,rfl⟩:=List.mem_iff_getElem.1 b;have d:i<sl.length:=by have k:n=sl.length:=h.len;have l:bs.length=n:=h.blen;omega
 obtain⟨m,q,o,r,t,s,u,x,v,e,j,f,a,_⟩:=h.slot i bs[i] sl[i] (List.getElem?_eq_getElem hi) (List.getElem?_eq_getElem d);exact iy h.row a (by decide)
theorem lL.row_p (h:lL w F p nodes sl root A n c bs):(Value.slice A n c).ownBlock≠some p:=iy h.row h.blk (by decide)
theorem lL.lt_bs (h:lL w F p nodes sl root A n c bs) {g:Nat} (b:g∈bs):g<w.heap.size:=by
 obtain⟨i,hi,rfl⟩:=List.mem_iff_getElem.1 b;have d:i<sl.length:=by have k:n=sl.length:=h.len;have l:bs.length=n:=h.blen;omega
 obtain⟨m,q,o,r,t,s,u,x,v,e,j,f,a,_⟩:=h.slot i bs[i] sl[i] (List.getElem?_eq_getElem hi) (List.getElem?_eq_getElem d);exact a.lt
theorem lL.upd (h:lL w F p nodes sl root A n c bs) {i g:Nat} {s:bR} (o:bs[i]? =some g) (q:ag (mZ g) w w') (k:∀b,F b->G b)
  (x:eZ w' (fun b=>G b/\¬Ma p (.slice A n c) bs b) g s):lL w' G p nodes (sl.set i s) root A n c bs:=by
 have l:g∈bs:=List.mem_of_getElem? o;have r:i<sl.length:=by have u:n=sl.length:=h.len;have C:bs.length=n:=h.blen;have:=(List.getElem?_eq_some_iff.1 o).1;omega
 refine⟨by have u:n=sl.length:=h.len;show n=(sl.set i s).length;simp [u],h.blen,h.blk.chg q (fun e=>h.ne_p l (show p=g from e).symm),aD h.row q (fun b f e=>h.ne_row l (by rw [f];rw [show b=g from e])),k _ h.fp,fun b f=>k _ (h.frow b f),fun b f=>k _ (h.fbs b f),h.nodup,?_⟩;intro j v B a d
 by_cases m:i=j
 ·subst m;rw [o] at a;injection a with a
  subst a;rw [List.getElem?_set_self r] at d;injection d with d
  subst d
  exact x
 ·rw [List.getElem?_set_ne m] at d
  have t:v≠g:=by
   rintro rfl;have y:=(List.getElem?_eq_some_iff.1 o);have z:=(List.getElem?_eq_some_iff.1 a);exact m ((List.getElem_inj h.nodup).1 (y.2.trans z.2.symm))
  exact((h.slot j v B a d).chg q (fun e=>t e) (fun b f e=>f.2 (.inr (.inr ((show b=g from e)▸l))))).weak (fun b f=>⟨k _ f.1,f.2⟩)
theorem lL.setRoot (h:lL w F p nodes sl root A n c bs) (r:Int):lL (w.setCell ⟨p,2,none⟩ (.int .i64 r)) F p nodes sl r A n c bs:=by
 have d:=ag.set1 w p 2 (.int .i64 r);refine⟨h.len,h.blen,?_,aD h.row d (fun b a e=>h.row_p (by rw [a];rw [show b=p from e])),h.fp,h.frow,h.fbs,h.nodup,fun i g s f j=>(h.slot i g s f j).chg d (fun e=>h.ne_p (List.mem_of_getElem? f) e) (fun b a e=>a.2 (.inl e))⟩;have:=h.blk.set_ 2 (.int .i64 r);exact this
def sP (a:Int):Array Value:= #[.int .u64 a,.int .i64 0,.slice none 0 0,.int .i64 0,.slice none 0 0,.slice none 0 0,.slice none 0 0]
theorem Cn {w:World} {g:Nat} {a:Int} (C:Nat->Prop) (h:aj w g 236 (sP a)):eZ w C g (a,Nd.zero):=
 ⟨none,0,0,none,0,0,none,0,0,none,0,0,h,Bt.nil _ _,Tx.nil _ _,Tx.nil _ _,It.nil _ _⟩
theorem lL.push {w1 w2 r:World} (h:lL w F p nodes sl root A n c bs) {g:Nat} (hg:g=w.heap.size) (t:Below w.heap.size w w1) (k1:aj w1 g 236 (sP 1))
  {m:Option Addr} {o:Nat} (l:w2.ownsRow 0 232 1 (.slice m (n+1) o) (n+1) (bs.map ptr++ [ptr g])) (H:w1.grownBy w2 (Value.slice A n c).ownBlock)
  (u:(Value.slice m (n+1) o).ownBlock=(Value.slice A n c).ownBlock\/(Value.slice m (n+1) o).ownBlock=some w1.heap.size)
  (Q:r=w2.setCell ⟨p,1,none⟩ (.slice m (n+1) o)):
  lL r (fun b=>F b\/w.heap.size<=b) p nodes (sl++ [(1,Nd.zero)]) root m (n+1) o (bs++ [g])/\ag F w r:=by
 have Y:p<w.heap.size:=h.blk.lt;have Z:=t.size;have X:g<w1.heap.size:=k1.lt;have R:=own_below h.row t;have K:(Value.slice A n c).ownBlock≠some p:=h.row_p;have B:(Value.slice A n c).ownBlock≠some g:=iy R k1 (by decide);have s:ag (fun b=>(Value.slice A n c).ownBlock=some b) w1 w2:=(ag.refl _ _).grown H (fun b d _=>d);have y:ag (mZ p) w2 r:=by subst Q;exact ag.set1 w2 p 1 _
 have ab:=s.size;have x:aj w2 p 178 #[.int .i64 nodes,.slice A n c,.int .i64 root]:=(h.blk.below t).chg s K;have J:aj r p 178 #[.int .i64 nodes,.slice m (n+1) o,.int .i64 root]:=by subst Q;exact x.set_ 1 _
 have T:(Value.slice m (n+1) o).ownBlock≠some p:=iy l x (by decide);have q:=aD l y (fun b d e=>T (by rw [d];rw [show b=p from e]));have O:aj r g 236 (sP 1):=(k1.chg s B).chg y (fun e=>by have e:g=p:=e;omega);have E:ag F w r:=((ag.of_below (S:=F) t).trans s (fun b _ d=>h.frow b d)).trans y (fun b _ d=>by have d:b=p:=d;rw [d];exact h.fp)
 refine⟨⟨?_,?_,J,?_,.inl h.fp,?_,?_,?_,?_⟩,E⟩
 ·have C:n=sl.length:=h.len;show n+1=(sl++ [(1,Nd.zero)]).length
  simp [C]
 ·have D:bs.length=n:=h.blen;show(bs++ [g]).length=n+1
  simp [D]
 ·rw [List.map_append];exact q
 ·intro b d
  rcases u with e|e
  ·exact .inl (h.frow b (by rw [<-e];exact d))
  ·rw [e] at d;injection d with d;exact .inr (by omega)
 ·intro b d
  rcases List.mem_append.1 d with d|d
  ·exact .inl (h.fbs b d)
  ·have:b=g:=by simpa using d
   exact .inr (by omega)
 ·rw [List.nodup_append];refine⟨h.nodup,by simp,fun a W b d e=> ?_⟩;have d:b=g:=by simpa using d
  have:=h.lt_bs W
  omega
 ·intro i z P j k;have C:n=sl.length:=h.len;have D:bs.length=n:=h.blen
  rcases Nat.lt_or_ge i n with hi|hi
  ·rw [List.getElem?_append_left (by omega)] at j k;have v:z∈bs:=List.mem_of_getElem? j;have hx:=(h.slot i z P j k).lt;have L:eZ w1 (fun b=>(F b/\¬Ma p (.slice A n c) bs b)/\b<w.heap.size) z P:=hx.chg (ag.of_below (S:=Nil) t) (fun G=>G) (fun _ _ G=>G);have M:=L.chg s (fun e=>h.ne_row v e) (fun b d e=>d.1.2 (.inr (.inl e)));have N:=M.chg y (fun e=>h.ne_p v e) (fun b d e=>d.1.2 (.inl e));refine N.weak (fun b d=>⟨.inl d.1.1,fun f=> ?_⟩)
   rcases f with f|f|f
   ·exact d.1.2 (.inl f)
   ·rcases u with e|e
    ·exact d.1.2 (.inr (.inl (by rw [<-e];exact f)))
    ·rw [e] at f;injection f with f;omega
   ·rcases List.mem_append.1 f with f|f
    ·exact d.1.2 (.inr (.inr f))
    ·have:b=g:=by simpa using f
     omega
  ·have I:i=n:=by
    have:=(List.getElem?_eq_some_iff.1 j).1;simp at this;omega
   subst I;rw [List.getElem?_append_right (by omega)] at j k;have U:z=g:=by simpa [D] using j.symm
   have V:P=(1,Nd.zero):=by simpa [<-C] using k.symm
   subst U;subst V;exact Cn _ O
end
theorem lL.mut_lt {F:Nat->Prop} {w:World} {p:Nat} {nodes root:Int} {sl:List bR} {A:Option Addr} {n c:Nat} {bs:List Nat} (h:lL w F p nodes sl root A n c bs) {b:Nat} (a:w.heap.size<=b):¬Ma p (.slice A n c) bs b:=by
 rintro(e|e|e)
 ·have:=h.blk.lt;omega
 ·have:=(ah h.row b e).2;omega
 ·have:=h.lt_bs e;omega
theorem eZ.setWord {w:World} {C:Nat->Prop} {g:Nat} {s:bR} (h:eZ w C g s) (r:¬C g) (x:Int):eZ (w.setCell ⟨g,0,none⟩ (.int .u64 x)) C g (x,s.2):=by
 obtain⟨o,t,q,u,y,v,z,B,A,d,i,f,j,k,l,m,n⟩:=h;have a:=ag.set1 w g 0 (.int .u64 x);have c:∀b,C b->¬mZ g b:=fun b p e=>r ((show b=g from e)▸p);exact⟨o,t,q,u,y,v,z,B,A,d,i,f,j.set_ 0 _,k.chg a c,l.chg a c,m.chg a c,n.chg a c⟩
theorem eZ.setHead {w:World} {C:Nat->Prop} {g:Nat} {s:bR} (h:eZ w C g s) (r:¬C g) {A:Option Addr} {n c:Nat} {lev right:Int} {high:List UInt8} (f:Bt w C A n c high):
  eZ (((w.setCell ⟨g,1,none⟩ (.int .i64 lev)).setCell ⟨g,2,none⟩ (.slice A n c)).setCell ⟨g,3,none⟩ (.int .i64 right)) C g (s.1,⟨lev,high,right,s.2.keys,s.2.vals,s.2.kids⟩):=by
 obtain⟨D,F,E,t,v,u,x,z,y,i,k,j,l,B,m,o,q⟩:=h;have a:ag (mZ g) w (((w.setCell ⟨g,1,none⟩ (.int .i64 lev)).setCell ⟨g,2,none⟩ (.slice A n c)).setCell ⟨g,3,none⟩ (.int .i64 right)):=((ag.set1 w g 1 _).setCell (p:=⟨g,2,none⟩) (fun _=>rfl) _).setCell (p:=⟨g,3,none⟩) (fun _=>rfl) _;have d:∀b,C b->¬mZ g b:=fun b f e=>r ((show b=g from e)▸f);exact⟨A,n,c,t,v,u,x,z,y,i,k,j,((l.set_ 1 _).set_ 2 _).set_ 3 _,f.chg a d,m.chg a d,o.chg a d,q.chg a d⟩
theorem eZ.setBody {w:World} {C:Nat->Prop} {g:Nat} {s:bR} (h:eZ w C g s) (v:¬C g) {A B D:Option Addr} {n c m d l k:Nat} {keys vals:List (List UInt8)} {kids:List Int} (r:Tx w C A n c keys) (i:Tx w C B m d vals) (u:It w C D l k kids):
  eZ (((w.setCell ⟨g,4,none⟩ (.slice A n c)).setCell ⟨g,5,none⟩ (.slice B m d)).setCell ⟨g,6,none⟩ (.slice D l k)) C g (s.1,⟨s.2.lev,s.2.high,s.2.right,keys,vals,kids⟩):=by
 obtain⟨q,x,t,I,K,J,L,N,M,y,E,z,j,o,F,G,H⟩:=h;have a:ag (mZ g) w (((w.setCell ⟨g,4,none⟩ (.slice A n c)).setCell ⟨g,5,none⟩ (.slice B m d)).setCell ⟨g,6,none⟩ (.slice D l k)):=((ag.set1 w g 4 _).setCell (p:=⟨g,5,none⟩) (fun _=>rfl) _).setCell (p:=⟨g,6,none⟩) (fun _=>rfl) _;have f:∀b,C b->¬mZ g b:=fun b i e=>v ((show b=g from e)▸i);exact⟨q,x,t,A,n,c,B,m,d,D,l,k,((j.set_ 4 _).set_ 5 _).set_ 6 _,o.chg a f,r.chg a f,i.chg a f,u.chg a f⟩
theorem Co (w:World) (g i j k:Nat) (u v x:Value):ag (mZ g) w (((w.setCell ⟨g,i,none⟩ u).setCell ⟨g,j,none⟩ v).setCell ⟨g,k,none⟩ x):=
 ((ag.set1 w g i _).setCell (p:=⟨g,j,none⟩) (fun _=>rfl) _).setCell (p:=⟨g,k,none⟩) (fun _=>rfl) _
end
theorem yM (F:Nat->Prop) (p:Nat) (nodes root:Int) (sl:List bR) (A:Option Addr) (n c:Nat) (bs:List Nat) (id:Int) (w:World) (h:lL w F p nodes sl root A n c bs) (i:1<=id) (m:id<=n) (o:n<=65536) (g:Nat) (b:bs[id.toNat-1]? =some g):
  Calls prog 131 #[.pointer (some ⟨p,0,none⟩),.int .i64 id] w fun e w'=>e= .returned (.pointer (some ⟨g,0,none⟩))/\w=w':=by
 obtain⟨c0,c1,d,f⟩:=h.cells;obtain⟨r,l,rfl,a,j⟩:=h.at_ (k:=id.toNat-1) (by omega);rw [b] at a;injection a with a
 subst a;clear b h;go_enter func131,ntmps131
 go_wp2;go_ret
 exact⟨rfl,rfl⟩
theorem EK (F:Nat->Prop) (p:Nat) (nodes root:Int) (sl:List bR) (A:Option Addr) (n c:Nat) (bs:List Nat) (id:Int) (w:World) (h:lL w F p nodes sl root A n c bs) (b:id<1\/(n:Int)<id):
  Calls prog 131 #[.pointer (some ⟨p,0,none⟩),.int .i64 id] w fun e w'=>e= .returned (.pointer none)/\w=w':=by
 obtain⟨c0,c1,d,f⟩:=h.cells;clear h
 rcases Int.lt_or_le id 1 with a|a
 ·go_enter func131,ntmps131
  go_wp2;go_ret
  exact⟨rfl,rfl⟩
 ·have g:(n:Int)<id:=by omega
  clear b;go_enter func131,ntmps131
  go_wp2;go_ret
  exact⟨rfl,rfl⟩
theorem Ch (a b c d e f:Value) (w:World):(Instr.field 132 (.agg #[a,b,c,d,e,f]) 0).run prog w= .ok (.agg #[a,b,c]) w:=by kernel_rfl
theorem Ci (a b c d e f:Value) (w:World):(Instr.field 132 (.agg #[a,b,c,d,e,f]) 1).run prog w= .ok (.agg #[d,e,f]) w:=by kernel_rfl
theorem zO {g:Nat} {t:TypeId} {v0 Y v2 F M B v6:Value} (h:aj w g t #[v0,Y,v2,F,M,B,v6]):
  w.cell? ⟨g,0,none⟩=some v0/\w.cell? ⟨g,1,none⟩=some Y/\w.cell? ⟨g,2,none⟩=some v2/\w.cell? ⟨g,3,none⟩=some F/\w.cell? ⟨g,4,none⟩=some M/\w.cell? ⟨g,5,none⟩=some B/\w.cell? ⟨g,6,none⟩=some v6/\(∀o,w.frozen? ⟨g,o,none⟩=false):=
 ⟨by rw [h.cell];rfl,by rw [h.cell];rfl,by rw [h.cell];rfl,by rw [h.cell];rfl,by rw [h.cell];rfl,by rw [h.cell];rfl,by rw [h.cell];rfl,h.frozen⟩
theorem lL.slot_at {F:Nat->Prop} {p:Nat} {nodes root:Int} {sl:List bR} {A:Option Addr} {n c:Nat} {bs:List Nat} (h:lL w F p nodes sl root A n c bs) {id:Int} (i:1<=id) (j:id<=n):
  ∃g s,bs[id.toNat-1]? =some g/\sl[id.toNat-1]? =some s/\F g/\eZ w (fun b=>F b/\¬Ma p (.slice A n c) bs b) g s:=by
 have e:n=sl.length:=h.len;have f:bs.length=n:=h.blen;have a:id.toNat-1<bs.length:=by omega
 have d:id.toNat-1<sl.length:=by omega
 exact⟨bs[id.toNat-1],sl[id.toNat-1],List.getElem?_eq_getElem a,List.getElem?_eq_getElem d,h.fbs _ (List.getElem_mem a),h.slot _ _ _ (List.getElem?_eq_getElem a) (List.getElem?_eq_getElem d)⟩
theorem KH (F:Nat->Prop) (p:Nat) (nodes root:Int) (sl:List bR) (id:Int) (s:bR) (w:World) (h:gM w F p nodes sl root) (i:1<=id) (u:id<=sl.length) (q:sl.length<=65536) (j:sl[id.toNat-1]? =some s):
  Calls prog 122 #[.pointer (some ⟨p,0,none⟩),.int .i64 id] w fun e w'=>e= .returned (.tuple #[.int .u64 s.1,.int .i64 0])/\w=w':=by
 obtain⟨A,n,c,bs,b⟩:=h;have l:n=sl.length:=b.len;obtain⟨g,H,f,a,_,t⟩:=b.slot_at i (by omega);rw [j] at a;injection a with a
 subst a;obtain⟨B,r,C,D,G,E,I,K,J,x,z,y,d,_⟩:=t;obtain⟨v,L,M,N,O,P,Q,R⟩:=zO d;have m:id<=n:=by omega
 have o:n<=65536:=by omega
 have k:=aa f;clear f j u q l d;go_enter func122,ntmps122
 go_wp2_with (first|(go_at_call 131;refine(yM F p nodes root sl A n c bs id _ b i m o g k).mono ?_;rintro e w' ⟨rfl,rfl⟩)|(go_at_call 121;refine(sO _ _ _ _ v).mono ?_;rintro e w' ⟨rfl,rfl⟩))
 go_ret2
 exact⟨rfl,rfl⟩
theorem Yu (F:Nat->Prop) (p:Nat) (nodes root:Int) (sl:List bR) (id:Int) (w:World) (h:gM w F p nodes sl root) (d:id<1\/(sl.length:Int)<id):
  Calls prog 122 #[.pointer (some ⟨p,0,none⟩),.int .i64 id] w fun e w'=>e= .returned (.tuple #[.int .u64 0,.int .i64 101])/\w=w':=by
 obtain⟨A,n,c,bs,a⟩:=h;have b:n=sl.length:=a.len;have f:id<1\/(n:Int)<id:=by omega
 clear d b;go_enter func122,ntmps122
 go_wp2_with (first|(go_at_call 131;refine(EK F p nodes root sl A n c bs id _ a f).mono ?_;rintro e w' ⟨rfl,rfl⟩))
 go_ret2
 exact⟨rfl,rfl⟩
def Cj (w:World) (lev:Int) (high:List UInt8) (right x:Int) (e:Ending) (w':World):Prop:=
 ∃A n c,e= .returned (.tuple #[.agg #[.int .i64 lev,.slice A n c,.int .i64 right],.int .i64 x])/\Bt w' (fG (From w.heap.size) w') A n c high/\Below w.heap.size w w'
def Ck (w:World) (keys vals:List (List UInt8)) (kids:List Int) (x:Int) (e:Ending) (w':World):Prop:=
 ∃A n c B m d C l k,e= .returned (.tuple #[.agg #[.slice A n c,.slice B m d,.slice C l k],.int .i64 x])/\(keys= []/\n=0/\kids= []/\l=0\/∃g hi,w.heap.size<=g/\Hz w' g hi A n c keys/\It w' (fG (From hi) w') C l k kids)/\
  Tx w' (From w.heap.size) A n c keys/\Tx w' (From w.heap.size) B m d vals/\It w' (From w.heap.size) C l k kids/\Below w.heap.size w w'
theorem PM (F:Nat->Prop) (p:Nat) (nodes root:Int) (sl:List bR) (id:Int) (s:bR) (w:World) (h:gM w F p nodes sl root) (i:1<=id) (u:id<=sl.length) (q:sl.length<=65536) (B:sl[id.toNat-1]? =some s) (m:s.2.high.length<=1152921504606):
  Calls prog 87 #[.pointer (some ⟨p,0,none⟩),.int .i64 id] w (Cj w s.2.lev s.2.high s.2.right 0):=by
 obtain⟨A,n,c,bs,r⟩:=h;have I:n=sl.length:=r.len;obtain⟨g,s',z,f,_,N⟩:=r.slot_at i (by omega);rw [B] at f;injection f with f
 subst f;obtain⟨L,x,M,kA,kn,kc,vA,vn,vc,dA,dn,dc,d,C,P,Q,R⟩:=N;have j:Below w.heap.size w (w.alloc (.cells #[.int .i64 0,.slice none 0 0,.int .i64 0] 127)):=(Below.refl _ _).alloc (Nat.le_refl _) _;obtain⟨z0,z1,z2,z3,z4,z5,z6,z7⟩:=zO (d.below j);have D:=r.below j;have J:id<=n:=by omega
 have K:n<=65536:=by omega
 have E:=aa z;have H:=aa (C.below j);have O:=aa m;clear z B u q I d C P Q R r m;have X:=Ch;go_enter func87,ntmps87
 go_wp2_with (first|(go_at_call 131;refine(yM F p nodes root sl A n c bs id _ D i J K g E).mono ?_;rintro e w' ⟨rfl,rfl⟩)|(go_at_call 132;refine(uJ ⟨s.2.lev,s.2.high,s.2.right,[],[],[]⟩ (fun b=>F b/\¬Ma p (.slice A n c) bs b) L none none none x M 0 0 0 0 0 0 _ H.out (Tx.nil _ _) (Tx.nil _ _) (It.nil _ _) ⟨O,by simp,by simp,by simp,by simp,by simp⟩).mono ?_;rintro e w1 ⟨t,y,c1,T,n2,Y,U,n3,Z,V,n4,c4,gk,hk,rfl,W,S,r2,r3,r4,a⟩;have y0:=ak (b:=w.heap.size) (o:=0) (v:= .int .i64 0) a (by simp);have y1:=ak (b:=w.heap.size) (o:=1) (v:= .slice none 0 0) a (by simp);have y2:=ak (b:=w.heap.size) (o:=2) (v:= .int .i64 0) a (by simp);have yf:∀o,w1.frozen? ⟨w.heap.size,o,none⟩=false:=((aj.new w 127 #[.int .i64 0,.slice none 0 0,.int .i64 0]).below a).frozen))
 refine bodyPost_ret (v:= .tuple #[.agg #[.int .i64 s.2.lev,.slice t y c1,.int .i64 s.2.right],.int .i64 0]) (by simp [results,results87,go_sem, *]) rfl ?_;have l:ag (mZ w.heap.size) w1 (((w1.setCell ⟨w.heap.size,0,none⟩ (.int .i64 s.2.lev)).setCell ⟨w.heap.size,1,none⟩ (.slice t y c1)).setCell ⟨w.heap.size,2,none⟩ (.int .i64 s.2.right)):=(chg2 w1 w.heap.size 0 1 _ _).setCell (p:=⟨w.heap.size,2,none⟩) (fun _=>rfl) _;have k:=j.trans (a.mono j.size);have no:∀b,From (w.heap.size+1) b->¬mZ w.heap.size b:=fun b d e=>by simp only [From,mZ] at d e;omega
 refine⟨t,y,c1,rfl,((S.weak (G:=fG (From (w.heap.size+1)) w1) (fG.weak (fun b d=>by simpa [From] using d))).soft_chg l no).weak (fG.weak (fun b d=> ?_)),k.trans (l.below_of k.size (fun b d e=> ?_))⟩
 ·simp only [From] at d|-;omega
 ·simp only [mZ] at e;omega
theorem PN (F:Nat->Prop) (p:Nat) (nodes root:Int) (sl:List bR) (id:Int) (s:bR) (w:World) (h:gM w F p nodes sl root) (i:1<=id) (u:id<=sl.length) (q:sl.length<=65536) (N:sl[id.toNat-1]? =some s) (m:Small s.2):
  Calls prog 88 #[.pointer (some ⟨p,0,none⟩),.int .i64 id] w (Ck w s.2.keys s.2.vals s.2.kids 0):=by
 obtain⟨A,n,c,bs,y⟩:=h;have e1:n=sl.length:=y.len;obtain⟨g,s',M,j,_,hx⟩:=y.slot_at i (by omega);rw [N] at j;injection j with j
 subst j;obtain⟨hA,ad,hc,kA,kn,kc,vA,vn,vc,Y,dn,Z,a,q1,O,P,Q⟩:=hx;have k:Below w.heap.size w (w.alloc (.cells #[.slice none 0 0,.slice none 0 0,.slice none 0 0] 130)):=(Below.refl _ _).alloc (Nat.le_refl _) _;obtain⟨z0,z1,z2,z3,z4,z5,z6,z7⟩:=zO (a.below k);have S:=y.below k;have h3:id<=n:=by omega
 have h4:n<=65536:=by omega
 have T:=aa M;have U:=aa (O.below k);have V:=aa (P.below k);have W:=aa (Q.below k);have r:=aa m;clear M N u q e1 a q1 O P Q y m;have Ug:=Ci;go_enter func88,ntmps88
 go_wp2_with (first|(go_at_call 131;refine(yM F p nodes root sl A n c bs id _ S i h3 h4 g T).mono ?_;rintro e w' ⟨rfl,rfl⟩)|(go_at_call 132;refine(uJ ⟨0,[],0,s.2.keys,s.2.vals,s.2.kids⟩ (fun b=>F b/\¬Ma p (.slice A n c) bs b) none kA vA Y 0 0 kn kc vn vc dn Z _ (Bt.nil _ _) U.out V.out W.out ⟨by simp,r.2.1,r.2.2.1,r.2.2.2.1,r.2.2.2.2.1,r.2.2.2.2.2⟩).mono ?_;rintro e w1 ⟨A1,n1,c1,t,z,x,B,I,D,C,J,E,gk,H,rfl,X,r1,R,r3,r4,d⟩;have y0:=ak (b:=w.heap.size) (o:=0) (v:= .slice none 0 0) d (by simp);have y1:=ak (b:=w.heap.size) (o:=1) (v:= .slice none 0 0) d (by simp);have y2:=ak (b:=w.heap.size) (o:=2) (v:= .slice none 0 0) d (by simp);have yf:∀o,w1.frozen? ⟨w.heap.size,o,none⟩=false:=((aj.new w 130 #[.slice none 0 0,.slice none 0 0,.slice none 0 0]).below d).frozen))
 refine bodyPost_ret (v:= .tuple #[.agg #[.slice t z x,.slice B I D,.slice C J E],.int .i64 0]) (by simp [results,results88,go_sem, *]) rfl ?_;have f:ag (mZ w.heap.size) w1 (((w1.setCell ⟨w.heap.size,0,none⟩ (.slice t z x)).setCell ⟨w.heap.size,1,none⟩ (.slice B I D)).setCell ⟨w.heap.size,2,none⟩ (.slice C J E)):=(chg2 w1 w.heap.size 0 1 _ _).setCell (p:=⟨w.heap.size,2,none⟩) (fun _=>rfl) _;have l:=k.trans (d.mono k.size);have up:∀b,From (w.heap.size+1) b->From w.heap.size b:=fun b a=>by simp only [From] at a|-;omega
 have no:∀b,From (w.heap.size+1) b->¬mZ w.heap.size b:=fun b a e=>by simp only [From,mZ] at a e;omega
 have ab:w.heap.size+1<=gk:=by simpa using X
 have K:Hz _ gk H t z x s.2.keys:=R.chg f (fun b i _ e=>by simp only [mZ] at e;omega);have ac:gk<H:=R.2.2.2.2.1;have L:=r4.soft_chg f (fun b a e=>by simp only [From,mZ] at a e;omega)
 exact⟨t,z,x,B,I,D,C,J,E,rfl,.inr ⟨gk,H,by omega,K,L⟩,K.tx (by omega),((r3.weak (G:=From (w.heap.size+1)) (fun b a=>by simpa [From] using a)).chg f no).weak up,
  L.weak (fun b a=>by have a:=a.1;simp only [From] at a|-;omega),l.trans (f.below_of l.size (fun b a e=>by simp only [mZ] at e;omega))⟩
theorem Mc (F:Nat->Prop) (p:Nat) (nodes root:Int) (sl:List bR) (id:Int) (w:World) (h:gM w F p nodes sl root) (g:id<1\/(sl.length:Int)<id):
  Calls prog 87 #[.pointer (some ⟨p,0,none⟩),.int .i64 id] w (Cj w 0 [] 0 101):=by
 obtain⟨A,n,c,bs,a⟩:=h;have f:n=sl.length:=a.len;have i:id<1\/(n:Int)<id:=by omega
 have b:Below w.heap.size w (w.alloc (.cells #[.int .i64 0,.slice none 0 0,.int .i64 0] 127)):=(Below.refl _ _).alloc (Nat.le_refl _) _;have d:=a.below b;clear g f a;go_enter func87,ntmps87
 go_wp2_with (first|(go_at_call 131;refine(EK F p nodes root sl A n c bs id _ d i).mono ?_;rintro e w' ⟨rfl,rfl⟩))
 refine bodyPost_ret (v:= .tuple #[.agg #[.int .i64 0,.slice none 0 0,.int .i64 0],.int .i64 101]) (by simp [results,results87,go_sem]) rfl ?_;exact⟨none,0,0,rfl,Bt.nil _ _,b⟩
theorem Me (F:Nat->Prop) (p:Nat) (nodes root:Int) (sl:List bR) (id:Int) (w:World) (h:gM w F p nodes sl root) (g:id<1\/(sl.length:Int)<id):
  Calls prog 88 #[.pointer (some ⟨p,0,none⟩),.int .i64 id] w (Ck w [] [] [] 101):=by
 obtain⟨A,n,c,bs,a⟩:=h;have f:n=sl.length:=a.len;have i:id<1\/(n:Int)<id:=by omega
 have b:Below w.heap.size w (w.alloc (.cells #[.slice none 0 0,.slice none 0 0,.slice none 0 0] 130)):=(Below.refl _ _).alloc (Nat.le_refl _) _;have d:=a.below b;clear g f a;go_enter func88,ntmps88
 go_wp2_with (first|(go_at_call 131;refine(EK F p nodes root sl A n c bs id _ d i).mono ?_;rintro e w' ⟨rfl,rfl⟩))
 refine bodyPost_ret (v:= .tuple #[.agg #[.slice none 0 0,.slice none 0 0,.slice none 0 0],.int .i64 101]) (by simp [results,results88,go_sem]) rfl ?_;exact⟨none,0,0,none,0,0,none,0,0,rfl,.inl ⟨rfl,rfl,rfl,rfl⟩,Tx.nil _ _,Tx.nil _ _,It.nil _ _,b⟩
theorem Mf (F:Nat->Prop) (p:Nat) (nodes root:Int) (sl:List bR) (w:World) (h:gM w F p nodes sl root):
  Calls prog 48 #[.pointer (some ⟨p,0,none⟩)] w fun e w'=>e= .returned (.int .i64 root)/\w=w':=by
 obtain⟨A,n,c,bs,a⟩:=h;obtain⟨c0,c1,b,d⟩:=a.cells;clear a;go_enter func48,ntmps48
 go_wp2_with (first|(go_at_call 86;refine(Cm _ _ _ _ b).mono ?_;rintro e w' ⟨rfl,rfl⟩))
 go_ret
 exact⟨rfl,rfl⟩
end Go.Proofs.YtepgcjbhabnciaaGreat
