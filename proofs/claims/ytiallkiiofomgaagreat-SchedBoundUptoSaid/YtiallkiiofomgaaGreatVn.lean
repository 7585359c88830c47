/- Abstract values: contracts over objects of many blocks; what is said more weakly; what is frozen. -/
import Derived.Test.YtiallkiiofomgaaGreatVm
namespace Go.Proofs.YtiallkiiofomgaaGreat
section
variable {P : Program} {Wr : Nat → Prop} {w : World} {s : Sto} {own : Nat → Option Nat} {H : Hp} {f : FuncId} {as : List AV} {W : List Nat} {R : Rs}
/-- a contract over what an object is made of is one over the object -/
theorem AC.open_ {R : AV → Hp → Prop} {m : Nat} {A : (Nat → Option (TypeId × List AV)) → Prop} (hm : H m = some (.abs A)) (hW : m ∈ W) (h : ∀ g, A g → ∃ W', (∀ x ∈ W', x ∈ W ∨ (g x).isSome = true) ∧ AC P f as (hopen H m g) W' fun _ => R) : AC P f as H W fun _ => R := by
  intro w s own vs Wr hst hr hWr hf
  obtain ⟨g, hA, hg, hst1⟩ := hst.open_ hm
  obtain ⟨W', hW', hac⟩ := h g hA
  refine (hac w s _ vs (fun x => Wr x ∨ (g x).isSome = true) hst1 hr (fun x hx => (hW' x hx).imp (hWr x) id) (fun x hx => .inl (hf x hx))).mono fun e w' ⟨v, a, s', own', H', h1, h2, h3, h4, h5⟩ => ⟨v, a, s', own', H', h1, ⟨h2.le, h2.size, h2.out, fun b hb hn => ?_⟩, h3, h4, h5⟩
  have hgb : ¬ (g b).isSome = true := fun q => hn m (hg b q) (hWr m hW)
  obtain ⟨k1, k2⟩ := h2.keep b hb fun k e q => by
    rw [if_neg hgb] at e
    rcases q with q | q
    · exact hn k e q
    · have := hg k q
      rw [hst.idem b k e] at this
      obtain rfl : k = m := by simpa using this
      exact hn k e (hWr k hW)
  exact ⟨k1, by rw [k2, if_neg hgb]⟩
/-- what only reads leaves all as it was -/
theorem AC.pure_ {R : AV → Prop} (h : AC P f as H [] fun _ a _ => R a) : AC P f as H [] fun _ a H' => R a ∧ H' = H := by
  intro w s own vs Wr hst hr _ hf
  refine (h w s own vs (fun x => w.heap.size ≤ x) hst hr (fun x hx => by cases hx) (fun x hx => hx)).mono fun e w' ⟨v, a, s', own', H', h1, h2, h3, h4, h5⟩ => ⟨v, a, s', own', H, h1, h2.mono (fun b k _ _ q => hf k q), ⟨h3.imm, h3.lt, h3.idem, fun k O e => ?_⟩, h4, h5, rfl⟩
  refine (hst.obj k O e).keep h2.le fun b hb => ?_
  obtain ⟨k1, k2⟩ := h2.keep b (hst.lt b k hb).1 fun j e q => by
    rw [hb] at e; cases e
    have := (hst.lt b k hb).2; omega
  exact ⟨k1, by rw [k2]; exact hb⟩
/-- what only reads an object of many blocks -/
theorem AC.read {m : Nat} {A : (Nat → Option (TypeId × List AV)) → Prop} {R : AV → Prop} (hm : H m = some (.abs A)) (h : ∀ g, A g → AC P f as (hopen H m g) [] fun _ a _ => R a) : AC P f as H [] fun _ a H' => R a ∧ H' = H := by
  intro w s own vs Wr hst hr _ hf
  obtain ⟨g, hA, hg, hst1⟩ := hst.open_ hm
  refine (h g hA w s _ vs (fun x => w.heap.size ≤ x) hst1 hr (fun x hx => by cases hx) (fun x hx => hx)).mono fun e w' ⟨v, a, s', own', H', h1, h2, h3, h4, h5⟩ => ?_
  have hold : ∀ b, b < w.heap.size → w'.heap[b]? = w.heap[b]? ∧ own' b = if (g b).isSome = true then some b else own b := fun b hb => h2.keep b hb fun j e q => by
    have := (hst1.lt b j e).2; omega
  have hon : ∀ b, w.heap.size ≤ b → own b = none := fun b hb => by
    cases e : own b with
    | none => rfl
    | some k => have := (hst.lt b k e).1; omega
  refine ⟨v, a, s', fun b => if b < w.heap.size then own b else none, H, h1, ⟨h2.le, h2.size, h2.out, fun b hb hn => ⟨(hold b hb).1, if_pos hb⟩⟩, ⟨fun b o x e => ?_, fun b k e => ?_, fun b k e => ?_, fun k O e => ?_⟩, h4, h5, rfl⟩
  · have k1 := h3.imm b o x e
    refine ⟨?_, k1.2⟩
    split
    · rename_i hb
      have k2 := (hold b hb).2
      rw [k1.1] at k2
      split at k2
      · cases k2
      · exact k2.symm
    · rfl
  · split at e
    · have := hst.lt b k e
      exact ⟨Nat.lt_of_lt_of_le this.1 h2.size, Nat.lt_of_lt_of_le this.2 h2.size⟩
    · cases e
  · split at e
    · rw [if_pos (hst.lt b k e).2]; exact hst.idem b k e
    · cases e
  · refine (hst.obj k O e).keep h2.le fun b hb => ?_
    have hl := (hst.lt b k hb).1
    exact ⟨(hold b hl).1, (if_pos hl).trans hb⟩
/-- arguments of which less is said -/
def leL : List AV → List AV → Prop
  | [], [] => True
  | a :: l, b :: m => a.le b ∧ leL l m
  | _, _ => False
theorem leL.reps : ∀ {l m : List AV} {vs : List Value}, leL l m → Reps s l vs → Reps s m vs
  | [], [], vs, _, r => r
  | a :: l, b :: m, vs, h, r => by
    obtain ⟨x, ws, rfl, hx, hws⟩ := r.cons_inv
    exact Reps.cons (h.1 s x hx) (leL.reps h.2 hws)
theorem AC.le {as' : List AV} (h : AC P f as' H W R) (l : leL as as') : AC P f as H W R := fun w s own vs Wr hst hr => h w s own vs Wr hst (l.reps hr)
theorem AC.heap {H' : Hp} (h : AC P f as H' W R) (l : Sub H' H) : AC P f as H W R := fun w s own vs Wr hst hr => h w s own vs Wr (hst.drop l) hr
theorem AV.le.trans {a b c : AV} (h : a.le b) (k : b.le c) : a.le c := fun s x r => k s x (h s x r)
theorem AV.le.agg {l m : List AV} (h : leL l m) : AV.le (.agg l) (.agg m) := fun s x r => by
  cases r with
  | agg _ vs h1 h2 h3 =>
    have := h.reps (s := s) (vs := vs) ⟨h1, h3⟩
    exact .agg m vs this.1 h2 this.2
theorem AV.le.wd (q : IntKind) (n : Int) : AV.le (.v (.int q n)) (.wd q) := fun s x r => by rw [r.v_inv]; exact .wd q n
theorem AV.le.tx (x : Bool) (l : List UInt8) : AV.le (.sl x (l.map byt)) (tx l) := AV.le.sl x _
/-- what may be said of a value once the cells of block b stay as they are -/
def Frz (b : Nat) (l : List AV) (x y : AV) : Prop := ∀ (s : Sto) (vs : List Value), Reps s l vs → (∀ o z, vs[o]? = some z → s b o = some z) → ∀ v, Rep s x v → Rep s y v
theorem Frz.le {b : Nat} {l : List AV} {x y : AV} (h : x.le y) : Frz b l x y := fun s _ _ _ v r => h s v r
def frzL (b : Nat) (l : List AV) : List AV → List AV → Prop
  | [], [] => True
  | x :: p, y :: q => Frz b l x y ∧ frzL b l p q
  | _, _ => False
theorem frzL.reps {b : Nat} {l : List AV} {us : List Value} (hr : Reps s l us) (hu : ∀ o z, us[o]? = some z → s b o = some z) : ∀ {p q : List AV} {vs : List Value}, frzL b l p q → Reps s p vs → Reps s q vs
  | [], [], vs, _, r => r
  | x :: p, y :: q, vs, h, r => by
    obtain ⟨z, ws, rfl, hz, hws⟩ := r.cons_inv
    exact Reps.cons (h.1 s us hr hu z hz) (frzL.reps hr hu h.2 hws)
theorem Frz.agg {b : Nat} {l p q : List AV} (h : frzL b l p q) : Frz b l (.agg p) (.agg q) := fun s vs hr hu v r => by
  cases r with
  | agg _ ws h1 h2 h3 =>
    have := h.reps hr hu (vs := ws) ⟨h1, h3⟩
    exact .agg q ws this.1 h2 this.2
theorem Frz.tup {b : Nat} {l p q : List AV} (h : frzL b l p q) : Frz b l (.tup p) (.tup q) := fun s vs hr hu v r => by
  cases r with
  | tup _ ws h1 h3 =>
    have := h.reps hr hu (vs := ws) ⟨h1, h3⟩
    exact .tup q ws this.1 this.2
theorem Frz.row {b es n c : Nat} {e : Bool} {l : List (List AV)} {rest : List AV} (hes : ∀ r ∈ l, r.length = es) (hn : l.length = n) (hc : n ≤ c) (he : e = true → c = n) : Frz b (l.flatten ++ rest) (.v (.slice (some ⟨b, 0, none⟩) n c)) (.sl e l) := fun s vs hr hu v r => by
  rw [r.v_inv]
  subst hn
  have hl : vs.length = l.flatten.length + rest.length := by rw [hr.1]; simp
  have h1 : Reps s l.flatten (vs.take l.flatten.length) := by
    have := hr.take l.flatten.length
    rwa [List.take_left] at this
  exact imm_row (rest := vs.drop l.flatten.length) h1 hes (Sto.le.refl s) (by rw [List.take_append_drop]; exact hu) hc he
theorem Frz.row1 {b n c : Nat} {e : Bool} {l rest : List AV} (hn : l.length = n) (hc : n ≤ c) (he : e = true → c = n) : Frz b (l ++ rest) (.v (.slice (some ⟨b, 0, none⟩) n c)) (.sl e (l.map fun a => [a])) := by
  have := Frz.row (b := b) (es := 1) (n := n) (c := c) (e := e) (l := l.map fun a => [a]) (rest := rest) (by simp) (by simpa using hn) hc he
  rwa [reps_one] at this
theorem Frz.rowf {X : Type} {b n c : Nat} (f : X → AV) (l : List X) (rest : List AV) (hn : n = l.length) (hc : n ≤ c) : Frz b (l.map f ++ rest) (.v (.slice (some ⟨b, 0, none⟩) n c)) (.sl false (l.map fun x => [f x])) := by
  have := Frz.row1 (b := b) (n := n) (c := c) (e := false) (l := l.map f) (rest := rest) (by simp [hn]) hc (by simp)
  simpa [Function.comp_def] using this
theorem Frz.rowe {X : Type} {b n : Nat} (f : X → AV) (l : List X) (hn : n = l.length) : Frz b (l.map f) (.v (.slice (some ⟨b, 0, none⟩) n n)) (.sl false (l.map fun x => [f x])) := by
  have := Frz.rowf (b := b) f l [] hn (Nat.le_refl n)
  rwa [List.append_nil] at this
theorem Frz.refl (b : Nat) (l : List AV) (x : AV) : Frz b l x x := fun _ _ _ _ _ r => r
theorem hset_at (H : Hp) (m : Nat) (o : AO) : hset H m o m = some o := if_pos rfl
/-- the end: a new row is given back for good -/
theorem Fin.frz {R : AV → Hp → Prop} {a a' : AV} {b T : Nat} {l : List AV} (hb : H b = some (.cells T l)) (hw : Wr b) (ha : Frz b l a a') (h : Fin Wr R a' (hdel H b)) : Fin Wr R a H := by
  obtain ⟨c, G, hv, hR⟩ := h
  refine ⟨c, G, fun w s own x hst hr hf => ?_, hR⟩
  obtain ⟨s', own', vs, k1, k2, k3, k4⟩ := hst.freeze hb hw
  obtain ⟨s2, own2, j1, j2, j3⟩ := hv w s' own' x k1 (ha s' vs k3 k4 x (hr.mono k2.le)) hf
  exact ⟨s2, own2, k2.trans j1, j2, j3⟩
theorem Fin.le {R : AV → Hp → Prop} {a a' : AV} (l : a.le a') (h : Fin Wr R a' H) : Fin Wr R a H := by
  obtain ⟨c, G, hv, hR⟩ := h
  exact ⟨c, G, fun w s own x hst hr hf => hv w s own x hst (l s x hr) hf, hR⟩
theorem Fin.drop {R : AV → Hp → Prop} {a : AV} {H' : Hp} (l : Sub H' H) (h : Fin Wr R a H') : Fin Wr R a H := by
  obtain ⟨c, G, hv, hR⟩ := h
  exact ⟨c, G, fun w s own x hst hr hf => hv w s own x (hst.drop l) hr hf, hR⟩
/-- the end: some objects are one -/
theorem Fin.close {R : AV → Hp → Prop} {a : AV} {m : Nat} {A : (Nat → Option (TypeId × List AV)) → Prop} (g : Nat → Option (TypeId × List AV)) (hA : A g) (hg : ∀ b T l, g b = some (T, l) → H b = some (.cells T l) ∧ Wr b) (hm : (g m).isSome = true) {G : Hp} (hG : ∀ b, b ≠ m → ∀ O, G b = some O → g b = none ∧ H b = some O) (hGm : ∀ O, G m = some O → O = .abs A) (h : Fin Wr R a G) : Fin Wr R a H := by
  obtain ⟨c, G', hv, hR⟩ := h
  refine ⟨c, G', fun w s own x hst hr hf => ?_, hR⟩
  obtain ⟨own', k1, k2⟩ := hst.close hA hg hm hG hGm
  obtain ⟨s2, own2, j1, j2, j3⟩ := hv w s own' x k1 hr hf
  exact ⟨s2, own2, k2.trans j1, j2, j3⟩
-- heaps
@[simp] theorem hset_set (H : Hp) (m : Nat) (o o' : AO) : hset (hset H m o) m o' = hset H m o' := by funext b; simp only [hset]; split <;> rfl
@[simp] theorem hdel_set (H : Hp) (m : Nat) (o : AO) : hdel (hset H m o) m = hdel H m := by funext b; simp only [hset, hdel]; split <;> rfl
@[simp] theorem hset_del (H : Hp) (m : Nat) (o : AO) : hset (hdel H m) m o = hset H m o := by funext b; simp only [hset, hdel]; split <;> rfl
theorem hdel_none {H : Hp} {m : Nat} (h : H m = none) : hdel H m = H := by funext b; simp only [hdel]; split <;> first | rfl | (rename_i e; rw [e, h])
theorem hset_same {H : Hp} {m : Nat} {o : AO} (h : H m = some o) : hset H m o = H := by funext b; simp only [hset]; split <;> first | rfl | (rename_i e; rw [e, h])
theorem hset_comm (H : Hp) {m n : Nat} (o o' : AO) (h : m ≠ n) : hset (hset H m o) n o' = hset (hset H n o') m o := by
  funext b; simp only [hset]; split <;> split <;> simp_all
theorem Sub.refl (H : Hp) : Sub H H := fun _ _ e => e
theorem Sub.hset {H : Hp} {m : Nat} {o : AO} (h : H m = none) : Sub H (hset H m o) := fun b O e => by
  simp only [Go.Proofs.YtiallkiiofomgaaGreat.hset]; split
  · rename_i q; rw [q, h] at e; cases e
  · exact e
/-- a frame of which these alone are known -/
def fof : List (Nat × AV) → Fr
  | [], _ => .any
  | (j, a) :: l, i => if i = j then a else fof l i
@[simp] theorem fof_nil (i : Nat) : fof [] i = .any := (rfl)
@[simp] theorem fof_cons (j i : Nat) (a : AV) (l : List (Nat × AV)) : fof ((j, a) :: l) i = if i = j then a else fof l i := (rfl)
def leF (fr : Fr) : List (Nat × AV) → Prop
  | [] => True
  | (j, a) :: l => (fr j).le a ∧ leF fr l
attribute [simp] leF
@[simp] theorem le_refl (a : AV) : a.le a := AV.le.refl a
@[simp] theorem le_any (a : AV) : a.le .any := AV.le.any a
@[simp] theorem le_sl (x : Bool) (l : List (List AV)) : AV.le (.sl x l) (.sl false l) := AV.le.sl x l
@[simp] theorem le_tx (x : Bool) (l : List UInt8) : AV.le (.sl x (l.map byt)) (tx l) := AV.le.sl x _
@[simp] theorem le_its (x : Bool) (l : List Int) : AV.le (.sl x (l.map inl)) (its l) := AV.le.sl x _
@[simp] theorem le_txs (x : Bool) (l : List (List UInt8)) : AV.le (.sl x (l.map txl)) (txs l) := AV.le.sl x _
@[simp] theorem le_ntx : AV.le (.v (.slice none 0 0)) (tx []) := AV.le.nil false
@[simp] theorem le_nits : AV.le (.v (.slice none 0 0)) (its []) := AV.le.nil false
@[simp] theorem le_ntxs : AV.le (.v (.slice none 0 0)) (txs []) := AV.le.nil false
@[simp] theorem le_nil (x : Bool) : AV.le (.v (.slice none 0 0)) (.sl x []) := AV.le.nil x
@[simp] theorem le_wd (q : IntKind) (n : Int) : AV.le (.v (.int q n)) (.wd q) := AV.le.wd q n
theorem leF.spec {fr : Fr} : ∀ {l : List (Nat × AV)}, leF fr l → ∀ i, (fr i).le (fof l i)
  | [], _, i => AV.le.any _
  | (j, a) :: l, h, i => by
    unfold fof
    split
    · rename_i e; subst e; exact h.1
    · exact leF.spec h.2 i
theorem Vs.to {fr : Fr} {l : List (Nat × AV)} {H' : Hp} (h : leF fr l) (k : Sub H' H := by exact Sub.refl _) : Vs (Wr := Wr) fr H (fof l) H' := Vs.sub h.spec k
/-- behind a round of a loop -/
def kL {X : Type} (Wr : Nat → Prop) (fl : X → List (Nat × AV)) (H' : X → Hp) (I : X → Prop) (m : X → Nat) (x : X) (K : Kt) (_ : Tk (fl, H', I, m, K)) : Kt := fun e fr H => match e with | .normal => ∃ y, I y ∧ m y < m x ∧ Vs (Wr := Wr) fr H (fof (fl y)) (H' y) | e => K e fr H
@[simp] theorem kL_n {X : Type} {fl : X → List (Nat × AV)} {H' : X → Hp} {I : X → Prop} {m : X → Nat} {x : X} {K : Kt} {fr : Fr} : kL Wr fl H' I m x K .mk .normal fr H = ∃ y, I y ∧ m y < m x ∧ Vs (Wr := Wr) fr H (fof (fl y)) (H' y) := (rfl)
@[simp] theorem kL_r {X : Type} {fl : X → List (Nat × AV)} {H' : X → Hp} {I : X → Prop} {m : X → Nat} {x : X} {K : Kt} {fr : Fr} : kL Wr fl H' I m x K .mk .ret fr H = K .ret fr H := (rfl)
@[simp] theorem kL_e {X : Type} {fl : X → List (Nat × AV)} {H' : X → Hp} {I : X → Prop} {m : X → Nat} {x : X} {K : Kt} {fr : Fr} {i : Nat} : kL Wr fl H' I m x K .mk (.exit i) fr H = K (.exit i) fr H := (rfl)
theorem aC.loopf {c : Code} {K : Kt} {X : Type} (fl : X → List (Nat × AV)) (H' : X → Hp) (I : X → Prop) (m : X → Nat) {fr : Fr} (x0 : X) (h0 : I x0) (v : Vs (Wr := Wr) fr H (fof (fl x0)) (H' x0))
    (h : ∀ x, I x → gC P Wr c (kL Wr fl H' I m x K .mk) .mk (fof (fl x)) (H' x)) : gA P Wr (.loop c) K .mk fr H := aC.loop (fun x => fof (fl x)) H' I m x0 h0 v fun x hx => eC_sound c _ _ _ (h x hx)
/-- the room that make and append ask for -/
theorem Fin.end_ {R : AV → Hp → Prop} {a b : AV} {G : Hp} (l : a.le b) (k : Sub G H) (h : R b G) : Fin Wr R a H := Fin.sub k l h
theorem emk.of {te by_ : Nat} {z : AV} {l c : Int} {kh : AV → Hp → Prop} (h0 : 0 ≤ l) (h1 : l ≤ c) (h2 : (by_ : Int) * c ≤ 281474976710656) (h3 : c ≤ 9223372036854775807)
    (h : ∀ b, H b = none → Wr b → (∀ i O, H i = some O → i ≠ b ∧ b ≠ i) → kh (.v (.slice (some ⟨b, 0, none⟩) l.toNat c.toNat)) (hset H b (.cells te (List.replicate c.toNat z)))) : emk (some (te, 1, by_)) (some [z]) Wr (some l) (some c) H kh :=
  ⟨⟨h0, h1, h2, h3⟩, fun b hb hw => h b hb hw fun i O e => ⟨fun q => (by rw [q, hb] at e; cases e), fun q => (by rw [← q, hb] at e; cases e)⟩⟩
end
end Go.Proofs.YtiallkiiofomgaaGreat
