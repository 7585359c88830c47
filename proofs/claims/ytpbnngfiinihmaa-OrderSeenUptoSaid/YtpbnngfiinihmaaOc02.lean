/- A slice of calls (api.Call, 17 cells) that reads as a list of calls. No program in sight. A stable sort by merging in place: the plain law of one merge. Numbers are ordered by a key, and by themselves where keys are the same. No program in sight. The plain law of a line: places of calls by their points; there is one such list. No program in sight. The plain law of a map as a rising list of entries: put, cut, has; what a list, and a line of calls, make of it. No program in sight. -/
import Derived.Test.YtpbnngfiinihmaaOc01
import Derived.RowKit
set_option linter.unusedVariables false
set_option linter.unusedSimpArgs false
namespace Go.Proofs.Ytpbnngfiinihmaa
open Go.RowKit
/-- a call, as far as the layer asks -/
structure CallD where
  cl : Int
  kd : Int
  key : List UInt8
  val : List UInt8
  fst : Int
  lst : Int
  pt : Int
  dn : Bool
  er : Int
  th : Bool
  ans : List UInt8
/-- what else lies in a call's cells -/
structure CallX where
  nu : Int
  mo : Int
  fa : Int
  kA : Option Addr
  kn : Nat
  kc : Nat
  vA : Option Addr
  vn : Nat
  vc : Nat
  hA : Option Addr
  hn : Nat
  hc : Nat
  tA : Option Addr
  tn : Nat
  tc : Nat
  aA : Option Addr
  an : Nat
  ac : Nat
  eA : Option Addr
  en : Nat
  ec : Nat
/-- an operation's value -/
@[reducible] def opV (c : CallD) (x : CallX) : Value :=
  .agg #[.int .i64 c.kd, .slice x.kA x.kn x.kc, .slice x.vA x.vn x.vc, .slice x.hA x.hn x.hc, .int .i64 x.mo, .slice x.tA x.tn x.tc, .int .i64 x.fa]
/-- a call's cells -/
@[reducible] def callCs (c : CallD) (x : CallX) : Array Value :=
  #[.int .i64 c.cl, .int .i64 x.nu, .int .i64 c.kd, .slice x.kA x.kn x.kc, .slice x.vA x.vn x.vc, .slice x.hA x.hn x.hc, .int .i64 x.mo, .slice x.tA x.tn x.tc, .int .i64 x.fa,
    .int .i64 c.fst, .int .i64 c.lst, .int .i64 c.pt, .bool c.dn, .int .i64 c.er, .bool c.th, .slice x.aA x.an x.ac, .slice x.eA x.en x.ec]
/-- a call's value -/
@[reducible] def callV (c : CallD) (x : CallX) : Value := .agg (callCs c x)
/-- the texts of a call -/
structure CallW (w : World) (F : Nat → Prop) (c : CallD) (x : CallX) : Prop where
  kk : x.kn ≤ x.kc
  kl : x.kc ≤ maxLen
  kq : x.kn = c.key.length
  kr : Rd w F 1 x.kA x.kn (bvs c.key)
  vk : x.vn ≤ x.vc
  vl : x.vc ≤ maxLen
  vq : x.vn = c.val.length
  vr : Rd w F 1 x.vA x.vn (bvs c.val)
  ak : x.an ≤ x.ac
  al : x.ac ≤ maxLen
  aq : x.an = c.ans.length
  ar : Rd w F 1 x.aA x.an (bvs c.ans)
/-- the cells of a call at a place -/
structure CallAt (w : World) (b o : Nat) (c : CallD) (x : CallX) : Prop where
  c0 : w.cell? ⟨b, o, none⟩ = some (.int .i64 c.cl)
  c1 : w.cell? ⟨b, o + 1, none⟩ = some (.int .i64 x.nu)
  c2 : w.cell? ⟨b, o + 2, none⟩ = some (.int .i64 c.kd)
  c3 : w.cell? ⟨b, o + 3, none⟩ = some (.slice x.kA x.kn x.kc)
  c4 : w.cell? ⟨b, o + 4, none⟩ = some (.slice x.vA x.vn x.vc)
  c5 : w.cell? ⟨b, o + 5, none⟩ = some (.slice x.hA x.hn x.hc)
  c6 : w.cell? ⟨b, o + 6, none⟩ = some (.int .i64 x.mo)
  c7 : w.cell? ⟨b, o + 7, none⟩ = some (.slice x.tA x.tn x.tc)
  c8 : w.cell? ⟨b, o + 8, none⟩ = some (.int .i64 x.fa)
  c9 : w.cell? ⟨b, o + 9, none⟩ = some (.int .i64 c.fst)
  c10 : w.cell? ⟨b, o + 10, none⟩ = some (.int .i64 c.lst)
  c11 : w.cell? ⟨b, o + 11, none⟩ = some (.int .i64 c.pt)
  c12 : w.cell? ⟨b, o + 12, none⟩ = some (.bool c.dn)
  c13 : w.cell? ⟨b, o + 13, none⟩ = some (.int .i64 c.er)
  c14 : w.cell? ⟨b, o + 14, none⟩ = some (.bool c.th)
  c15 : w.cell? ⟨b, o + 15, none⟩ = some (.slice x.aA x.an x.ac)
  c16 : w.cell? ⟨b, o + 16, none⟩ = some (.slice x.eA x.en x.ec)
/-- l: a list of calls, in the slice of n elements at A; cells and texts lie in blocks of F -/
def CallsM (w : World) (F : Nat → Prop) (A : Option Addr) (n : Nat) (l : List CallD) : Prop :=
  Hid (n = l.length) ∧ ∃ xs : Nat → CallX, ∀ (i : Nat) (c : CallD), l[i]? = some c → CallW w F c (xs i) ∧ ∃ b o, A = some ⟨b, o, none⟩ ∧ F b ∧ CallAt w b (o + i * 17) c (xs i)
section
variable {S F G : Nat → Prop} {w w' : World} {A : Option Addr} {n : Nat} {l : List CallD} {c : CallD} {x : CallX} {b o : Nat}
theorem CallW.weak (h : CallW w F c x) (hF : ∀ b, F b → G b) : CallW w G c x := ⟨h.kk, h.kl, h.kq, h.kr.weak hF, h.vk, h.vl, h.vq, h.vr.weak hF, h.ak, h.al, h.aq, h.ar.weak hF⟩
theorem CallW.chg (h : CallW w F c x) (hc : Chg S w w') (hs : ∀ b, F b → ¬ S b) : CallW w' F c x := ⟨h.kk, h.kl, h.kq, h.kr.chg hc hs, h.vk, h.vl, h.vq, h.vr.chg hc hs, h.ak, h.al, h.aq, h.ar.chg hc hs⟩
theorem CallW.below (h : CallW w F c x) (hb : Below w.heap.size w w') : CallW w' F c x := h.chg (Chg.of_below (S := Nil) hb) (fun _ _ hf => hf)
theorem CallW.drew (h : CallW w F c x) : CallW w.drew F c x := h.chg (S := Nil) (Chg.refl _ _).drew (fun _ _ hf => hf)
theorem CallW.drewN (h : CallW w F c x) (n : Nat) : CallW (w.drewN n) F c x := h.chg (S := Nil) ((Chg.refl _ _).drewN n) (fun _ _ hf => hf)
theorem CallAt.chg (h : CallAt w b o c x) (hc : Chg S w w') (hs : ¬ S b) : CallAt w' b o c x :=
  ⟨hc.cell hs h.c0, hc.cell hs h.c1, hc.cell hs h.c2, hc.cell hs h.c3, hc.cell hs h.c4, hc.cell hs h.c5, hc.cell hs h.c6, hc.cell hs h.c7, hc.cell hs h.c8, hc.cell hs h.c9, hc.cell hs h.c10, hc.cell hs h.c11, hc.cell hs h.c12, hc.cell hs h.c13, hc.cell hs h.c14, hc.cell hs h.c15, hc.cell hs h.c16⟩
theorem CallAt.of_blk {t : TypeId} (h : Blk w b t (callCs c x)) : CallAt w b 0 c x :=
  ⟨h.cell 0, h.cell 1, h.cell 2, h.cell 3, h.cell 4, h.cell 5, h.cell 6, h.cell 7, h.cell 8, h.cell 9, h.cell 10, h.cell 11, h.cell 12, h.cell 13, h.cell 14, h.cell 15, h.cell 16⟩
theorem CallsM.len (h : CallsM w F A n l) : n = l.length := h.1
theorem CallsM.nil (w : World) (F : Nat → Prop) (A : Option Addr) : CallsM w F A 0 [] := ⟨rfl, fun _ => ⟨0, 0, 0, none, 0, 0, none, 0, 0, none, 0, 0, none, 0, 0, none, 0, 0, none, 0, 0⟩, fun i e h => by simp at h⟩
theorem CallsM.weak (h : CallsM w F A n l) (hF : ∀ b, F b → G b) : CallsM w G A n l :=
  let ⟨h1, xs, h2⟩ := h; ⟨h1, xs, fun i e he => let ⟨u, b, o, e1, e2, e3⟩ := h2 i e he; ⟨u.weak hF, b, o, e1, hF b e2, e3⟩⟩
theorem CallsM.chg (h : CallsM w F A n l) (hc : Chg S w w') (hs : ∀ b, F b → ¬ S b) : CallsM w' F A n l :=
  let ⟨h1, xs, h2⟩ := h; ⟨h1, xs, fun i e he => let ⟨u, b, o, e1, e2, e3⟩ := h2 i e he; ⟨u.chg hc hs, b, o, e1, e2, e3.chg hc (hs b e2)⟩⟩
theorem CallsM.below (h : CallsM w F A n l) (hb : Below w.heap.size w w') : CallsM w' F A n l := h.chg (Chg.of_below (S := Nil) hb) (fun _ _ hf => hf)
theorem CallsM.drew (h : CallsM w F A n l) : CallsM w.drew F A n l := h.chg (S := Nil) (Chg.refl _ _).drew (fun _ _ hf => hf)
theorem CallsM.drewN (h : CallsM w F A n l) (k : Nat) : CallsM (w.drewN k) F A n l := h.chg (S := Nil) ((Chg.refl _ _).drewN k) (fun _ _ hf => hf)
theorem CallsM.at_ {k : Nat} (h : CallsM w F A n l) (hk : k < n) : ∃ b o c x, A = some ⟨b, o, none⟩ ∧ F b ∧ l[k]? = some c ∧ CallW w F c x ∧ CallAt w b (o + k * 17) c x := by
  obtain ⟨h1, xs, h2⟩ := h
  have hl : k < l.length := by have : n = l.length := h1; omega
  obtain ⟨u, b, o, e1, e2, e3⟩ := h2 k l[k] (List.getElem?_eq_getElem hl)
  exact ⟨b, o, l[k], xs k, e1, e2, List.getElem?_eq_getElem hl, u, e3⟩
theorem CallsM.lt (h : CallsM w F A n l) : CallsM w (fun b => F b ∧ b < w.heap.size) A n l :=
  let ⟨h1, xs, h2⟩ := h; ⟨h1, xs, fun i e he => by
    obtain ⟨u, b, o, e1, e2, e3⟩ := h2 i e he
    exact ⟨⟨u.kk, u.kl, u.kq, u.kr.lt Nat.zero_lt_one, u.vk, u.vl, u.vq, u.vr.lt Nat.zero_lt_one, u.ak, u.al, u.aq, u.ar.lt Nat.zero_lt_one⟩, b, o, e1, ⟨e2, cell_lt e3.c0⟩, e3⟩⟩
/-- the beginning of the calls -/
theorem CallsM.take {k : Nat} (h : CallsM w F A n l) (hk : k ≤ n) : CallsM w F A k (l.take k) := by
  obtain ⟨h1, xs, h2⟩ := h
  refine ⟨?_, xs, fun i e he => ?_⟩
  · have : n = l.length := h1
    show k = (l.take k).length
    rw [List.length_take]; omega
  · rw [List.getElem?_take] at he
    split at he
    · exact h2 i e he
    · cases he
end
end Go.Proofs.Ytpbnngfiinihmaa

namespace Go.Proofs.Ytpbnngfiinihmaa

/-- by key, then by number -/
def LL (κ : Int → Int) (x y : Int) : Prop := κ x < κ y ∨ (κ x = κ y ∧ x < y)
section
variable {κ : Int → Int} {x y z : Int}
theorem LL.trans (h : LL κ x y) (k : LL κ y z) : LL κ x z := by unfold LL at *; omega
theorem LL.irrefl (h : LL κ x x) : False := by unfold LL at h; omega
theorem LL.asymm (h : LL κ x y) (k : LL κ y x) : False := (h.trans k).irrefl
theorem LL.total (h : x ≠ y) : LL κ x y ∨ LL κ y x := by unfold LL; omega
/-- of two numbers in their own order the key alone decides -/
theorem LL.key (h : x < y) : LL κ y x ↔ κ y < κ x := by unfold LL; omega
theorem LL.key' (h : x < y) : LL κ x y ↔ ¬ κ y < κ x := by unfold LL; omega
end

/-- rising, from place a up to place b -/
def Srt (κ : Int → Int) (a b : Nat) (xs : Nat → Int) : Prop := ∀ i j, a ≤ i → i < j → j < b → LL κ (xs i) (xs j)
/-- the same numbers at the places from a up to b -/
def SameS (a b : Nat) (xs ys : Nat → Int) : Prop := ∀ v, (∃ i, a ≤ i ∧ i < b ∧ xs i = v) ↔ (∃ i, a ≤ i ∧ i < b ∧ ys i = v)
/-- all else is as it was -/
def Out (a b : Nat) (xs ys : Nat → Int) : Prop := ∀ i, ¬ (a ≤ i ∧ i < b) → ys i = xs i
section
variable {κ : Int → Int} {a b c m : Nat} {xs ys zs : Nat → Int}
theorem SameS.refl (a b : Nat) (xs : Nat → Int) : SameS a b xs xs := fun _ => Iff.rfl
theorem SameS.of_eq (he : ∀ i, a ≤ i → i < b → ys i = xs i) : SameS a b xs ys := fun v =>
  ⟨fun ⟨i, i1, i2, e⟩ => ⟨i, i1, i2, by rw [he i i1 i2]; exact e⟩, fun ⟨i, i1, i2, e⟩ => ⟨i, i1, i2, by rw [← he i i1 i2]; exact e⟩⟩
theorem SameS.trans (h : SameS a b xs ys) (k : SameS a b ys zs) : SameS a b xs zs := fun v => (h v).trans (k v)
theorem SameS.symm (h : SameS a b xs ys) : SameS a b ys xs := fun v => (h v).symm
theorem Out.refl (a b : Nat) (xs : Nat → Int) : Out a b xs xs := fun _ _ => rfl
theorem Out.trans (h : Out a b xs ys) (k : Out a b ys zs) : Out a b xs zs := fun i hi => (k i hi).trans (h i hi)
theorem Out.mono {a' b' : Nat} (h : Out a b xs ys) (h1 : a' ≤ a) (h2 : b ≤ b') : Out a' b' xs ys := fun i hi => h i (fun hx => hi ⟨by omega, by omega⟩)
/-- the same numbers in two parts -/
theorem SameS.join (h1 : a ≤ m) (h2 : m ≤ b) (h : SameS a m xs ys) (k : SameS m b xs ys) : SameS a b xs ys := by
  intro v
  constructor
  · rintro ⟨i, i1, i2, e⟩
    rcases Nat.lt_or_ge i m with hi | hi
    · obtain ⟨j, j1, j2, e'⟩ := (h v).1 ⟨i, i1, hi, e⟩; exact ⟨j, j1, by omega, e'⟩
    · obtain ⟨j, j1, j2, e'⟩ := (k v).1 ⟨i, hi, i2, e⟩; exact ⟨j, by omega, j2, e'⟩
  · rintro ⟨i, i1, i2, e⟩
    rcases Nat.lt_or_ge i m with hi | hi
    · obtain ⟨j, j1, j2, e'⟩ := (h v).2 ⟨i, i1, hi, e⟩; exact ⟨j, j1, by omega, e'⟩
    · obtain ⟨j, j1, j2, e'⟩ := (k v).2 ⟨i, hi, i2, e⟩; exact ⟨j, by omega, j2, e'⟩
theorem Srt.sub {a' b' : Nat} (h : Srt κ a b xs) (h1 : a ≤ a') (h2 : b' ≤ b) : Srt κ a' b' xs := fun i j hi hij hj => h i j (by omega) hij (by omega)
theorem Srt.one (h : b ≤ a + 1) : Srt κ a b xs := fun i j hi hij hj => by omega
theorem Srt.congr (h : Srt κ a b xs) (he : ∀ i, a ≤ i → i < b → ys i = xs i) : Srt κ a b ys := fun i j hi hij hj => by rw [he i hi (by omega), he j (by omega) hj]; exact h i j hi hij hj
/-- two parts that rise, the one ahead of the other -/
theorem Srt.join (h : Srt κ a m xs) (k : Srt κ m b xs) (hx : ∀ i j, a ≤ i → i < m → m ≤ j → j < b → LL κ (xs i) (xs j)) : Srt κ a b xs := fun i j hi hij hj => by
  rcases Nat.lt_or_ge j m with h1 | h1
  · exact h i j hi hij h1
  · rcases Nat.lt_or_ge i m with h2 | h2
    · exact hx i j hi h2 h1 hj
    · exact k i j h2 hij hj
/-- what rises, and holds the same numbers, is the same -/
theorem Srt.unique : ∀ (n a b : Nat), b = a + n → ∀ {xs ys : Nat → Int}, Srt κ a b xs → Srt κ a b ys → SameS a b xs ys → ∀ i, a ≤ i → i < b → xs i = ys i := by
  intro n
  induction n with
  | zero => intro a b hb xs ys _ _ _ i h1 h2; omega
  | succ n ih =>
    intro a b hb xs ys hx hy hs
    -- the first ones are the same
    have h0 : xs a = ys a := by
      obtain ⟨i, i1, i2, e1⟩ := (hs (xs a)).1 ⟨a, Nat.le_refl _, by omega, rfl⟩
      obtain ⟨j, j1, j2, e2⟩ := (hs (ys a)).2 ⟨a, Nat.le_refl _, by omega, rfl⟩
      rcases Nat.eq_or_lt_of_le i1 with hi | hi
      · rw [← e1, ← hi]
      · rcases Nat.eq_or_lt_of_le j1 with hj | hj
        · rw [← e2, ← hj]
        · have q1 := hy a i (Nat.le_refl _) hi i2
          have q2 := hx a j (Nat.le_refl _) hj j2
          rw [e1] at q1; rw [e2] at q2
          exact (q1.asymm q2).elim
    have hs' : SameS (a + 1) b xs ys := by
      intro v
      constructor
      · rintro ⟨i, i1, i2, e⟩
        obtain ⟨j, j1, j2, e'⟩ := (hs v).1 ⟨i, by omega, i2, e⟩
        rcases Nat.eq_or_lt_of_le j1 with hj | hj
        · have q := hx a i (Nat.le_refl _) (by omega) i2
          rw [e, ← e', ← hj, ← h0] at q
          exact q.irrefl.elim
        · exact ⟨j, hj, j2, e'⟩
      · rintro ⟨i, i1, i2, e⟩
        obtain ⟨j, j1, j2, e'⟩ := (hs v).2 ⟨i, by omega, i2, e⟩
        rcases Nat.eq_or_lt_of_le j1 with hj | hj
        · have q := hy a i (Nat.le_refl _) (by omega) i2
          rw [e, ← e', ← hj, h0] at q
          exact q.irrefl.elim
        · exact ⟨j, hj, j2, e'⟩
    intro i h1 h2
    rcases Nat.eq_or_lt_of_le h1 with hi | hi
    · rw [← hi]; exact h0
    · exact ih (a + 1) b (by omega) (hx.sub (by omega) (Nat.le_refl _)) (hy.sub (by omega) (Nat.le_refl _)) hs' i hi h2
end

/-- places [s, m) and [m, e) have changed places -/
def Rot (s m e : Nat) (xs ys : Nat → Int) : Prop := (∀ t, t < e - m → ys (s + t) = xs (m + t)) ∧ (∀ t, t < m - s → ys (s + (e - m) + t) = xs (s + t)) ∧ Out s e xs ys
theorem Rot.same {s m e : Nat} {xs ys : Nat → Int} (h : Rot s m e xs ys) (h1 : s ≤ m) (h2 : m ≤ e) : SameS s e xs ys := by
  intro v
  constructor
  · rintro ⟨i, i1, i2, rfl⟩
    rcases Nat.lt_or_ge i m with hi | hi
    · exact ⟨s + (e - m) + (i - s), by omega, by omega, by rw [h.2.1 (i - s) (by omega), show s + (i - s) = i by omega]⟩
    · exact ⟨s + (i - m), by omega, by omega, by rw [h.1 (i - m) (by omega), show m + (i - m) = i by omega]⟩
  · rintro ⟨i, i1, i2, rfl⟩
    rcases Nat.lt_or_ge i (s + (e - m)) with hi | hi
    · exact ⟨m + (i - s), by omega, by omega, by rw [← h.1 (i - s) (by omega), show s + (i - s) = i by omega]⟩
    · exact ⟨s + (i - (s + (e - m))), by omega, by omega, by rw [← h.2.1 (i - (s + (e - m))) (by omega), show s + (e - m) + (i - (s + (e - m))) = i by omega]⟩

/-- what a merge is given -/
structure Mrg (κ : Int → Int) (a m b : Nat) (xs : Nat → Int) : Prop where
  am : a ≤ m
  mb : m ≤ b
  left : Srt κ a m xs
  right : Srt κ m b xs
  cross : ∀ i j, a ≤ i → i < m → m ≤ j → j < b → xs i < xs j
/-- what a merge makes -/
structure Mrgd (κ : Int → Int) (a b : Nat) (xs ys : Nat → Int) : Prop where
  srt : Srt κ a b ys
  same : SameS a b xs ys
  out : Out a b xs ys
theorem Mrgd.id {κ : Int → Int} {a b : Nat} {xs : Nat → Int} (h : Srt κ a b xs) : Mrgd κ a b xs xs := ⟨h, SameS.refl _ _ _, Out.refl _ _ _⟩

/-- the two halves: start is found where the loop says; [start, m) and [m, e) are turned; both halves are merged -/
theorem merge_join {κ : Int → Int} {a m b mid s e : Nat} {xs ys zs us : Nat → Int} (h : Mrg κ a m b xs) (hmid : mid = (a + b) / 2) (hs1 : a ≤ s) (hs2 : s ≤ m) (he1 : m ≤ e) (he2 : e ≤ b) (hse : s + e = mid + m)
    (hlo : a < s → e < b → LL κ (xs (s - 1)) (xs e)) (hhi : s < m → m < e → LL κ (xs (e - 1)) (xs s))
    (hr : Rot s m e xs ys) (h1 : Mrgd κ a mid ys zs) (h2 : Mrgd κ mid b zs us) : Mrgd κ a b xs us := by
  have hm1 : a ≤ mid := by omega
  have hm2 : mid ≤ b := by omega
  -- where the numbers of the halves come from
  have lowS : ∀ i, a ≤ i → i < mid → (∃ j, a ≤ j ∧ j < s ∧ us i = xs j) ∨ (∃ j, m ≤ j ∧ j < e ∧ us i = xs j) := by
    intro i hi1 hi2
    have e1 : us i = zs i := h2.out i (by omega)
    obtain ⟨j, j1, j2, e2⟩ := (h1.same (zs i)).2 ⟨i, hi1, hi2, rfl⟩
    rcases Nat.lt_or_ge j s with hj | hj
    · exact .inl ⟨j, j1, hj, by rw [e1, ← e2]; exact hr.2.2 j (by omega)⟩
    · exact .inr ⟨m + (j - s), by omega, by omega, by rw [e1, ← e2, ← hr.1 (j - s) (by omega), show s + (j - s) = j by omega]⟩
  have highS : ∀ i, mid ≤ i → i < b → (∃ j, s ≤ j ∧ j < m ∧ us i = xs j) ∨ (∃ j, e ≤ j ∧ j < b ∧ us i = xs j) := by
    intro i hi1 hi2
    obtain ⟨j, j1, j2, e2⟩ := (h2.same (us i)).2 ⟨i, hi1, hi2, rfl⟩
    have e3 : zs j = ys j := h1.out j (by omega)
    rcases Nat.lt_or_ge j e with hj | hj
    · exact .inl ⟨s + (j - mid), by omega, by omega, by rw [← e2, e3, ← hr.2.1 (j - mid) (by omega), show s + (e - m) + (j - mid) = j by omega]⟩
    · exact .inr ⟨j, hj, j2, by rw [← e2, e3]; exact hr.2.2 j (by omega)⟩
  have cut : ∀ i j, a ≤ i → i < mid → mid ≤ j → j < b → LL κ (us i) (us j) := by
    intro i j i1 i2 j1 j2
    rcases lowS i i1 i2 with ⟨p, p1, p2, ep⟩ | ⟨p, p1, p2, ep⟩ <;> rcases highS j j1 j2 with ⟨q, q1, q2, eq⟩ | ⟨q, q1, q2, eq⟩ <;> rw [ep, eq]
    · exact h.left p q (by omega) (by omega) (by omega)
    · have c := hlo (by omega) (by omega)
      have d1 : xs p = xs (s - 1) ∨ LL κ (xs p) (xs (s - 1)) := by
        rcases Nat.eq_or_lt_of_le (show p ≤ s - 1 by omega) with e' | e'
        · rw [e']; exact .inl rfl
        · exact .inr (h.left p (s - 1) p1 e' (by omega))
      have d2 : xs e = xs q ∨ LL κ (xs e) (xs q) := by
        rcases Nat.eq_or_lt_of_le q1 with e' | e'
        · rw [e']; exact .inl rfl
        · exact .inr (h.right e q he1 e' q2)
      rcases d1 with d1 | d1 <;> rcases d2 with d2 | d2
      · rw [d1, ← d2]; exact c
      · rw [d1]; exact c.trans d2
      · rw [← d2]; exact d1.trans c
      · exact (d1.trans c).trans d2
    · have c := hhi (by omega) (by omega)
      have d1 : xs p = xs (e - 1) ∨ LL κ (xs p) (xs (e - 1)) := by
        rcases Nat.eq_or_lt_of_le (show p ≤ e - 1 by omega) with e' | e'
        · rw [e']; exact .inl rfl
        · exact .inr (h.right p (e - 1) p1 e' (by omega))
      have d2 : xs s = xs q ∨ LL κ (xs s) (xs q) := by
        rcases Nat.eq_or_lt_of_le q1 with e' | e'
        · rw [e']; exact .inl rfl
        · exact .inr (h.left s q hs1 e' q2)
      rcases d1 with d1 | d1 <;> rcases d2 with d2 | d2
      · rw [d1, ← d2]; exact c
      · rw [d1]; exact c.trans d2
      · rw [← d2]; exact d1.trans c
      · exact (d1.trans c).trans d2
    · exact h.right p q p1 (by omega) q2
  refine ⟨(h1.srt.congr fun i i1 i2 => h2.out i (by omega)).join h2.srt cut, ?_, ?_⟩
  · have r1 : SameS a b xs ys := SameS.join (m := s) hs1 (by omega) (SameS.of_eq fun i i1 i2 => hr.2.2 i (by omega)) (SameS.join (m := e) (by omega) he2 (hr.same hs2 he1) (SameS.of_eq fun i i1 i2 => hr.2.2 i (by omega)))
    have r2 : SameS a b ys zs := SameS.join (m := mid) hm1 hm2 h1.same (SameS.of_eq fun i i1 i2 => h1.out i (by omega))
    have r3 : SameS a b zs us := SameS.join (m := mid) hm1 hm2 (SameS.of_eq fun i i1 i2 => h2.out i (by omega)) h2.same
    exact (r1.trans r2).trans r3
  · exact ((Out.mono hr.2.2 hs1 he2).trans (h1.out.mono (Nat.le_refl _) hm2)).trans (h2.out.mono hm1 (Nat.le_refl _))
/-- the first half is given what a merge is given -/
theorem merge_first {κ : Int → Int} {a m b mid s e : Nat} {xs ys : Nat → Int} (h : Mrg κ a m b xs) (hs1 : a ≤ s) (hs2 : s ≤ m) (he1 : m ≤ e) (he2 : e ≤ b) (hse : s + e = mid + m) (hr : Rot s m e xs ys) : Mrg κ a s mid ys := by
  have lo : ∀ i, i < s → ys i = xs i := fun i hi => hr.2.2 i (by omega)
  have hi : ∀ i, s ≤ i → i < mid → ys i = xs (m + (i - s)) := fun i h1 h2 => by rw [← hr.1 (i - s) (by omega), show s + (i - s) = i by omega]
  refine ⟨hs1, by omega, (h.left.sub (Nat.le_refl _) hs2).congr (fun i _ h2 => lo i h2), fun i j h1 h2 h3 => ?_, fun i j h1 h2 h3 h4 => ?_⟩
  · rw [hi i h1 (by omega), hi j (by omega) h3]; exact h.right _ _ (by omega) (by omega) (by omega)
  · rw [lo i h2, hi j h3 h4]; exact h.cross _ _ h1 (by omega) (by omega) (by omega)
/-- .. and the second one -/
theorem merge_second {κ : Int → Int} {a m b mid s e : Nat} {xs ys zs : Nat → Int} (h : Mrg κ a m b xs) (hs1 : a ≤ s) (hs2 : s ≤ m) (he1 : m ≤ e) (he2 : e ≤ b) (hse : s + e = mid + m) (hr : Rot s m e xs ys) (ho : Out a mid ys zs) : Mrg κ mid e b zs := by
  have lo : ∀ i, mid ≤ i → i < e → zs i = xs (s + (i - mid)) := fun i h1 h2 => by rw [ho i (by omega), ← hr.2.1 (i - mid) (by omega), show s + (e - m) + (i - mid) = i by omega]
  have hi : ∀ i, e ≤ i → i < b → zs i = xs i := fun i h1 h2 => by rw [ho i (by omega), hr.2.2 i (by omega)]
  refine ⟨by omega, he2, fun i j h1 h2 h3 => ?_, fun i j h1 h2 h3 => ?_, fun i j h1 h2 h3 h4 => ?_⟩
  · rw [lo i h1 (by omega), lo j (by omega) h3]; exact h.left _ _ (by omega) (by omega) (by omega)
  · rw [hi i h1 (by omega), hi j (by omega) h3]; exact h.right _ _ (by omega) h2 h3
  · rw [lo i h1 h2, hi j h3 h4]; exact h.cross _ _ (by omega) (by omega) (by omega) h4
/-- the left part is one number: it goes to the place that the search has found -/
theorem merge_left1 {κ : Int → Int} {a m b i : Nat} {xs ys : Nat → Int} (h : Mrg κ a m b xs) (hm : m = a + 1) (hi1 : m ≤ i) (hi2 : i ≤ b) (hlo : m < i → LL κ (xs (i - 1)) (xs a)) (hhi : i < b → LL κ (xs a) (xs i)) (hr : Rot a m i xs ys) : Mrgd κ a b xs ys := by
  have r1 : ∀ t, a ≤ t → t + 1 < i → ys t = xs (t + 1) := fun t h1 h2 => by rw [show ys t = ys (a + (t - a)) by rw [show a + (t - a) = t by omega], hr.1 (t - a) (by omega), show m + (t - a) = t + 1 by omega]
  have r2 : ys (i - 1) = xs a := by
    have := hr.2.1 0 (by omega)
    rw [show a + (i - m) + 0 = i - 1 by omega, Nat.add_zero] at this
    exact this
  have r3 : ∀ t, i ≤ t → ys t = xs t := fun t h1 => hr.2.2 t (by omega)
  have all1 : ∀ t, m ≤ t → t < i → LL κ (xs t) (xs a) := fun t h1 h2 => by
    rcases Nat.eq_or_lt_of_le (show t ≤ i - 1 by omega) with e | e
    · rw [e]; exact hlo (by omega)
    · exact (h.right t (i - 1) h1 e (by omega)).trans (hlo (by omega))
  have all2 : ∀ t, i ≤ t → t < b → LL κ (xs a) (xs t) := fun t h1 h2 => by
    rcases Nat.eq_or_lt_of_le h1 with e | e
    · rw [← e]; exact hhi (by omega)
    · exact (hhi (by omega)).trans (h.right i t hi1 e h2)
  refine ⟨fun u v h1 h2 h3 => ?_, ?_, hr.2.2.mono (Nat.le_refl _) hi2⟩
  · rcases Nat.lt_or_ge (u + 1) i with hu | hu
    · rw [r1 u h1 hu]
      rcases Nat.lt_or_ge (v + 1) i with hv | hv
      · rw [r1 v (by omega) hv]; exact h.right _ _ (by omega) (by omega) (by omega)
      · rcases Nat.lt_or_ge v i with hv2 | hv2
        · rw [show v = i - 1 by omega, r2]; exact all1 _ (by omega) (by omega)
        · rw [r3 v hv2]; exact h.right _ _ (by omega) (by omega) h3
    · rcases Nat.lt_or_ge u i with hu2 | hu2
      · rw [show u = i - 1 by omega, r2, r3 v (by omega)]; exact all2 v (by omega) h3
      · rw [r3 u hu2, r3 v (by omega)]; exact h.right _ _ (by omega) h2 h3
  · exact SameS.join (m := i) (by omega) hi2 (hr.same (by omega) hi1) (SameS.of_eq fun t h1 _ => r3 t h1)
/-- the right part is one number -/
theorem merge_right1 {κ : Int → Int} {a m b i : Nat} {xs ys : Nat → Int} (h : Mrg κ a m b xs) (hm : b = m + 1) (hi1 : a ≤ i) (hi2 : i ≤ m) (hlo : a < i → LL κ (xs (i - 1)) (xs m)) (hhi : i < m → LL κ (xs m) (xs i)) (hr : Rot i m b xs ys) : Mrgd κ a b xs ys := by
  have r1 : ys i = xs m := by
    have := hr.1 0 (by omega)
    rwa [Nat.add_zero, Nat.add_zero] at this
  have r2 : ∀ t, i < t → t < b → ys t = xs (t - 1) := fun t h1 h2 => by
    have := hr.2.1 (t - 1 - i) (by omega)
    rw [show i + (b - m) + (t - 1 - i) = t by omega, show i + (t - 1 - i) = t - 1 by omega] at this
    exact this
  have r3 : ∀ t, t < i → ys t = xs t := fun t h1 => hr.2.2 t (by omega)
  have all1 : ∀ t, a ≤ t → t < i → LL κ (xs t) (xs m) := fun t h1 h2 => by
    rcases Nat.eq_or_lt_of_le (show t ≤ i - 1 by omega) with e | e
    · rw [e]; exact hlo (by omega)
    · exact (h.left t (i - 1) h1 e (by omega)).trans (hlo (by omega))
  have all2 : ∀ t, i ≤ t → t < m → LL κ (xs m) (xs t) := fun t h1 h2 => by
    rcases Nat.eq_or_lt_of_le h1 with e | e
    · rw [← e]; exact hhi (by omega)
    · exact (hhi (by omega)).trans (h.left i t hi1 e h2)
  refine ⟨fun u v h1 h2 h3 => ?_, ?_, hr.2.2.mono hi1 (Nat.le_refl _)⟩
  · rcases Nat.lt_or_ge u i with hu | hu
    · rw [r3 u hu]
      rcases Nat.lt_or_ge v i with hv | hv
      · rw [r3 v hv]; exact h.left _ _ h1 h2 (by omega)
      · rcases Nat.eq_or_lt_of_le hv with e | e
        · rw [← e, r1]; exact all1 u h1 hu
        · rw [r2 v e h3]; exact h.left _ _ h1 (by omega) (by omega)
    · rcases Nat.eq_or_lt_of_le hu with e | e
      · rw [← e, r1, r2 v (by omega) h3]; exact all2 _ (by omega) (by omega)
      · rw [r2 u e (by omega), r2 v (by omega) h3]; exact h.left _ _ (by omega) (by omega) (by omega)
  · exact SameS.join (m := i) hi1 (by omega) (SameS.of_eq fun t _ h2 => r3 t h2) (hr.same hi2 (by omega))
/-- the search's loop keeps this; where it ends the two parts may be turned -/
structure Fnd (κ : Int → Int) (m n lo hi : Nat) (xs : Nat → Int) (s r : Nat) : Prop where
  lo_ : lo ≤ s
  le : s ≤ r
  hi_ : r ≤ hi
  below : lo < s → LL κ (xs (s - 1)) (xs (n - s))
  above : r < hi → LL κ (xs (n - 1 - r)) (xs r)
end Go.Proofs.Ytpbnngfiinihmaa

namespace Go.Proofs.Ytpbnngfiinihmaa
open Go.RowKit
/-- two lists that rise and have the same members are the same -/
theorem rise_unique {α : Type} {R : α → α → Prop} (hi : ∀ x, ¬ R x x) (ht : ∀ x y z, R x y → R y z → R x z) : ∀ (a b : List α), a.Pairwise R → b.Pairwise R → (∀ x, x ∈ a ↔ x ∈ b) → a = b
  | [], [], _, _, _ => rfl
  | [], y :: b, _, _, h => by have := (h y).2 (by simp); simp at this
  | x :: a, [], _, _, h => by have := (h x).1 (by simp); simp at this
  | x :: a, y :: b, ha, hb, h => by
    obtain ⟨ha1, ha2⟩ := List.pairwise_cons.1 ha
    obtain ⟨hb1, hb2⟩ := List.pairwise_cons.1 hb
    have e : x = y := by
      rcases List.mem_cons.1 ((h x).1 (by simp)) with e | e
      · exact e
      · rcases List.mem_cons.1 ((h y).2 (by simp)) with e' | e'
        · exact e'.symm
        · exact (hi x (ht _ _ _ (ha1 y e') (hb1 x e))).elim
    subst e
    refine congrArg _ (rise_unique hi ht a b ha2 hb2 (fun z => ⟨fun hz => ?_, fun hz => ?_⟩))
    · rcases List.mem_cons.1 ((h z).1 (List.mem_cons_of_mem _ hz)) with e | e
      · subst e; exact (hi _ (ha1 _ hz)).elim
      · exact e
    · rcases List.mem_cons.1 ((h z).2 (List.mem_cons_of_mem _ hz)) with e | e
      · subst e; exact (hi _ (hb1 _ hz)).elim
      · exact e
/-- the point of the call at a place -/
def ptOf (l : List CallD) (i : Nat) : Int := match l[i]? with | some c => c.pt | none => 0
theorem ptOf_at {l : List CallD} {i : Nat} {c : CallD} (h : l[i]? = some c) : ptOf l i = c.pt := by unfold ptOf; rw [h]
/-- by the point, then by the place -/
def RL (l : List CallD) (i j : Nat) : Prop := ptOf l i < ptOf l j ∨ (ptOf l i = ptOf l j ∧ i < j)
/-- the places below n of the calls that took effect, in order -/
def LineN (l : List CallD) (n : Nat) (idx : List Nat) : Prop := idx.Pairwise (RL l) ∧ ∀ i, i ∈ idx ↔ (i < n ∧ 0 ≤ ptOf l i)
open Classical in
/-- the line of calls -/
noncomputable def lineE (l : List CallD) : List Nat := if h : ∃ idx, LineN l l.length idx then Classical.choose h else []
section
variable {l : List CallD} {n : Nat} {idx a b : List Nat}
theorem LineN.unique (h : LineN l n a) (k : LineN l n b) : a = b :=
  rise_unique (R := RL l) (fun x h => by unfold RL at h; omega) (fun x y z h k => by unfold RL at *; omega) a b h.1 k.1 (fun x => (h.2 x).trans (k.2 x).symm)
theorem LineN.eq (h : LineN l l.length idx) : idx = lineE l := by
  have e : ∃ idx, LineN l l.length idx := ⟨idx, h⟩
  unfold lineE
  rw [dif_pos e]
  exact h.unique (Classical.choose_spec e)
theorem LineN.zero (l : List CallD) : LineN l 0 [] := ⟨List.Pairwise.nil, fun i => by simp⟩
theorem LineN.skip (h : LineN l n idx) (hp : ptOf l n < 0) : LineN l (n + 1) idx := ⟨h.1, fun i => by
  rw [h.2 i]
  constructor
  · rintro ⟨h1, h2⟩; exact ⟨by omega, h2⟩
  · rintro ⟨h1, h2⟩
    refine ⟨?_, h2⟩
    rcases Nat.lt_or_ge i n with h3 | h3
    · exact h3
    · have : i = n := by omega
      subst this; omega⟩
/-- the next place is put in -/
theorem LineN.put (h : LineN l n idx) (hp : 0 ≤ ptOf l n) {k : Nat} (hk : k ≤ idx.length) (hlo : ∀ j, j < k → ∀ x, idx[j]? = some x → ptOf l x ≤ ptOf l n) (hhi : ∀ j, k ≤ j → ∀ x, idx[j]? = some x → ptOf l n < ptOf l x) :
    LineN l (n + 1) (idx.take k ++ n :: idx.drop k) := by
  have hmem : ∀ x, x ∈ idx → x < n := fun x hx => ((h.2 x).1 hx).1
  refine ⟨?_, fun i => ?_⟩
  · rw [List.pairwise_append]
    refine ⟨h.1.sublist (List.take_sublist _ _), List.pairwise_cons.2 ⟨fun x hx => ?_, h.1.sublist (List.drop_sublist _ _)⟩, fun x hx y hy => ?_⟩
    · obtain ⟨j, hj⟩ := List.mem_iff_getElem?.1 hx
      rw [List.getElem?_drop] at hj
      exact .inl (hhi _ (by omega) x hj)
    · rcases List.mem_cons.1 hy with e | e
      · subst e
        obtain ⟨j, hj⟩ := List.mem_iff_getElem?.1 hx
        rw [List.getElem?_take] at hj
        split at hj
        · rename_i hjk
          have := hlo j hjk x hj
          have := hmem x (List.mem_of_getElem? hj)
          unfold RL; omega
        · cases hj
      · have := h.1
        rw [← List.take_append_drop k idx] at this
        exact (List.pairwise_append.1 this).2.2 x hx y e
  · rw [List.mem_append, List.mem_cons]
    constructor
    · rintro (h1 | h1 | h1)
      · obtain ⟨a1, a2⟩ := (h.2 i).1 (List.mem_of_mem_take h1); exact ⟨by omega, a2⟩
      · subst h1; exact ⟨by omega, hp⟩
      · obtain ⟨a1, a2⟩ := (h.2 i).1 (List.mem_of_mem_drop h1); exact ⟨by omega, a2⟩
    · rintro ⟨h1, h2⟩
      rcases Nat.lt_or_ge i n with h3 | h3
      · have hm := (h.2 i).2 ⟨h3, h2⟩
        rw [← List.take_append_drop k idx, List.mem_append] at hm
        rcases hm with hm | hm
        · exact .inl hm
        · exact .inr (.inr hm)
      · exact .inr (.inl (by omega))
end
/-- the places of the calls that took effect, by place -/
def placesN (l : List CallD) (n : Nat) : List Nat := (List.range n).filter (fun i => decide (0 ≤ ptOf l i))
theorem placesN_skip {l : List CallD} {n : Nat} (h : ptOf l n < 0) : placesN l (n + 1) = placesN l n := by
  unfold placesN; rw [List.range_succ, List.filter_append]; simp [show ¬ 0 ≤ ptOf l n by omega]
theorem placesN_put {l : List CallD} {n : Nat} (h : 0 ≤ ptOf l n) : placesN l (n + 1) = placesN l n ++ [n] := by
  unfold placesN; rw [List.range_succ, List.filter_append]; simp [h]
theorem placesN_len (l : List CallD) (n : Nat) : (placesN l n).length ≤ n := by
  have := List.length_filter_le (fun i => decide (0 ≤ ptOf l i)) (List.range n)
  rw [List.length_range] at this; exact this
theorem placesN_mem (l : List CallD) (n i : Nat) : i ∈ placesN l n ↔ (i < n ∧ 0 ≤ ptOf l i) := by unfold placesN; simp
theorem placesN_rise (l : List CallD) (n : Nat) : (placesN l n).Pairwise (· < ·) := (List.pairwise_lt_range).sublist List.filter_sublist
/-- a list of places as numbers -/
def seqI (l : List Nat) : Nat → Int := fun k => ((l[k]?.getD 0 : Nat) : Int)
/-- the row that a stable sort by the points leaves is the line -/
theorem line_sorted {l : List CallD} {n m : Nat} {ys : Nat → Int} (hm : m = (placesN l n).length) (hs : Srt (fun x => ptOf l x.toNat) 0 m ys) (hsm : SameS 0 m (seqI (placesN l n)) ys) :
    ∃ idx : List Nat, idx.length = m ∧ LineN l n idx ∧ ∀ k, k < m → ys k = seqI idx k := by
  have hval : ∀ k, k < m → ∃ p, p ∈ placesN l n ∧ ys k = (p : Int) := fun k hk => by
    obtain ⟨j, h1, h2, h3⟩ := (hsm (ys k)).2 ⟨k, by omega, hk, rfl⟩
    have hj : (placesN l n)[j]? = some ((placesN l n)[j]'(by omega)) := List.getElem?_eq_getElem (by omega)
    refine ⟨(placesN l n)[j]'(by omega), List.getElem_mem _, ?_⟩
    rw [← h3]; unfold seqI; rw [hj]; rfl
  refine ⟨(List.range m).map (fun k => (ys k).toNat), by simp, ⟨?_, fun i => ?_⟩, fun k hk => ?_⟩
  · rw [List.pairwise_map]
    have : (List.range m).Pairwise (fun a b => a < b ∧ b < m) := by
      refine List.Pairwise.imp_of_mem ?_ List.pairwise_lt_range
      intro a b ha hb hab
      exact ⟨hab, by simpa using hb⟩
    refine this.imp ?_
    rintro a b ⟨hab, hb⟩
    have h1 := hs a b (by omega) hab hb
    obtain ⟨p, _, hp⟩ := hval a (by omega)
    obtain ⟨q, _, hq⟩ := hval b hb
    rw [hp, hq] at h1 ⊢
    unfold LL at h1
    simp only [Int.toNat_natCast] at h1 ⊢
    unfold RL; omega
  · rw [← placesN_mem, List.mem_map]
    constructor
    · rintro ⟨k, hk, rfl⟩
      obtain ⟨p, hp1, hp2⟩ := hval k (by simpa using hk)
      rw [hp2]; simpa using hp1
    · intro hi
      obtain ⟨j, hj, e⟩ := List.mem_iff_getElem.1 hi
      obtain ⟨k, h1, h2, h3⟩ := (hsm (i : Int)).1 ⟨j, by omega, by omega, by unfold seqI; rw [List.getElem?_eq_getElem hj, e]; rfl⟩
      exact ⟨k, by simpa using h2, by rw [h3]; simp⟩
  · unfold seqI
    rw [List.getElem?_map, List.getElem?_range hk]
    obtain ⟨p, _, hp⟩ := hval k hk
    simp only [Option.map_some, Option.getD_some]
    rw [hp]; simp
theorem seqI_rise {l : List CallD} {n m : Nat} (hm : m = (placesN l n).length) : ∀ i j, i < j → j < m → seqI (placesN l n) i < seqI (placesN l n) j := fun i j hij hj => by
  have h := placesN_rise l n
  unfold seqI
  rw [List.getElem?_eq_getElem (by omega), List.getElem?_eq_getElem (by omega)]
  have := List.pairwise_iff_getElem.1 h i j (by omega) (by omega) hij
  simp only [Option.getD_some]; omega
/-- places as values -/
def pvs (l : List Nat) : List Value := l.map (fun i : Nat => .int .i64 (i : Int))
theorem pvs_len (l : List Nat) : (pvs l).length = l.length := by simp [pvs]
theorem pvs_at {l : List Nat} {k i : Nat} (h : l[k]? = some i) : (pvs l)[k]? = some (.int .i64 (i : Int)) := by unfold pvs; rw [List.getElem?_map, h]; rfl
theorem pvs_put (l : List Nat) (i : Nat) : pvs (l ++ [i]) = pvs l ++ [.int .i64 (i : Int)] := by simp [pvs]
end Go.Proofs.Ytpbnngfiinihmaa

namespace Go.Proofs.Ytpbnngfiinihmaa
open Go.RowKit
open Go.Lib (compareBytes)
/-- keys rise -/
def Up (m : List Ent) : Prop := m.Pairwise (fun a b => TLt a.1 b.1)
/-- a map with an entry -/
def putE : List Ent → Ent → List Ent
  | [], x => [x]
  | y :: r, x => if compareBytes y.1 x.1 < 0 then y :: putE r x else if y.1 = x.1 then x :: r else x :: y :: r
/-- a map without a key -/
def cutE (m : List Ent) (k : List UInt8) : List Ent := m.filter (fun e => decide (e.1 ≠ k))
/-- what a map has -/
def hasE (m : List Ent) (k : List UInt8) : Option (List UInt8) := (m.find? (fun e => decide (e.1 = k))).map (·.2)
/-- the map of a list -/
def mapE (l : List Ent) : List Ent := l.foldl putE []
theorem hasE_nil (k : List UInt8) : hasE [] k = none := rfl
theorem hasE_cons (y : Ent) (r : List Ent) (k : List UInt8) : hasE (y :: r) k = if y.1 = k then some y.2 else hasE r k := by
  unfold hasE; rw [List.find?_cons]
  by_cases h : y.1 = k <;> simp [h]
theorem hasE_put : ∀ (m : List Ent) (x : Ent) (k : List UInt8), hasE (putE m x) k = if k = x.1 then some x.2 else hasE m k
  | [], x, k => by
    unfold putE; rw [hasE_cons, hasE_nil]
    by_cases h : x.1 = k
    · simp [h]
    · have : ¬ k = x.1 := fun e => h e.symm
      simp [h, this]
  | y :: r, x, k => by
    unfold putE
    split
    · rename_i h
      have hne : y.1 ≠ x.1 := (show TLt y.1 x.1 from h).ne
      rw [hasE_cons, hasE_put r x k, hasE_cons]
      by_cases e : y.1 = k
      · subst e; simp [hne]
      · simp [e]
    · split
      · rename_i h1 h2
        rw [hasE_cons, hasE_cons, h2]
        by_cases e : x.1 = k
        · simp [e]
        · have : ¬ k = x.1 := fun h => e h.symm
          simp [e, this]
      · rename_i h1 h2
        rw [hasE_cons, hasE_cons]
        by_cases e : x.1 = k
        · simp [e]
        · have : ¬ k = x.1 := fun h => e h.symm
          simp [e, this]
theorem hasE_cut (m : List Ent) (k k' : List UInt8) : hasE (cutE m k) k' = if k' = k then none else hasE m k' := by
  induction m with
  | nil => unfold cutE; simp [hasE_nil]
  | cons y r ih =>
    unfold cutE at *
    rw [List.filter_cons]
    by_cases h : y.1 = k
    · simp only [h, ne_eq, not_true, decide_false, Bool.false_eq_true, if_false]
      rw [ih, hasE_cons]
      by_cases e : k' = k
      · simp [e]
      · have : ¬ y.1 = k' := fun h' => e (by rw [← h', h])
        simp [e, this]
    · simp only [ne_eq, h, not_false_eq_true, decide_true, if_true]
      rw [hasE_cons, ih, hasE_cons]
      by_cases e : y.1 = k'
      · have : ¬ k' = k := fun h' => h (by rw [e, h'])
        simp [e, this]
      · simp [e]
theorem hasE_mem {m : List Ent} {k v : List UInt8} (h : hasE m k = some v) : (k, v) ∈ m := by
  unfold hasE at h
  cases hf : m.find? (fun e => decide (e.1 = k)) with
  | none => rw [hf] at h; cases h
  | some e =>
    rw [hf] at h
    injection h with h
    have h1 := List.find?_some hf
    have h2 := List.mem_of_find?_eq_some hf
    have h1 : e.1 = k := of_decide_eq_true h1
    obtain ⟨a, b⟩ := e
    simp only at h h1
    rw [← h, ← h1]; exact h2
theorem Up.has {m : List Ent} (h : Up m) : ∀ {k v : List UInt8}, (k, v) ∈ m → hasE m k = some v := by
  induction m with
  | nil => intro k v hm; cases hm
  | cons y r ih =>
    intro k v hm
    obtain ⟨h1, h2⟩ := List.pairwise_cons.1 h
    rw [hasE_cons]
    rcases List.mem_cons.1 hm with e | e
    · subst e; simp
    · have := (h1 _ e).ne
      have h3 : ¬ y.1 = k := this
      rw [if_neg h3]; exact ih h2 e
theorem Up.ext {a b : List Ent} (ha : Up a) (hb : Up b) (h : ∀ k, hasE a k = hasE b k) : a = b :=
  rise_unique (R := fun x y : Ent => TLt x.1 y.1) (fun x hx => hx.irrefl) (fun _ _ _ h k => h.trans k) a b ha hb (fun x => by
    obtain ⟨k, v⟩ := x
    exact ⟨fun hx => hasE_mem (by rw [← h]; exact ha.has hx), fun hx => hasE_mem (by rw [h]; exact hb.has hx)⟩)
theorem cutE_up {m : List Ent} (h : Up m) (k : List UInt8) : Up (cutE m k) := List.Pairwise.sublist List.filter_sublist h
theorem not_lt_cases {a b : List UInt8} (h : ¬ compareBytes a b < 0) (hne : a ≠ b) : TLt b a := by
  unfold TLt
  rw [cb_swap]
  have : compareBytes a b ≠ 0 := fun e => hne (cb_eq _ _ e)
  omega
theorem putE_mem : ∀ (m : List Ent) (x e : Ent), e ∈ putE m x → e = x ∨ e ∈ m
  | [], x, e, h => by unfold putE at h; simp at h; exact .inl h
  | y :: r, x, e, h => by
    unfold putE at h
    split at h
    · rcases List.mem_cons.1 h with h | h
      · exact .inr (by simp [h])
      · rcases putE_mem r x e h with h | h
        · exact .inl h
        · exact .inr (List.mem_cons_of_mem _ h)
    · split at h
      · rcases List.mem_cons.1 h with h | h
        · exact .inl h
        · exact .inr (List.mem_cons_of_mem _ h)
      · rcases List.mem_cons.1 h with h | h
        · exact .inl h
        · exact .inr h
theorem putE_up : ∀ (m : List Ent) (x : Ent), Up m → Up (putE m x)
  | [], x, _ => by unfold putE Up; simp
  | y :: r, x, h => by
    obtain ⟨h1, h2⟩ := List.pairwise_cons.1 h
    unfold putE
    split
    · rename_i hlt
      refine List.pairwise_cons.2 ⟨fun e he => ?_, putE_up r x h2⟩
      rcases putE_mem r x e he with h | h
      · subst h; exact hlt
      · exact h1 e h
    · split
      · rename_i hn he
        exact List.pairwise_cons.2 ⟨fun e h => by rw [← he]; exact h1 e h, h2⟩
      · rename_i hn hne
        have hl := not_lt_cases hn hne
        refine List.pairwise_cons.2 ⟨fun e he => ?_, h⟩
        rcases List.mem_cons.1 he with h | h
        · subst h; exact hl
        · exact hl.trans (h1 e h)
theorem putE_len : ∀ (m : List Ent) (x : Ent), (putE m x).length ≤ m.length + 1
  | [], x => by unfold putE; simp
  | y :: r, x => by
    have := putE_len r x
    unfold putE
    split
    · simp; omega
    · split <;> simp
theorem cutE_len (m : List Ent) (k : List UInt8) : (cutE m k).length ≤ m.length := List.length_filter_le _ _
theorem fold_up (l : List Ent) : ∀ m, Up m → Up (l.foldl putE m) := by
  induction l with
  | nil => intro m h; exact h
  | cons x r ih => intro m h; exact ih _ (putE_up m x h)
theorem mapE_up (l : List Ent) : Up (mapE l) := fold_up l [] List.Pairwise.nil
theorem mapE_take {l : List Ent} {i : Nat} {e : Ent} (h : l[i]? = some e) : mapE (l.take (i + 1)) = putE (mapE (l.take i)) e := by
  unfold mapE
  have : l.take (i + 1) = l.take i ++ [e] := by rw [List.take_add_one, h]; rfl
  rw [this, List.foldl_append]; rfl
theorem fold_len (l : List Ent) : ∀ m, (l.foldl putE m).length ≤ m.length + l.length := by
  induction l with
  | nil => intro m; simp
  | cons x r ih => intro m; have h1 := ih (putE m x); have h2 := putE_len m x; simp only [List.foldl_cons, List.length_cons]; omega
theorem mapE_len (l : List Ent) : (mapE l).length ≤ l.length := by have := fold_len l []; unfold mapE; simpa using this
theorem fold_sub (l : List Ent) : ∀ m e, e ∈ l.foldl putE m → e ∈ m ∨ e ∈ l := by
  induction l with
  | nil => intro m e h; exact .inl h
  | cons x r ih =>
    intro m e h
    rcases ih _ e h with h1 | h1
    · rcases putE_mem m x e h1 with h2 | h2
      · subst h2; exact .inr (by simp)
      · exact .inl h2
    · exact .inr (List.mem_cons_of_mem _ h1)
theorem mapE_sub (l : List Ent) (i : Nat) (e : Ent) (h : e ∈ mapE (l.take i)) : e ∈ l := by
  rcases fold_sub _ _ _ h with h1 | h1
  · cases h1
  · exact List.mem_of_mem_take h1
/-- all keys of the map are short -/
def Short (n : Nat) (m : List Ent) : Prop := ∀ e ∈ m, e.1.length ≤ n ∧ e.2.length ≤ n
theorem Short.put {n : Nat} {m : List Ent} {x : Ent} (h : Short n m) (hx : x.1.length ≤ n ∧ x.2.length ≤ n) : Short n (putE m x) := fun e he => by
  rcases putE_mem m x e he with h1 | h1
  · subst h1; exact hx
  · exact h e h1
theorem Short.cut {n : Nat} {m : List Ent} (h : Short n m) (k : List UInt8) : Short n (cutE m k) := fun e he => h e (List.mem_filter.1 he).1
/-- the document's put, an entry at a time: those behind, whether it has been put -/
def putG : List Ent → Ent → Bool → List Ent
  | [], x, d => if d then [] else [x]
  | y :: r, x, d => (if 0 ≤ compareBytes y.1 x.1 ∧ d = false then [x] else []) ++ ((if compareBytes y.1 x.1 ≠ 0 then [y] else []) ++ putG r x (d || decide (0 ≤ compareBytes y.1 x.1)))
theorem putG_done : ∀ (m : List Ent) (x : Ent), (∀ e ∈ m, TLt x.1 e.1) → putG m x true = m
  | [], x, _ => by simp [putG]
  | y :: r, x, h => by
    unfold putG
    have h1 : 0 < compareBytes y.1 x.1 := (h y (by simp)).gt
    rw [if_neg (by simp), if_pos (by omega), Bool.true_or, putG_done r x (fun e he => h e (List.mem_cons_of_mem _ he))]
    rfl
theorem putG_put : ∀ (m : List Ent) (x : Ent), Up m → putG m x false = putE m x
  | [], x, _ => by simp [putG, putE]
  | y :: r, x, h => by
    obtain ⟨h1, h2⟩ := List.pairwise_cons.1 h
    unfold putG putE
    by_cases hlt : compareBytes y.1 x.1 < 0
    · rw [if_neg (by omega), if_pos (by omega), if_pos hlt]
      have : (false || decide (0 ≤ compareBytes y.1 x.1)) = false := by simp; omega
      rw [this, putG_put r x h2]; rfl
    · rw [if_pos ⟨by omega, rfl⟩, if_neg hlt]
      have hd : (false || decide (0 ≤ compareBytes y.1 x.1)) = true := by simp; omega
      rw [hd]
      by_cases he : y.1 = x.1
      · rw [if_pos he]
        have h0 : compareBytes y.1 x.1 = 0 := by rw [he]; exact cb_refl _
        rw [if_neg (by omega), putG_done r x (fun e hm => by rw [← he]; exact h1 e hm)]; rfl
      · rw [if_neg he]
        have hl := not_lt_cases hlt he
        have := hl.gt
        rw [if_pos (by omega), putG_done r x (fun e hm => hl.trans (h1 e hm))]; rfl
/-- a key, and of a put a value, that may be -/
def goodE (c : CallD) : Prop := 1 ≤ c.key.length ∧ c.key.length ≤ 64 ∧ (c.kd ≠ 2 ∨ c.val.length ≤ 256)
instance (c : CallD) : Decidable (goodE c) := inferInstanceAs (Decidable (_ ∧ _))
/-- does a call count? -/
def countsE (c : CallD) : Prop := goodE c ∧ 0 ≤ c.pt ∧ c.er = 0 ∧ (c.kd = 2 ∨ c.kd = 3)
instance (c : CallD) : Decidable (countsE c) := inferInstanceAs (Decidable (_ ∧ _))
/-- what a call does to a map -/
def doesE (m : List Ent) (c : CallD) : List Ent := if countsE c then (if c.kd = 2 then putE m (c.key, c.val) else cutE m c.key) else m
theorem doesE_up {m : List Ent} (h : Up m) (c : CallD) : Up (doesE m c) := by
  unfold doesE; split
  · split
    · exact putE_up _ _ h
    · exact cutE_up h _
  · exact h
theorem doesE_len (m : List Ent) (c : CallD) : (doesE m c).length ≤ m.length + 1 := by
  unfold doesE; split
  · split
    · exact putE_len _ _
    · have := cutE_len m c.key; omega
  · omega
/-- does a call that is done answer what the map has? -/
def answerE (m : List Ent) (c : CallD) : Prop :=
  if goodE c then
    (if c.kd = 1 then c.er = 0 ∧ c.th = (hasE m c.key).isSome ∧ c.ans = (hasE m c.key).getD []
     else (c.kd = 2 ∧ c.er = 2 ∧ c.th = false ∧ hasE m c.key = none) ∨ (¬ (c.kd = 2 ∧ c.er = 2) ∧ c.er = 0 ∧ c.th = (hasE m c.key).isSome))
  else c.er = 3 ∧ c.th = false ∧ (c.kd ≠ 1 ∨ c.ans = [])
instance (m : List Ent) (c : CallD) : Decidable (answerE m c) := by unfold answerE; infer_instance
/-- has the earlier call x the point of c, or does it overlap c's as the same client's? -/
def clashE (c x : CallD) : Prop := (0 ≤ c.pt ∧ x.pt = c.pt) ∨ (x.cl = c.cl ∧ (x.dn = false ∨ c.fst < x.lst))
instance (c x : CallD) : Decidable (clashE c x) := inferInstanceAs (Decidable (_ ∨ _))
/-- a call's moments, by themselves -/
def momentE (c : CallD) : Prop :=
  ¬ (c.fst < 0 ∨ (c.dn = true ∧ c.lst < c.fst)) ∧
  (if c.kd = 1 ∨ c.kd = 2 ∨ c.kd = 3 then (if c.dn = true then c.fst ≤ c.pt ∧ c.pt ≤ c.lst else c.pt = -1 ∨ c.fst ≤ c.pt) else c.pt = -1)
instance (c : CallD) : Decidable (momentE c) := by unfold momentE; infer_instance
/-- are the moments of call i right, among those ahead of it? -/
def pointE (l : List CallD) (i : Nat) (c : CallD) : Prop := momentE c ∧ ∀ x ∈ l.take i, ¬ clashE c x
instance (l : List CallD) (i : Nat) (c : CallD) : Decidable (pointE l i c) := by unfold pointE; infer_instance
end Go.Proofs.Ytpbnngfiinihmaa
