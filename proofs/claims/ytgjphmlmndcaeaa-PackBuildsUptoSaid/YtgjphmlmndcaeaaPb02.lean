/- The program's arena in memory: its struct, the row of pointers, the slots' blocks, and what hangs on them. Laws over any program: texts compared by the library's own function, over slices of bytes; texts turned into strings. WALKS: the smallest functions: atomic words; texts compared. -/
import Derived.Test.YtgjphmlmndcaeaaPb01
import Derived.Lib.Bytealg
import Derived.WalkKit
import Derived.WalkLawsBesides
import Derived.WalkSpells
import Derived.Test.YtgjphmlmndcaeaaChecked
import Derived.Lib.Hide
import Derived.Outline
set_option linter.unusedVariables false
set_option linter.unusedSimpArgs false
namespace Go.Proofs.Ytgjphmlmndcaeaa
open Go.RowKit

abbrev Slt := Int × Nd

/-- a slot's block, and what hangs on it in blocks of C -/
def SlotX (w : World) (C : Nat → Prop) (g : Nat) (s : Slt) : Prop :=
  ∃ hA hn hc kA kn kc vA vn vc dA dn dc, Blk w g 124 #[.int .u64 s.1, .int .i64 s.2.lev, .slice hA hn hc, .int .i64 s.2.right, .slice kA kn kc, .slice vA vn vc, .slice dA dn dc] ∧
    Bt w C hA hn hc s.2.high ∧ Tx w C kA kn kc s.2.keys ∧ Tx w C vA vn vc s.2.vals ∧ It w C dA dn dc s.2.kids

/-- a pointer to the head of a block -/
def ptr (g : Nat) : Value := .pointer (some ⟨g, 0, none⟩)
/-- the blocks that are written -/
def Mut (p : Nat) (v : Value) (bs : List Nat) : Nat → Prop := fun b => b = p ∨ v.ownBlock = some b ∨ b ∈ bs

/-- the arena at block p: all its blocks are of F -/
structure ArY (w : World) (F : Nat → Prop) (p : Nat) (nodes : Int) (sl : List Slt) (root : Int) (A : Option Addr) (n c : Nat) (bs : List Nat) : Prop where
  len : Hid (n = sl.length)
  blen : Hid (bs.length = n)
  blk : Blk w p 119 #[.int .i64 nodes, .slice A n c, .int .i64 root]
  row : w.ownsRow 0 120 1 (.slice A n c) n (bs.map ptr)
  fp : F p
  frow : ∀ b, (Value.slice A n c).ownBlock = some b → F b
  fbs : ∀ b ∈ bs, F b
  nodup : bs.Nodup
  slot : ∀ (i g : Nat) (s : Slt), bs[i]? = some g → sl[i]? = some s → SlotX w (fun b => F b ∧ ¬ Mut p (.slice A n c) bs b) g s

def ArX (w : World) (F : Nat → Prop) (p : Nat) (nodes : Int) (sl : List Slt) (root : Int) : Prop := ∃ A n c bs, ArY w F p nodes sl root A n c bs

section
variable {S F G C D : Nat → Prop} {w w' : World} {p : Nat} {nodes root : Int} {sl : List Slt} {A : Option Addr} {n c : Nat} {bs : List Nat}

theorem SlotX.weak {g : Nat} {s : Slt} (h : SlotX w C g s) (hF : ∀ b, C b → D b) : SlotX w D g s := by
  obtain ⟨hA, hn, hc, kA, kn, kc, vA, vn, vc, dA, dn, dc, h1, h2, h3, h4, h5⟩ := h
  exact ⟨hA, hn, hc, kA, kn, kc, vA, vn, vc, dA, dn, dc, h1, h2.weak hF, h3.weak hF, h4.weak hF, h5.weak hF⟩
theorem SlotX.chg {g : Nat} {s : Slt} (h : SlotX w C g s) (hc : Chg S w w') (hg : ¬ S g) (hs : ∀ b, C b → ¬ S b) : SlotX w' C g s := by
  obtain ⟨hA, hn, hc', kA, kn, kc, vA, vn, vc, dA, dn, dc, h1, h2, h3, h4, h5⟩ := h
  exact ⟨hA, hn, hc', kA, kn, kc, vA, vn, vc, dA, dn, dc, h1.chg hc hg, h2.chg hc hs, h3.chg hc hs, h4.chg hc hs, h5.chg hc hs⟩
theorem Bt.lt {bs' : List UInt8} {m d : Nat} (h : Bt w C A m d bs') : Bt w (fun b => C b ∧ b < w.heap.size) A m d bs' := ⟨h.1, h.2.1, h.2.2.1, h.2.2.2.lt Nat.zero_lt_one⟩
theorem It.lt {ks : List Int} {m d : Nat} (h : It w C A m d ks) : It w (fun b => C b ∧ b < w.heap.size) A m d ks := ⟨h.1, h.2.1, h.2.2.1, h.2.2.2.lt Nat.zero_lt_one⟩
theorem Tx.lt {ts : List (List UInt8)} {m d : Nat} (h : Tx w C A m d ts) : Tx w (fun b => C b ∧ b < w.heap.size) A m d ts :=
  let ⟨h1, h2, h3, vs, h4, h5⟩ := h; ⟨h1, h2, h3, vs, h4.lt Nat.zero_lt_one, fun i t ht => let ⟨v, a, b⟩ := h5 i t ht; ⟨v, a, b.lt⟩⟩
theorem SlotX.lt {g : Nat} {s : Slt} (h : SlotX w C g s) : SlotX w (fun b => C b ∧ b < w.heap.size) g s := by
  obtain ⟨hA, hn, hc', kA, kn, kc, vA, vn, vc, dA, dn, dc, h1, h2, h3, h4, h5⟩ := h
  exact ⟨hA, hn, hc', kA, kn, kc, vA, vn, vc, dA, dn, dc, h1, h2.lt, h3.lt, h4.lt, h5.lt⟩

theorem ArY.weak (h : ArY w F p nodes sl root A n c bs) (hF : ∀ b, F b → G b) : ArY w G p nodes sl root A n c bs :=
  ⟨h.len, h.blen, h.blk, h.row, hF _ h.fp, fun b hb => hF _ (h.frow b hb), fun b hb => hF _ (h.fbs b hb), h.nodup, fun i g s hg hs => (h.slot i g s hg hs).weak (fun b hb => ⟨hF _ hb.1, hb.2⟩)⟩
theorem ArX.weak (h : ArX w F p nodes sl root) (hF : ∀ b, F b → G b) : ArX w G p nodes sl root := let ⟨A, n, c, bs, h⟩ := h; ⟨A, n, c, bs, h.weak hF⟩
theorem ArY.chg (h : ArY w F p nodes sl root A n c bs) (hc : Chg S w w') (hs : ∀ b, F b → ¬ S b) : ArY w' F p nodes sl root A n c bs :=
  ⟨h.len, h.blen, h.blk.chg hc (hs _ h.fp), own_chg h.row hc (fun g hg => hs _ (h.frow g hg)), h.fp, h.frow, h.fbs, h.nodup, fun i g s hg hsl => (h.slot i g s hg hsl).chg hc (hs _ (h.fbs g (List.mem_of_getElem? hg))) (fun b hb => hs _ hb.1)⟩
theorem ArX.chg (h : ArX w F p nodes sl root) (hc : Chg S w w') (hs : ∀ b, F b → ¬ S b) : ArX w' F p nodes sl root := let ⟨A, n, c, bs, h⟩ := h; ⟨A, n, c, bs, h.chg hc hs⟩
theorem ArX.below (h : ArX w F p nodes sl root) (hb : Below w.heap.size w w') : ArX w' F p nodes sl root := h.chg (Chg.of_below (S := Nil) hb) (fun _ _ hf => hf)
theorem ArY.below (h : ArY w F p nodes sl root A n c bs) (hb : Below w.heap.size w w') : ArY w' F p nodes sl root A n c bs := h.chg (Chg.of_below (S := Nil) hb) (fun _ _ hf => hf)

/-- the three cells of the struct -/
theorem ArY.cells (h : ArY w F p nodes sl root A n c bs) : w.cell? ⟨p, 0, none⟩ = some (.int .i64 nodes) ∧ w.cell? ⟨p, 1, none⟩ = some (.slice A n c) ∧ w.cell? ⟨p, 2, none⟩ = some (.int .i64 root) ∧ ∀ o, w.frozen? ⟨p, o, none⟩ = false :=
  ⟨by rw [h.blk.cell]; rfl, by rw [h.blk.cell]; rfl, by rw [h.blk.cell]; rfl, h.blk.frozen⟩
/-- the cell of one slot's pointer -/
theorem ArY.at_ (h : ArY w F p nodes sl root A n c bs) {k : Nat} (hk : k < n) : ∃ r g, A = some ⟨r, 0, none⟩ ∧ bs[k]? = some g ∧ w.cell? ⟨r, k, none⟩ = some (.pointer (some ⟨g, 0, none⟩)) := by
  have hl : k < bs.length := by have : bs.length = n := h.blen; omega
  obtain ⟨r, cap, hv, _, _⟩ := h.row.form (by omega)
  have hA : A = some ⟨r, 0, none⟩ := by injection hv
  subst hA
  refine ⟨r, bs[k], rfl, List.getElem?_eq_getElem hl, ?_⟩
  have := h.row.cells (g := r) rfl k (ptr bs[k]) (by rw [List.getElem?_map, List.getElem?_eq_getElem hl]; rfl)
  rw [add_eq, Nat.zero_add] at this
  exact this
end

theorem Blk.ne_ {w : World} {g g' : Nat} {t t' : TypeId} {cs cs' : Array Value} (h : Blk w g t cs) (h' : Blk w g' t' cs') (hne : t ≠ t') : g ≠ g' := by
  rintro rfl
  unfold Blk at h h'
  rw [h] at h'
  injection h' with h'
  injection h' with _ ht
  exact hne ht
theorem own_blk_ne {w : World} {base : Nat} {e t : TypeId} {size n g : Nat} {v : Value} {xs : List Value} {cs : Array Value} (h : w.ownsRow base e size v n xs) (hg : Blk w g t cs) (hne : e ≠ t) : v.ownBlock ≠ some g := by
  rcases h.2 with ⟨rfl, _⟩ | ⟨g', cap, cur, rfl, _, hh, _⟩
  · simp [Value.ownBlock]
  · intro he
    have : g' = g := by simpa [Value.ownBlock] using he
    subst this
    exact Blk.ne_ (t := e) hh hg hne rfl

section
variable {S F G C D : Nat → Prop} {w w' : World} {p : Nat} {nodes root : Int} {sl : List Slt} {A : Option Addr} {n c : Nat} {bs : List Nat}
/-- the three kinds of written blocks differ -/
theorem ArY.ne_p (h : ArY w F p nodes sl root A n c bs) {g : Nat} (hg : g ∈ bs) : g ≠ p := by
  obtain ⟨i, hi, rfl⟩ := List.mem_iff_getElem.1 hg
  have hs : i < sl.length := by have e1 : n = sl.length := h.len; have e2 : bs.length = n := h.blen; omega
  obtain ⟨hA, hn, hc, kA, kn, kc, vA, vn, vc, dA, dn, dc, hb, _⟩ := h.slot i bs[i] sl[i] (List.getElem?_eq_getElem hi) (List.getElem?_eq_getElem hs)
  exact hb.ne_ h.blk (by decide)
theorem ArY.ne_row (h : ArY w F p nodes sl root A n c bs) {g : Nat} (hg : g ∈ bs) : (Value.slice A n c).ownBlock ≠ some g := by
  obtain ⟨i, hi, rfl⟩ := List.mem_iff_getElem.1 hg
  have hs : i < sl.length := by have e1 : n = sl.length := h.len; have e2 : bs.length = n := h.blen; omega
  obtain ⟨hA, hn, hc, kA, kn, kc, vA, vn, vc, dA, dn, dc, hb, _⟩ := h.slot i bs[i] sl[i] (List.getElem?_eq_getElem hi) (List.getElem?_eq_getElem hs)
  exact own_blk_ne h.row hb (by decide)
theorem ArY.row_p (h : ArY w F p nodes sl root A n c bs) : (Value.slice A n c).ownBlock ≠ some p := own_blk_ne h.row h.blk (by decide)
theorem ArY.lt_bs (h : ArY w F p nodes sl root A n c bs) {g : Nat} (hg : g ∈ bs) : g < w.heap.size := by
  obtain ⟨i, hi, rfl⟩ := List.mem_iff_getElem.1 hg
  have hs : i < sl.length := by have e1 : n = sl.length := h.len; have e2 : bs.length = n := h.blen; omega
  obtain ⟨hA, hn, hc, kA, kn, kc, vA, vn, vc, dA, dn, dc, hb, _⟩ := h.slot i bs[i] sl[i] (List.getElem?_eq_getElem hi) (List.getElem?_eq_getElem hs)
  exact hb.lt

/-- one slot is another one; what hangs on it may be new -/
theorem ArY.upd (h : ArY w F p nodes sl root A n c bs) {i g : Nat} {s : Slt} (hg : bs[i]? = some g) (hc : Chg (One g) w w') (hF : ∀ b, F b → G b)
    (hx : SlotX w' (fun b => G b ∧ ¬ Mut p (.slice A n c) bs b) g s) : ArY w' G p nodes (sl.set i s) root A n c bs := by
  have hgm : g ∈ bs := List.mem_of_getElem? hg
  have hil : i < sl.length := by have e1 : n = sl.length := h.len; have e2 : bs.length = n := h.blen; have := (List.getElem?_eq_some_iff.1 hg).1; omega
  refine ⟨by have e1 : n = sl.length := h.len; show n = (sl.set i s).length; simp [e1], h.blen, h.blk.chg hc (fun e => h.ne_p hgm (show p = g from e).symm), own_chg h.row hc (fun b hb e => h.ne_row hgm (by rw [hb]; rw [show b = g from e])), hF _ h.fp, fun b hb => hF _ (h.frow b hb), fun b hb => hF _ (h.fbs b hb), h.nodup, ?_⟩
  intro j g' s' hg' hs'
  by_cases hij : i = j
  · subst hij
    rw [hg] at hg'
    injection hg' with hg'
    subst hg'
    rw [List.getElem?_set_self hil] at hs'
    injection hs' with hs'
    subst hs'
    exact hx
  · rw [List.getElem?_set_ne hij] at hs'
    have hne : g' ≠ g := by
      rintro rfl
      have l1 := (List.getElem?_eq_some_iff.1 hg)
      have l2 := (List.getElem?_eq_some_iff.1 hg')
      exact hij ((List.getElem_inj h.nodup).1 (l1.2.trans l2.2.symm))
    exact ((h.slot j g' s' hg' hs').chg hc (fun e => hne e) (fun b hb e => hb.2 (.inr (.inr ((show b = g from e) ▸ hgm))))).weak (fun b hb => ⟨hF _ hb.1, hb.2⟩)

/-- another root -/
theorem ArY.setRoot (h : ArY w F p nodes sl root A n c bs) (r : Int) : ArY (w.setCell ⟨p, 2, none⟩ (.int .i64 r)) F p nodes sl r A n c bs := by
  have hc := Chg.set1 w p 2 (.int .i64 r)
  refine ⟨h.len, h.blen, ?_, own_chg h.row hc (fun b hb e => h.row_p (by rw [hb]; rw [show b = p from e])), h.fp, h.frow, h.fbs, h.nodup, fun i g s hg hs => (h.slot i g s hg hs).chg hc (fun e => h.ne_p (List.mem_of_getElem? hg) e) (fun b hb e => hb.2 (.inl e))⟩
  have := h.blk.set_ 2 (.int .i64 r)
  exact this

/-- the empty slot's block -/
def slot0 (word : Int) : Array Value := #[.int .u64 word, .int .i64 0, .slice none 0 0, .int .i64 0, .slice none 0 0, .slice none 0 0, .slice none 0 0]
theorem slot0_is {w : World} {g : Nat} {word : Int} (C : Nat → Prop) (h : Blk w g 124 (slot0 word)) : SlotX w C g (word, Nd.zero) :=
  ⟨none, 0, 0, none, 0, 0, none, 0, 0, none, 0, 0, h, Bt.nil _ _, Tx.nil _ _, Tx.nil _ _, It.nil _ _⟩

/-- a slot more: its block g is new; the row has grown, perhaps into a new block; the struct's slice is the new one -/
theorem ArY.push {w1 w2 w3 : World} (h : ArY w F p nodes sl root A n c bs) {g : Nat} (hg : g = w.heap.size) (h1 : Below w.heap.size w w1) (k1 : Blk w1 g 124 (slot0 1))
    {A' : Option Addr} {c' : Nat} (hrow : w2.ownsRow 0 120 1 (.slice A' (n + 1) c') (n + 1) (bs.map ptr ++ [ptr g])) (hgr : w1.grownBy w2 (Value.slice A n c).ownBlock)
    (hat : (Value.slice A' (n + 1) c').ownBlock = (Value.slice A n c).ownBlock ∨ (Value.slice A' (n + 1) c').ownBlock = some w1.heap.size)
    (h3 : w3 = w2.setCell ⟨p, 1, none⟩ (.slice A' (n + 1) c')) :
    ArY w3 (fun b => F b ∨ w.heap.size ≤ b) p nodes (sl ++ [(1, Nd.zero)]) root A' (n + 1) c' (bs ++ [g]) ∧ Chg F w w3 := by
  have hpl : p < w.heap.size := h.blk.lt
  have hs1 := h1.size
  have hgl : g < w1.heap.size := k1.lt
  have hrow1 := own_below h.row h1
  have hpr : (Value.slice A n c).ownBlock ≠ some p := h.row_p
  have hgr' : (Value.slice A n c).ownBlock ≠ some g := own_blk_ne hrow1 k1 (by decide)
  have c2 : Chg (fun b => (Value.slice A n c).ownBlock = some b) w1 w2 := (Chg.refl _ _).grown hgr (fun b hb _ => hb)
  have c3 : Chg (One p) w2 w3 := by subst h3; exact Chg.set1 w2 p 1 _
  have hs2 := c2.size
  have hp2 : Blk w2 p 119 #[.int .i64 nodes, .slice A n c, .int .i64 root] := (h.blk.below h1).chg c2 hpr
  have hp3 : Blk w3 p 119 #[.int .i64 nodes, .slice A' (n + 1) c', .int .i64 root] := by subst h3; exact hp2.set_ 1 _
  have hrp : (Value.slice A' (n + 1) c').ownBlock ≠ some p := own_blk_ne hrow hp2 (by decide)
  have hrow3 := own_chg hrow c3 (fun b hb e => hrp (by rw [hb]; rw [show b = p from e]))
  have kg3 : Blk w3 g 124 (slot0 1) := (k1.chg c2 hgr').chg c3 (fun e => by have e : g = p := e; omega)
  have hch : Chg F w w3 := ((Chg.of_below (S := F) h1).trans c2 (fun b _ hb => h.frow b hb)).trans c3 (fun b _ hb => by have hb : b = p := hb; rw [hb]; exact h.fp)
  refine ⟨⟨?_, ?_, hp3, ?_, .inl h.fp, ?_, ?_, ?_, ?_⟩, hch⟩
  · have e1 : n = sl.length := h.len
    show n + 1 = (sl ++ [(1, Nd.zero)]).length
    simp [e1]
  · have e2 : bs.length = n := h.blen
    show (bs ++ [g]).length = n + 1
    simp [e2]
  · rw [List.map_append]; exact hrow3
  · intro b hb
    rcases hat with e | e
    · exact .inl (h.frow b (by rw [← e]; exact hb))
    · rw [e] at hb; injection hb with hb; exact .inr (by omega)
  · intro b hb
    rcases List.mem_append.1 hb with hb | hb
    · exact .inl (h.fbs b hb)
    · have : b = g := by simpa using hb
      exact .inr (by omega)
  · rw [List.nodup_append]
    refine ⟨h.nodup, by simp, fun a ha b hb e => ?_⟩
    have hb : b = g := by simpa using hb
    have := h.lt_bs ha
    omega
  · intro i g' s' hg' hs'
    have e1 : n = sl.length := h.len
    have e2 : bs.length = n := h.blen
    rcases Nat.lt_or_ge i n with hi | hi
    · rw [List.getElem?_append_left (by omega)] at hg' hs'
      have hgm : g' ∈ bs := List.mem_of_getElem? hg'
      have hx := (h.slot i g' s' hg' hs').lt
      have hx1 : SlotX w1 (fun b => (F b ∧ ¬ Mut p (.slice A n c) bs b) ∧ b < w.heap.size) g' s' := hx.chg (Chg.of_below (S := Nil) h1) (fun hf => hf) (fun _ _ hf => hf)
      have hx2 := hx1.chg c2 (fun e => h.ne_row hgm e) (fun b hb e => hb.1.2 (.inr (.inl e)))
      have hx3 := hx2.chg c3 (fun e => h.ne_p hgm e) (fun b hb e => hb.1.2 (.inl e))
      refine hx3.weak (fun b hb => ⟨.inl hb.1.1, fun hm => ?_⟩)
      rcases hm with hm | hm | hm
      · exact hb.1.2 (.inl hm)
      · rcases hat with e | e
        · exact hb.1.2 (.inr (.inl (by rw [← e]; exact hm)))
        · rw [e] at hm; injection hm with hm; omega
      · rcases List.mem_append.1 hm with hm | hm
        · exact hb.1.2 (.inr (.inr hm))
        · have : b = g := by simpa using hm
          omega
    · have hi2 : i = n := by
        have := (List.getElem?_eq_some_iff.1 hg').1
        simp at this; omega
      subst hi2
      rw [List.getElem?_append_right (by omega)] at hg' hs'
      have e4 : g' = g := by simpa [e2] using hg'.symm
      have e5 : s' = (1, Nd.zero) := by simpa [← e1] using hs'.symm
      subst e4; subst e5
      exact slot0_is _ kg3
end

/-- a block that is new is none of those that are written -/
theorem ArY.mut_lt {F : Nat → Prop} {w : World} {p : Nat} {nodes root : Int} {sl : List Slt} {A : Option Addr} {n c : Nat} {bs : List Nat} (h : ArY w F p nodes sl root A n c bs) {b : Nat} (hb : w.heap.size ≤ b) : ¬ Mut p (.slice A n c) bs b := by
  rintro (e | e | e)
  · have := h.blk.lt; omega
  · have := (own_lt h.row b e).2; omega
  · have := h.lt_bs e; omega
theorem SlotX.setWord {w : World} {C : Nat → Prop} {g : Nat} {s : Slt} (h : SlotX w C g s) (hg : ¬ C g) (x : Int) : SlotX (w.setCell ⟨g, 0, none⟩ (.int .u64 x)) C g (x, s.2) := by
  obtain ⟨hA, hn, hc, kA, kn, kc, vA, vn, vc, dA, dn, dc, h1, h2, h3, h4, h5⟩ := h
  have hch := Chg.set1 w g 0 (.int .u64 x)
  have hs : ∀ b, C b → ¬ One g b := fun b hb e => hg ((show b = g from e) ▸ hb)
  exact ⟨hA, hn, hc, kA, kn, kc, vA, vn, vc, dA, dn, dc, h1.set_ 0 _, h2.chg hch hs, h3.chg hch hs, h4.chg hch hs, h5.chg hch hs⟩
theorem SlotX.setHead {w : World} {C : Nat → Prop} {g : Nat} {s : Slt} (h : SlotX w C g s) (hg : ¬ C g) {A : Option Addr} {n c : Nat} {lev right : Int} {high : List UInt8} (hb : Bt w C A n c high) :
    SlotX (((w.setCell ⟨g, 1, none⟩ (.int .i64 lev)).setCell ⟨g, 2, none⟩ (.slice A n c)).setCell ⟨g, 3, none⟩ (.int .i64 right)) C g (s.1, ⟨lev, high, right, s.2.keys, s.2.vals, s.2.kids⟩) := by
  obtain ⟨hA, hn, hc, kA, kn, kc, vA, vn, vc, dA, dn, dc, h1, h2, h3, h4, h5⟩ := h
  have hch : Chg (One g) w (((w.setCell ⟨g, 1, none⟩ (.int .i64 lev)).setCell ⟨g, 2, none⟩ (.slice A n c)).setCell ⟨g, 3, none⟩ (.int .i64 right)) := ((Chg.set1 w g 1 _).setCell (p := ⟨g, 2, none⟩) (fun _ => rfl) _).setCell (p := ⟨g, 3, none⟩) (fun _ => rfl) _
  have hs : ∀ b, C b → ¬ One g b := fun b hb e => hg ((show b = g from e) ▸ hb)
  exact ⟨A, n, c, kA, kn, kc, vA, vn, vc, dA, dn, dc, ((h1.set_ 1 _).set_ 2 _).set_ 3 _, hb.chg hch hs, h3.chg hch hs, h4.chg hch hs, h5.chg hch hs⟩
theorem SlotX.setBody {w : World} {C : Nat → Prop} {g : Nat} {s : Slt} (h : SlotX w C g s) (hg : ¬ C g) {A B D : Option Addr} {n c m d l k : Nat} {keys vals : List (List UInt8)} {kids : List Int} (ha : Tx w C A n c keys) (hb : Tx w C B m d vals) (hd : It w C D l k kids) :
    SlotX (((w.setCell ⟨g, 4, none⟩ (.slice A n c)).setCell ⟨g, 5, none⟩ (.slice B m d)).setCell ⟨g, 6, none⟩ (.slice D l k)) C g (s.1, ⟨s.2.lev, s.2.high, s.2.right, keys, vals, kids⟩) := by
  obtain ⟨hA, hn, hc, kA, kn, kc, vA, vn, vc, dA, dn, dc, h1, h2, h3, h4, h5⟩ := h
  have hch : Chg (One g) w (((w.setCell ⟨g, 4, none⟩ (.slice A n c)).setCell ⟨g, 5, none⟩ (.slice B m d)).setCell ⟨g, 6, none⟩ (.slice D l k)) := ((Chg.set1 w g 4 _).setCell (p := ⟨g, 5, none⟩) (fun _ => rfl) _).setCell (p := ⟨g, 6, none⟩) (fun _ => rfl) _
  have hs : ∀ b, C b → ¬ One g b := fun b hb e => hg ((show b = g from e) ▸ hb)
  exact ⟨hA, hn, hc, A, n, c, B, m, d, D, l, k, ((h1.set_ 4 _).set_ 5 _).set_ 6 _, h2.chg hch hs, ha.chg hch hs, hb.chg hch hs, hd.chg hch hs⟩
theorem set3_chg (w : World) (g i j k : Nat) (u v x : Value) : Chg (One g) w (((w.setCell ⟨g, i, none⟩ u).setCell ⟨g, j, none⟩ v).setCell ⟨g, k, none⟩ x) :=
  ((Chg.set1 w g i _).setCell (p := ⟨g, j, none⟩) (fun _ => rfl) _).setCell (p := ⟨g, k, none⟩) (fun _ => rfl) _
end Go.Proofs.Ytgjphmlmndcaeaa

namespace Go.Proofs.Ytgjphmlmndcaeaa
open Go.RowKit

theorem run_loadBytes {P : Program} (w : World) (b : Nat) : ∀ (bs : List UInt8) (o : Nat) (acc : ByteArray), (∀ j u, (bvs bs)[j]? = some u → w.cell? ⟨b, o + j, none⟩ = some u) →
    (Extern.Bytes.loadBytes ⟨b, o, none⟩ bs.length acc).run P w = .ok ⟨acc.data ++ bs.toArray⟩ w
  | [], o, acc, _ => by
    obtain ⟨d⟩ := acc
    simp [Extern.Bytes.loadBytes]
  | c :: bs, o, acc, h => by
    have h0 : w.cell? ⟨b, o, none⟩ = some (.int .u8 c.toNat) := by simpa [bvs, bv] using h 0 (bv c) (by simp [bvs])
    have ih := run_loadBytes (P := P) w b bs (o + 1) (acc.push c) (fun j u hj => by
      have := h (j + 1) u (by simpa [bvs] using hj)
      rw [Nat.add_assoc, Nat.add_comm 1 j]; exact this)
    simp only [List.length_cons, Extern.Bytes.loadBytes, Sem.run_bind]
    simp only [run_load, h0, Result.andThen]
    have e : (Addr.mk b o none).add 1 = ⟨b, o + 1, none⟩ := by simp [Addr.add]
    have e2 : ((c.toNat : Int)).toNat.toUInt8 = c := by simp
    rw [e, e2, ih]
    congr 1
    obtain ⟨d⟩ := acc
    simp [ByteArray.push]

theorem run_bytesOf {P : Program} {w : World} {F : Nat → Prop} {A : Option Addr} {n c : Nat} {bs : List UInt8} (h : Rd w F 1 A n (bvs bs)) (hn : n = bs.length) :
    (Extern.Bytes.bytesOf (.slice A n c)).run P w = .ok ⟨bs.toArray⟩ w := by
  cases A with
  | none =>
    have h0 : n = 0 := by
      rcases Nat.eq_zero_or_pos n with h0 | h0
      · exact h0
      · obtain ⟨_, _, e, _⟩ := h.2 h0; cases e
    subst h0
    have : bs = [] := List.eq_nil_of_length_eq_zero hn.symm
    subst this
    simp [Extern.Bytes.bytesOf]
    rfl
  | some ad =>
    rcases Nat.eq_zero_or_pos n with h0 | h0
    · subst h0
      have : bs = [] := List.eq_nil_of_length_eq_zero hn.symm
      subst this
      simp [Extern.Bytes.bytesOf, Extern.Bytes.loadBytes]
      rfl
    · obtain ⟨b, o, e, _, hc⟩ := h.2 h0
      injection e with e
      subst e
      subst hn
      simp only [Extern.Bytes.bytesOf]
      rw [run_loadBytes w b bs o .empty hc]
      have e : ByteArray.empty.data ++ bs.toArray = bs.toArray := by
        show #[] ++ bs.toArray = bs.toArray
        simp
      rw [e]

/-- the library's comparison, over two slices of bytes -/
theorem run_compareSlices {P : Program} {w : World} {F G : Nat → Prop} {A B : Option Addr} {n m c d : Nat} {xs ys : List UInt8} (h : Rd w F 1 A n (bvs xs)) (hn : n = xs.length) (k : Rd w G 1 B m (bvs ys)) (hm : m = ys.length) :
    (Extern.BytealgCompare.compare #[.slice A n c, .slice B m d]).run P w = .ok (.int .i64 (Lib.compareBytes xs ys)) w := by
  change Sem.run P (do pure (goInt (Extern.BytealgCompare.cmp (← Extern.Bytes.bytesOf (.slice A n c)) (← Extern.Bytes.bytesOf (.slice B m d))))) w = _
  simp only [Sem.run_bind, Sem.run_pure, run_bytesOf h hn, run_bytesOf k hm, Result.andThen]
  rw [Lib.cmp_eq]
  rfl
end Go.Proofs.Ytgjphmlmndcaeaa

namespace Go.Proofs.Ytgjphmlmndcaeaa
open Go.RowKit

theorem u64load_any (b o : Nat) (x : Int) (w : World) (h : w.cell? ⟨b, o, none⟩ = some (.int .u64 x)) :
    Calls Try.prog 52 #[.pointer (some ⟨b, o, none⟩)] w fun e w' => e = .returned (.int .u64 x) ∧ w = w' := by
  have hl := run_call_load (P := Try.prog) Try.func82 (by kernel_rfl) (by kernel_rfl) (by kernel_rfl) .u64 (by kernel_rfl) h
  go_enter Try.func52, Try.ntmps52
  go_wp2
  go_ret
  exact ⟨rfl, rfl⟩
theorem i64load_any (b o : Nat) (x : Int) (w : World) (h : w.cell? ⟨b, o, none⟩ = some (.int .i64 x)) :
    Calls Try.prog 78 #[.pointer (some ⟨b, o, none⟩)] w fun e w' => e = .returned (.int .i64 x) ∧ w = w' := by
  have hl := run_call_load (P := Try.prog) Try.func98 (by kernel_rfl) (by kernel_rfl) (by kernel_rfl) .i64 (by kernel_rfl) h
  go_enter Try.func78, Try.ntmps78
  go_wp2
  go_ret
  exact ⟨rfl, rfl⟩
theorem u64store_any (b o : Nat) (u : Value) (y : Int) (w : World) (h : w.cell? ⟨b, o, none⟩ = some u) (hf : w.frozen? ⟨b, o, none⟩ = false) :
    Calls Try.prog 119 #[.pointer (some ⟨b, o, none⟩), .int .u64 y] w fun e w' => e = .returned (.tuple #[]) ∧ w.setCell ⟨b, o, none⟩ (.int .u64 y) = w' := by
  have hl := run_call_store (P := Try.prog) Try.func125 (by kernel_rfl) (by kernel_rfl) (by kernel_rfl) (by kernel_rfl) (k := .u64) (y := y) h hf
  go_enter Try.func119, Try.ntmps119
  go_wp2
  go_end0
  exact ⟨rfl, rfl⟩
theorem i64store_any (b o : Nat) (u : Value) (y : Int) (w : World) (h : w.cell? ⟨b, o, none⟩ = some u) (hf : w.frozen? ⟨b, o, none⟩ = false) :
    Calls Try.prog 89 #[.pointer (some ⟨b, o, none⟩), .int .i64 y] w fun e w' => e = .returned (.tuple #[]) ∧ w.setCell ⟨b, o, none⟩ (.int .i64 y) = w' := by
  have hl := run_call_store (P := Try.prog) Try.func102 (by kernel_rfl) (by kernel_rfl) (by kernel_rfl) (by kernel_rfl) (k := .i64) (y := y) h hf
  go_enter Try.func89, Try.ntmps89
  go_wp2
  go_end0
  exact ⟨rfl, rfl⟩
theorem u64add_any (b o : Nat) (x y : Int) (w : World) (h : w.cell? ⟨b, o, none⟩ = some (.int .u64 x)) (hf : w.frozen? ⟨b, o, none⟩ = false) :
    Calls Try.prog 121 #[.pointer (some ⟨b, o, none⟩), .int .u64 y] w fun e w' => e = .returned (.int .u64 (IntKind.u64.wrap (x + y))) ∧ w.setCell ⟨b, o, none⟩ (.int .u64 (IntKind.u64.wrap (x + y))) = w' := by
  obtain ⟨s, hs⟩ : ∃ s, s = IntKind.u64.wrap (x + y) := ⟨_, rfl⟩
  rw [← hs]
  have hl := run_call_add (P := Try.prog) Try.func126 (by kernel_rfl) (by kernel_rfl) (by kernel_rfl) .u64 (by kernel_rfl) (x := x) (y := y) (s := s) h hf (by rw [hs]; rfl)
  clear hs
  go_enter Try.func121, Try.ntmps121
  go_wp2
  go_ret
  exact ⟨rfl, rfl⟩
theorem u64cas_hit (b o : Nat) (x z : Int) (w : World) (h : w.cell? ⟨b, o, none⟩ = some (.int .u64 x)) (hf : w.frozen? ⟨b, o, none⟩ = false) :
    Calls Try.prog 118 #[.pointer (some ⟨b, o, none⟩), .int .u64 x, .int .u64 z] w fun e w' => e = .returned (.bool true) ∧ w.setCell ⟨b, o, none⟩ (.int .u64 z) = w' := by
  have hl := run_call_cas_hit (P := Try.prog) Try.func124 (by kernel_rfl) (by kernel_rfl) (by kernel_rfl) .u64 (by kernel_rfl) (y := z) h hf
  go_enter Try.func118, Try.ntmps118
  go_wp2
  go_ret
  exact ⟨rfl, rfl⟩
theorem u64cas_miss (b o : Nat) (x y z : Int) (w : World) (h : w.cell? ⟨b, o, none⟩ = some (.int .u64 x)) (hf : w.frozen? ⟨b, o, none⟩ = false) (hne : ¬ x = y) :
    Calls Try.prog 118 #[.pointer (some ⟨b, o, none⟩), .int .u64 y, .int .u64 z] w fun e w' => e = .returned (.bool false) ∧ w = w' := by
  have hl := run_call_cas_miss (P := Try.prog) Try.func124 (by kernel_rfl) (by kernel_rfl) (by kernel_rfl) .u64 (by kernel_rfl) (y := z) h hf hne
  go_enter Try.func118, Try.ntmps118
  go_wp2
  go_ret
  exact ⟨rfl, rfl⟩
theorem i64cas_hit (b o : Nat) (x z : Int) (w : World) (h : w.cell? ⟨b, o, none⟩ = some (.int .i64 x)) (hf : w.frozen? ⟨b, o, none⟩ = false) :
    Calls Try.prog 95 #[.pointer (some ⟨b, o, none⟩), .int .i64 x, .int .i64 z] w fun e w' => e = .returned (.bool true) ∧ w.setCell ⟨b, o, none⟩ (.int .i64 z) = w' := by
  have hl := run_call_cas_hit (P := Try.prog) Try.func109 (by kernel_rfl) (by kernel_rfl) (by kernel_rfl) .i64 (by kernel_rfl) (y := z) h hf
  go_enter Try.func95, Try.ntmps95
  go_wp2
  go_ret
  exact ⟨rfl, rfl⟩
theorem i64cas_miss (b o : Nat) (x y z : Int) (w : World) (h : w.cell? ⟨b, o, none⟩ = some (.int .i64 x)) (hf : w.frozen? ⟨b, o, none⟩ = false) (hne : ¬ x = y) :
    Calls Try.prog 95 #[.pointer (some ⟨b, o, none⟩), .int .i64 y, .int .i64 z] w fun e w' => e = .returned (.bool false) ∧ w = w' := by
  have hl := run_call_cas_miss (P := Try.prog) Try.func109 (by kernel_rfl) (by kernel_rfl) (by kernel_rfl) .i64 (by kernel_rfl) (y := z) h hf hne
  go_enter Try.func95, Try.ntmps95
  go_wp2
  go_ret
  exact ⟨rfl, rfl⟩

theorem compare_any (A B : Option Addr) (n m c d : Nat) (F G : Nat → Prop) (xs ys : List UInt8) (w : World) (h : Rd w F 1 A n (bvs xs)) (hn : n = xs.length) (k : Rd w G 1 B m (bvs ys)) (hm : m = ys.length) :
    Calls Try.prog 36 #[.slice A n c, .slice B m d] w fun e w' => e = .returned (.int .i64 (Lib.compareBytes xs ys)) ∧ w = w' := by
  have hl : (callFunc 66 #[.slice A n c, .slice B m d]).run Try.prog w = .ok (.value (.int .i64 (Lib.compareBytes xs ys))) w := by
    rw [run_callFunc_extern Try.func66 (by kernel_rfl) (by kernel_rfl) (by kernel_rfl) (e := Extern.BytealgCompare.compare) (by kernel_rfl), run_compareSlices h hn k hm]
    rfl
  clear h k hn hm
  go_enter Try.func36, Try.ntmps36
  go_wp2
  go_ret
  exact ⟨rfl, rfl⟩
end Go.Proofs.Ytgjphmlmndcaeaa
