/- WALKS: the leaves of a packed tree (pack). WALKS: the kids of an inner node (pack). WALKS: the loop over the kids of an inner node (pack). WALKS: a level above kids (pack). -/
import Derived.Test.YtgjphmlmndcaeaaPs08
set_option linter.unusedVariables false
set_option linter.unusedSimpArgs false
namespace Go.Proofs.Ytgjphmlmndcaeaa
open Go.RowKit

theorem Rd.next {w w' : World} {S D D' : Nat → Prop} {size n : Nat} {A : Option Addr} {xs : List Value} (h : Rd w D size A n xs) (hz : 0 < size) (hc : Chg S w w') (hs : ∀ b, D b → ¬ S b) (hD : ∀ b, b < w.heap.size → D b → D' b) : Rd w' D' size A n xs :=
  ((h.lt hz).chg hc (fun b hb => hs b hb.1)).weak (fun b hb => hD b hb.2 hb.1)
theorem SB.next {w w' : World} {S D D' : Nat → Prop} {v : Value} {bs : List UInt8} (h : SB w D v bs) (hc : Chg S w w') (hs : ∀ b, D b → ¬ S b) (hD : ∀ b, b < w.heap.size → D b → D' b) : SB w' D' v bs :=
  let ⟨A, n, c, h1, h2, h3, h4, h5⟩ := h; ⟨A, n, c, h1, h2, h3, h4, h5.next Nat.zero_lt_one hc hs hD⟩
theorem Hold.next {w w' : World} {S D D' : Nat → Prop} {base fill K m c : Nat} {t : TypeId} {gv : Value} {vs vals : List Value} {A : Option Addr} (h : Hold w D base t gv vs fill K m vals A c) (hc : Chg S w w') (hs : ∀ b, D b → ¬ S b) (hD : ∀ b, b < w.heap.size → D b → D' b) : Hold w' D' base t gv vs fill K m vals A c :=
  ⟨own_chg h.own hc (fun g hg => hs g (h.blk g hg)), fun g hg => hD g (own_lt h.own g hg).2 (h.blk g hg), h.len, fun i hi => let ⟨B, d, a, b, e, f⟩ := h.parts i hi; ⟨B, d, a, b, e, f.next (by omega) hc hs hD⟩, h.last.next (by omega) hc hs hD, h.mc, h.cm⟩
theorem Txs.next {w w' : World} {S D D' : Nat → Prop} {vs : List Value} {l : List Ent} (h : Txs w D vs l) (hc : Chg S w w') (hs : ∀ b, D b → ¬ S b) (hD : ∀ b, b < w.heap.size → D b → D' b) : Txs w' D' vs l :=
  fun i e he => let ⟨u, v, a, b, c, d⟩ := h i e he; ⟨u, v, a, b, c.next hc hs hD, d.next hc hs hD⟩

/-- the rows of a part's keys and values are texts -/
theorem rows2_tx {w : World} {base k fill mi : Nat} {D G : Nat → Prop} {vs : List Value} {l : List Ent} {kv vv : Value} {kus vus : List Value} (h : Rows2 w base ((vs.drop (k * fill * 2)).take (mi * 2)) mi mi kv vv kus vus) (ht : Txs w D vs l) (hkm : k * fill + mi ≤ l.length)
    (h1 : ∀ b, base ≤ b → G b) (h2 : ∀ b, D b → G b) : ∃ kA kc vA vc, kv = .slice kA mi kc ∧ vv = .slice vA mi vc ∧ Tx w G kA mi kc (((l.drop (k * fill)).take mi).map Prod.fst) ∧ Tx w G vA mi vc (((l.drop (k * fill)).take mi).map Prod.snd) := by
  obtain ⟨kA, kc, rfl, a1, a2⟩ := own_val h.k
  obtain ⟨vA, vc, rfl, b1, b2⟩ := own_val h.v
  have hl : ((l.drop (k * fill)).take mi).length = mi := by rw [List.length_take, List.length_drop]; omega
  have key : ∀ (i : Nat), i < mi → ∃ e : Ent, ((l.drop (k * fill)).take mi)[i]? = some e ∧ l[k * fill + i]? = some e := by
    intro i hi
    have : k * fill + i < l.length := by omega
    exact ⟨l[k * fill + i], by rw [List.getElem?_take, if_pos hi, List.getElem?_drop]; exact List.getElem?_eq_getElem this, List.getElem?_eq_getElem this⟩
  have idx : ∀ (i j : Nat), i < mi → j < 2 → ((vs.drop (k * fill * 2)).take (mi * 2))[2 * i + j]? = vs[2 * (k * fill + i) + j]? := by
    intro i j hi hj
    rw [List.getElem?_take, if_pos (by omega), List.getElem?_drop, show k * fill * 2 + (2 * i + j) = 2 * (k * fill + i) + j by omega]
  refine ⟨kA, kc, vA, vc, rfl, rfl, ⟨a1, a2, Lib.hid (by rw [List.length_map, hl]), kus, (Rd.of_own h.k).weak h1, fun i t ht' => ?_⟩, ⟨b1, b2, Lib.hid (by rw [List.length_map, hl]), vus, (Rd.of_own h.v).weak h1, fun i t ht' => ?_⟩⟩
  · have hi : i < mi := by have := (List.getElem?_eq_some_iff.1 ht').1; rw [List.length_map, hl] at this; exact this
    obtain ⟨e, e1, e2⟩ := key i hi
    rw [List.getElem?_map, e1] at ht'
    injection ht' with ht'
    subst ht'
    obtain ⟨u, v, q1, q2, q3, q4⟩ := ht _ e e2
    have hx := idx i 0 hi (by omega)
    rw [Nat.add_zero, Nat.add_zero] at hx
    exact ⟨u, by rw [h.ku i hi, hx]; exact q1, q3.weak h2⟩
  · have hi : i < mi := by have := (List.getElem?_eq_some_iff.1 ht').1; rw [List.length_map, hl] at this; exact this
    obtain ⟨e, e1, e2⟩ := key i hi
    rw [List.getElem?_map, e1] at ht'
    injection ht' with ht'
    subst ht'
    obtain ⟨u, v, q1, q2, q3, q4⟩ := ht _ e e2
    exact ⟨v, by rw [h.vu i hi, idx i 1 hi (by omega)]; exact q2, q4.weak h2⟩

/-- behind the node that has been told: one leaf more -/
theorem lv_next {w wq wx w' : World} {F F' : Nat → Prop} {p mm : Nat} {nodes root : Int} {done0 : List Slt} {f : Nat → Slt} {hi : Nat → List UInt8} {k : Nat} {o o' : Value} (h : Lv w wq F F' p mm nodes root done0 f hi k o) (hb : Below wq.heap.size wq wx)
    {s : Slt} {high : List UInt8} {id : Int} (hp : Put wx w' F' p mm nodes root ((done0 ++ (List.range k).map f) ++ [s]) w.heap.size o o' (((List.range k).map fun (i : Nat) => ((done0.length : Int) + (i : Int) + 1, hi i)) ++ [(id, high)]))
    (hs : s = f k) (hid : id = (done0.length : Int) + (k : Int) + 1) (hh : high = hi k) (hob : ∀ g, o.ownBlock = some g → w.heap.size ≤ g) : ∃ F'', Lv w w' F F'' p mm nodes root done0 f hi (k + 1) o' ∧ ∀ b, b < wx.heap.size → Rest F' mm o b → Rest F'' mm o' b := by
  obtain ⟨⟨F'', m1, m2, m3, m4⟩, hc⟩ := hp
  subst hs; subst hid; subst hh
  have hsz := h.chg.size
  refine ⟨F'', ⟨?_, ?_, ?_, fun b hb' => (m2 b hb').elim (fun h' => h.sub b h') (fun h' => .inr (by have := hb.size; omega))⟩, m4⟩
  · rw [List.range_succ, List.map_append, ← List.append_assoc]; exact m1
  · rw [List.range_succ, List.map_append]; exact m3
  · refine (h.chg.then hb).trans hc (fun b hb' hx => ?_)
    rcases hx with (hx | hx) | hx
    · exact (h.sub b hx).elim .inl (fun h' => by omega)
    · exact .inr hx
    · exact absurd (hob b hx) (by omega)

theorem small_part {l : List Ent} (hs : ∀ e ∈ l, e.1.length ≤ 1152921504606 ∧ e.2.length ≤ 1152921504606) (s m : Nat) (hm : m ≤ 1152921504606) (lev right : Int) (high : List UInt8) (hh : high.length ≤ 1152921504606) : Small ⟨lev, high, right, ((l.drop s).take m).map Prod.fst, ((l.drop s).take m).map Prod.snd, []⟩ := by
  have hl : ((l.drop s).take m).length ≤ m := by rw [List.length_take]; exact Nat.min_le_left _ _
  have hmem : ∀ e ∈ (l.drop s).take m, e ∈ l := fun e he => List.mem_of_mem_drop (List.mem_of_mem_take he)
  refine ⟨hh, ?_, ?_, by simp, fun t ht => ?_, fun t ht => ?_⟩
  · show (((l.drop s).take m).map Prod.fst).length ≤ _; rw [List.length_map]; omega
  · show (((l.drop s).take m).map Prod.snd).length ≤ _; rw [List.length_map]; omega
  · obtain ⟨e, he, rfl⟩ := List.mem_map.1 ht; exact (hs e (hmem e he)).1
  · obtain ⟨e, he, rfl⟩ := List.mem_map.1 ht; exact (hs e (hmem e he)).2
theorem betw_len (a b : List UInt8) : (betw a b).1.length ≤ b.length := by
  unfold betw; split
  · rw [List.length_take]; exact Nat.min_le_right _ _
  · simp

set_option maxRecDepth 100000 in
set_option maxHeartbeats 4000000 in
theorem leaves_any (F : Nat → Prop) (p mm : Nat) (nodes root : Int) (A : Option Addr) (n c : Nat) (l : List Ent) (fill M : Nat) (w : World) (hst : MakerSt w F p mm nodes root []) (hE : Ents w (Off F mm) A n l) (hnc : n ≤ c) (hcm : c ≤ maxLen)
    (h1 : 1 ≤ fill) (h2 : fill ≤ 1152921504606) (hn : n ≤ 1152921504606) (hpos : 0 < n) (hsm : ∀ e ∈ l, e.1.length ≤ 1152921504606 ∧ e.2.length ≤ 1152921504606) (hM : n ≤ M * fill ∧ M * fill < n + fill) (hMn : (M : Int) ≤ nodes) (hn1 : nodes ≤ 65536) :
    Calls Try.prog 61 #[.pointer (some ⟨mm, 0, none⟩), .slice A n c, .int .i64 fill] w fun e w' => ∃ F' v, e = .returned v ∧ Lv w w' F F' p mm nodes root [] (leafS fill l M) (hiAt fill l) M v := by
  obtain ⟨i0, hi0, iz0, iz1, iz2⟩ := info_parts bytes_info
  have HST := Lib.hid hst
  have HL := Lib.hid hE.len
  obtain ⟨_, vs, hrd, htx⟩ := hE
  have HR := Lib.hid hrd
  have HT := Lib.hid (show Txs w (Off F mm) vs l from htx)
  have HS := Lib.hid hsm
  clear hst hrd htx hsm
  go_enter Try.func61, Try.ntmps61
  go_wp2_with (go_at_call 90; refine (groupsE_any A n c fill (Off F mm) vs w HR.out hnc hcm h1 h2 hn).mono ?_; rintro e w0 ⟨K, vals, A', m, c', gv, rfl, g1, g2, g3, g4, g5, g6, g7, g8, g9, hb0⟩; obtain ⟨r, cp, hgv, hbr, hlr⟩ := g1.form (by omega); subst hgv)
  have hm0 : 0 < m := by rcases g6 with h | h; subst h; simp at g4; omega; exact h
  have hMK : M = K + 1 := by
    have a1 : K * fill < M * fill := by omega
    have a2 : M * fill < (K + 2) * fill := by rw [Nat.add_mul]; omega
    have a3 := Nat.lt_of_mul_lt_mul_right a1
    have a4 := Nat.lt_of_mul_lt_mul_right a2
    omega
  subst hMK
  have hrest0 : ∀ b, Off F mm b → Rest F mm (.slice none 0 0) b := fun b h => ⟨h, by simp [Value.ownBlock]⟩
  have H0 := Lib.hid (show Hold w0 (Rest F mm (.slice none 0 0)) w.heap.size 37 (.slice (some ⟨r, 0, none⟩) (K + 1) cp) vs fill K m vals A' c' from ⟨g1, fun g hg => by have hg : some r = some g := hg; injection hg with hg; subst hg; exact hrest0 _ ⟨fun h => by have := HST.out.2.1 _ h; omega, by have := HST.out.2.2.1; omega⟩, g2, fun i hi => let ⟨B, d, a, b, e, f⟩ := g3 i hi; ⟨B, d, a, b, e, f.weak hrest0⟩, g9.weak hrest0, g7, g8⟩)
  have HN := Lib.hid g4
  have HM := Lib.hid g5
  have HB0 := Lib.hid hb0
  clear g1 g2 g3 g4 g5 g6 g9 hb0
  go_loopg [7, 20] (K + 1) (fun g' out i wr => ∃ (k : Nat) (o : Value) (F' : Nat → Prop), g' = K + 1 - k ∧ k ≤ K + 1 ∧ i = .int .i64 k ∧ o = out ∧ Lv w wr F F' p mm nodes root [] (leafS fill l (K + 1)) (hiAt fill l) k o ∧ Hold wr (Rest F' mm o) w.heap.size 37 (.slice (some ⟨r, 0, none⟩) (K + 1) cp) vs fill K m vals A' c' ∧ Txs wr (Rest F' mm o) vs l)
  case atStart => exact ⟨0, _, F, by omega, by omega, rfl, rfl, ⟨HST.out.below HB0.out, KidRow.nil _ _ _, Chg.of_below HB0.out, fun b hb => .inl hb⟩, H0.out, (HT.out.below HB0.out).next (Chg.refl Nil _) (fun _ _ h => h) (fun b _ h => hrest0 b h)⟩
  case round =>
    obtain ⟨k, o, F', hg, hk, rfl, rfl, hlv, hho, htx⟩ := hrel
    have HG := Lib.hid hg
    have HLV := Lib.hid hlv
    have HHO := Lib.hid hho
    have HTX := Lib.hid htx
    clear hg hlv hho htx
    rename World => wq
    by_cases hlt : k < K + 1
    · obtain ⟨r', cp', B, mi, d, hr', hrl, hrD, hmi, hcell, hd1, hd2, hpr⟩ := HHO.out.at_ hlt
      injection hr' with hr' _ hr''
      injection hr' with hr'
      injection hr' with hr'
      subst hr'; subst hr''
      have HMI := Lib.hid hmi
      have HPR := Lib.hid hpr
      clear hmi hpr
      have hkm : k * fill + mi ≤ l.length := by
        have a1 := HL.out
        have a2 := HN.out
        have a3 := HMI.out
        by_cases hk' : k < K
        · rw [if_pos hk'] at a3
          have a4 : (k + 1) * fill ≤ K * fill := Nat.mul_le_mul_right _ hk'
          rw [Nat.add_mul] at a4
          omega
        · rw [if_neg hk'] at a3
          obtain rfl : k = K := by omega
          omega
      have hmi2 : mi ≤ 1152921504606 := by have := HL.out; omega
      have hmi0 : 0 < mi := by have a3 := HMI.out; rw [a3]; split <;> omega
      have HKM := Lib.hid hkm
      clear hkm hd2
      have HOB : Hid (∀ g, o.ownBlock = some g → w.heap.size ≤ g ∧ Off F' mm g) := Lib.hid (by obtain ⟨us, a, b, _⟩ := HLV.out.row; exact fun g hg => ⟨(own_lt a g hg).1, b g hg⟩)
      have HSZ := Lib.hid HLV.out.chg.size
      have HKN : Hid (((List.range k).map (leafS fill l (K + 1))).length = k) := Lib.hid (by simp)
      go_wp2
      refine leaves_in (Rest F' mm o) vs l B mi d k fill wq hmi2 hd1 _ HPR.out HTX.out HKM.out ?_
      intro v13 v28 v29 v30 v31 v32 v33 v34 v35 v36 v37 v38 v39 v40 v41 v42 v43 v44 v45 v46 v47 v48 v49 kv vv kus vus wz hbk hrw hbz
      have HBK := Lib.hid hbk
      have HBZ := Lib.hid hbz
      obtain ⟨kA, kc, vA, vc, rfl, rfl, tk, tv⟩ := rows2_tx (G := Off F' mm) hrw (HTX.out.below hbz) HKM.out (fun b hb => ⟨fun h => by have := HLV.out.st.2.1 b h; omega, by have := HLV.out.st.2.2.1; omega⟩) (fun b hb => hb.1)
      have HTQ : Hid ((∀ (w5 : World), Below wz.heap.size wz w5 → ∀ u, Tx (w5.setCell ⟨wq.heap.size, 1, none⟩ u) (Off F' mm) kA mi kc (((l.drop (k * fill)).take mi).map Prod.fst)) ∧ (∀ (w5 : World), Below wz.heap.size wz w5 → ∀ u, Tx (w5.setCell ⟨wq.heap.size, 1, none⟩ u) (Off F' mm) vA mi vc (((l.drop (k * fill)).take mi).map Prod.snd))) := Lib.hid (by
        obtain ⟨kA', kc', vA', vc', e1, e2, tk', tv'⟩ := rows2_tx (G := fun b => Off F' mm b ∧ b ≠ wq.heap.size) hrw (Txs.next HTX.out (Chg.of_below (S := Nil) hbz) (fun _ _ h => h) (D' := fun b => Rest F' mm o b ∧ b < wq.heap.size) (fun b hb h => ⟨h, hb⟩)) HKM.out (fun b hb => ⟨⟨fun h => by have := HLV.out.st.2.1 b h; omega, by have := HLV.out.st.2.2.1; omega⟩, by omega⟩) (fun b hb => ⟨hb.1.1, by omega⟩)
        injection e1 with e1 _ e1'
        injection e2 with e2 _ e2'
        subst e1; subst e1'; subst e2; subst e2'
        exact ⟨fun w5 h5 u => ((tk'.below h5).chg (Chg.set1 _ _ _ _) (fun b hb e => hb.2 e)).weak (fun b hb => hb.1), fun w5 h5 u => ((tv'.below h5).chg (Chg.set1 _ _ _ _) (fun b hb e => hb.2 e)).weak (fun b hb => hb.1)⟩)
      have HTK := Lib.hid tk
      have HTV := Lib.hid tv
      have hqR : Rest F' mm o wq.heap.size := ⟨⟨fun h => by have := HLV.out.st.2.1 _ h; omega, by have := HLV.out.st.2.2.1; omega⟩, fun e => by obtain ⟨us, a, _⟩ := HLV.out.row; have := (own_lt a _ e).2; omega⟩
      have HQR := Lib.hid hqR
      clear hbk hrw hbz tk tv hqR
      by_cases hmore : k < K
      · have hmf : Hid (mi = fill) := Lib.hid (by have := HMI.out; rw [if_pos hmore] at this; exact this)
        obtain ⟨r2, cp2, B2, mi2, d2, hr2, _, _, hmi2', hcell2, _, _, hpr2⟩ := HHO.out.at_ (show k + 1 < K + 1 by omega)
        injection hr2 with hr2 _ hr2'
        injection hr2 with hr2
        injection hr2 with hr2
        subst hr2; subst hr2'
        have hm2 : 0 < mi2 := by rw [hmi2']; split <;> omega
        have hlk : (k + 1) * fill + mi2 ≤ l.length := by
          have a1 := HL.out
          have a2 := HN.out
          by_cases hk' : k + 1 < K
          · rw [if_pos hk'] at hmi2'
            have a4 : (k + 1 + 1) * fill ≤ K * fill := Nat.mul_le_mul_right _ hk'
            rw [Nat.add_mul (k + 1)] at a4
            omega
          · rw [if_neg hk'] at hmi2'
            obtain rfl : k + 1 = K := by omega
            omega
        have HLK := Lib.hid hlk
        obtain ⟨b, o1, Ak, nk, ck, Av, nv, cv, rfl, hDb, e1, e2, c1', c2', ea, hea, sa, _⟩ := part_at HPR.out HTX.out HKM.out (j := mi - 1) (by omega)
        obtain ⟨b3, o3, Bk, nk3, ck3, Bv, nv3, cv3, rfl, hDb3, f1, f2, d1', d2', eb, heb, sb, _⟩ := part_at hpr2 HTX.out hlk (j := 0) hm2
        rw [Nat.zero_mul, Nat.add_zero] at d1'
        have C1 := Lib.hid (bkeep HBZ.out c1')
        have C2 := Lib.hid (bkeep HBZ.out hcell2)
        have C3 := Lib.hid (bkeep HBZ.out d1')
        have la : ea.1.length ≤ 1152921504606 := (HS.out _ (List.mem_of_getElem? hea)).1
        have lb : eb.1.length ≤ 1152921504606 := (HS.out _ (List.mem_of_getElem? heb)).1
        have HSA := Lib.hid (sa.below HBZ.out).bt
        have HSB := Lib.hid (sb.below HBZ.out).bt
        have hhi : Hid (hiAt fill l k = (betw ea.1 eb.1).1) := Lib.hid (by
          have q1 : l.getD ((k + 1) * fill - 1) ([], []) = ea := by
            rw [show (k + 1) * fill - 1 = k * fill + (mi - 1) by have := hmf.out; rw [Nat.add_mul]; omega, List.getD_eq_getElem?_getD, hea]; rfl
          have q2 : l.getD ((k + 1) * fill) ([], []) = eb := by
            rw [List.getD_eq_getElem?_getD]; rw [Nat.add_zero] at heb; rw [heb]; rfl
          unfold hiAt
          rw [if_pos (by omega), q1, q2])
        clear hlk hmi2' hpr2 hcell2 c1' c2' d1' d2' e1 e2 f1 f2 hea heb sa sb hDb hDb3
        have hKK : K ≤ 65536 := by omega
        go_wp2
        refine leaf_high r K cp k b o1 mi d wq.heap.size b3 o3 mi2 d2 Ak Bk nk nk3 ck ck3 _ _ ea.1 eb.1 wz _ (Lib.hid (fun _ _ _ _ h => h)) hmore (by omega) hmi0 hmi2 hm2 C1.out C2.out C3.out HSA HSB la lb _ _ _ _ _ HBK ?_
        intro v56 v57 v58 v59 v60 v61 v62 v63 v64 v65 v66 v67 v68 v69 v70 v71 v72 v73 v74 v75 v76 K5 n5 c5 w5 hk5 hb5
        have HB5 := Lib.hid hb5
        have HBX : Hid (Below wq.heap.size wq (w5.setCell ⟨wq.heap.size, 1, none⟩ (.slice K5 n5 c5))) := Lib.hid ((HBZ.out.trans (hb5.mono HBZ.out.size)).setCell (p := ⟨wq.heap.size, 1, none⟩) (Nat.le_refl _) _)
        have HBK5 : Hid (Blk (w5.setCell ⟨wq.heap.size, 1, none⟩ (.slice K5 n5 c5)) wq.heap.size 93 #[.int .i64 0, .slice K5 n5 c5, .int .i64 0, .slice kA mi kc, .slice vA mi vc, .slice none 0 0]) := Lib.hid ((HBK.out.below hb5).set_ 1 _)
        have hqz : wq.heap.size < wz.heap.size := HBK.out.lt
        have hcx : Chg (One wq.heap.size) w5 (w5.setCell ⟨wq.heap.size, 1, none⟩ (.slice K5 n5 c5)) := Chg.set1 _ _ _ _
        have HT5 := Lib.hid (((hk5.weak (G := fun b => Rest F' mm o b ∧ b ≠ wq.heap.size) (fun b hb => ⟨⟨⟨fun h => by have := HLV.out.st.2.1 b h; have hb : wz.heap.size ≤ b := hb; omega, by have := HLV.out.st.2.2.1; have hb : wz.heap.size ≤ b := hb; omega⟩, fun e => by obtain ⟨us, a, _⟩ := HLV.out.row; have := (own_lt a _ e).2; have hb : wz.heap.size ≤ b := hb; omega⟩, by have hb : wz.heap.size ≤ b := hb; omega⟩)).chg hcx (fun b hb e => hb.2 e)).weak (G := Rest F' mm o) (fun b hb => hb.1))
        clear hk5 hb5 hcx
        have H5K : Hid (Tx (w5.setCell ⟨wq.heap.size, 1, none⟩ (.slice K5 n5 c5)) (Off F' mm) kA mi kc (((l.drop (k * fill)).take mi).map Prod.fst)) := Lib.hid (HTQ.out.1 _ HB5.out (.slice K5 n5 c5))
        have H5V : Hid (Tx (w5.setCell ⟨wq.heap.size, 1, none⟩ (.slice K5 n5 c5)) (Off F' mm) vA mi vc (((l.drop (k * fill)).take mi).map Prod.snd)) := Lib.hid (HTQ.out.2 _ HB5.out (.slice K5 n5 c5))
        go_wp2
        refine leafp F' p mm nodes root ([] ++ (List.range k).map (leafS fill l (K + 1))) ⟨0, (betw ea.1 eb.1).1, 0, ((l.drop (k * fill)).take mi).map Prod.fst, ((l.drop (k * fill)).take mi).map Prod.snd, []⟩ K5 kA vA none n5 c5 mi kc mi vc 0 0 true wq.heap.size (w5.setCell ⟨wq.heap.size, 1, none⟩ (.slice K5 n5 c5)) w.heap.size o _ _ (Lib.hid (fun _ _ _ _ h => h)) (HLV.out.st.below HBX.out) (by simp; omega) hn1 (by simp; omega) (by have := HSZ.out; have := HBX.out.size; omega) HBK5.out HQR.out HT5.out H5K.out H5V.out (It.nil _ _) (small_part HS.out _ _ hmi2 _ _ _ (Nat.le_trans (betw_len _ _) lb)) (HLV.out.row.below HBX.out) ?_
        intro v77 v78 v79 v80 v81 v82 v83 v84 v85 v86 v87 o' w' hput
        obtain ⟨F'', lv2, hr2⟩ := lv_next HLV.out HBX.out hput (by
          have e1 : mi = fill := hmf.out
          have e2 := hhi.out
          simp only [leafS, e1, e2, if_pos (show k + 1 < K + 1 by omega), if_true, List.nil_append, List.length_map, List.length_range]) (by simp) hhi.out.symm (fun g hg => (HOB.out g hg).1)
        have HPC := Lib.hid hput.chg
        have HLV2 := Lib.hid lv2
        have HR2 := Lib.hid hr2
        clear hput lv2 hr2
        have hdis : ∀ b, Rest F' mm o b → ¬ ((F' b ∨ b = mm) ∨ o.ownBlock = some b) := fun b hb h => h.elim (fun h => h.elim hb.1.1 hb.1.2) hb.2
        go_wp2
        go_roundg (K + 1 - (k + 1))
        case measure => have := HG.out; omega
        case rel => exact ⟨k + 1, o', F'', rfl, by omega, by go_num, rfl, HLV2.out, (HHO.out.below HBX.out).next HPC.out hdis HR2.out, (HTX.out.below HBX.out).next HPC.out hdis HR2.out⟩
      · obtain rfl : k = K := by omega
        have hlm : l.length = k * fill + mi := by have a1 := HL.out; have a2 := HN.out; have a3 := HMI.out; rw [if_neg (by omega)] at a3; omega
        have hmf : mi ≤ fill := by have a2 := HM.out; have a3 := HMI.out; rw [if_neg (by omega)] at a3; omega
        have HLM := Lib.hid hlm
        clear hlm
        go_wp2
        refine leafp F' p mm nodes root ([] ++ (List.range k).map (leafS fill l (k + 1))) ⟨0, [], 0, ((l.drop (k * fill)).take mi).map Prod.fst, ((l.drop (k * fill)).take mi).map Prod.snd, []⟩ none kA vA none 0 0 mi kc mi vc 0 0 false wq.heap.size wz w.heap.size o _ _ (Lib.hid (fun _ _ _ _ h => h)) (HLV.out.st.below HBZ.out) (by simp; omega) hn1 (by simp; omega) (by have := HSZ.out; have := HBZ.out.size; omega) HBK.out HQR.out (Bt.nil _ _) HTK.out HTV.out (It.nil _ _) (small_part HS.out _ _ hmi2 _ _ _ (by simp)) (HLV.out.row.below HBZ.out) ?_
        intro v77 v78 v79 v80 v81 v82 v83 v84 v85 v86 v87 o' w' hput
        obtain ⟨F'', lv2, hr2⟩ := lv_next HLV.out HBZ.out hput (by
          have e1 : (l.drop (k * fill)).take fill = (l.drop (k * fill)).take mi := by
            have := HLM.out
            rw [List.take_of_length_le (by rw [List.length_drop]; omega), List.take_of_length_le (by rw [List.length_drop]; omega)]
          have e2 : hiAt fill l k = [] := by unfold hiAt; rw [if_neg (by have := HLM.out; rw [Nat.add_mul]; omega)]
          simp only [leafS, e1, e2, if_neg (Nat.lt_irrefl _), Bool.false_eq_true, if_false]) (by simp) (by unfold hiAt; rw [if_neg (by have := HLM.out; rw [Nat.add_mul]; omega)]) (fun g hg => (HOB.out g hg).1)
        have HPC := Lib.hid hput.chg
        have HLV2 := Lib.hid lv2
        have HR2 := Lib.hid hr2
        clear hput lv2 hr2
        have hdis : ∀ b, Rest F' mm o b → ¬ ((F' b ∨ b = mm) ∨ o.ownBlock = some b) := fun b hb h => h.elim (fun h => h.elim hb.1.1 hb.1.2) hb.2
        go_wp2
        go_roundg (k + 1 - (k + 1))
        case measure => have := HG.out; omega
        case rel => exact ⟨k + 1, o', F'', rfl, by omega, by go_num, rfl, HLV2.out, (HHO.out.below HBZ.out).next HPC.out hdis HR2.out, (HTX.out.below HBZ.out).next HPC.out hdis HR2.out⟩
    · obtain rfl : k = K + 1 := by omega
      go_wp2
      go_ret
      exact ⟨F', _, rfl, HLV.out⟩
end Go.Proofs.Ytgjphmlmndcaeaa

namespace Go.Proofs.Ytgjphmlmndcaeaa
open Go.RowKit

/-- two rows that are filled side by side from a part's kids -/
structure RowsK (w : World) (base : Nat) (pxs : List Value) (j i : Nat) (kv dv : Value) (kus dus : List Value) : Prop where
  k : w.ownsRow base 41 1 kv j kus
  v : w.ownsRow base 3 1 dv i dus
  dis : ∀ g, kv.ownBlock = some g → dv.ownBlock ≠ some g
  ku : ∀ a, a < j → kus[a]? = pxs[2 * a + 1]?
  vu : ∀ a, a < i → dus[a]? = pxs[2 * a]?
section
variable {w w2 w' : World} {base : Nat} {pxs : List Value} {j i : Nat} {kv dv v2 u : Value} {kus dus : List Value}
theorem RowsK.nil (w : World) (base : Nat) (pxs : List Value) : RowsK w base pxs 0 0 (.slice none 0 0) (.slice none 0 0) [] [] :=
  ⟨World.ownsRow_nil _ _ _ _, World.ownsRow_nil _ _ _ _, fun g h => by simp [Value.ownBlock] at h, fun a ha => absurd ha (by omega), fun a ha => absurd ha (by omega)⟩
theorem RowsK.below (h : RowsK w base pxs j i kv dv kus dus) (hb : Below w.heap.size w w') : RowsK w' base pxs j i kv dv kus dus := ⟨own_below h.k hb, own_below h.v hb, h.dis, h.ku, h.vu⟩
theorem RowsK.far (h : RowsK w base pxs j i kv dv kus dus) {b : Nat} (o : Nat) (u : Value) (hb : b < base) : RowsK (w.setCell ⟨b, o, none⟩ u) base pxs j i kv dv kus dus :=
  ⟨own_chg h.k (Chg.set1 w b o u) (fun g hg e => by have := (own_lt h.k g hg).1; have e : g = b := e; omega), own_chg h.v (Chg.set1 w b o u) (fun g hg e => by have := (own_lt h.v g hg).1; have e : g = b := e; omega), h.dis, h.ku, h.vu⟩
theorem RowsK.key (h : RowsK w base pxs j i kv dv kus dus) (ho : w2.ownsRow base 41 1 v2 (j + 1) (kus ++ [u])) (hg : w.grownBy w2 kv.ownBlock) (hat : v2.ownBlock = kv.ownBlock ∨ v2.ownBlock = some w.heap.size)
    (hu : pxs[2 * j + 1]? = some u) : RowsK w2 base pxs (j + 1) i v2 dv (kus ++ [u]) dus :=
  ⟨ho, own_chg h.v (Chg.of_grown hg) (fun g hv hk => h.dis g hk hv), fun g hk hv => hat.elim (fun e => h.dis g (e ▸ hk) hv) (fun e => by rw [e] at hk; injection hk with hk; have := (own_lt h.v g hv).2; omega), row_push (f := fun a => 2 * a + 1) h.ku (by have := h.k.1; omega) hu, h.vu⟩
theorem RowsK.kid (h : RowsK w base pxs j i kv dv kus dus) (ho : w2.ownsRow base 3 1 v2 (i + 1) (dus ++ [u])) (hg : w.grownBy w2 dv.ownBlock) (hat : v2.ownBlock = dv.ownBlock ∨ v2.ownBlock = some w.heap.size)
    (hu : pxs[2 * i]? = some u) : RowsK w2 base pxs j (i + 1) kv v2 kus (dus ++ [u]) :=
  ⟨own_chg h.k (Chg.of_grown hg) (fun g hk hv => h.dis g hk hv), ho, fun g hk hv => hat.elim (fun e => h.dis g hk (e ▸ hv)) (fun e => by rw [e] at hv; injection hv with hv; have := (own_lt h.k g hk).2; omega), h.ku, row_push (f := fun a => 2 * a) h.vu (by have := h.v.1; omega) hu⟩
end

/-- the numbers and highs of kids -/
def Kds (w : World) (D : Nat → Prop) (us : List Value) (ks : List (Int × List UInt8)) : Prop := ∀ (i : Nat) (k : Int × List UInt8), ks[i]? = some k → us[2 * i]? = some (.int .i64 k.1) ∧ ∃ u, us[2 * i + 1]? = some u ∧ SB w D u k.2
theorem Kds.next {w w' : World} {S D D' : Nat → Prop} {us : List Value} {ks : List (Int × List UInt8)} (h : Kds w D us ks) (hc : Chg S w w') (hs : ∀ b, D b → ¬ S b) (hD : ∀ b, b < w.heap.size → D b → D' b) : Kds w' D' us ks :=
  fun i k hk => let ⟨a, u, b, c⟩ := h i k hk; ⟨a, u, b, c.next hc hs hD⟩
theorem Kds.below {w w' : World} {D : Nat → Prop} {us : List Value} {ks : List (Int × List UInt8)} (h : Kds w D us ks) (hb : Below w.heap.size w w') : Kds w' D us ks := h.next (Chg.of_below (S := Nil) hb) (fun _ _ h => h) (fun _ _ h => h)

theorem kid_at {w : World} {D : Nat → Prop} {us : List Value} {ks : List (Int × List UInt8)} {B : Option Addr} {s m j : Nat} (hr : Rd w D 2 B m ((us.drop (s * 2)).take (m * 2))) (ht : Kds w D us ks) (hm : s + m ≤ ks.length) (hj : j < m) :
    ∃ b o id Ah nh ch, B = some ⟨b, o, none⟩ ∧ D b ∧ ((us.drop (s * 2)).take (m * 2))[2 * j]? = some (.int .i64 id) ∧ ((us.drop (s * 2)).take (m * 2))[2 * j + 1]? = some (.slice Ah nh ch) ∧ w.cell? ⟨b, o + j * 2, none⟩ = some (.int .i64 id) ∧ w.cell? ⟨b, o + j * 2 + 1, none⟩ = some (.slice Ah nh ch) ∧ ∃ x : Int × List UInt8, ks[s + j]? = some x ∧ id = x.1 ∧ SB w D (.slice Ah nh ch) x.2 := by
  obtain ⟨b, o, u, v, e, hb, e1, e2, c1, c2⟩ := hr.at2 hj
  have hl : s + j < ks.length := by omega
  obtain ⟨a1, v', a2, s2⟩ := ht (s + j) _ (List.getElem?_eq_getElem hl)
  have q1 := e1
  have q2 := e2
  rw [List.getElem?_take, if_pos (by omega), List.getElem?_drop, show s * 2 + 2 * j = 2 * (s + j) by omega, a1] at q1
  rw [List.getElem?_take, if_pos (by omega), List.getElem?_drop, show s * 2 + (2 * j + 1) = 2 * (s + j) + 1 by omega, a2] at q2
  injection q1 with q1
  injection q2 with q2
  subst q1; subst q2
  obtain ⟨Av, nv, cv, rfl, t2⟩ := s2
  rw [Nat.mul_comm 2 j] at c1 c2
  rw [← Nat.add_assoc] at c2
  exact ⟨b, o, _, Av, nv, cv, e, hb, e1, e2, c1, c2, _, List.getElem?_eq_getElem hl, rfl, ⟨_, _, _, rfl, t2⟩⟩

noncomputable def abKeyC : Code := codeOr (Try.f62.body.bind (regionAt 12))
set_option maxRecDepth 100000 in
set_option maxHeartbeats 4000000 in
theorem ab_key (b o mi d q j : Nat) (base : Nat) (kv : Value) (n : Nat) (kus : List Value) (Ah : Option Addr) (nh ch : Nat) (w : World) {u0 u1 u2 u3 u4 u5 u6 u7 u8 u9 u10 u11 u15 u16 u17 u18 u19 u20 u21 u22 u23 u24 u25 u26 u27 u28 u29 u30 u31 u32 u33 u34 u35 u36 u37 u38 u39 u40 u41 u42 u43 u44 u45 u46 u47 u48 u49 u50 u51 u52 u53 u54 u55 u56 u57 u58 u59 u60 u61 u62 u63 u64 u65 u66 u67 u68 u69 u70 u71 u72 u73 u74 u75 u76 u77 u78 u79 u80 u81 u82 u83 u84 u85 u86 : Value} (Q : Exit → Act → World → Prop) (HQP : Hid (∀ c t (a : Act) w, Q (.panic c) ⟨t, a.defers⟩ w → Q (.panic c) a w))
    (hj : 1 ≤ j) (hjm : j ≤ mi) (hm : mi ≤ 1152921504606) (hn : n ≤ 1152921504606) (hbase : base ≤ w.heap.size) (hqb : q < base) (hbb : b < base)
    (c1 : w.cell? ⟨b, o + (j - 1) * 2 + 1, none⟩ = some (.slice Ah nh ch)) (c2 : w.cell? ⟨q, 3, none⟩ = some kv) (cf : ∀ o, w.frozen? ⟨q, o, none⟩ = false) (hown : w.ownsRow base 41 1 kv n kus)
    (hexit : ∀ (v38 v39 v40 v41 v42 v43 v44 v45 v46 v47 v48 v49 v50 : Value) (v2 : Value) (wa w2 : World), Below w.heap.size w wa → w2.ownsRow base 41 1 v2 (n + 1) (kus ++ [.slice Ah nh ch]) → wa.grownBy w2 kv.ownBlock → (v2.ownBlock = kv.ownBlock ∨ v2.ownBlock = some wa.heap.size) → Q .normal ⟨(u0 :: u1 :: u2 :: u3 :: u4 :: u5 :: u6 :: u7 :: u8 :: u9 :: u10 :: u11 :: .slice (some ⟨b, o, none⟩) mi d :: .pointer (some ⟨q, 0, none⟩) :: .int .i64 j :: u15 :: u16 :: u17 :: u18 :: u19 :: u20 :: u21 :: u22 :: u23 :: u24 :: u25 :: u26 :: u27 :: u28 :: u29 :: u30 :: u31 :: u32 :: u33 :: u34 :: u35 :: u36 :: u37 :: v38 :: v39 :: v40 :: v41 :: v42 :: v43 :: v44 :: v45 :: v46 :: v47 :: v48 :: v49 :: v50 :: u51 :: u52 :: u53 :: u54 :: u55 :: u56 :: u57 :: u58 :: u59 :: u60 :: u61 :: u62 :: u63 :: u64 :: u65 :: u66 :: u67 :: u68 :: u69 :: u70 :: u71 :: u72 :: u73 :: u74 :: u75 :: u76 :: u77 :: u78 :: u79 :: u80 :: u81 :: u82 :: u83 :: u84 :: u85 :: u86 :: []).toArray, []⟩ (w2.setCell ⟨q, 3, none⟩ v2)) :
    Code.wp Try.prog abKeyC Q ⟨(u0 :: u1 :: u2 :: u3 :: u4 :: u5 :: u6 :: u7 :: u8 :: u9 :: u10 :: u11 :: .slice (some ⟨b, o, none⟩) mi d :: .pointer (some ⟨q, 0, none⟩) :: .int .i64 j :: u15 :: u16 :: u17 :: u18 :: u19 :: u20 :: u21 :: u22 :: u23 :: u24 :: u25 :: u26 :: u27 :: u28 :: u29 :: u30 :: u31 :: u32 :: u33 :: u34 :: u35 :: u36 :: u37 :: u38 :: u39 :: u40 :: u41 :: u42 :: u43 :: u44 :: u45 :: u46 :: u47 :: u48 :: u49 :: u50 :: u51 :: u52 :: u53 :: u54 :: u55 :: u56 :: u57 :: u58 :: u59 :: u60 :: u61 :: u62 :: u63 :: u64 :: u65 :: u66 :: u67 :: u68 :: u69 :: u70 :: u71 :: u72 :: u73 :: u74 :: u75 :: u76 :: u77 :: u78 :: u79 :: u80 :: u81 :: u82 :: u83 :: u84 :: u85 :: u86 :: []).toArray, []⟩ w := by
  obtain ⟨i0, hi0, iz0, iz1, iz2⟩ := info_parts bytes_info
  have HEX := Lib.hid hexit
  have HO := Lib.hid hown
  have w1 := IntWalk.i64_in ((j : Int) - 1) (by omega)
  have w2 : (0 : Int) ≤ (j : Int) - 1 := by omega
  have w3 : ((j : Int) - 1) < mi := by omega
  have w4 : ((j : Int) - 1).toNat = j - 1 := by omega
  have w8 : (1 : Int) ≤ (j : Int) := by omega
  have HC := Lib.hid cf
  clear hexit hown cf
  conv => arg 2; whnf
  refine wp_region_U (fun w' => w'.cell? ⟨b, o + (j - 1) * 2 + 1, none⟩ = some (.slice Ah nh ch) ∧ w'.cell? ⟨q, 3, none⟩ = some kv) 13 (by kernel_rfl) ?_
  have S0 : w.drew.cell? ⟨b, o + (j - 1) * 2 + 1, none⟩ = some (.slice Ah nh ch) ∧ w.drew.cell? ⟨q, 3, none⟩ = some kv := ⟨c1, c2⟩
  refine wpU_free (i := 0) (v := ?_) rfl (by kernel_rfl) (by kernel_rfl) (by kernel_rfl) (by kernel_rfl) (by first | exact fun _ _ _ h => h | exact fun c a w h => HQP.out c _ a w h) (fun _ => S0) (Or.inl ⟨by kernel_rfl, ?_⟩) ?_
  rotate_left
  · intro w hSw
    go_simp
    try with_reducible rfl
  try simp only [Act.put, List.setIfInBounds_toArray, List.set_cons_zero, List.set_cons_succ]
  refine wpU_free (i := 1) (v := ?_) rfl (by kernel_rfl) (by kernel_rfl) (by kernel_rfl) (by kernel_rfl) (by first | exact fun _ _ _ h => h | exact fun c a w h => HQP.out c _ a w h) (fun _ => S0) (Or.inl ⟨by kernel_rfl, ?_⟩) ?_
  rotate_left
  · intro w hSw
    go_simp
    try with_reducible rfl
  try simp only [Act.put, List.setIfInBounds_toArray, List.set_cons_zero, List.set_cons_succ]
  refine wpU_free (i := 3) (v := ?_) rfl (by kernel_rfl) (by kernel_rfl) (by kernel_rfl) (by kernel_rfl) (by first | exact fun _ _ _ h => h | exact fun c a w h => HQP.out c _ a w h) (fun _ => S0) (Or.inl ⟨by kernel_rfl, ?_⟩) ?_
  rotate_left
  · intro w hSw
    go_simp
    try with_reducible rfl
  try simp only [Act.put, List.setIfInBounds_toArray, List.set_cons_zero, List.set_cons_succ]
  refine wpU_free (i := 4) (v := ?_) rfl (by kernel_rfl) (by kernel_rfl) (by kernel_rfl) (by kernel_rfl) (by first | exact fun _ _ _ h => h | exact fun c a w h => HQP.out c _ a w h) (fun _ => S0) (Or.inl ⟨by kernel_rfl, ?_⟩) ?_
  rotate_left
  · intro w hSw
    go_simp
    try with_reducible rfl
  try simp only [Act.put, List.setIfInBounds_toArray, List.set_cons_zero, List.set_cons_succ]
  refine wpU_free (i := 5) (v := ?_) rfl (by kernel_rfl) (by kernel_rfl) (by kernel_rfl) (by kernel_rfl) (by first | exact fun _ _ _ h => h | exact fun c a w h => HQP.out c _ a w h) (fun _ => S0) (Or.inl ⟨by kernel_rfl, ?_⟩) ?_
  rotate_left
  · intro w hSw
    go_simp
    try with_reducible rfl
  try simp only [Act.put, List.setIfInBounds_toArray, List.set_cons_zero, List.set_cons_succ]
  refine wpU_free (i := 6) (v := ?_) rfl (by kernel_rfl) (by kernel_rfl) (by kernel_rfl) (by kernel_rfl) (by first | exact fun _ _ _ h => h | exact fun c a w h => HQP.out c _ a w h) (fun _ => S0) (Or.inl ⟨by kernel_rfl, ?_⟩) ?_
  rotate_left
  · intro w hSw
    go_simp
    try with_reducible rfl
  try simp only [Act.put, List.setIfInBounds_toArray, List.set_cons_zero, List.set_cons_succ]
  refine wpU_free (i := 7) (v := ?_) rfl (by kernel_rfl) (by kernel_rfl) (by kernel_rfl) (by kernel_rfl) (by first | exact fun _ _ _ h => h | exact fun c a w h => HQP.out c _ a w h) (fun _ => S0) (Or.inl ⟨by kernel_rfl, ?_⟩) ?_
  rotate_left
  · intro w hSw
    go_simp
    try with_reducible rfl
  try simp only [Act.put, List.setIfInBounds_toArray, List.set_cons_zero, List.set_cons_succ]
  refine wpU_take (i := 2) (v := ?_) rfl (by kernel_rfl) (by kernel_rfl) (by kernel_rfl) (by kernel_rfl) (by first | exact fun _ _ _ h => h | exact fun c a w h => HQP.out c _ a w h) S0 (Or.inl ⟨by kernel_rfl, ?_⟩) ?_
  rotate_left
  · intro w hSw
    obtain ⟨s0, s1⟩ := hSw
    go_simp
    try with_reducible rfl
  try simp only [Act.put, List.setIfInBounds_toArray, List.set_cons_zero, List.set_cons_succ]
  refine wpU_take (i := 8) (v := ?_) rfl (by kernel_rfl) (by kernel_rfl) (by kernel_rfl) (by kernel_rfl) (by first | exact fun _ _ _ h => h | exact fun c a w h => HQP.out c _ a w h) S0 (Or.inl ⟨by kernel_rfl, ?_⟩) ?_
  rotate_left
  · intro w hSw
    obtain ⟨s0, s1⟩ := hSw
    go_simp
    try with_reducible rfl
  try simp only [Act.put, List.setIfInBounds_toArray, List.set_cons_zero, List.set_cons_succ]
  refine wpU_one (i := 9) (by kernel_rfl) rfl (fun K hK => ?_)
  go_simp
  have hb2 : Below w.drew.heap.size w.drew (w.drew.alloc (.cells #[.slice Ah nh ch] 41)) := (Below.refl _ _).alloc (Nat.le_refl _) _; have S2 : (w.drew.alloc (.cells #[.slice Ah nh ch] 41)).cell? ⟨b, o + (j - 1) * 2 + 1, none⟩ = some (.slice Ah nh ch) ∧ (w.drew.alloc (.cells #[.slice Ah nh ch] 41)).cell? ⟨q, 3, none⟩ = some kv := ⟨bkeep hb2 S0.1, bkeep hb2 S0.2⟩
  refine hK.out _ _ (fun _ => S2) ?_
  clear hK K
  try simp only [Act.put, List.setIfInBounds_toArray, List.set_cons_zero, List.set_cons_succ]
  refine wpU_one (i := 10) (by kernel_rfl) rfl (fun K hK => ?_)
  refine step_append_any _ rfl (.tmp 40) (.tmp 47) _ rfl base 41 i0 _ 1 24 Try.underlying89 hi0 iz0 iz1 iz2 rfl (by omega) kv n kus rfl (own_below HO.out ((Below.refl _ _).drew.alloc (Nat.le_refl _) _)) (From w.heap.size) (some ⟨w.heap.size, 0, none⟩) 1 1 [.slice Ah nh ch] rfl (Rd.one w.drew _ _) (by intro u hu; simp at hu; subst hu; rfl) (by simp only [maxLen]; omega) (by omega) (by simp; omega) ?_; intro v2 w2 hown2 hg2 hat2; obtain ⟨K2, kc2, hv2, _, _⟩ := own_val hown2; subst hv2; have hg2' := hg2; have HO2 := Lib.hid hown2; have HG2 := Lib.hid hg2; have HA2 := Lib.hid hat2; have hqf : w2.cell? ⟨q, 3, none⟩ = some kv := (Chg.of_grown hg2).cell (fun e => by have := (own_lt HO.out _ e).1; omega) S2.2; have hf2 : ∀ o, w2.frozen? ⟨q, o, none⟩ = false := SoftAt.chg (w := w) HC.out (((Chg.refl (fun b => kv.ownBlock = some b) w).then ((Below.refl _ _).drew.alloc (Nat.le_refl _) _)).trans (Chg.of_grown hg2) (fun _ _ h => h)) (by have := cell_lt c2; exact this) (fun e => by have := (own_lt HO.out _ e).1; omega); clear hown2 hg2 hat2; have S3 : w2.cell? ⟨b, o + (j - 1) * 2 + 1, none⟩ = some (.slice Ah nh ch) ∧ w2.cell? ⟨q, 3, none⟩ = some kv := ⟨(Chg.of_grown hg2').cell (fun e => by have := (own_lt HO.out _ e).1; omega) S2.1, hqf⟩
  refine hK.out _ _ (fun _ => S3) ?_
  clear hK K
  try simp only [Act.put, List.setIfInBounds_toArray, List.set_cons_zero, List.set_cons_succ]
  refine wpU_free (i := 11) (v := ?_) rfl (by kernel_rfl) (by kernel_rfl) (by kernel_rfl) (by kernel_rfl) (by first | exact fun _ _ _ h => h | exact fun c a w h => HQP.out c _ a w h) (fun _ => S3) (Or.inl ⟨by kernel_rfl, ?_⟩) ?_
  rotate_left
  · intro w hSw
    go_simp
    try with_reducible rfl
  try simp only [Act.put, List.setIfInBounds_toArray, List.set_cons_zero, List.set_cons_succ]
  refine wpU_free (i := 12) (v := ?_) rfl (by kernel_rfl) (by kernel_rfl) (by kernel_rfl) (by kernel_rfl) (by first | exact fun _ _ _ h => h | exact fun c a w h => HQP.out c _ a w h) (fun _ => S3) (Or.inl ⟨by kernel_rfl, ?_⟩) ?_
  rotate_left
  · intro w hSw
    go_simp
    try with_reducible rfl
  try simp only [Act.put, List.setIfInBounds_toArray, List.set_cons_zero, List.set_cons_succ]
  refine wpU_one (i := 13) (by kernel_rfl) rfl (fun K hK => ?_)
  go_simp
  refine hK.out _ _ (fun h => absurd h (by decide)) ?_
  clear hK K
  try simp only [Act.put, List.setIfInBounds_toArray, List.set_cons_zero, List.set_cons_succ]
  refine wpU_done (by kernel_rfl) ?_ _
  exact HEX.out _ _ _ _ _ _ _ _ _ _ _ _ _ _ _ w2 ((Below.refl _ _).drew.alloc (Nat.le_refl _) _) HO2.out HG2.out HA2.out

noncomputable def abKidC : Code := codeOr (Try.f62.body.bind (regionAt 13))
set_option maxRecDepth 100000 in
set_option maxHeartbeats 4000000 in
theorem ab_kid (q xb : Nat) (id lev : Int) (base : Nat) (kv dv hv : Value) (n : Nat) (dus : List Value) (w : World) {u0 u1 u2 u3 u4 u5 u6 u7 u8 u9 u10 u11 u12 u14 u16 u17 u18 u19 u20 u21 u22 u23 u24 u25 u26 u27 u28 u29 u30 u31 u32 u33 u34 u35 u36 u37 u38 u39 u40 u41 u42 u43 u44 u45 u46 u47 u48 u49 u50 u51 u52 u53 u54 u55 u56 u57 u58 u59 u60 u61 u62 u63 u64 u65 u66 u67 u68 u69 u70 u71 u72 u73 u74 u75 u76 u77 u78 u79 u80 u81 u82 u83 u84 u85 u86 : Value} (Q : Exit → Act → World → Prop)
    (hn : n ≤ 1152921504606) (hbase : base ≤ w.heap.size) (hqb : q < base) (hq : Blk w q 93 #[.int .i64 lev, .slice none 0 0, .int .i64 0, kv, .slice none 0 0, dv]) (hx : Blk w xb 139 #[.int .i64 id, hv]) (hown : w.ownsRow base 3 1 dv n dus)
    (hexit : ∀ (v51 v52 v53 v54 v55 v56 v57 v58 v59 : Value) (v2 : Value) (wa w2 : World), wa = w.alloc (.cells #[.int .i64 id] 3) → w2.ownsRow base 3 1 v2 (n + 1) (dus ++ [.int .i64 id]) → wa.grownBy w2 dv.ownBlock → (v2.ownBlock = dv.ownBlock ∨ v2.ownBlock = some wa.heap.size) → Q .normal ⟨(u0 :: u1 :: u2 :: u3 :: u4 :: u5 :: u6 :: u7 :: u8 :: u9 :: u10 :: u11 :: u12 :: .pointer (some ⟨q, 0, none⟩) :: u14 :: .pointer (some ⟨xb, 0, none⟩) :: u16 :: u17 :: u18 :: u19 :: u20 :: u21 :: u22 :: u23 :: u24 :: u25 :: u26 :: u27 :: u28 :: u29 :: u30 :: u31 :: u32 :: u33 :: u34 :: u35 :: u36 :: u37 :: u38 :: u39 :: u40 :: u41 :: u42 :: u43 :: u44 :: u45 :: u46 :: u47 :: u48 :: u49 :: u50 :: v51 :: v52 :: v53 :: v54 :: v55 :: v56 :: v57 :: v58 :: v59 :: u60 :: u61 :: u62 :: u63 :: u64 :: u65 :: u66 :: u67 :: u68 :: u69 :: u70 :: u71 :: u72 :: u73 :: u74 :: u75 :: u76 :: u77 :: u78 :: u79 :: u80 :: u81 :: u82 :: u83 :: u84 :: u85 :: u86 :: []).toArray, []⟩ (w2.setCell ⟨q, 5, none⟩ v2)) :
    Code.wp Try.prog abKidC Q ⟨(u0 :: u1 :: u2 :: u3 :: u4 :: u5 :: u6 :: u7 :: u8 :: u9 :: u10 :: u11 :: u12 :: .pointer (some ⟨q, 0, none⟩) :: u14 :: .pointer (some ⟨xb, 0, none⟩) :: u16 :: u17 :: u18 :: u19 :: u20 :: u21 :: u22 :: u23 :: u24 :: u25 :: u26 :: u27 :: u28 :: u29 :: u30 :: u31 :: u32 :: u33 :: u34 :: u35 :: u36 :: u37 :: u38 :: u39 :: u40 :: u41 :: u42 :: u43 :: u44 :: u45 :: u46 :: u47 :: u48 :: u49 :: u50 :: u51 :: u52 :: u53 :: u54 :: u55 :: u56 :: u57 :: u58 :: u59 :: u60 :: u61 :: u62 :: u63 :: u64 :: u65 :: u66 :: u67 :: u68 :: u69 :: u70 :: u71 :: u72 :: u73 :: u74 :: u75 :: u76 :: u77 :: u78 :: u79 :: u80 :: u81 :: u82 :: u83 :: u84 :: u85 :: u86 :: []).toArray, []⟩ w := by
  obtain ⟨i0, hi0, iz0, iz1, iz2⟩ := info_parts int_info
  have HEX := Lib.hid hexit
  have HO := Lib.hid hown
  have HQ := Lib.hid hq
  have x0 : w.cell? ⟨xb, 0, none⟩ = some (.int .i64 id) := (hx.cell 0).trans rfl
  have q5 : w.cell? ⟨q, 5, none⟩ = some dv := (hq.cell 5).trans rfl
  clear hexit hown hq hx
  conv => arg 2; whnf
  go_wp2_with (first | (at_builtin; go_loud (refine wpList_append_any _ rfl (.tmp 53) (.tmp 56) _ rfl base 3 i0 _ 1 8 Try.underlying24 hi0 iz0 iz1 iz2 rfl (by omega) dv n dus rfl (own_below HO.out ((Below.refl _ _).alloc (Nat.le_refl _) _)) (From w.heap.size) (some ⟨w.heap.size, 0, none⟩) 1 1 [.int .i64 id] rfl (Rd.one w _ _) (by intro u hu; simp at hu; subst hu; rfl) (by simp only [maxLen]; omega) (by omega) (by simp; omega) ?_); intro v2 w2 hown2 hg2 hat2; obtain ⟨K2, kc2, hv2, _, _⟩ := own_val hown2; subst hv2; have HO2 := Lib.hid hown2; have HG2 := Lib.hid hg2; have HA2 := Lib.hid hat2; have q52 : w2.cell? ⟨q, 5, none⟩ = some dv := (Chg.of_grown hg2).cell (fun e => by have := (own_lt HO.out _ e).1; omega) (bkeep ((Below.refl _ _).alloc (Nat.le_refl _) (.cells #[.int .i64 id] 3)) q5); have hf2 : ∀ o, w2.frozen? ⟨q, o, none⟩ = false := ((HQ.out.alloc (.cells #[.int .i64 id] 3)).chg (Chg.of_grown hg2) (fun e => by have := (own_lt HO.out _ e).1; omega)).frozen; clear hown2 hg2 hat2))
  exact HEX.out _ _ _ _ _ _ _ _ _ _ _ w2 rfl HO2.out HG2.out HA2.out
end Go.Proofs.Ytgjphmlmndcaeaa

namespace Go.Proofs.Ytgjphmlmndcaeaa
open Go.RowKit
noncomputable def aboveIn : Code := codeOr (Try.f62.body.bind (blockIn 2))
set_option maxRecDepth 100000 in
set_option maxHeartbeats 4000000 in
theorem above_in (D : Nat → Prop) (us : List Value) (ks : List (Int × List UInt8)) (B : Option Addr) (mi d s q : Nat) (lev : Int) (wq wa : World) (hb : mi ≤ 1152921504606) (hd : mi ≤ d) {u0 u1 u2 u3 u4 u5 u6 u7 u8 u9 u10 u11 u14 u15 u16 u17 u18 u19 u20 u21 u22 u23 u24 u25 u26 u27 u28 u32 u33 u34 u35 u36 u37 u38 u39 u40 u41 u42 u43 u44 u45 u46 u47 u48 u49 u50 u51 u52 u53 u54 u55 u56 u57 u58 u59 u60 u61 u62 u63 u64 u65 u66 u67 u68 u69 u70 u71 u72 u73 u74 u75 u76 u77 u78 u79 u80 u81 u82 u83 u84 u85 u86 : Value} (Q : Exit → Act → World → Prop) (HQP : Hid (∀ c t (a : Act) w, Q (.panic c) ⟨t, a.defers⟩ w → Q (.panic c) a w))
    (hq : q = wq.heap.size) (hpr : Rd wq D 2 B mi ((us.drop (s * 2)).take (mi * 2))) (htx : Kds wq D us ks) (hkm : s + mi ≤ ks.length) (hwa : Below wq.heap.size wq wa) (hbk : Blk wa q 93 #[.int .i64 lev, .slice none 0 0, .int .i64 0, .slice none 0 0, .slice none 0 0, .slice none 0 0])
    (hexit : ∀ (v14 v15 v32 v33 v34 v35 v36 v37 v38 v39 v40 v41 v42 v43 v44 v45 v46 v47 v48 v49 v50 v51 v52 v53 v54 v55 v56 v57 v58 v59 v60 : Value) (kv dv : Value) (kus dus : List Value) (wz : World), Blk wz q 93 #[.int .i64 lev, .slice none 0 0, .int .i64 0, kv, .slice none 0 0, dv] → RowsK wz (q + 1) ((us.drop (s * 2)).take (mi * 2)) (mi - 1) mi kv dv kus dus → Below wq.heap.size wq wz → Q (.exit 2) ⟨(u0 :: u1 :: u2 :: u3 :: u4 :: u5 :: u6 :: u7 :: u8 :: u9 :: u10 :: u11 :: .slice B mi d :: .pointer (some ⟨q, 0, none⟩) :: v14 :: v15 :: u16 :: u17 :: u18 :: u19 :: u20 :: u21 :: u22 :: u23 :: u24 :: u25 :: u26 :: u27 :: u28 :: .slice B mi d :: .int .i64 mi :: .int .i64 mi :: v32 :: v33 :: v34 :: v35 :: v36 :: v37 :: v38 :: v39 :: v40 :: v41 :: v42 :: v43 :: v44 :: v45 :: v46 :: v47 :: v48 :: v49 :: v50 :: v51 :: v52 :: v53 :: v54 :: v55 :: v56 :: v57 :: v58 :: v59 :: v60 :: u61 :: u62 :: u63 :: u64 :: u65 :: u66 :: u67 :: u68 :: u69 :: u70 :: u71 :: u72 :: u73 :: u74 :: u75 :: u76 :: u77 :: u78 :: u79 :: u80 :: u81 :: u82 :: u83 :: u84 :: u85 :: u86 :: []).toArray, []⟩ wz) :
    Code.wp Try.prog aboveIn Q ⟨(u0 :: u1 :: u2 :: u3 :: u4 :: u5 :: u6 :: u7 :: u8 :: u9 :: u10 :: u11 :: .slice B mi d :: .pointer (some ⟨q, 0, none⟩) :: u14 :: u15 :: u16 :: u17 :: u18 :: u19 :: u20 :: u21 :: u22 :: u23 :: u24 :: u25 :: u26 :: u27 :: u28 :: .slice B mi d :: .int .i64 mi :: .int .i64 0 :: u32 :: u33 :: u34 :: u35 :: u36 :: u37 :: u38 :: u39 :: u40 :: u41 :: u42 :: u43 :: u44 :: u45 :: u46 :: u47 :: u48 :: u49 :: u50 :: u51 :: u52 :: u53 :: u54 :: u55 :: u56 :: u57 :: u58 :: u59 :: u60 :: u61 :: u62 :: u63 :: u64 :: u65 :: u66 :: u67 :: u68 :: u69 :: u70 :: u71 :: u72 :: u73 :: u74 :: u75 :: u76 :: u77 :: u78 :: u79 :: u80 :: u81 :: u82 :: u83 :: u84 :: u85 :: u86 :: []).toArray, []⟩ wa := by
  obtain ⟨i0, hi0, iz0, iz1, iz2⟩ := info_parts int_info
  have HEX := Lib.hid hexit
  have HPR := Lib.hid hpr
  have HTX := Lib.hid htx
  have HKM := Lib.hid hkm
  have HWA := Lib.hid hwa
  have hq1 : wq.heap.size ≤ q := by omega
  have hq2 : q ≤ wq.heap.size := by omega
  clear hq
  have HBA := Lib.hid hbk
  clear hexit hpr htx hkm hwa hbk
  conv => arg 2; whnf
  go_loopg [31] mi (fun g' i wz => ∃ (j : Nat) (kv dv : Value) (kus dus : List Value), g' = mi - j ∧ j ≤ mi ∧ i = .int .i64 j ∧ Blk wz q 93 #[.int .i64 lev, .slice none 0 0, .int .i64 0, kv, .slice none 0 0, dv] ∧ RowsK wz (q + 1) ((us.drop (s * 2)).take (mi * 2)) (j - 1) j kv dv kus dus ∧ Below wq.heap.size wq wz)
  case atStart => exact ⟨0, _, _, [], [], by omega, by omega, rfl, HBA.out, RowsK.nil _ _ _, HWA.out⟩
  case round =>
    obtain ⟨j, kv, dv, kus, dus, hg2, hj, rfl, hbk, hrw, hbz⟩ := hrel
    have HG2 := Lib.hid hg2
    have HBK := Lib.hid hbk
    have HRW := Lib.hid hrw
    have HBZ := Lib.hid hbz
    rename World => wr
    have hzz : q < wr.heap.size := hbk.lt
    clear hg2 hbk hrw
    by_cases hltj : j < mi
    · obtain ⟨b, o, id, Ah, nh, ch, rfl, hDb, e1, e2, c1', c2', _⟩ := kid_at HPR.out HTX.out HKM.out hltj
      have hbl : b < wq.heap.size := cell_lt c1'
      have c1 := bkeep hbz c1'
      have c2 := bkeep hbz c2'
      have HE1 := Lib.hid e1
      clear e1 e2 c1' c2' hbz
      have HX : Hid (Blk (wr.alloc (.cells #[.int .i64 id, .slice Ah nh ch] 139)) wr.heap.size 139 #[.int .i64 id, .slice Ah nh ch]) := Lib.hid (Blk.new _ _ _)
      have HB1 : Hid (Below wr.heap.size wr (wr.alloc (.cells #[.int .i64 id, .slice Ah nh ch] 139))) := Lib.hid ((Below.refl _ _).alloc (Nat.le_refl _) _)
      have HBK1 := Lib.hid (HBK.out.below HB1.out)
      have HRW1 := Lib.hid (HRW.out.below HB1.out)
      have HZ1 : Hid ((wr.alloc (.cells #[.int .i64 id, .slice Ah nh ch] 139)).heap.size = wr.heap.size + 1) := Lib.hid (by simp)
      by_cases hj0 : j = 0
      · subst hj0
        rw [Nat.zero_mul, Nat.add_zero] at c1 c2
        have q5 : (wr.alloc (.cells #[.int .i64 id, .slice Ah nh ch] 139)).cell? ⟨q, 5, none⟩ = some dv := (HBK1.out.cell 5).trans rfl
        have qx : (wr.alloc (.cells #[.int .i64 id, .slice Ah nh ch] 139)).cell? ⟨wr.heap.size, 0, none⟩ = some (.int .i64 id) := (HX.out.cell 0).trans rfl
        go_wp2_with (first | (at_builtin; go_loud (refine wpList_append_any _ rfl (.tmp 53) (.tmp 56) _ rfl (q + 1) 3 i0 _ 1 8 Try.underlying24 hi0 iz0 iz1 iz2 rfl (by omega) dv 0 dus rfl (own_below HRW1.out.v ((Below.refl _ _).alloc (Nat.le_refl _) _)) (From (wr.heap.size + 1)) (some ⟨(wr.heap.size + 1), 0, none⟩) 1 1 [.int .i64 id] rfl (by have := Rd.one (wr.alloc (.cells #[.int .i64 id, .slice Ah nh ch] 139)) (.int .i64 id) 3; simpa using this) (by intro u hu; simp at hu; subst hu; rfl) (by simp only [maxLen]; omega) (by omega) (by have := HZ1.out; simp at this ⊢; omega) ?_); intro v3 w3 hown3 hg3 hat3; obtain ⟨K3, kc3, hv3, _, _⟩ := own_val hown3; subst hv3; have HO3 := Lib.hid hown3; have HG3 := Lib.hid hg3; have HA3 := Lib.hid hat3; have hK3 := ((HBK1.out.alloc (.cells #[.int .i64 id] 3)).chg (Chg.of_grown hg3) (fun e => by have := (own_lt HRW1.out.v _ e).1; omega)); have q53 : w3.cell? ⟨q, 5, none⟩ = some dv := (hK3.cell 5).trans rfl; have hf3 : ∀ o, w3.frozen? ⟨q, o, none⟩ = false := hK3.frozen; have HK3' := Lib.hid hK3; clear hown3 hg3 hat3 hK3))
        have HB3 := Lib.hid ((((HBZ.out.trans (HB1.out.mono HBZ.out.size)).alloc (by have := HBZ.out.size; have := HZ1.out; omega) (.cells #[.int .i64 id] 3)).grown HG3.out (by have := HBZ.out.size; have := HZ1.out; simp at this ⊢; omega) (fun g hg => by have := (own_lt HRW1.out.v g hg).1; omega)).setCell (p := ⟨q, 5, none⟩) (by show wq.heap.size ≤ q; omega) (.slice K3 (0 + 1) kc3))
        have HR3 := Lib.hid ((RowsK.kid (HRW1.out.below ((Below.refl _ _).alloc (Nat.le_refl _) _)) HO3.out HG3.out HA3.out HE1.out).far 5 (.slice K3 (0 + 1) kc3) (b := q) (by omega))
        have HKK := Lib.hid (HK3'.out.set_ 5 (.slice K3 (0 + 1) kc3))
        go_roundg (mi - (0 + 1))
        case measure => have := HG2.out; omega
        case rel => exact ⟨0 + 1, _, _, _, _, rfl, by omega, by go_num, HKK.out, HR3.out, HB3.out⟩
      · have hj1 : (0 : Int) < (j : Int) := by omega
        obtain ⟨b', o', id', Ah', nh', ch', hB', _, f1, f2, d1', d2', _⟩ := kid_at HPR.out HTX.out HKM.out (j := j - 1) (by omega)
        injection hB' with hB'
        injection hB' with hB' hB''
        subst hB'; subst hB''
        have D2 := Lib.hid (bkeep HB1.out (bkeep HBZ.out d2'))
        have HE2 := Lib.hid f2
        clear f1 f2 d1' d2'
        go_wp2_with fail
        refine ab_key b o mi d q j (q + 1) kv (j - 1) kus Ah' nh' ch' _ _ (by exact Lib.hid (fun c t a w h => HQP.out c t a w h)) (by omega) (by omega) hb (by omega) (by have := HZ1.out; omega) (by omega) (by omega) D2.out ((HBK1.out.cell 3).trans rfl) HBK1.out.frozen HRW1.out.k ?_
        intro v38 v39 v40 v41 v42 v43 v44 v45 v46 v47 v48 v49 v50 v2 wa' w2 hwa' ho2 hg2 hat2
        have hs2 : wr.heap.size + 1 ≤ w2.heap.size := by have := hg2.size; have := hwa'.size; have := HZ1.out; omega
        have HR2 := Lib.hid ((RowsK.key (HRW1.out.below hwa') ho2 hg2 hat2 HE2.out).far 3 v2 (b := q) (by omega))
        have HB2 : Hid (Below wq.heap.size wq (w2.setCell ⟨q, 3, none⟩ v2)) := Lib.hid ((((HBZ.out.trans (HB1.out.mono HBZ.out.size)).trans (hwa'.mono (by have := HBZ.out.size; have := HZ1.out; omega))).grown hg2 (by have := HBZ.out.size; have := HZ1.out; have := hwa'.size; omega) (fun g hg => by have := (own_lt HRW1.out.k g hg).1; omega)).setCell (p := ⟨q, 3, none⟩) (by show wq.heap.size ≤ q; omega) v2)
        have hko : ∀ (g : Nat), g < q + 1 → kv.ownBlock ≠ some g := fun g hg e => by have := (own_lt HRW1.out.k g e).1; omega
        have HBK2 := Lib.hid (((HBK1.out.below hwa').chg (Chg.of_grown hg2) (hko q (by omega))).set_ 3 v2)
        have HX2 := Lib.hid (((HX.out.below hwa').chg (Chg.of_grown hg2) (fun e => by have := (own_lt HRW.out.k _ e).2; omega)).far (p := ⟨q, 3, none⟩) (by show wr.heap.size ≠ q; omega) v2)
        have HZ2 : Hid (wr.heap.size + 1 ≤ (w2.setCell ⟨q, 3, none⟩ v2).heap.size) := Lib.hid (by simpa [World.setCell] using hs2)
        clear ho2 hg2 hat2 hwa' hs2
        obtain ⟨W2, hW2⟩ : ∃ W, W = w2.setCell ⟨q, 3, none⟩ v2 := ⟨_, rfl⟩
        rw [← hW2] at HR2 HB2 HBK2 HX2 HZ2 ⊢
        clear hW2
        have q5 : W2.cell? ⟨q, 5, none⟩ = some dv := (HBK2.out.cell 5).trans rfl
        have qx : W2.cell? ⟨wr.heap.size, 0, none⟩ = some (.int .i64 id) := (HX2.out.cell 0).trans rfl
        obtain ⟨i, rfl⟩ : ∃ i, j = i + 1 := ⟨j - 1, by omega⟩
        go_wp2_with (first | (at_builtin; go_loud (refine wpList_append_any _ rfl (.tmp 53) (.tmp 56) _ rfl (q + 1) 3 i0 _ 1 8 Try.underlying24 hi0 iz0 iz1 iz2 rfl (by omega) dv (i + 1) dus rfl (own_below HR2.out.v ((Below.refl _ _).alloc (Nat.le_refl _) _)) (From W2.heap.size) (some ⟨W2.heap.size, 0, none⟩) 1 1 [.int .i64 id] rfl (Rd.one _ _ _) (by intro u hu; simp at hu; subst hu; rfl) (by simp only [maxLen]; omega) (by omega) (by have := HZ2.out; simp at this ⊢; omega) ?_); intro v3 w3 hown3 hg3 hat3; obtain ⟨K3, kc3, hv3, _, _⟩ := own_val hown3; subst hv3; have HO3 := Lib.hid hown3; have HG3 := Lib.hid hg3; have HA3 := Lib.hid hat3; have hK3 := ((HBK2.out.alloc (.cells #[.int .i64 id] 3)).chg (Chg.of_grown hg3) (fun e => by have := (own_lt HR2.out.v _ e).1; omega)); have q53 : w3.cell? ⟨q, 5, none⟩ = some dv := (hK3.cell 5).trans rfl; have hf3 : ∀ o, w3.frozen? ⟨q, o, none⟩ = false := hK3.frozen; have HK3' := Lib.hid hK3; clear hown3 hg3 hat3 hK3))
        have HB3 := Lib.hid (((HB2.out.alloc (by have := HBZ.out.size; have := HZ2.out; omega) (.cells #[.int .i64 id] 3)).grown HG3.out (by have := HBZ.out.size; have := HZ2.out; simp; omega) (fun g hg => by have := (own_lt HR2.out.v g hg).1; omega)).setCell (p := ⟨q, 5, none⟩) (by show wq.heap.size ≤ q; omega) (.slice K3 ((i + 1) + 1) kc3))
        have HR3 := Lib.hid ((RowsK.kid (HR2.out.below ((Below.refl _ _).alloc (Nat.le_refl _) _)) HO3.out HG3.out HA3.out HE1.out).far 5 (.slice K3 ((i + 1) + 1) kc3) (b := q) (by omega))
        have HKK := Lib.hid (HK3'.out.set_ 5 (.slice K3 ((i + 1) + 1) kc3))
        go_roundg (mi - ((i + 1) + 1))
        case measure => have := HG2.out; omega
        case rel => exact ⟨(i + 1) + 1, _, _, _, _, rfl, by omega, by go_num, HKK.out, HR3.out, HB3.out⟩
    · obtain rfl : j = mi := by omega
      clear hbz
      go_wp2
      exact HEX.out _ _ _ _ _ _ _ _ _ _ _ _ _ _ _ _ _ _ _ _ _ _ _ _ _ _ _ _ _ _ _ _ _ _ _ _ HBK.out HRW.out HBZ.out
end Go.Proofs.Ytgjphmlmndcaeaa

namespace Go.Proofs.Ytgjphmlmndcaeaa
open Go.RowKit
noncomputable def abpC : Code := codeOr (Try.f62.body.bind (regionAt 16))
set_option maxRecDepth 100000 in
set_option maxHeartbeats 4000000 in
theorem abp (F : Nat → Prop) (p mm : Nat) (nodes root : Int) (done : List Slt) (nd : Nd) (hA kA vA dA : Option Addr) (hn hc kn kc vn vc dn dc : Nat) (more : Bool) (q : Nat) (w : World) (base : Nat) (o : Value) (ks : List (Int × List UInt8)) (r M cp i : Nat) {u1 u2 u3 u4 u5 u6 u7 u8 u12 u14 u15 u16 u17 u18 u19 u20 u21 u22 u23 u24 u25 u26 u27 u28 u29 u30 u31 u32 u33 u34 u35 u36 u37 u38 u39 u40 u41 u42 u43 u44 u45 u46 u47 u48 u49 u50 u51 u52 u53 u54 u55 u56 u57 u58 u59 u60 u61 u62 u63 u64 u65 u66 u67 u68 u69 u70 u71 u72 u73 u74 u75 u76 u77 u78 u79 u80 u81 u82 u83 u84 u85 u86 : Value} (Q : Exit → Act → World → Prop) (HQP : Hid (∀ c t (a : Act) w, Q (.panic c) ⟨t, a.defers⟩ w → Q (.panic c) a w))
    (hst : MakerSt w F p mm nodes root done) (hf : (done.length : Int) < nodes) (hn1 : nodes ≤ 65536) (hks : ks.length ≤ 65536) (hbase : base ≤ w.heap.size)
    (hq : Blk w q 93 #[.int .i64 nd.lev, .slice hA hn hc, .int .i64 nd.right, .slice kA kn kc, .slice vA vn vc, .slice dA dn dc]) (hqF : Rest F mm o q)
    (h1 : Bt w (Rest F mm o) hA hn hc nd.high) (h2 : Tx w (Off F mm) kA kn kc nd.keys) (h3 : Tx w (Off F mm) vA vn vc nd.vals) (h4 : It w (Off F mm) dA dn dc nd.kids) (hs : Small nd)
    (hrow : KidRow w (Off F mm) base o ks) (hM1 : 1 ≤ M) (hM2 : M ≤ 65536) (hmore : decide ((i : Int) < (M : Int) - 1) = more) (hwr : IntKind.i64.wrap ((M : Int) - 1) = (M : Int) - 1)
    (hexit : ∀ (v70 v71 v72 v73 v74 v75 v76 v77 v78 v79 v80 v81 v82 v83 v84 : Value) (o' : Value) (w' : World), Put w w' F p mm nodes root (done ++ [(2, ⟨nd.lev, nd.high, if more then (done.length : Int) + 1 + 1 else nd.right, nd.keys, nd.vals, nd.kids⟩)]) base o o' (ks ++ [((done.length : Int) + 1, nd.high)]) → Q .normal ⟨(.pointer (some ⟨mm, 0, none⟩) :: u1 :: u2 :: u3 :: u4 :: u5 :: u6 :: u7 :: u8 :: o' :: .slice (some ⟨r, 0, none⟩) M cp :: .int .i64 i :: u12 :: .pointer (some ⟨q, 0, none⟩) :: u14 :: u15 :: u16 :: u17 :: u18 :: u19 :: u20 :: u21 :: u22 :: u23 :: u24 :: u25 :: u26 :: u27 :: u28 :: u29 :: u30 :: u31 :: u32 :: u33 :: u34 :: u35 :: u36 :: u37 :: u38 :: u39 :: u40 :: u41 :: u42 :: u43 :: u44 :: u45 :: u46 :: u47 :: u48 :: u49 :: u50 :: u51 :: u52 :: u53 :: u54 :: u55 :: u56 :: u57 :: u58 :: u59 :: u60 :: u61 :: u62 :: u63 :: u64 :: u65 :: u66 :: u67 :: u68 :: u69 :: v70 :: v71 :: v72 :: v73 :: v74 :: v75 :: v76 :: v77 :: v78 :: v79 :: v80 :: v81 :: v82 :: v83 :: v84 :: u85 :: u86 :: []).toArray, []⟩ w') :
    Code.wp Try.prog abpC Q ⟨(.pointer (some ⟨mm, 0, none⟩) :: u1 :: u2 :: u3 :: u4 :: u5 :: u6 :: u7 :: u8 :: o :: .slice (some ⟨r, 0, none⟩) M cp :: .int .i64 i :: u12 :: .pointer (some ⟨q, 0, none⟩) :: u14 :: u15 :: u16 :: u17 :: u18 :: u19 :: u20 :: u21 :: u22 :: u23 :: u24 :: u25 :: u26 :: u27 :: u28 :: u29 :: u30 :: u31 :: u32 :: u33 :: u34 :: u35 :: u36 :: u37 :: u38 :: u39 :: u40 :: u41 :: u42 :: u43 :: u44 :: u45 :: u46 :: u47 :: u48 :: u49 :: u50 :: u51 :: u52 :: u53 :: u54 :: u55 :: u56 :: u57 :: u58 :: u59 :: u60 :: u61 :: u62 :: u63 :: u64 :: u65 :: u66 :: u67 :: u68 :: u69 :: u70 :: u71 :: u72 :: u73 :: u74 :: u75 :: u76 :: u77 :: u78 :: u79 :: u80 :: u81 :: u82 :: u83 :: u84 :: u85 :: u86 :: []).toArray, []⟩ w := by
  obtain ⟨i0, hi0, iz0, iz1, iz2⟩ := info_parts kid_info
  have S0 : Six q nd.lev hA hn hc nd.right kA kn kc vA vn vc dA dn dc w.drew := ⟨by rw [hq.drew.cell]; rfl, by rw [hq.drew.cell]; rfl, by rw [hq.drew.cell]; rfl, by rw [hq.drew.cell]; rfl, by rw [hq.drew.cell]; rfl, by rw [hq.drew.cell]; rfl⟩
  have HQ := Lib.hid hqF
  have ql := hq.lt
  have HEX := Lib.hid hexit
  have HST := Lib.hid (hst.below (Below.refl _ _).drew)
  have H1 := Lib.hid h1
  have H2 := Lib.hid (h2.below (Below.refl _ _).drew)
  have H3 := Lib.hid (h3.below (Below.refl _ _).drew)
  have H4 := Lib.hid (h4.below (Below.refl _ _).drew)
  have HS := Lib.hid hs
  have HR := Lib.hid (hrow.below (Below.refl _ _).drew)
  have HK := Lib.hid hks
  have HB := Lib.hid hbase
  have HFL := Lib.hid hst.2.1
  have hml := hst.2.2.1
  have HOB : Hid (∀ g, o.ownBlock = some g → Off F mm g ∧ g < w.heap.size) := Lib.hid (by obtain ⟨us, a, b, _⟩ := hrow; exact fun g hg => ⟨b g hg, (own_lt a g hg).2⟩)
  clear hq hqF hexit hst h1 h2 h3 h4 hs hrow hks hbase
  conv => arg 2; whnf
  refine wp_region_V (Six q nd.lev hA hn hc nd.right kA kn kc vA vn vc dA dn dc) (by kernel_rfl) ?_
  refine wpV_take (i := 0) (v := ?_) rfl (by kernel_rfl) (by kernel_rfl) (by kernel_rfl) (by first | exact fun _ _ _ h => h | exact fun c a w h => HQP.out c _ a w h) S0 (Or.inl ⟨by kernel_rfl, ?_⟩) ?_
  rotate_left
  · intro w hSw
    go_simp
    try with_reducible rfl
  try simp only [Act.put, List.setIfInBounds_toArray, List.set_cons_zero, List.set_cons_succ]
  refine wpV_take (i := 1) (v := ?_) rfl (by kernel_rfl) (by kernel_rfl) (by kernel_rfl) (by first | exact fun _ _ _ h => h | exact fun c a w h => HQP.out c _ a w h) S0 (Or.inl ⟨by kernel_rfl, ?_⟩) ?_
  rotate_left
  · intro w hSw
    go_simp
    try with_reducible rfl
  try simp only [Act.put, List.setIfInBounds_toArray, List.set_cons_zero, List.set_cons_succ]
  refine wpV_take (i := 3) (v := ?_) rfl (by kernel_rfl) (by kernel_rfl) (by kernel_rfl) (by first | exact fun _ _ _ h => h | exact fun c a w h => HQP.out c _ a w h) S0 (Or.inl ⟨by kernel_rfl, ?_⟩) ?_
  rotate_left
  · intro w hSw
    go_simp
    try with_reducible rfl
  try simp only [Act.put, List.setIfInBounds_toArray, List.set_cons_zero, List.set_cons_succ]
  refine wpV_take (i := 4) (v := ?_) rfl (by kernel_rfl) (by kernel_rfl) (by kernel_rfl) (by first | exact fun _ _ _ h => h | exact fun c a w h => HQP.out c _ a w h) S0 (Or.inl ⟨by kernel_rfl, ?_⟩) ?_
  rotate_left
  · intro w hSw
    go_simp
    try with_reducible rfl
  try simp only [Act.put, List.setIfInBounds_toArray, List.set_cons_zero, List.set_cons_succ]
  refine wpV_take (i := 5) (v := ?_) rfl (by kernel_rfl) (by kernel_rfl) (by kernel_rfl) (by first | exact fun _ _ _ h => h | exact fun c a w h => HQP.out c _ a w h) S0 (Or.inl ⟨by kernel_rfl, ?_⟩) ?_
  rotate_left
  · intro w hSw
    go_simp
    try with_reducible rfl
  try simp only [Act.put, List.setIfInBounds_toArray, List.set_cons_zero, List.set_cons_succ]
  refine wpV_take (i := 6) (v := ?_) rfl (by kernel_rfl) (by kernel_rfl) (by kernel_rfl) (by first | exact fun _ _ _ h => h | exact fun c a w h => HQP.out c _ a w h) S0 (Or.inl ⟨by kernel_rfl, ?_⟩) ?_
  rotate_left
  · intro w hSw
    go_simp
    try with_reducible rfl
  try simp only [Act.put, List.setIfInBounds_toArray, List.set_cons_zero, List.set_cons_succ]
  refine wpV_take (i := 7) (v := ?_) rfl (by kernel_rfl) (by kernel_rfl) (by kernel_rfl) (by first | exact fun _ _ _ h => h | exact fun c a w h => HQP.out c _ a w h) S0 (Or.inl ⟨by kernel_rfl, ?_⟩) ?_
  rotate_left
  · intro w hSw
    go_simp
    try with_reducible rfl
  try simp only [Act.put, List.setIfInBounds_toArray, List.set_cons_zero, List.set_cons_succ]
  refine wpV_take (i := 9) (v := ?_) rfl (by kernel_rfl) (by kernel_rfl) (by kernel_rfl) (by first | exact fun _ _ _ h => h | exact fun c a w h => HQP.out c _ a w h) S0 (Or.inl ⟨by kernel_rfl, ?_⟩) ?_
  rotate_left
  · intro w hSw
    go_simp
    try with_reducible rfl
  try simp only [Act.put, List.setIfInBounds_toArray, List.set_cons_zero, List.set_cons_succ]
  refine wpV_take (i := 10) (v := ?_) rfl (by kernel_rfl) (by kernel_rfl) (by kernel_rfl) (by first | exact fun _ _ _ h => h | exact fun c a w h => HQP.out c _ a w h) S0 (Or.inl ⟨by kernel_rfl, ?_⟩) ?_
  rotate_left
  · intro w hSw
    go_simp
    try with_reducible rfl
  try simp only [Act.put, List.setIfInBounds_toArray, List.set_cons_zero, List.set_cons_succ]
  refine wpV_take (i := 2) (v := ?_) rfl (by kernel_rfl) (by kernel_rfl) (by kernel_rfl) (by first | exact fun _ _ _ h => h | exact fun c a w h => HQP.out c _ a w h) S0 (Or.inl ⟨by kernel_rfl, ?_⟩) ?_
  rotate_left
  · intro w hSw
    obtain ⟨s0, s1, s2, s3, s4, s5⟩ := hSw
    go_simp
    try with_reducible rfl
  try simp only [Act.put, List.setIfInBounds_toArray, List.set_cons_zero, List.set_cons_succ]
  refine wpV_take (i := 11) (v := ?_) rfl (by kernel_rfl) (by kernel_rfl) (by kernel_rfl) (by first | exact fun _ _ _ h => h | exact fun c a w h => HQP.out c _ a w h) S0 (Or.inl ⟨by kernel_rfl, ?_⟩) ?_
  rotate_left
  · intro w hSw
    obtain ⟨s0, s1, s2, s3, s4, s5⟩ := hSw
    go_simp
    try with_reducible rfl
  try simp only [Act.put, List.setIfInBounds_toArray, List.set_cons_zero, List.set_cons_succ]
  refine wpV_one (i := 8) (by kernel_rfl) rfl (fun K hK => ?_)
  go_simp
  refine (lay_any more nd hA kA vA dA hn hc kn kc vn vc dn dc HST.out hf hn1 (H1.out.below (Below.refl _ _).drew |>.weak (fun b hb => hb.1)) H2.out H3.out H4.out HS.out).mono ?_; rintro e w1 ⟨rfl, st1, ch1⟩; have S1 := S0.chg ch1 (fun h => h.elim HQ.out.1.1 HQ.out.1.2); have HS1 := Lib.hid st1; have HC1 := Lib.hid ch1; have hz1 : w.heap.size ≤ w1.heap.size := ch1.size; obtain ⟨us, r1, r2, r3⟩ := HR.out.off_next ch1; have HR1 := Lib.hid r1; have HR2 := Lib.hid r2; have HR3 := Lib.hid r3; clear st1 r1 r2 r3 ch1
  refine hK.out _ _ S1 ?_
  clear hK K
  try simp only [Act.put, List.setIfInBounds_toArray, List.set_cons_zero, List.set_cons_succ]
  refine wpV_take (i := 12) (v := ?_) rfl (by kernel_rfl) (by kernel_rfl) (by kernel_rfl) (by first | exact fun _ _ _ h => h | exact fun c a w h => HQP.out c _ a w h) S1 (Or.inl ⟨by kernel_rfl, ?_⟩) ?_
  rotate_left
  · intro w hSw
    go_simp
    try with_reducible rfl
  try simp only [Act.put, List.setIfInBounds_toArray, List.set_cons_zero, List.set_cons_succ]
  refine wpV_one (i := 13) (by kernel_rfl) rfl (fun K hK => ?_)
  go_simp
  have hb2 : Below w1.heap.size w1 (w1.alloc (.cells #[.int .i64 ((done.length : Int) + 1), .slice hA hn hc] 139)) := (Below.refl _ _).alloc (Nat.le_refl _) _; have S2 := S1.chg (S := Nil) (Chg.of_below hb2) (fun hf => hf)
  refine hK.out _ _ S2 ?_
  clear hK K
  try simp only [Act.put, List.setIfInBounds_toArray, List.set_cons_zero, List.set_cons_succ]
  refine wpV_one (i := 14) (by kernel_rfl) rfl (fun K hK => ?_)
  refine step_append_any _ rfl (.tmp 70) (.tmp 83) _ rfl base 139 i0 _ 2 32 Try.underlying133 hi0 iz0 iz1 iz2 rfl (by omega) o ks.length us rfl (own_below HR1.out hb2) (From w1.heap.size) (some ⟨w1.heap.size, 0, none⟩) 1 1 [.int .i64 ((done.length : Int) + 1), .slice hA hn hc] rfl (Rd.two w1 _ _ _) (by intro u hu; simp at hu; rcases hu with hu | hu <;> subst hu <;> rfl) (by simp only [maxLen]; have := HK.out; omega) (by have := HK.out; omega) (by have := HB.out; simp; omega) ?_; intro v2 w2 hown2 hg2 hat2; have hc2 := (Chg.refl (fun b => o.ownBlock = some b) _).grown hg2 (fun k hk _ => hk); have S3 := S2.chg hc2 (fun e => HQ.out.2 e)
  refine hK.out _ _ S3 ?_
  clear hK K
  try simp only [Act.put, List.setIfInBounds_toArray, List.set_cons_zero, List.set_cons_succ]
  refine wpV_take (i := 15) (v := ?_) rfl (by kernel_rfl) (by kernel_rfl) (by kernel_rfl) (by first | exact fun _ _ _ h => h | exact fun c a w h => HQP.out c _ a w h) S3 (Or.inl ⟨by kernel_rfl, ?_⟩) ?_
  rotate_left
  · intro w hSw
    go_simp
    try with_reducible rfl
  try simp only [Act.put, List.setIfInBounds_toArray, List.set_cons_zero, List.set_cons_succ]
  refine wpV_done (by kernel_rfl) ?_ _
  have hm2 : Off (Grown F w.drew w1) mm (w1.alloc (.cells #[.int .i64 ((done.length : Int) + 1), .slice hA hn hc] 139)).heap.size := ⟨fun h => h.elim (fun h => by have := HFL.out _ h; simp at this; omega) (fun h => by have := h.2; rw [World.size_alloc] at this; omega), by simp; omega⟩
  have hh : SB w1 (fun b => Off (Grown F w.drew w1) mm b ∧ o.ownBlock ≠ some b) (.slice hA hn hc) nd.high := SB.weak ((H1.out.lt.below (Below.refl _ _).drew).chg HC1.out (fun b hb h => h.elim hb.1.1.1 hb.1.1.2)).sb (fun b hb => ⟨off_next (w := w.drew) hb.2 hb.1.1, hb.1.2⟩)
  have hob : ∀ b, Grown F w.drew w1 b → o.ownBlock ≠ some b := fun b hb e => hb.elim (fun h => (HOB.out b e).1.1 h) (fun h => by have h1 : w.heap.size ≤ b := h.1; have := (HOB.out b e).2; omega)
  refine HEX.out _ _ _ _ _ _ _ _ _ _ _ _ _ _ _ v2 w2 ⟨⟨Grown F w.drew w1, ?_, fun b hb => hb.elim .inl (fun h => .inr h.1), ?_, ?_⟩, ?_⟩
  · exact (HS1.out.below hb2).chg hc2 hob (fun e => (HOB.out mm e).1.2 rfl)
  · exact KidRow.push (own_below HR1.out hb2) HR2.out (fun i k hk => let ⟨a, u, b, c⟩ := HR3.out i k hk; ⟨a, u, b, c.below hb2⟩) hown2 hg2 hat2 (hh.below hb2) (fun _ h => h) hm2
  · exact fun b hb h => rest_next (w := w.drew) hb h (hat2.imp id (fun e => ⟨_, by simp; omega, e⟩))
  · exact (((Chg.refl _ _).drew.trans HC1.out (fun b _ h => .inl h)).then hb2).trans hc2 (fun b _ h => .inr h)

theorem rd_own_blk {w : World} {base : Nat} {e : TypeId} {size n c : Nat} {A : Option Addr} {xs : List Value} {D : Nat → Prop} (h : w.ownsRow base e size (.slice A n c) n xs) (hD : ∀ g, (Value.slice A n c).ownBlock = some g → D g) : Rd w D size A n xs := by
  refine ⟨h.1, fun hn => ?_⟩
  obtain ⟨g, cap, hv, hbg, hlt⟩ := h.form hn
  have hA : A = some ⟨g, 0, none⟩ := by injection hv
  subst hA
  exact ⟨g, 0, rfl, hD g rfl, fun j u hu => by have := h.cells (g := g) rfl j u hu; rw [add_eq] at this; exact this⟩
/-- the part of kids under node i -/
def kpart (most : Nat) (ks : List (Int × List UInt8)) (i : Nat) : List (Int × List UInt8) := (ks.drop (i * most)).take most
/-- the high of inner node i -/
def hiA (most : Nat) (ks : List (Int × List UInt8)) (i : Nat) : List UInt8 := ((kpart most ks i).getLastD (0, [])).2
/-- inner node i of M, in its slot -/
def aboveS (most : Nat) (lev : Int) (ks : List (Int × List UInt8)) (d0 M i : Nat) : Slt := (2, ⟨lev, hiA most ks i, if i + 1 < M then (d0 : Int) + (i : Int) + 1 + 1 else 0, (kpart most ks i).dropLast.map Prod.snd, [], (kpart most ks i).map Prod.fst⟩)

theorem rowsK_tx {w : World} {base s mi : Nat} {D G : Nat → Prop} {us : List Value} {ks : List (Int × List UInt8)} {kv dv : Value} {kus dus : List Value} (h : RowsK w base ((us.drop (s * 2)).take (mi * 2)) (mi - 1) mi kv dv kus dus) (ht : Kds w D us ks) (hkm : s + mi ≤ ks.length)
    (h1 : ∀ b, base ≤ b → G b) (h2 : ∀ b, D b → G b) : ∃ kA kc dA dc, kv = .slice kA (mi - 1) kc ∧ dv = .slice dA mi dc ∧ Tx w G kA (mi - 1) kc (((ks.drop s).take mi).dropLast.map Prod.snd) ∧ It w G dA mi dc (((ks.drop s).take mi).map Prod.fst) := by
  obtain ⟨kA, kc, rfl, a1, a2⟩ := own_val h.k
  obtain ⟨dA, dc, rfl, b1, b2⟩ := own_val h.v
  have hl : ((ks.drop s).take mi).length = mi := by rw [List.length_take, List.length_drop]; omega
  have key : ∀ (i : Nat), i < mi → ∃ e : Int × List UInt8, ((ks.drop s).take mi)[i]? = some e ∧ ks[s + i]? = some e := by
    intro i hi
    have : s + i < ks.length := by omega
    exact ⟨ks[s + i], by rw [List.getElem?_take, if_pos hi, List.getElem?_drop]; exact List.getElem?_eq_getElem this, List.getElem?_eq_getElem this⟩
  have idx : ∀ (i j : Nat), i < mi → j < 2 → ((us.drop (s * 2)).take (mi * 2))[2 * i + j]? = us[2 * (s + i) + j]? := by
    intro i j hi hj
    rw [List.getElem?_take, if_pos (by omega), List.getElem?_drop, show s * 2 + (2 * i + j) = 2 * (s + i) + j by omega]
  refine ⟨kA, kc, dA, dc, rfl, rfl, ⟨a1, a2, Lib.hid (by rw [List.length_map, List.length_dropLast, hl]), kus, (Rd.of_own h.k).weak h1, fun i t ht' => ?_⟩, ⟨b1, b2, Lib.hid (by rw [List.length_map, hl]), ?_⟩⟩
  · have hi : i < mi - 1 := by have := (List.getElem?_eq_some_iff.1 ht').1; rw [List.length_map, List.length_dropLast, hl] at this; exact this
    obtain ⟨e, e1, e2⟩ := key i (by omega)
    rw [List.getElem?_map, List.getElem?_dropLast, if_pos (by rw [hl]; exact hi), e1] at ht'
    injection ht' with ht'
    subst ht'
    obtain ⟨_, u, q1, q2⟩ := ht _ e e2
    exact ⟨u, by rw [h.ku i hi, idx i 1 (by omega) (by omega)]; exact q1, q2.weak h2⟩
  · have he : dus = (((ks.drop s).take mi).map Prod.fst).map (Value.int .i64) := by
      apply List.ext_getElem?
      intro i
      rcases Nat.lt_or_ge i mi with hi | hi
      · obtain ⟨e, e1, e2⟩ := key i hi
        have hx := idx i 0 hi (by omega)
        rw [Nat.add_zero, Nat.add_zero] at hx
        rw [h.vu i hi, hx, (ht _ e e2).1, List.getElem?_map, List.getElem?_map, e1]; rfl
      · have hd : dus.length = mi * 1 := h.v.1
        rw [List.getElem?_eq_none (by omega), List.getElem?_eq_none (by rw [List.length_map, List.length_map, hl]; exact hi)]
    rw [← he]
    exact (Rd.of_own h.v).weak h1

theorem small_kpart {ks : List (Int × List UInt8)} (hs : ∀ k ∈ ks, k.2.length ≤ 1152921504606) (s m : Nat) (hm : m ≤ 1152921504606) (lev right : Int) (high : List UInt8) (hh : high.length ≤ 1152921504606) : Small ⟨lev, high, right, ((ks.drop s).take m).dropLast.map Prod.snd, [], ((ks.drop s).take m).map Prod.fst⟩ := by
  have hl : ((ks.drop s).take m).length ≤ m := by rw [List.length_take]; exact Nat.min_le_left _ _
  have hmem : ∀ e ∈ (ks.drop s).take m, e ∈ ks := fun e he => List.mem_of_mem_drop (List.mem_of_mem_take he)
  refine ⟨hh, ?_, by simp, ?_, fun t ht => ?_, by simp⟩
  · show (((ks.drop s).take m).dropLast.map Prod.snd).length ≤ _; rw [List.length_map, List.length_dropLast]; omega
  · show (((ks.drop s).take m).map Prod.fst).length ≤ _; rw [List.length_map]; omega
  · obtain ⟨e, he, rfl⟩ := List.mem_map.1 ht; exact hs e (hmem e (List.dropLast_subset _ he))

set_option maxRecDepth 100000 in
set_option maxHeartbeats 4000000 in
theorem above_any (F : Nat → Prop) (p mm : Nat) (nodes root : Int) (done : List Slt) (A : Option Addr) (n c : Nat) (ks : List (Int × List UInt8)) (most M : Nat) (lev : Int) (w : World) (base : Nat) (hst : MakerSt w F p mm nodes root done) (hE : KidRow w (Off F mm) base (.slice A n c) ks) (hnl : Hid (n = ks.length))
    (h1 : 1 ≤ most) (h2 : most ≤ 1152921504606) (hn : n ≤ 65536) (hpos : 0 < n) (hsm : ∀ k ∈ ks, k.2.length ≤ 1152921504606) (hM : n ≤ M * most ∧ M * most < n + most) (hMn : (done.length : Int) + (M : Int) ≤ nodes) (hn1 : nodes ≤ 65536) :
    Calls Try.prog 62 #[.pointer (some ⟨mm, 0, none⟩), .slice A n c, .int .i64 most, .int .i64 lev] w fun e w' => ∃ F' v, e = .returned v ∧ Lv w w' F F' p mm nodes root done (aboveS most lev ks done.length M) (hiA most ks) M v := by
  have HST := Lib.hid hst
  have HL := hnl
  obtain ⟨us, hown, hblk, hkds⟩ := hE
  have hrow : w.ownsRow base 139 2 (.slice A n c) n us := by have := hown; rwa [← hnl.out] at this
  have HR : Hid (Rd w (Off F mm) 2 A n us) := Lib.hid (rd_own_blk hrow hblk)
  have HT : Hid (Kds w (Off F mm) us ks) := Lib.hid (fun i k hk => let ⟨a, u, b, c⟩ := hkds i k hk; ⟨a, u, b, c.weak (fun b hb => hb.1)⟩)
  have hnc : n ≤ c ∧ c ≤ maxLen := by obtain ⟨_, _, e, q1, q2⟩ := own_val hrow; injection e with _ _ e; subst e; exact ⟨q1, q2⟩
  have HS := Lib.hid hsm
  clear hst hsm hown hblk hkds hrow hnl
  go_enter Try.func62, Try.ntmps62
  go_wp2_with (go_at_call 93; refine (groupsK_any A n c most (Off F mm) us w HR.out hnc.1 hnc.2 h1 h2 (by omega)).mono ?_; rintro e w0 ⟨K, vals, A', m, c', gv, rfl, g1, g2, g3, g4, g5, g6, g7, g8, g9, hb0⟩; obtain ⟨r, cp, hgv, hbr, hlr⟩ := g1.form (by omega); subst hgv)
  have hm0 : 0 < m := by rcases g6 with h | h; subst h; simp at g4; omega; exact h
  have hMK : M = K + 1 := by
    have a1 : K * most < M * most := by omega
    have a2 : M * most < (K + 2) * most := by rw [Nat.add_mul]; omega
    have a3 := Nat.lt_of_mul_lt_mul_right a1
    have a4 := Nat.lt_of_mul_lt_mul_right a2
    omega
  subst hMK
  have hrest0 : ∀ b, Off F mm b → Rest F mm (.slice none 0 0) b := fun b h => ⟨h, by simp [Value.ownBlock]⟩
  have H0 := Lib.hid (show Hold w0 (Rest F mm (.slice none 0 0)) w.heap.size 133 (.slice (some ⟨r, 0, none⟩) (K + 1) cp) us most K m vals A' c' from ⟨g1, fun g hg => by have hg : some r = some g := hg; injection hg with hg; subst hg; exact hrest0 _ ⟨fun h => by have := HST.out.2.1 _ h; omega, by have := HST.out.2.2.1; omega⟩, g2, fun i hi => let ⟨B, d, a, b, e, f⟩ := g3 i hi; ⟨B, d, a, b, e, f.weak hrest0⟩, g9.weak hrest0, g7, g8⟩)
  have HN := Lib.hid g4
  have HM := Lib.hid g5
  have HB0 := Lib.hid hb0
  have hKK : K + 1 ≤ 65536 := by omega
  clear g1 g2 g3 g4 g5 g6 g9 hb0
  go_loopg [9, 21] (K + 1) (fun g' out i wr => ∃ (k : Nat) (o : Value) (F' : Nat → Prop), g' = K + 1 - k ∧ k ≤ K + 1 ∧ i = .int .i64 k ∧ o = out ∧ Lv w wr F F' p mm nodes root done (aboveS most lev ks done.length (K + 1)) (hiA most ks) k o ∧ Hold wr (Rest F' mm o) w.heap.size 133 (.slice (some ⟨r, 0, none⟩) (K + 1) cp) us most K m vals A' c' ∧ Kds wr (Rest F' mm o) us ks)
  case atStart => exact ⟨0, _, F, by omega, by omega, rfl, rfl, ⟨by simpa using HST.out.below HB0.out, KidRow.nil _ _ _, Chg.of_below HB0.out, fun b hb => .inl hb⟩, H0.out, (HT.out.below HB0.out).next (Chg.refl Nil _) (fun _ _ h => h) (fun b _ h => hrest0 b h)⟩
  case round =>
    obtain ⟨k, o, F', hg, hk, rfl, rfl, hlv, hho, htx⟩ := hrel
    have HG := Lib.hid hg
    have HLV := Lib.hid hlv
    have HHO := Lib.hid hho
    have HTX := Lib.hid htx
    clear hg hlv hho htx
    rename World => wq
    by_cases hlt : k < K + 1
    · obtain ⟨r', cp', B, mi, d, hr', hrl, hrD, hmi, hcell, hd1, hd2, hpr⟩ := HHO.out.at_ hlt
      injection hr' with hr' _ hr''
      injection hr' with hr'
      injection hr' with hr'
      subst hr'; subst hr''
      have hkm : k * most + mi ≤ ks.length ∧ (ks.drop (k * most)).take most = (ks.drop (k * most)).take mi := by
        have a1 := HL.out
        have a2 := HN.out
        have a3 := hmi
        have a5 := HM.out
        by_cases hk' : k < K
        · rw [if_pos hk'] at a3
          have a4 : (k + 1) * most ≤ K * most := Nat.mul_le_mul_right _ hk'
          rw [Nat.add_mul] at a4
          exact ⟨by omega, by rw [a3]⟩
        · rw [if_neg hk'] at a3
          obtain rfl : k = K := by omega
          exact ⟨by omega, by rw [List.take_of_length_le (by rw [List.length_drop]; omega), List.take_of_length_le (by rw [List.length_drop]; omega)]⟩
      have hmi2 : mi ≤ 1152921504606 := by have := HL.out; omega
      have hmi0 : 0 < mi := by rw [hmi]; split <;> omega
      have HPR := Lib.hid hpr
      have HKM := Lib.hid hkm
      clear hmi hpr hkm hd2
      have HOB : Hid (∀ g, o.ownBlock = some g → w.heap.size ≤ g ∧ Off F' mm g) := Lib.hid (by obtain ⟨us, a, b, _⟩ := HLV.out.row; exact fun g hg => ⟨(own_lt a g hg).1, b g hg⟩)
      have HSZ := Lib.hid HLV.out.chg.size
      have HKN : Hid ((done ++ (List.range k).map (aboveS most lev ks done.length (K + 1))).length = done.length + k) := Lib.hid (by simp)
      obtain ⟨b, o1, id, Ah, nh, ch, rfl, hDb, _, _, _, c2', x, hx, _, sx⟩ := kid_at HPR.out HTX.out HKM.out.1 (j := mi - 1) (by omega)
      have C2 := Lib.hid c2'
      have HX := Lib.hid hx
      have SX := Lib.hid sx
      have HDB := Lib.hid hDb
      clear c2' hx sx hDb
      go_wp2
      refine above_in (Rest F' mm o) us ks (some ⟨b, o1, none⟩) mi d (k * most) wq.heap.size lev wq _ hmi2 hd1 _ (Lib.hid (fun _ _ _ _ h => h)) rfl HPR.out HTX.out HKM.out.1 ((Below.refl _ _).alloc (Nat.le_refl _) _) (Blk.new _ _ _) ?_
      intro v14 v15 v32 v33 v34 v35 v36 v37 v38 v39 v40 v41 v42 v43 v44 v45 v46 v47 v48 v49 v50 v51 v52 v53 v54 v55 v56 v57 v58 v59 v60 kv dv kus dus wz hbk hrw hbz
      have HBZ := Lib.hid hbz
      have hqF : ∀ b, wq.heap.size ≤ b → Rest F' mm o b := fun b hb => ⟨⟨fun h => by have := HLV.out.st.2.1 _ h; omega, by have := HLV.out.st.2.2.1; omega⟩, fun e => by obtain ⟨us, a, _⟩ := HLV.out.row; have := (own_lt a _ e).2; omega⟩
      have HQF := Lib.hid hqF
      obtain ⟨kA, kc, dA, dc, rfl, rfl, tk, tv⟩ := rowsK_tx (G := fun b => Off F' mm b ∧ b ≠ wq.heap.size) hrw (HTX.out.next (Chg.of_below (S := Nil) hbz) (fun _ _ h => h) (D' := fun b => Rest F' mm o b ∧ b < wq.heap.size) (fun b hb h => ⟨h, hb⟩)) HKM.out.1 (fun b hb => ⟨(hqF b (by omega)).1, by omega⟩) (fun b hb => ⟨hb.1.1, by omega⟩)
      have HBK := Lib.hid hbk
      have c2 := bkeep hbz C2.out
      have hch1 : Chg (One wq.heap.size) wz (wz.setCell ⟨wq.heap.size, 1, none⟩ (.slice Ah nh ch)) := Chg.set1 _ _ _ _
      have HTK := Lib.hid ((tk.chg hch1 (fun b hb e => hb.2 e)).weak (G := Off F' mm) (fun b hb => hb.1))
      have HTV := Lib.hid ((tv.chg hch1 (fun b hb e => hb.2 e)).weak (G := Off F' mm) (fun b hb => hb.1))
      have HTH := Lib.hid (((((SX.out.lt.below hbz)).chg hch1 (fun b hb e => by have := hb.2; have e : b = wq.heap.size := e; omega)).weak (G := Rest F' mm o) (fun b hb => hb.1)).bt)
      have HBX : Hid (Below wq.heap.size wq (wz.setCell ⟨wq.heap.size, 1, none⟩ (.slice Ah nh ch))) := Lib.hid (hbz.setCell (p := ⟨wq.heap.size, 1, none⟩) (Nat.le_refl _) _)
      have HBK1 := Lib.hid (hbk.set_ 1 (.slice Ah nh ch))
      have q1 : wz.cell? ⟨wq.heap.size, 1, none⟩ = some (.slice none 0 0) := (hbk.cell 1).trans rfl
      have qf := hbk.frozen
      have w1 := IntWalk.i64_in ((mi : Int) - 1) (by omega)
      have w2 : (0 : Int) ≤ (mi : Int) - 1 := by omega
      have w3 : ((mi : Int) - 1) < mi := by omega
      have w4 : ((mi : Int) - 1).toNat = mi - 1 := by omega
      have w8 : (1 : Int) ≤ (mi : Int) := by omega
      have hxl : x.2.length ≤ 1152921504606 := HS.out _ (List.mem_of_getElem? HX.out)
      have hhi : Hid (x.2 = hiA most ks k) := Lib.hid (by
        unfold hiA kpart
        rw [HKM.out.2, List.getLastD_eq_getLast?, List.getLast?_eq_getElem?, List.length_take, List.length_drop, Nat.min_eq_left (by have := HKM.out.1; omega), List.getElem?_take, if_pos (by omega), List.getElem?_drop, HX.out]; rfl)
      clear hbk hrw hbz tk tv hch1 hqF
      go_wp2
      refine abp F' p mm nodes root (done ++ (List.range k).map (aboveS most lev ks done.length (K + 1))) ⟨lev, x.2, 0, ((ks.drop (k * most)).take mi).dropLast.map Prod.snd, [], ((ks.drop (k * most)).take mi).map Prod.fst⟩ Ah kA none dA nh ch (mi - 1) kc 0 0 mi dc (decide (k < K)) wq.heap.size (wz.setCell ⟨wq.heap.size, 1, none⟩ (.slice Ah nh ch)) w.heap.size o _ r (K + 1) cp k _ (Lib.hid (fun _ _ _ _ h => h)) (HLV.out.st.below HBX.out) (by have := HKN.out; omega) hn1 (by simp; omega) (by have := HSZ.out; have := HBX.out.size; omega) HBK1.out (HQF.out _ (Nat.le_refl _)) HTH.out HTK.out (Tx.nil _ _) HTV.out (small_kpart HS.out _ _ hmi2 _ _ _ hxl) (HLV.out.row.below HBX.out) (by omega) hKK (decide_eq_decide.2 (by omega)) (IntWalk.i64_in _ (by omega)) ?_
      intro v70 v71 v72 v73 v74 v75 v76 v77 v78 v79 v80 v81 v82 v83 v84 o' w' hput
      obtain ⟨F'', lv2, hr2⟩ := lv_next HLV.out HBX.out hput (by
        have e1 := HKN.out
        have e2 := hhi.out
        have e3 := HKM.out.2
        simp only [aboveS, kpart, e2, e3, e1, Nat.add_lt_add_iff_right, Int.natCast_add, decide_eq_true_eq]) (by have := HKN.out; omega) hhi.out (fun g hg => (HOB.out g hg).1)
      have HPC := Lib.hid hput.chg
      have HLV2 := Lib.hid lv2
      have HR2 := Lib.hid hr2
      clear hput lv2 hr2
      have hdis : ∀ b, Rest F' mm o b → ¬ ((F' b ∨ b = mm) ∨ o.ownBlock = some b) := fun b hb h => h.elim (fun h => h.elim hb.1.1 hb.1.2) hb.2
      go_wp2
      go_roundg (K + 1 - (k + 1))
      case measure => have := HG.out; omega
      case rel => exact ⟨k + 1, o', F'', rfl, by omega, by go_num, rfl, HLV2.out, (HHO.out.below HBX.out).next HPC.out hdis HR2.out, (HTX.out.below HBX.out).next HPC.out hdis HR2.out⟩
    · obtain rfl : k = K + 1 := by omega
      go_wp2
      go_ret
      exact ⟨F', _, rfl, HLV.out⟩
end Go.Proofs.Ytgjphmlmndcaeaa
