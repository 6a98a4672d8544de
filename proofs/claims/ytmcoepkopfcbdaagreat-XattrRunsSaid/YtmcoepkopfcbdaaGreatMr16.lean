/- Plain: inodes and attributes behind a change. -/
import Derived.Test.YtmcoepkopfcbdaaGreatMr15
import Derived.Test.YtmcoepkopfcbdaaGreatMr5
import Derived.Deep.DeepCutAuto
import Derived.ArgAppend
import Derived.Deep.RegionWith
import Derived.Test.YtmcoepkopfcbdaaGreatMr12
namespace Go.Proofs.YtmcoepkopfcbdaaGreat
set_option linter.unusedVariables false

theorem part_eq {l l' : List UInt8} {o o' z : Nat} (h : ∀ j, j < z → l[o + j]? = l'[o' + j]?) : (l.drop o).take z = (l'.drop o').take z := by
  apply List.ext_getElem?
  intro j
  rw [List.getElem?_take, List.getElem?_take, List.getElem?_drop, List.getElem?_drop]
  split
  · exact h j ‹_›
  · rfl
theorem overL_at {b s : List UInt8} {p : Nat} (h : p + s.length ≤ b.length) (j : Nat) : (overL b p s)[j]? = if j < p then b[j]? else if j < p + s.length then s[j - p]? else b[j]? := by
  unfold overL
  have hp : (b.take p).length = p := by simp; omega
  by_cases h1 : j < p
  · rw [if_pos h1, List.append_assoc, List.getElem?_append_left (by omega), List.getElem?_take, if_pos h1]
  · rw [if_neg h1, List.append_assoc, List.getElem?_append_right (by omega), hp]
    by_cases h2 : j < p + s.length
    · rw [if_pos h2, List.getElem?_append_left (by omega)]
    · rw [if_neg h2, List.getElem?_append_right (by omega), List.getElem?_drop, show p + s.length + (j - p - s.length) = j by omega]
theorem fnum_over_in {b s : List UInt8} {p : Nat} (h : p + s.length ≤ b.length) {i z : Nat} (hz : i + z ≤ s.length) : fnum (overL b p s) (p + i) z = fnum s i z := by
  unfold fnum
  rw [part_eq (l' := s) (o' := i) (fun j hj => by rw [overL_at h, if_neg (by omega), if_pos (by omega), show p + i + j - p = i + j by omega])]
theorem fnum_over_out {b s : List UInt8} {p : Nat} (h : p + s.length ≤ b.length) {o z : Nat} (hz : o + z ≤ p ∨ p + s.length ≤ o) : fnum (overL b p s) o z = fnum b o z := by
  unfold fnum
  rw [part_eq (l' := b) (o' := o) (fun j hj => by
    rw [overL_at h]
    rcases hz with hz | hz
    · rw [if_pos (by omega)]
    · rw [if_neg (by omega), if_neg (by omega)])]
theorem fit_at {x : List Int} (h : fitsB x = true) (k : Fin 12) : 0 ≤ x.getD (fplace k) 0 ∧ x.getD (fplace k) 0 < 256 ^ (fsize k).toNat := by
  unfold fitsB at h
  rw [List.all_eq_true] at h
  refine of_decide_eq_true (h k ?_)
  rcases k with ⟨k, hk⟩
  rcases (by omega : k = 0 ∨ k = 1 ∨ k = 2 ∨ k = 3 ∨ k = 4 ∨ k = 5 ∨ k = 6 ∨ k = 7 ∨ k = 8 ∨ k = 9 ∨ k = 10 ∨ k = 11) with rfl | rfl | rfl | rfl | rfl | rfl | rfl | rfl | rfl | rfl | rfl | rfl <;> simp [allF]
theorem inoL_inoB {x : List Int} (hx : x.length = 12) (h : fitsB x = true) : inoL (inoB x) 0 = x := by
  obtain ⟨k, l, o, s, d0, d1, d2, d3, d4, d5, n, e, rfl⟩ : ∃ k l o s d0 d1 d2 d3 d4 d5 n e : Int, x = [k, l, o, s, d0, d1, d2, d3, d4, d5, n, e] := by
    match x, hx with
    | [k, l, o, s, d0, d1, d2, d3, d4, d5, n, e], _ => exact ⟨k, l, o, s, d0, d1, d2, d3, d4, d5, n, e, rfl⟩
  have f := fun k => fit_at h k
  have e0 : fnum (inoB [k, l, o, s, d0, d1, d2, d3, d4, d5, n, e]) 0 1 = k := numL_putL k 1 (f 0).1 (f 0).2
  have e1 : fnum (inoB [k, l, o, s, d0, d1, d2, d3, d4, d5, n, e]) (0 + 2) 2 = l := numL_putL l 2 (f 2).1 (f 2).2
  have e2 : fnum (inoB [k, l, o, s, d0, d1, d2, d3, d4, d5, n, e]) (0 + 1) 1 = o := numL_putL o 1 (f 1).1 (f 1).2
  have e3 : fnum (inoB [k, l, o, s, d0, d1, d2, d3, d4, d5, n, e]) (0 + 4) 4 = s := numL_putL s 4 (f 3).1 (f 3).2
  have e4 : fnum (inoB [k, l, o, s, d0, d1, d2, d3, d4, d5, n, e]) (0 + 8) 2 = d0 := numL_putL d0 2 (f 4).1 (f 4).2
  have e5 : fnum (inoB [k, l, o, s, d0, d1, d2, d3, d4, d5, n, e]) (0 + 10) 2 = d1 := numL_putL d1 2 (f 5).1 (f 5).2
  have e6 : fnum (inoB [k, l, o, s, d0, d1, d2, d3, d4, d5, n, e]) (0 + 12) 2 = d2 := numL_putL d2 2 (f 6).1 (f 6).2
  have e7 : fnum (inoB [k, l, o, s, d0, d1, d2, d3, d4, d5, n, e]) (0 + 14) 2 = d3 := numL_putL d3 2 (f 7).1 (f 7).2
  have e8 : fnum (inoB [k, l, o, s, d0, d1, d2, d3, d4, d5, n, e]) (0 + 16) 2 = d4 := numL_putL d4 2 (f 8).1 (f 8).2
  have e9 : fnum (inoB [k, l, o, s, d0, d1, d2, d3, d4, d5, n, e]) (0 + 18) 2 = d5 := numL_putL d5 2 (f 9).1 (f 9).2
  have e10 : fnum (inoB [k, l, o, s, d0, d1, d2, d3, d4, d5, n, e]) (0 + 20) 2 = n := numL_putL n 2 (f 10).1 (f 10).2
  have e11 : fnum (inoB [k, l, o, s, d0, d1, d2, d3, d4, d5, n, e]) (0 + 22) 2 = e := numL_putL e 2 (f 11).1 (f 11).2
  unfold inoL
  rw [e0, e1, e2, e3, e4, e5, e6, e7, e8, e9, e10, e11]
theorem inoL_over {b s : List UInt8} {p : Nat} (h : p + s.length ≤ b.length) (hs : s.length = 24) : inoL (overL b p s) p = inoL s 0 := by
  unfold inoL
  have e : ∀ i z : Nat, i + z ≤ 24 → fnum (overL b p s) (p + i) z = fnum s (0 + i) z := fun i z hz => by rw [fnum_over_in h (by omega), Nat.zero_add]
  rw [show fnum (overL b p s) p 1 = fnum s 0 1 from e 0 1 (by omega), e 2 2 (by omega), e 1 1 (by omega), e 4 4 (by omega), e 8 2 (by omega), e 10 2 (by omega), e 12 2 (by omega), e 14 2 (by omega), e 16 2 (by omega), e 18 2 (by omega), e 20 2 (by omega), e 22 2 (by omega)]
theorem inoL_over_ne {b s : List UInt8} {p q : Nat} (h : p + s.length ≤ b.length) (hs : s.length = 24) (hq : q + 24 ≤ p ∨ p + 24 ≤ q) : inoL (overL b p s) q = inoL b q := by
  unfold inoL
  have e : ∀ i z : Nat, i + z ≤ 24 → fnum (overL b p s) (q + i) z = fnum b (q + i) z := fun i z hz => fnum_over_out h (by omega)
  rw [show fnum (overL b p s) q 1 = fnum b q 1 from e 0 1 (by omega), e 2 2 (by omega), e 1 1 (by omega), e 4 4 (by omega), e 8 2 (by omega), e 10 2 (by omega), e 12 2 (by omega), e 14 2 (by omega), e 16 2 (by omega), e 18 2 (by omega), e 20 2 (by omega), e 22 2 (by omega)]
theorem inoAt_put_eq {v : List (List UInt8)} {I k : Int} (hg : Good v I) (h1 : 1 ≤ k) (h2 : k ≤ I) {x : List Int} (hx : x.length = 12) (hf : fitsB x = true) : inoAt (putAt v k x) k = x := by
  have hp := plan_bd hg.plan
  have hi : (3 + (k - 1) / 2).toNat < v.length := by omega
  unfold inoAt putAt
  rw [getD_set_eq' _ _ hi, inoL_over (by rw [inoB_len, getD_len hg hi]; omega) (inoB_len x), inoL_inoB hx hf]
theorem inoAt_put_ne {v : List (List UInt8)} {I k j : Int} (hg : Good v I) (h1 : 1 ≤ k) (h2 : k ≤ I) (j1 : 1 ≤ j) (hne : j ≠ k) (x : List Int) : inoAt (putAt v k x) j = inoAt v j := by
  have hp := plan_bd hg.plan
  have hi : (3 + (k - 1) / 2).toNat < v.length := by omega
  unfold inoAt putAt
  by_cases e : (3 + (k - 1) / 2).toNat = (3 + (j - 1) / 2).toNat
  · rw [← e, getD_set_eq' _ _ hi, inoL_over_ne (by rw [inoB_len, getD_len hg hi]; omega) (inoB_len x) (by omega)]
  · rw [getD_set_ne' _ _ e]
theorem inoAt_set (v : List (List UInt8)) {i : Nat} {k : Int} (b : List UInt8) (h : i ≠ (3 + (k - 1) / 2).toNat) : inoAt (v.set i b) k = inoAt v k := by
  unfold inoAt; rw [getD_set_ne' _ _ h]
theorem inoAt_fits (v : List (List UInt8)) (k : Int) : fitsB (inoAt v k) = true := fits_ino _ _

/-- attributes that a block may say -/
structure AttL (l : List Att) : Prop where
  rising : Rising l
  some' : l ≠ []
  may : ∀ x ∈ l, mayB x.1 = true
  short : (rowA l).length ≤ 126
theorem text_le_row : ∀ (ss : List (List UInt8)) (s : List UInt8), s ∈ ss → s.length ≤ (rowL ss).length
  | [], _, h => by cases h
  | t :: ss, s, h => by
    rw [rowL_cons, List.length_append, List.length_append]
    rcases List.mem_cons.1 h with rfl | h
    · omega
    · have := text_le_row ss s h; omega
theorem pairs_flat : ∀ l : List Att, pairsA (flatA l) = l
  | [] => rfl
  | x :: l => by
    have e : flatA (x :: l) = x.1 :: x.2 :: flatA l := rfl
    rw [e, pairsA, pairs_flat l]
theorem flatA_getD : ∀ (l : List Att) (j : Nat) (h : j < l.length), (flatA l).getD (j * 2) [] = l[j].1
  | x :: l, 0, _ => rfl
  | x :: l, j + 1, h => by
    have e : flatA (x :: l) = x.1 :: x.2 :: flatA l := rfl
    rw [e, show (j + 1) * 2 = j * 2 + 1 + 1 by omega]
    exact flatA_getD l j (by simpa using h)
theorem okAll_flat {l : List Att} (hr : Rising l) (hm : ∀ x ∈ l, mayB x.1 = true) : okAll (flatA l) = true := by
  unfold okAll
  rw [List.all_eq_true]
  intro j hj
  have hj' : j < l.length := by have := List.mem_range.1 hj; rw [flatA_len] at this; omega
  unfold okAt
  rw [flatA_getD l j hj', hm _ (List.getElem_mem hj'), Bool.true_and]
  cases j with
  | zero => rfl
  | succ j =>
    rw [show (j + 1) * 2 - 2 = j * 2 by omega, flatA_getD l j (by omega), (List.pairwise_iff_getElem.1 hr) j (j + 1) (by omega) hj' (by omega), Bool.or_true]
theorem block_num {r : List UInt8} (h : r.length ≤ 126) : numL ((blockL r).take 2) = r.length := by
  have e : (blockL r).take 2 = putL r.length 2 := by
    unfold blockL
    rw [List.append_assoc, List.take_append_of_le_length (by rw [putL_len]; omega), List.take_of_length_le (by rw [putL_len]; omega)]
  have := numL_putL r.length 2 (by omega) (by have : (256 : Int) ^ 2 = 65536 := rfl; omega)
  rw [e]; omega
theorem block_row {r : List UInt8} (h : r.length ≤ 126) : rowOf (blockL r) = r := by
  unfold rowOf
  rw [block_num h]
  unfold blockL
  rw [List.append_assoc, List.drop_append_of_le_length (by rw [putL_len]; omega), List.drop_of_length_le (by rw [putL_len]; omega), List.nil_append, List.take_append_of_le_length (by omega), List.take_of_length_le (by omega)]
theorem attrs_block {l : List Att} (h : AttL l) : attrsB (blockL (rowA l)) = true ∧ attrsP (blockL (rowA l)) = l := by
  have ht : textsP (rowA l) = (flatA l, 0) := textsP_row _ (fun s hs => by have := text_le_row _ s hs; have := h.short; unfold rowA at this; omega)
  have hb : attrsB (blockL (rowA l)) = true := by
    unfold attrsB
    rw [block_row h.short, block_num h.short, ht]
    simp only [Bool.and_eq_true, decide_eq_true_eq]
    refine ⟨⟨⟨⟨⟨h.short, trivial⟩, ?_⟩, ?_⟩, trivial⟩, okAll_flat h.rising h.may⟩
    · intro e
      have := flatA_len l
      rw [e] at this
      exact h.some' (List.eq_nil_of_length_eq_zero (by simp at this; omega))
    · rw [flatA_len]; omega
  refine ⟨hb, ?_⟩
  unfold attrsP
  rw [hb, if_pos rfl, block_row h.short, ht, pairs_flat]
theorem ins_may {l : List Att} (h : ∀ x ∈ l, mayB x.1 = true) {x : Att} (hx : mayB x.1 = true) : ∀ y ∈ insA l x, mayB y.1 = true := by
  intro y hy
  unfold insA at hy
  rcases List.mem_append.1 hy with hy | hy
  · exact h y (List.mem_filter.1 hy).1
  · rcases List.mem_cons.1 hy with rfl | hy
    · exact hx
    · exact h y (List.mem_filter.1 hy).1
theorem ins_ne (l : List Att) (x : Att) : insA l x ≠ [] := by unfold insA; simp
theorem rowA_cons (x : Att) (l : List Att) : rowA (x :: l) = lenL x.1.length ++ x.1 ++ (lenL x.2.length ++ x.2 ++ rowA l) := by
  show rowL (x.1 :: x.2 :: flatA l) = _
  rw [rowL_cons, rowL_cons]; rfl
theorem rowA_append (a b : List Att) : rowA (a ++ b) = rowA a ++ rowA b := by
  unfold rowA; rw [show flatA (a ++ b) = flatA a ++ flatA b by unfold flatA; simp, rowL_append]
theorem rowA_filter (p : Att → Bool) : ∀ l : List Att, (rowA (l.filter p)).length ≤ (rowA l).length
  | [] => Nat.le_refl _
  | x :: l => by
    have ih := rowA_filter p l
    rw [List.filter_cons]
    split
    · rw [rowA_cons, rowA_cons]; simp only [List.length_append]; omega
    · rw [rowA_cons]; simp only [List.length_append]; omega

/-- a volume all of whose attributes are as they may be, each inode's in a block of its own -/
structure Fine (v : List (List UInt8)) (I : Int) : Prop where
  good : Good v I
  att : ∀ k : Int, 1 ≤ k → k ≤ I → (inoAt v k).getD 0 0 ≠ 0 → extraOf (inoAt v k) ≠ 0 → dataOf I ≤ extraOf (inoAt v k) ∧ usedB v (extraOf (inoAt v k)) = true ∧ ∃ l, AttL l ∧ v.getD (extraOf (inoAt v k)).toNat [] = blockL (rowA l)
  apart : ∀ j k : Int, 1 ≤ j → j ≤ I → 1 ≤ k → k ≤ I → (inoAt v j).getD 0 0 ≠ 0 → (inoAt v k).getD 0 0 ≠ 0 → extraOf (inoAt v j) ≠ 0 → extraOf (inoAt v j) = extraOf (inoAt v k) → j = k
def attsOf (v : List (List UInt8)) (I k : Int) : List Att := (openP v I k).2.1
theorem fine_open {v : List (List UInt8)} {I k : Int} (h : Fine v I) (h1 : 1 ≤ k) (h2 : k ≤ I) (hk : (inoAt v k).getD 0 0 ≠ 0) :
    openP v I k = (inoAt v k, attsOf v I k, 0) ∧ (extraOf (inoAt v k) = 0 → attsOf v I k = []) ∧ (extraOf (inoAt v k) ≠ 0 → AttL (attsOf v I k) ∧ v.getD (extraOf (inoAt v k)).toNat [] = blockL (rowA (attsOf v I k))) := by
  unfold attsOf openP
  rw [if_neg (by omega), if_neg hk]
  by_cases e : extraOf (inoAt v k) = 0
  · have e' : (inoAt v k).getD 11 0 = 0 := e
    rw [if_pos e']
    exact ⟨rfl, fun _ => rfl, fun h => absurd e h⟩
  · have e' : ¬ (inoAt v k).getD 11 0 = 0 := e
    rw [if_neg e']
    obtain ⟨a1, a2, l, a3, a4⟩ := h.att k h1 h2 hk e
    have a5 := attrs_block a3
    unfold extraOf at *
    rw [a4, if_neg (by rintro (h | h | h); · omega
                       · rw [a2] at h; cases h
                       · rw [a5.1] at h; cases h), a5.2]
    exact ⟨rfl, fun h => absurd h e, fun _ => ⟨a3, rfl⟩⟩
theorem open_congr {v v' : List (List UInt8)} {I k : Int} (h : inoAt v' k = inoAt v k) (hu : extraOf (inoAt v k) ≠ 0 → usedB v' (extraOf (inoAt v k)) = usedB v (extraOf (inoAt v k)) ∧ v'.getD (extraOf (inoAt v k)).toNat [] = v.getD (extraOf (inoAt v k)).toNat []) : openP v' I k = openP v I k := by
  unfold openP
  rw [h]
  by_cases e : (inoAt v k).getD 11 0 = 0
  · simp only [if_pos e]
  · obtain ⟨h1, h2⟩ := hu e
    unfold extraOf at h1 h2
    rw [h1, h2]
theorem usedB_set {v : List (List UInt8)} {i : Nat} {b : List UInt8} (h : i ≠ 2) (e : Int) : usedB (v.set i b) e = usedB v e := by
  unfold usedB; rw [getD_set_ne' _ _ h, List.length_set]
theorem used_bd {v : List (List UInt8)} {e : Int} (h : usedB v e = true) : 0 ≤ e ∧ e < v.length ∧ bitB (v.getD 2 []) e.toNat = true := by
  unfold usedB at h
  simp only [Bool.and_eq_true, decide_eq_true_eq] at h
  exact ⟨h.1.1, h.1.2, h.2⟩
end Go.Proofs.YtmcoepkopfcbdaaGreat
/- Plain: what setting and dropping an attribute makes of a volume. -/
namespace Go.Proofs.YtmcoepkopfcbdaaGreat
set_option linter.unusedVariables false

theorem extra_bd (v : List (List UInt8)) (k : Int) : 0 ≤ extraOf (inoAt v k) ∧ extraOf (inoAt v k) < 65536 := by
  have h := fit_at (inoAt_fits v k) 11
  exact ⟨h.1, h.2⟩
theorem extra_set (x : List Int) (hx : x.length = 12) (e : Int) : extraOf (x.set 11 e) = e := by unfold extraOf; simp [List.getD, hx]
theorem kind_set (x : List Int) (e : Int) : (x.set 11 e).getD 0 0 = x.getD 0 0 := by simp [List.getD]
theorem set_back (x : List Int) (hx : x.length = 12) (e : Int) : (x.set 11 e).set 11 (extraOf x) = x := by
  rw [List.set_set]; unfold extraOf
  rw [List.getD_eq_getElem?_getD, List.getElem?_eq_getElem (by omega)]; simp
/-- a block with attributes is written anew -/
theorem fine_write {v : List (List UInt8)} {I k : Int} (h : Fine v I) (h1 : 1 ≤ k) (h2 : k ≤ I) (hk : (inoAt v k).getD 0 0 ≠ 0) (he : extraOf (inoAt v k) ≠ 0) {l : List Att} (hl : AttL l) :
    Fine (v.set (extraOf (inoAt v k)).toNat (blockL (rowA l))) I ∧ (∀ j, 1 ≤ j → j ≤ I → inoAt (v.set (extraOf (inoAt v k)).toNat (blockL (rowA l))) j = inoAt v j) ∧
      attsOf (v.set (extraOf (inoAt v k)).toNat (blockL (rowA l))) I k = l ∧ (∀ j, j ≠ k → (inoAt v j).getD 0 0 ≠ 0 → 1 ≤ j → j ≤ I → openP (v.set (extraOf (inoAt v k)).toNat (blockL (rowA l))) I j = openP v I j) := by
  obtain ⟨a1, a2, _⟩ := h.att k h1 h2 hk he
  have hb := used_bd a2
  have hp := plan_bd h.good.plan
  unfold dataOf at a1
  have hi : ∀ j, 1 ≤ j → j ≤ I → inoAt (v.set (extraOf (inoAt v k)).toNat (blockL (rowA l))) j = inoAt v j := fun j _ _ => inoAt_set v _ (by omega)
  have hg : Good (v.set (extraOf (inoAt v k)).toNat (blockL (rowA l))) I := h.good.set (by omega) (by omega) (blockL_len _ hl.short)
  have hs : (v.set (extraOf (inoAt v k)).toNat (blockL (rowA l))).getD (extraOf (inoAt v k)).toNat [] = blockL (rowA l) := getD_set_eq' _ _ (by omega)
  have hn : ∀ j, j ≠ k → (inoAt v j).getD 0 0 ≠ 0 → 1 ≤ j → j ≤ I → extraOf (inoAt v j) ≠ 0 → (v.set (extraOf (inoAt v k)).toNat (blockL (rowA l))).getD (extraOf (inoAt v j)).toNat [] = v.getD (extraOf (inoAt v j)).toNat [] := fun j hne hj j1 j2 ej => by
    refine getD_set_ne' _ _ (fun e => hne ?_)
    have := extra_bd v j
    exact h.apart j k j1 j2 h1 h2 hj hk ej (by omega)
  have hf : Fine (v.set (extraOf (inoAt v k)).toNat (blockL (rowA l))) I := by
    refine ⟨hg, fun j j1 j2 hj ej => ?_, fun i j i1 i2 j1 j2 => ?_⟩
    · rw [hi j j1 j2] at *
      rw [usedB_set (by omega)]
      by_cases e : j = k
      · subst e; exact ⟨(h.att j j1 j2 hj ej).1, a2, l, hl, hs⟩
      · rw [hn j e hj j1 j2 ej]; exact h.att j j1 j2 hj ej
    · rw [hi i i1 i2, hi j j1 j2]; exact h.apart i j i1 i2 j1 j2
  refine ⟨hf, hi, ?_, fun j hne hj j1 j2 => open_congr (hi j j1 j2) (fun ej => ⟨usedB_set (by omega) _, hn j hne hj j1 j2 ej⟩)⟩
  have ho := (fine_open hf h1 h2 (by rw [hi k h1 h2]; exact hk)).2.2 (by rw [hi k h1 h2]; exact he)
  rw [hi k h1 h2, hs] at ho
  have e1 := (attrs_block hl).2
  rw [ho.2, (attrs_block ho.1).2] at e1
  exact e1
theorem taken_bit {v : List (List UInt8)} {I : Int} (hg : Good v I) {i : Nat} (h1 : i < v.length) (h2 : 2 ≠ i) (j : Nat) : bitB ((takenV v i).getD 2 []) j = (bitB (v.getD 2 []) j ^^ decide (i = j)) := by
  have hp := plan_bd hg.plan
  unfold takenV
  rw [getD_set_ne' _ _ (Ne.symm h2), getD_set_eq' _ _ (by omega), bit_flip _ _ _ (by rw [getD_len hg (by omega)]; omega)]
/-- a block is taken, and says attributes -/
theorem fine_take {v : List (List UInt8)} {I k : Int} (h : Fine v I) (h1 : 1 ≤ k) (h2 : k ≤ I) (hk : (inoAt v k).getD 0 0 ≠ 0) (he : extraOf (inoAt v k) = 0) {i : Nat} (ht : takeI v I = some i) {l : List Att} (hl : AttL l) :
    Fine ((putAt (takenV v i) k ((inoAt v k).set 11 i)).set i (blockL (rowA l))) I ∧ (∀ j, 1 ≤ j → j ≤ I → j ≠ k → inoAt ((putAt (takenV v i) k ((inoAt v k).set 11 i)).set i (blockL (rowA l))) j = inoAt v j) ∧
      inoAt ((putAt (takenV v i) k ((inoAt v k).set 11 i)).set i (blockL (rowA l))) k = (inoAt v k).set 11 i ∧
      attsOf ((putAt (takenV v i) k ((inoAt v k).set 11 i)).set i (blockL (rowA l))) I k = l ∧ (∀ j, j ≠ k → (inoAt v j).getD 0 0 ≠ 0 → 1 ≤ j → j ≤ I → openP ((putAt (takenV v i) k ((inoAt v k).set 11 i)).set i (blockL (rowA l))) I j = openP v I j) ∧
      (∀ j : Nat, bitB (((putAt (takenV v i) k ((inoAt v k).set 11 i)).set i (blockL (rowA l))).getD 2 []) j = (bitB (v.getD 2 []) j ^^ decide (i = j))) := by
  obtain ⟨t1, t2, t3, t4⟩ := takeI_some ht
  have hp := plan_bd h.good.plan
  have t1' := t1
  unfold dataOf at t1'
  have hgt := h.good.taken ht
  have hlt := takenV_len v i
  have hgp : Good (putAt (takenV v i) k ((inoAt v k).set 11 i)) I := hgt.putAt h1 h2 _
  have hlp : (putAt (takenV v i) k ((inoAt v k).set 11 (i : Int))).length = v.length := by rw [putAt_len, hlt]
  have hit : ∀ j, 1 ≤ j → j ≤ I → inoAt (takenV v i) j = inoAt v j := fun j _ _ => by
    unfold takenV
    rw [inoAt_set _ _ (by omega), inoAt_set _ _ (by omega)]
  have hx12 : ((inoAt v k).set 11 (i : Int)).length = 12 := by rw [List.length_set]; exact inoAt_len v k
  have hxf : fitsB ((inoAt v k).set 11 (i : Int)) = true := fits_set (inoAt_fits v k) (inoAt_len v k) (by omega) (by omega)
  generalize hu : putAt (takenV v i) k ((inoAt v k).set 11 (i : Int)) = u at *
  have hiu : inoAt u k = (inoAt v k).set 11 (i : Int) := by rw [← hu]; exact inoAt_put_eq hgt h1 h2 hx12 hxf
  have hju : ∀ j, 1 ≤ j → j ≤ I → j ≠ k → inoAt u j = inoAt v j := fun j j1 j2 hne => by rw [← hu, inoAt_put_ne hgt h1 h2 j1 hne, hit j j1 j2]
  have h2u : u.getD 2 [] = (takenV v i).getD 2 [] := by rw [← hu]; unfold putAt; rw [getD_set_ne' _ _ (by omega)]
  have hku : inoAt (u.set i (blockL (rowA l))) k = (inoAt v k).set 11 (i : Int) := by rw [inoAt_set _ _ (by omega), hiu]
  have hjw : ∀ j, 1 ≤ j → j ≤ I → j ≠ k → inoAt (u.set i (blockL (rowA l))) j = inoAt v j := fun j j1 j2 hne => by rw [inoAt_set _ _ (by omega), hju j j1 j2 hne]
  have hgw : Good (u.set i (blockL (rowA l))) I := hgp.set (by omega) (by omega) (blockL_len _ hl.short)
  have hbw : ∀ j : Nat, bitB ((u.set i (blockL (rowA l))).getD 2 []) j = (bitB (v.getD 2 []) j ^^ decide (i = j)) := fun j => by
    rw [getD_set_ne' _ _ (by omega), h2u, taken_bit h.good t2 (by omega)]
  have hlw : (u.set i (blockL (rowA l))).length = v.length := by rw [List.length_set, hlp]
  have hne : ∀ j, 1 ≤ j → j ≤ I → (inoAt v j).getD 0 0 ≠ 0 → extraOf (inoAt v j) ≠ 0 → extraOf (inoAt v j) ≠ (i : Int) := fun j j1 j2 hj ej e => by
    have := (used_bd (h.att j j1 j2 hj ej).2.1).2.2
    rw [e, show (i : Int).toNat = i by omega, t3] at this
    cases this
  have huw : ∀ j, 1 ≤ j → j ≤ I → (inoAt v j).getD 0 0 ≠ 0 → extraOf (inoAt v j) ≠ 0 → usedB (u.set i (blockL (rowA l))) (extraOf (inoAt v j)) = usedB v (extraOf (inoAt v j)) := fun j j1 j2 hj ej => by
    unfold usedB
    have hn := hne j j1 j2 hj ej
    have := extra_bd v j
    rw [hlw, hbw, show decide (i = (extraOf (inoAt v j)).toNat) = false by simp; omega, Bool.xor_false]
  have hsw : ∀ j, 1 ≤ j → j ≤ I → (inoAt v j).getD 0 0 ≠ 0 → extraOf (inoAt v j) ≠ 0 → (u.set i (blockL (rowA l))).getD (extraOf (inoAt v j)).toNat [] = v.getD (extraOf (inoAt v j)).toNat [] := fun j j1 j2 hj ej => by
    have hn := hne j j1 j2 hj ej
    have := extra_bd v j
    have hd := (h.att j j1 j2 hj ej).1
    unfold dataOf at hd
    rw [getD_set_ne' _ _ (by omega), ← hu]
    unfold putAt takenV
    rw [getD_set_ne' _ _ (by omega), getD_set_ne' _ _ (by omega), getD_set_ne' _ _ (by omega)]
  have hsi : (u.set i (blockL (rowA l))).getD i [] = blockL (rowA l) := getD_set_eq' _ _ (by omega)
  have hxe : extraOf ((inoAt v k).set 11 (i : Int)) = i := extra_set _ (inoAt_len v k) _
  have hxk : ((inoAt v k).set 11 (i : Int)).getD 0 0 ≠ 0 := by rw [kind_set]; exact hk
  have hf : Fine (u.set i (blockL (rowA l))) I := by
    refine ⟨hgw, fun j j1 j2 hj ej => ?_, fun a b a1 a2 b1 b2 ha hb ea eab => ?_⟩
    · by_cases e : j = k
      · subst e
        rw [hku, hxe, show (i : Int).toNat = i by omega]
        refine ⟨t1, ?_, l, hl, hsi⟩
        unfold usedB
        rw [hlw, show (i : Int).toNat = i by omega, hbw, t3]; simp; omega
      · rw [hjw j j1 j2 e] at *
        rw [huw j j1 j2 hj ej, hsw j j1 j2 hj ej]; exact h.att j j1 j2 hj ej
    · by_cases e1 : a = k
      · by_cases e2 : b = k
        · rw [e1, e2]
        · rw [hjw b b1 b2 e2] at *
          subst e1
          rw [hku, hxe] at eab
          exact absurd eab.symm (hne b b1 b2 hb (by omega))
      · rw [hjw a a1 a2 e1] at *
        by_cases e2 : b = k
        · subst e2
          rw [hku, hxe] at eab
          exact absurd eab (hne a a1 a2 ha ea)
        · rw [hjw b b1 b2 e2] at *
          exact h.apart a b a1 a2 b1 b2 ha hb ea eab
  refine ⟨hf, hjw, hku, ?_, fun j hne hj j1 j2 => open_congr (hjw j j1 j2 hne) (fun ej => ⟨huw j j1 j2 hj ej, hsw j j1 j2 hj ej⟩), hbw⟩
  have ho := (fine_open hf h1 h2 (by rw [hku]; exact hxk)).2.2 (by rw [hku, hxe]; omega)
  rw [hku, hxe, show (i : Int).toNat = i by omega, hsi] at ho
  have e1 := (attrs_block hl).2
  rw [ho.2, (attrs_block ho.1).2] at e1
  exact e1
/-- the block of attributes is given back -/
theorem fine_give {v : List (List UInt8)} {I k : Int} (h : Fine v I) (h1 : 1 ≤ k) (h2 : k ≤ I) (hk : (inoAt v k).getD 0 0 ≠ 0) (he : extraOf (inoAt v k) ≠ 0) :
    Fine (putAt (givenV v (extraOf (inoAt v k)).toNat) k ((inoAt v k).set 11 0)) I ∧ (∀ j, 1 ≤ j → j ≤ I → j ≠ k → inoAt (putAt (givenV v (extraOf (inoAt v k)).toNat) k ((inoAt v k).set 11 0)) j = inoAt v j) ∧
      inoAt (putAt (givenV v (extraOf (inoAt v k)).toNat) k ((inoAt v k).set 11 0)) k = (inoAt v k).set 11 0 ∧
      attsOf (putAt (givenV v (extraOf (inoAt v k)).toNat) k ((inoAt v k).set 11 0)) I k = [] ∧ (∀ j, j ≠ k → (inoAt v j).getD 0 0 ≠ 0 → 1 ≤ j → j ≤ I → openP (putAt (givenV v (extraOf (inoAt v k)).toNat) k ((inoAt v k).set 11 0)) I j = openP v I j) ∧
      (∀ j : Nat, bitB ((putAt (givenV v (extraOf (inoAt v k)).toNat) k ((inoAt v k).set 11 0)).getD 2 []) j = (bitB (v.getD 2 []) j ^^ decide ((extraOf (inoAt v k)).toNat = j))) := by
  obtain ⟨a1, a2, _⟩ := h.att k h1 h2 hk he
  have hb := used_bd a2
  have hp := plan_bd h.good.plan
  have hde : dataOf I ≤ ((extraOf (inoAt v k)).toNat : Int) := by omega
  have hgg : Good (givenV v (extraOf (inoAt v k)).toNat) I := h.good.given hde (by omega)
  unfold dataOf at a1
  have hig : ∀ j, 1 ≤ j → j ≤ I → inoAt (givenV v (extraOf (inoAt v k)).toNat) j = inoAt v j := fun j _ _ => by
    unfold givenV
    rw [inoAt_set _ _ (by omega)]
  have hx12 : ((inoAt v k).set 11 0).length = 12 := by rw [List.length_set]; exact inoAt_len v k
  have hxf : fitsB ((inoAt v k).set 11 0) = true := fits_set (inoAt_fits v k) (inoAt_len v k) (by omega) (by omega)
  have hl : (putAt (givenV v (extraOf (inoAt v k)).toNat) k ((inoAt v k).set 11 0)).length = v.length := by rw [putAt_len, givenV_len]
  have hg : Good (putAt (givenV v (extraOf (inoAt v k)).toNat) k ((inoAt v k).set 11 0)) I := hgg.putAt h1 h2 _
  have h2u : (putAt (givenV v (extraOf (inoAt v k)).toNat) k ((inoAt v k).set 11 0)).getD 2 [] = flipL (v.getD 2 []) (extraOf (inoAt v k)).toNat := by
    unfold putAt givenV
    rw [getD_set_ne' _ _ (by omega), getD_set_eq' _ _ (by omega)]
  have hbw : ∀ j : Nat, bitB ((putAt (givenV v (extraOf (inoAt v k)).toNat) k ((inoAt v k).set 11 0)).getD 2 []) j = (bitB (v.getD 2 []) j ^^ decide ((extraOf (inoAt v k)).toNat = j)) := fun j => by
    rw [h2u, bit_flip _ _ _ (by rw [getD_len h.good (by omega)]; omega)]
  have hsu : ∀ e : Nat, dataOf I ≤ (e : Int) → (putAt (givenV v (extraOf (inoAt v k)).toNat) k ((inoAt v k).set 11 0)).getD e [] = v.getD e [] := fun e he => by
    unfold dataOf at he
    unfold putAt givenV
    rw [getD_set_ne' _ _ (by omega), getD_set_ne' _ _ (by omega)]
  have hku : inoAt (putAt (givenV v (extraOf (inoAt v k)).toNat) k ((inoAt v k).set 11 0)) k = (inoAt v k).set 11 0 := inoAt_put_eq hgg h1 h2 hx12 hxf
  have hju : ∀ j, 1 ≤ j → j ≤ I → j ≠ k → inoAt (putAt (givenV v (extraOf (inoAt v k)).toNat) k ((inoAt v k).set 11 0)) j = inoAt v j := fun j j1 j2 hne => by rw [inoAt_put_ne hgg h1 h2 j1 hne, hig j j1 j2]
  generalize putAt (givenV v (extraOf (inoAt v k)).toNat) k ((inoAt v k).set 11 0) = u at *
  have hne : ∀ j, 1 ≤ j → j ≤ I → j ≠ k → (inoAt v j).getD 0 0 ≠ 0 → extraOf (inoAt v j) ≠ 0 → extraOf (inoAt v j) ≠ extraOf (inoAt v k) := fun j j1 j2 hn hj ej e => hn (h.apart j k j1 j2 h1 h2 hj hk ej e)
  have huw : ∀ j, 1 ≤ j → j ≤ I → j ≠ k → (inoAt v j).getD 0 0 ≠ 0 → extraOf (inoAt v j) ≠ 0 → usedB u (extraOf (inoAt v j)) = usedB v (extraOf (inoAt v j)) := fun j j1 j2 hn hj ej => by
    unfold usedB
    have hn := hne j j1 j2 hn hj ej
    have := extra_bd v j
    rw [hl, hbw, show decide ((extraOf (inoAt v k)).toNat = (extraOf (inoAt v j)).toNat) = false by simp; omega, Bool.xor_false]
  have hsw : ∀ j, 1 ≤ j → j ≤ I → (inoAt v j).getD 0 0 ≠ 0 → extraOf (inoAt v j) ≠ 0 → u.getD (extraOf (inoAt v j)).toNat [] = v.getD (extraOf (inoAt v j)).toNat [] := fun j j1 j2 hj ej => by
    have hd := (h.att j j1 j2 hj ej).1
    have := extra_bd v j
    exact hsu _ (by omega)
  have hxe : extraOf ((inoAt v k).set 11 0) = 0 := extra_set _ (inoAt_len v k) _
  have hxk : ((inoAt v k).set 11 0).getD 0 0 ≠ 0 := by rw [kind_set]; exact hk
  have hf : Fine u I := by
    refine ⟨hg, fun j j1 j2 hj ej => ?_, fun a b a1 a2 b1 b2 ha hb ea eab => ?_⟩
    · by_cases e : j = k
      · subst e
        rw [hku, hxe] at ej
        exact absurd rfl ej
      · rw [hju j j1 j2 e] at *
        rw [huw j j1 j2 e hj ej, hsw j j1 j2 hj ej]; exact h.att j j1 j2 hj ej
    · by_cases e1 : a = k
      · subst e1
        rw [hku, hxe] at ea
        exact absurd rfl ea
      · rw [hju a a1 a2 e1] at *
        by_cases e2 : b = k
        · subst e2
          rw [hku, hxe] at eab
          exact absurd eab ea
        · rw [hju b b1 b2 e2] at *
          exact h.apart a b a1 a2 b1 b2 ha hb ea eab
  refine ⟨hf, hju, hku, ?_, fun j hn hj j1 j2 => open_congr (hju j j1 j2 hn) (fun ej => ⟨huw j j1 j2 hn hj ej, hsw j j1 j2 hj ej⟩), hbw⟩
  exact (fine_open hf h1 h2 (by rw [hku]; exact hxk)).2.1 (by rw [hku, hxe])
end Go.Proofs.YtmcoepkopfcbdaaGreat
/- Plain: the volume that the statements begin with. -/
namespace Go.Proofs.YtmcoepkopfcbdaaGreat
set_option linter.unusedVariables false

theorem flips6 : flips (zs 128) 6 = 63 :: zs 127 := by decide
set_option maxRecDepth 100000 in
theorem format_all : ∀ b ∈ formatV, b.length = 128 := by decide
theorem format_len : formatV.length = 24 := by simp [formatV, bareV]
theorem format_map : formatV.getD 2 [] = 63 :: zs 127 := by
  unfold formatV
  rw [getD_set_eq' _ _ (by simp [bareV]), flips6]
theorem zs_getD (n i : Nat) : (zs n).getD i 0 = 0 := by
  unfold zs
  rw [List.getD_eq_getElem?_getD, List.getElem?_replicate]
  split <;> rfl
theorem good_format : Good formatV 6 := by
  refine ⟨fun j hj => format_all _ (List.getElem_mem hj), by rw [format_len]; decide, rfl, fun i hi => ?_, fun i h1 h2 => ?_⟩
  · rw [format_map]
    rcases (by omega : i = 0 ∨ i = 1 ∨ i = 2 ∨ i = 3 ∨ i = 4 ∨ i = 5) with rfl | rfl | rfl | rfl | rfl | rfl <;> decide
  · rw [format_len] at h2
    rw [format_map]
    unfold bitB
    obtain ⟨q, hq⟩ : ∃ q, i / 8 = q + 1 := ⟨i / 8 - 1, by omega⟩
    rw [hq, List.getD_cons_succ, zs_getD]
    simp
/-- the inodes of the beginning -/
def begX (i : Nat) : List Int := [1, 1, i, 0, 0, 0, 0, 0, 0, 0, 0, 0]
/-- the volume with the first so many files -/
def begV : Nat → List (List UInt8)
  | 0 => formatV
  | i + 1 => putAt (begV i) ((i : Int) + 1) (begX i)
theorem begX_fits (i : Nat) (h : i < 3) : fitsB (begX i) = true := by
  rcases (by omega : i = 0 ∨ i = 1 ∨ i = 2) with rfl | rfl | rfl <;> decide
theorem good_beg (i : Nat) (h : i ≤ 3) : Good (begV i) 6 := by
  induction i with
  | zero => exact good_format
  | succ i ih => exact (ih (by omega)).putAt (by omega) (by omega) _
theorem beg_len (i : Nat) : (begV i).length = 24 := by
  induction i with
  | zero => exact format_len
  | succ i ih => rw [begV, putAt_len, ih]
theorem inoL_zs (n o : Nat) : inoL (zs n) o = zero12 := by
  have e : ∀ o z, fnum (zs n) o z = 0 := fun o z => by
    have h : ((zs n).drop o).take z = zs (min z (n - o)) := by unfold zs; simp
    unfold fnum
    rw [h]
    have k : ∀ m, numL (zs m) = 0 := fun m => by
      induction m with
      | zero => rfl
      | succ m ih => rw [show zs (m + 1) = 0 :: zs m from rfl, numL, ih]; rfl
    rw [k]; rfl
  unfold inoL
  simp only [e]; rfl
theorem ino_format (k : Int) (h1 : 1 ≤ k) (h2 : k ≤ 6) : inoAt formatV k = zero12 := by
  have h : formatV.getD (3 + (k - 1) / 2).toNat [] = zs 128 := by
    rcases (by omega : (3 + (k - 1) / 2).toNat = 3 ∨ (3 + (k - 1) / 2).toNat = 4 ∨ (3 + (k - 1) / 2).toNat = 5) with e | e | e <;> (rw [e]; rfl)
  unfold inoAt
  rw [h, inoL_zs]
theorem ino_beg (i : Nat) (h : i ≤ 3) : (∀ k : Int, 1 ≤ k → k ≤ i → inoAt (begV i) k = begX (k - 1).toNat) ∧ ∀ k : Int, i < k → k ≤ 6 → inoAt (begV i) k = zero12 := by
  induction i with
  | zero => exact ⟨fun k _ _ => by omega, fun k h1 h2 => ino_format k (by omega) h2⟩
  | succ i ih =>
    obtain ⟨a, b⟩ := ih (by omega)
    have hg := good_beg i (by omega)
    refine ⟨fun k h1 h2 => ?_, fun k h1 h2 => ?_⟩
    · rw [begV]
      by_cases e : k = (i : Int) + 1
      · rw [e, inoAt_put_eq hg (by omega) (by omega) rfl (begX_fits i (by omega)), show ((i : Int) + 1 - 1).toNat = i by omega]
      · rw [inoAt_put_ne hg (by omega) (by omega) h1 e, a k h1 (by omega)]
    · rw [begV, inoAt_put_ne hg (by omega) (by omega) (by omega) (by omega), b k (by omega) h2]
theorem beg_block (i j : Nat) (hi : i ≤ 3) (h1 : 6 ≤ j) (h2 : j < 24) : (begV i).getD j [] = zs 128 := by
  induction i with
  | zero =>
    show formatV.getD j [] = zs 128
    unfold formatV bareV
    obtain ⟨q, rfl⟩ : ∃ q, j = q + 1 := ⟨j - 1, by omega⟩
    rw [getD_set_ne' _ _ (by omega), List.getD_cons_succ, List.getD_eq_getElem?_getD, List.getElem?_replicate, if_pos (by omega)]; rfl
  | succ i ih => rw [begV]; unfold putAt; rw [getD_set_ne' _ _ (by omega), ih (by omega)]
theorem beg_map (i : Nat) (hi : i ≤ 3) : (begV i).getD 2 [] = 63 :: zs 127 := by
  induction i with
  | zero => exact format_map
  | succ i ih => rw [begV]; unfold putAt; rw [getD_set_ne' _ _ (by omega), ih (by omega)]
theorem map_bit (j : Nat) (h : 6 ≤ j) : bitB (63 :: zs 127) j = false := by
  unfold bitB
  by_cases e : j < 8
  · rcases (by omega : j = 6 ∨ j = 7) with rfl | rfl <;> decide
  · obtain ⟨q, hq⟩ : ∃ q, j / 8 = q + 1 := ⟨j / 8 - 1, by omega⟩
    rw [hq, List.getD_cons_succ, zs_getD]; simp
theorem beg_take (i : Nat) (hi : i ≤ 3) : takeI (begV i) 6 = some 6 := by
  unfold takeI
  rw [beg_len, beg_map i hi]
  decide
theorem fine_beg : Fine (begV 3) 6 := by
  have hi := ino_beg 3 (by omega)
  have he : ∀ k : Int, 1 ≤ k → k ≤ 6 → extraOf (inoAt (begV 3) k) = 0 := fun k h1 h2 => by
    by_cases h : k ≤ 3
    · rw [hi.1 k h1 h]; rfl
    · rw [hi.2 k (by omega) h2]; rfl
  exact ⟨good_beg 3 (by omega), fun k h1 h2 _ h => absurd (he k h1 h2) h, fun j k h1 h2 _ _ _ _ h _ => absurd (he j h1 h2) h⟩
end Go.Proofs.YtmcoepkopfcbdaaGreat
/- The walk of Begin. -/
namespace Go.Proofs.YtmcoepkopfcbdaaGreat
set_option linter.unusedVariables false
open Go.RowKit

theorem own_len {w : World} {base n size : Nat} {t : TypeId} {u : Value} {xs : List Value} (h : w.ownsRow base t size u n xs) : ∃ A c, u = .slice A n c := by
  rcases h.2 with ⟨rfl, h0⟩ | ⟨g, cap, cur, rfl, _⟩
  · exact ⟨none, 0, by rw [h0]⟩
  · exact ⟨_, _, rfl⟩
theorem beg_new (i c : Nat) (A : Option Addr) (w : World) (hi : i < 3) (hv : Strs w A 24 (begV i)) :
    Calls Tryz.prog 15 #[.slice A 24 c, .int .i64 1, .int .i64 i] w fun e w' => ∃ u, e = .returned (.tuple #[u, .int .i64 (i + 1 : Nat), .int .i64 0]) ∧ Ext w w' ∧ w'.ownsRow w.heap.size 9 1 u 24 (strL (begV (i + 1))) := by
  have hb := ino_beg i (by omega)
  have h := rnew_yes A 24 c (i + 1) (begV i) 6 i w hv (good_beg i (by omega)) (by omega) (by omega) (by omega) (by omega) (by rw [hb.2 _ (by omega) (by omega)]; rfl)
    (fun j h1 h2 => by rw [hb.1 j (by omega) (by omega)]; intro e; cases e)
  exact h
set_option maxHeartbeats 1000000 in
set_option maxRecDepth 100000 in
theorem begin_any (w : World) :
    Calls Tryz.prog 6 #[] w fun e w' => ∃ u, e = .returned u ∧ Ext w w' ∧ w'.ownsRow w.heap.size 9 1 u 24 (strL (begV 3)) := by
  have HN := Lib.hid beg_new
  have H0 := Lib.hid (show formatV = begV 0 from rfl)
  have HL := Lib.hid beg_len
  go_enter Tryz.func6, Tryz.ntmps6
  go_wp2_with fail
  refine (rformat_one _).mono ?_
  rintro e w1 ⟨u, rfl, x1, own1⟩
  rw [H0.out] at own1
  go_wp2_with fail
  go_loopw [1, 8] (fun t s wx => ∃ i : Nat, i ≤ 3 ∧ s = .int .i64 i ∧ Ext w wx ∧ wx.ownsRow w.heap.size 9 1 t 24 (strL (begV i))) (fun _ s _ => 3 - (intOf s).toNat)
  case atStart => exact ⟨0, by omega, rfl, x1, own1⟩
  case round =>
    obtain ⟨i, hi, rfl, xi, oi⟩ := hrel
    by_cases hlt : i < 3
    · obtain ⟨g, cap, rfl, hgW, si⟩ := Strs.own' oi (by omega)
      go_wp2_with fail
      refine (HN.out i _ _ _ hlt si).mono ?_
      rintro e w2 ⟨u2, rfl, x2, own2⟩
      go_wp2_with fail
      go_roundw
      case rel => exact ⟨i + 1, by omega, by go_num, xi.trans x2, own_base own2 xi.size⟩
      case measure => simp [intOf]; omega
    · obtain rfl : i = 3 := by omega
      go_wp2_with fail
      go_ret
      exact ⟨_, rfl, xi, oi⟩
end Go.Proofs.YtmcoepkopfcbdaaGreat
/- Acts: rows of them in memory; the walk of great. -/
namespace Go.Proofs.YtmcoepkopfcbdaaGreat
set_option linter.unusedVariables false
open Go.RowKit

/-- an act: its kind, its inode, the name, the value -/
abbrev ActT := Int × Int × List UInt8 × List UInt8
def actL (x : ActT) : List Value := [.int .i64 x.1, .int .i64 x.2.1, .string (str x.2.2.1), .string (str x.2.2.2)]
def actsL (l : List ActT) : List Value := l.flatMap actL
theorem actsL_append (a b : List ActT) : actsL (a ++ b) = actsL a ++ actsL b := by simp [actsL]
theorem actsL_len (l : List ActT) : (actsL l).length = l.length * 4 := by
  induction l with
  | nil => rfl
  | cons x l ih => rw [show actsL (x :: l) = actL x ++ actsL l from rfl, List.length_append, ih]; simp [actL]; omega
theorem actsL_at : ∀ (l : List ActT) (j : Nat) (h : j < l.length) (i : Nat), i < 4 → (actsL l)[j * 4 + i]? = (actL l[j])[i]?
  | x :: l, 0, _, i, hi => by
    rw [show actsL (x :: l) = actL x ++ actsL l from rfl, Nat.zero_mul, Nat.zero_add, List.getElem?_append_left (by simp [actL]; omega)]; rfl
  | x :: l, j + 1, h, i, hi => by
    rw [show actsL (x :: l) = actL x ++ actsL l from rfl, List.getElem?_append_right (by simp [actL]; omega), show (j + 1) * 4 + i - (actL x).length = j * 4 + i by simp [actL]; omega]
    exact actsL_at l j (by simpa using h) i hi
theorem actsL_one (l : List ActT) : ∀ u ∈ actsL l, u.oneCell' = true := by
  intro u hu
  simp only [actsL, actL, List.mem_flatMap, List.mem_cons, List.not_mem_nil, or_false] at hu
  obtain ⟨x, _, h | h | h | h⟩ := hu <;> (rw [h]; rfl)
/-- the slice with the address A and n places holds these acts -/
def Acts (w : World) (A : Option Addr) (n : Nat) (l : List ActT) : Prop :=
  n = l.length ∧ (0 < n → ∃ b o, A = some ⟨b, o, none⟩ ∧ ∀ j v, (actsL l)[j]? = some v → w.cell? ⟨b, o + j, none⟩ = some v)
theorem Acts.ext {w w' : World} {A : Option Addr} {n : Nat} {l : List ActT} (h : Acts w A n l) (k : Ext w w') : Acts w' A n l :=
  ⟨h.1, fun hn => by obtain ⟨b, o, e, hc⟩ := h.2 hn; exact ⟨b, o, e, fun j v hj => k.keep (hc j v hj)⟩⟩
theorem Acts.cells {w : World} {b o : Nat} {l : List ActT} (hc : ∀ j v, (actsL l)[j]? = some v → w.cell? ⟨b, o + j, none⟩ = some v) (k : Nat) (hk : k < l.length) :
    w.cell? ⟨b, o + k * 4, none⟩ = some (.int .i64 l[k].1) ∧ w.cell? ⟨b, o + k * 4 + 1, none⟩ = some (.int .i64 l[k].2.1) ∧ w.cell? ⟨b, o + k * 4 + 2, none⟩ = some (.string (str l[k].2.2.1)) ∧ w.cell? ⟨b, o + k * 4 + 3, none⟩ = some (.string (str l[k].2.2.2)) := by
  have h := fun i hi => actsL_at l k hk i hi
  refine ⟨?_, ?_, ?_, ?_⟩
  · exact hc (k * 4) _ (by rw [show k * 4 = k * 4 + 0 by omega, h 0 (by omega)]; rfl)
  · rw [Nat.add_assoc]; exact hc (k * 4 + 1) _ (by rw [h 1 (by omega)]; rfl)
  · rw [Nat.add_assoc]; exact hc (k * 4 + 2) _ (by rw [h 2 (by omega)]; rfl)
  · rw [Nat.add_assoc]; exact hc (k * 4 + 3) _ (by rw [h 3 (by omega)]; rfl)
theorem actInfo : (Tryz.prog.info? 28).map (fun i => (i.zero, i.size, i.bytes)) = some (some (.agg #[.int .i64 0, .int .i64 0, .string ⟨#[]⟩, .string ⟨#[]⟩]), 4, 48) := by kernel_rfl
def OwnAct (w : World) (base : Nat) (u : Value) (l : List ActT) : Prop := w.ownsRow base 28 4 u l.length (actsL l)
theorem OwnAct.form {w : World} {base : Nat} {u : Value} {l : List ActT} (h : OwnAct w base u l) : ∃ A cap, u = .slice A l.length cap ∧ Acts w A l.length l := by
  rcases h.2 with ⟨rfl, h0⟩ | ⟨g, cap, cur, rfl, hb, hh, hcap, _, hsz, htake⟩
  · exact ⟨none, 0, by rw [h0], rfl, fun hn => by omega⟩
  · refine ⟨_, cap, rfl, rfl, fun hn => ⟨g, 0, rfl, fun j v hj => ?_⟩⟩
    have hjl : j < (actsL l).length := (List.getElem?_eq_some_iff.1 hj).1
    rw [Nat.zero_add, cell_of_row w g j cur _ _ hh, ← hj, ← htake, List.getElem?_take, if_pos (by rw [actsL_len] at hjl; omega)]; simp
def bigAct (x : ActT) : Bool := decide (200 < x.2.2.1.length) || decide (300 < x.2.2.2.length)
def greatB (l : List ActT) : Bool := l.any bigAct || decide (20 < l.length)
set_option maxHeartbeats 1000000 in
set_option maxRecDepth 100000 in
theorem great_any (A : Option Addr) (n c : Nat) (l : List ActT) (w : World) (hs : Acts w A n l) (hn : n ≤ 9223372036854775806) :
    Calls Tryz.prog 5 #[.slice A n c] w fun e w' => e = .returned (.bool (greatB l)) ∧ Ext w w' := by
  obtain ⟨rfl, hs2⟩ := hs
  have HS := Lib.hid hs2
  have hz := str_size
  clear hs2
  go_enter Tryz.func5, Tryz.ntmps5
  go_wp2_with fail
  go_loopw [4, 7] (fun _ i wr => ∃ k : Nat, k ≤ l.length ∧ i = .int .i64 k ∧ Ext w wr ∧ (l.take k).any bigAct = false) (fun _ i _ => l.length - (intOf i).toNat)
  case atStart => exact ⟨0, by omega, rfl, Ext.refl _, rfl⟩
  case round =>
    obtain ⟨k, hk, rfl, hx, hb⟩ := hrel
    have HB := Lib.hid hb
    clear hb
    by_cases hlt : k < l.length
    · obtain ⟨b, o, rfl, hc⟩ := HS.out (by omega)
      obtain ⟨c0, c1, c2, c3⟩ := Acts.cells (fun j v hj => hx.keep (hc j v hj)) k hlt
      have HT := Lib.hid (show l.take (k + 1) = l.take k ++ [l[k]] from List.take_succ_eq_append_getElem hlt)
      have HM := Lib.hid (show l[k] ∈ l from List.getElem_mem hlt)
      clear hc
      generalize l[k] = x at *
      by_cases h1 : 200 < x.2.2.1.length
      · have hg : greatB l = true := by
          unfold greatB; rw [show l.any bigAct = true from List.any_eq_true.2 ⟨x, HM.out, by simp [bigAct, h1]⟩]; rfl
        have HG := Lib.hid hg
        clear hg
        have d1 : (200 : Int) < (x.2.2.1.length : Int) := by omega
        go_wp2_with fail
        go_ret
        exact ⟨by rw [HG.out]; rfl, hx.alloc _⟩
      · have d1 : ¬ (200 : Int) < (x.2.2.1.length : Int) := by omega
        by_cases h2 : 300 < x.2.2.2.length
        · have hg : greatB l = true := by
            unfold greatB; rw [show l.any bigAct = true from List.any_eq_true.2 ⟨x, HM.out, by simp [bigAct, h2]⟩]; rfl
          have HG := Lib.hid hg
          clear hg
          have d2 : (300 : Int) < (x.2.2.2.length : Int) := by omega
          go_wp2_with fail
          go_ret
          exact ⟨by rw [HG.out]; rfl, hx.alloc _⟩
        · have d2 : ¬ (300 : Int) < (x.2.2.2.length : Int) := by omega
          have hb2 : (l.take (k + 1)).any bigAct = false := by
            rw [HT.out, List.any_append, HB.out]
            simp [bigAct]; omega
          go_wp2_with fail
          go_roundw
          case rel => exact ⟨k + 1, by omega, by go_num, hx.alloc _, hb2⟩
          case measure => simp [intOf]; omega
    · obtain rfl : k = l.length := by omega
      have hg : greatB l = decide (20 < (l.length : Int)) := by
        unfold greatB
        have := HB.out
        rw [List.take_length] at this
        rw [this, Bool.false_or]
        exact decide_eq_decide.2 (by omega)
      have HG := Lib.hid hg
      clear hg
      go_wp2_with fail
      go_ret
      exact ⟨by rw [HG.out]; first | rfl | simp, hx⟩
end Go.Proofs.YtmcoepkopfcbdaaGreat
/- Plain: what setP and dropP say of a volume whose attributes are as they may be. -/
namespace Go.Proofs.YtmcoepkopfcbdaaGreat
set_option linter.unusedVariables false

/-- what a set attribute makes of a volume -/
structure SetOk (v v' : List (List UInt8)) (I k e : Int) (name value : List UInt8) : Prop where
  k1 : 1 ≤ k
  k2 : k ≤ I
  live : (inoAt v k).getD 0 0 ≠ 0
  may : mayB name = true
  row : (rowA (insA (attsOf v I k) (name, value))).length ≤ 126
  fine : Fine v' I
  len : v'.length = v.length
  pos : e ≠ 0
  ino : inoAt v' k = (inoAt v k).set 11 e
  inos : ∀ j, 1 ≤ j → j ≤ I → j ≠ k → inoAt v' j = inoAt v j
  atts : attsOf v' I k = insA (attsOf v I k) (name, value)
  others : ∀ j, j ≠ k → (inoAt v j).getD 0 0 ≠ 0 → 1 ≤ j → j ≤ I → openP v' I j = openP v I j
  same : extraOf (inoAt v k) ≠ 0 → e = extraOf (inoAt v k) ∧ v'.getD 2 [] = v.getD 2 []
  new : extraOf (inoAt v k) = 0 → 0 ≤ e ∧ takeI v I = some e.toNat ∧ ∀ j : Nat, bitB (v'.getD 2 []) j = (bitB (v.getD 2 []) j ^^ decide (e.toNat = j))
  blocks : ∀ j : Nat, (j : Int) ≠ e → (j < 2 ∨ dataOf I ≤ (j : Int)) → v'.getD j [] = v.getD j []
theorem setP_err {v : List (List UInt8)} {I k : Int} {name value : List UInt8} (h : (setP v I k name value).2 ≠ 0) : (setP v I k name value).1 = [] := by
  unfold setP at *
  split at h
  · rename_i h1; rw [if_pos h1]
  · rename_i h1
    rw [if_neg h1]
    split at h
    · rename_i h2; rw [if_pos h2]
    · rename_i h2
      rw [if_neg h2]
      split at h
      · rename_i h3; rw [if_pos h3]
      · rename_i h3
        rw [if_neg h3]
        split at h
        · exact absurd rfl h
        · rename_i h4
          rw [if_neg h4]
          split at h
          · rename_i h5; rfl
          · exact absurd rfl h
theorem attL_ins {v : List (List UInt8)} {I k : Int} {name value : List UInt8} (h : Fine v I) (h1 : 1 ≤ k) (h2 : k ≤ I) (hk : (inoAt v k).getD 0 0 ≠ 0) (hm : mayB name = true) (hr : (rowA (insA (attsOf v I k) (name, value))).length ≤ 126) : AttL (insA (attsOf v I k) (name, value)) := by
  refine ⟨rising_ins (rising_open v I k) _, ins_ne _ _, ins_may (fun x hx => ?_) hm, hr⟩
  by_cases e : extraOf (inoAt v k) = 0
  · rw [(fine_open h h1 h2 hk).2.1 e] at hx; cases hx
  · exact ((fine_open h h1 h2 hk).2.2 e).1.may x hx
theorem setP_ok {v : List (List UInt8)} {I k : Int} {name value : List UInt8} (h : Fine v I) (hs : (setP v I k name value).2 = 0) : ∃ e, SetOk v (setP v I k name value).1 I k e name value := by
  have ho : (openP v I k).2.2 = 0 := by
    by_cases e : (openP v I k).2.2 = 0
    · exact e
    · unfold setP at hs; rw [if_pos e] at hs; exact hs
  obtain ⟨h1, h2, hx, hk, _⟩ := open_ok ho
  have hp := plan_bd h.good.plan
  have hm : mayB name = true := by
    cases hm : mayB name with
    | true => rfl
    | false => unfold setP at hs; rw [if_neg (by simp [ho]), if_pos hm] at hs; cases hs
  have hr : (rowA (insA (attsOf v I k) (name, value))).length ≤ 126 := by
    refine Nat.le_of_not_lt fun hr => ?_
    unfold attsOf at hr
    unfold setP at hs; rw [if_neg (by simp [ho]), if_neg (by simp [hm]), if_pos hr] at hs; cases hs
  have hl := attL_ins h h1 h2 hk hm hr
  unfold setP at hs ⊢
  rw [if_neg (by simp [ho]), if_neg (by simp [hm]), if_neg (by unfold attsOf at hr; omega)] at hs ⊢
  rw [hx] at hs ⊢
  by_cases he : extraOf (inoAt v k) = 0
  · rw [if_neg (by simpa using he)] at hs ⊢
    cases ht : takeI v I with
    | none => rw [ht] at hs; cases hs
    | some i =>
      obtain ⟨a1, a2, a3, a4, a5, a6⟩ := fine_take h h1 h2 hk he ht hl
      obtain ⟨t1, t2, _, _⟩ := takeI_some ht
      unfold dataOf at t1
      refine ⟨i, ⟨h1, h2, hk, hm, hr, a1, ?_, by omega, a3, a2, a4, a5, fun e => absurd he e, fun _ => ⟨by omega, by rw [Int.toNat_natCast, ht], by rw [Int.toNat_natCast]; exact a6⟩, fun j hj hd => ?_⟩⟩
      · show (List.set _ _ _).length = _
        rw [List.length_set, putAt_len, takenV_len]
      · show (List.set _ _ _).getD j [] = _
        unfold dataOf at hd
        rw [getD_set_ne' _ _ (by omega)]
        unfold putAt takenV
        rw [getD_set_ne' _ _ (by omega), getD_set_ne' _ _ (by omega), getD_set_ne' _ _ (by omega)]
  · rw [if_pos (by simpa using he)] at hs ⊢
    obtain ⟨a1, a2, a3, a4⟩ := fine_write h h1 h2 hk he hl
    have hd := (h.att k h1 h2 hk he).1
    have hb := used_bd (h.att k h1 h2 hk he).2.1
    unfold dataOf at hd
    refine ⟨extraOf (inoAt v k), ⟨h1, h2, hk, hm, hr, a1, ?_, he, ?_, fun j j1 j2 _ => a2 j j1 j2, a3, a4, fun _ => ⟨rfl, ?_⟩, fun e => absurd e he, fun j hj hd => ?_⟩⟩
    · show (List.set _ _ _).length = _
      rw [List.length_set]
    · have e1 := set_back (inoAt v k) (inoAt_len v k) (extraOf (inoAt v k))
      rw [List.set_set] at e1
      rw [e1]; exact a2 k h1 h2
    · show (List.set _ _ _).getD 2 [] = _
      rw [getD_set_ne' _ _ (by omega)]
    · show (List.set _ _ _).getD j [] = _
      rw [getD_set_ne' _ _ (by omega)]
theorem not_live {v : List (List UInt8)} {I k : Int} (h : Fine v I) (ho : (openP v I k).2.2 ≠ 0) : k < 1 ∨ I < k ∨ (inoAt v k).getD 0 0 = 0 := by
  by_cases h1 : k < 1 ∨ I < k
  · rcases h1 with h1 | h1
    · exact .inl h1
    · exact .inr (.inl h1)
  · refine .inr (.inr ?_)
    by_cases hk : (inoAt v k).getD 0 0 = 0
    · exact hk
    · rw [(fine_open h (by omega) (by omega) hk).1] at ho
      exact absurd rfl ho
theorem setP_live {v : List (List UInt8)} {I k : Int} (h : Fine v I) (h1 : 1 ≤ k) (h2 : k ≤ I) (hk : (inoAt v k).getD 0 0 ≠ 0) {name : List UInt8} (hm : mayB name = true) (value : List UInt8) :
    ((rowA (insA (attsOf v I k) (name, value))).length > 126 → setP v I k name value = ([], 6)) ∧
    ((rowA (insA (attsOf v I k) (name, value))).length ≤ 126 → extraOf (inoAt v k) ≠ 0 ∨ takeI v I ≠ none → (setP v I k name value).2 = 0) ∧
    ((rowA (insA (attsOf v I k) (name, value))).length ≤ 126 → extraOf (inoAt v k) = 0 → takeI v I = none → setP v I k name value = ([], 10)) := by
  have ho := (fine_open h h1 h2 hk).1
  unfold attsOf at *
  have h3 : (openP v I k).2.2 = 0 := by rw [ho]
  have h4 : (openP v I k).1 = inoAt v k := by rw [ho]
  unfold setP
  rw [if_neg (by simp [h3]), if_neg (by simp [hm]), h4]
  refine ⟨fun hr => by rw [if_pos hr], fun hr he => ?_, fun hr he ht => ?_⟩
  · rw [if_neg (by omega)]
    by_cases e : extraOf (inoAt v k) = 0
    · rw [if_neg (by simpa using e)]
      cases ht : takeI v I with
      | none => exact absurd ht (he.resolve_left (by simpa using e))
      | some i => rfl
    · rw [if_pos (by simpa using e)]
  · rw [if_neg (by omega), if_neg (by simpa using he), ht]
/-- what a dropped attribute makes of a volume -/
structure DropOk (v v' : List (List UInt8)) (I k : Int) (name : List UInt8) : Prop where
  fine : Fine v' I
  len : v'.length = v.length
  kinds : ∀ j, 1 ≤ j → j ≤ I → (inoAt v' j).getD 0 0 = (inoAt v j).getD 0 0
  atts : attsOf v' I k = delA (attsOf v I k) name
  others : ∀ j, j ≠ k → (inoAt v j).getD 0 0 ≠ 0 → 1 ≤ j → j ≤ I → openP v' I j = openP v I j
theorem attL_del {l : List Att} (h : AttL l) {name : List UInt8} (hn : delA l name ≠ []) : AttL (delA l name) :=
  ⟨rising_del h.rising name, hn, fun x hx => h.may x (List.mem_filter.1 hx).1, Nat.le_trans (rowA_filter _ l) h.short⟩
theorem del_nil {l : List Att} {name : List UInt8} (h : idxA l name < 0) : delA l name = l := by
  rcases idxA_cases l name with ⟨_, h1⟩ | ⟨i, hi, e, _⟩
  · unfold delA
    exact filter_all fun x hx => by simpa using h1 x hx
  · omega
theorem del_one {l : List Att} {name : List UInt8} (h : 0 ≤ idxA l name) (hl : l.length ≤ 1) : delA l name = [] := by
  rcases idxA_cases l name with ⟨e, _⟩ | ⟨i, hi, e, hn⟩
  · omega
  · match l, hl, hi, hn with
    | [x], _, hi, hn =>
      have : i = 0 := by simpa using hi
      subst this
      have hn' : x.1 = name := hn
      simp [delA, hn']
theorem del_more {l : List Att} (hr : Rising l) {name : List UInt8} (hl : 1 < l.length) : delA l name ≠ [] := by
  intro e
  unfold delA at e
  rw [List.filter_eq_nil_iff] at e
  match l, hl, hr with
  | x :: y :: _, _, hr =>
    have hx : x.1 = name := by simpa using e x (by simp)
    have hy : y.1 = name := by simpa using e y (by simp)
    have hxy : ltB x.1 y.1 = true := (List.pairwise_cons.1 hr).1 y (by simp)
    exact ltB_ne hxy (hx.trans hy.symm)
theorem dropP_ok {v : List (List UInt8)} {I k : Int} {name : List UInt8} (h : Fine v I) (h1 : 1 ≤ k) (h2 : k ≤ I) (hk : (inoAt v k).getD 0 0 ≠ 0) (hi : 0 ≤ idxA (attsOf v I k) name) :
    (dropP v I k name).2 = 0 ∧ DropOk v (dropP v I k name).1 I k name := by
  have ho := (fine_open h h1 h2 hk)
  have he : extraOf (inoAt v k) ≠ 0 := fun e => by
    rw [ho.2.1 e] at hi; exact absurd (show (0 : Int) ≤ -1 from hi) (by decide)
  obtain ⟨hl, hb⟩ := ho.2.2 he
  have ho1 := ho.1
  unfold attsOf at ho1
  have h3 : (openP v I k).2.2 = 0 := by rw [ho1]
  have h4 : (openP v I k).1 = inoAt v k := by rw [ho1]
  unfold dropP
  rw [if_neg (by simp [h3]), if_neg (by unfold attsOf at hi; omega), h4]
  by_cases hn : 1 < (openP v I k).2.1.length
  · rw [if_pos hn]
    refine ⟨rfl, ?_⟩
    have hd := attL_del hl (del_more hl.rising (name := name) hn)
    obtain ⟨a1, a2, a3, a4⟩ := fine_write h h1 h2 hk he hd
    exact ⟨a1, by show (List.set _ _ _).length = _; rw [List.length_set], fun j j1 j2 => by rw [show ((v.set (extraOf (inoAt v k)).toNat (blockL (rowA (delA (openP v I k).2.1 name))), (0 : Int)).1) = v.set (extraOf (inoAt v k)).toNat (blockL (rowA (delA (attsOf v I k) name))) from rfl, a2 j j1 j2], a3, a4⟩
  · rw [if_neg hn]
    refine ⟨rfl, ?_⟩
    obtain ⟨a1, a2, a3, a4, a5, _⟩ := fine_give h h1 h2 hk he
    have hz := del_one hi (by unfold attsOf; omega)
    refine ⟨a1, by show (putAt _ _ _).length = _; rw [putAt_len, givenV_len], fun j j1 j2 => ?_, by rw [hz]; exact a4, a5⟩
    show (inoAt (putAt _ _ _) j).getD 0 0 = _
    by_cases e : j = k
    · rw [e, a3, kind_set]
    · rw [a2 j j1 j2 e]
theorem del_ins {l : List Att} (hr : Rising l) (x : Att) : delA (insA l x) x.1 = delA l x.1 := by
  unfold delA insA
  rw [List.filter_append, List.filter_cons]
  simp only [bne_self_eq_false, Bool.false_eq_true, if_false]
  rw [List.filter_filter, List.filter_filter]
  induction l with
  | nil => rfl
  | cons y l ih =>
    have ih := ih (List.pairwise_cons.1 hr).2
    have hy := (List.pairwise_cons.1 hr).1
    simp only [List.filter_cons]
    by_cases e : y.1 = x.1
    · simp only [e, bne_self_eq_false, Bool.false_and, Bool.false_eq_true, if_false]
      exact ih
    · have ne : (y.1 != x.1) = true := by simpa using e
      cases c : ltB y.1 x.1 with
      | true =>
        have c2 := ltB_asymm _ _ c
        simp only [ne, c2, Bool.and_true, Bool.and_false, Bool.false_eq_true, if_false, if_true, List.cons_append]
        rw [ih]
      | false =>
        have c2 : ltB x.1 y.1 = true := by
          cases c2 : ltB x.1 y.1 with
          | true => rfl
          | false => exact absurd (ltB_tri _ _ c c2) e
        simp only [ne, c2, Bool.and_true, Bool.and_false, Bool.false_eq_true, if_false, if_true]
        have f1 : (l.filter fun a => a.1 != x.1 && ltB a.1 x.1) = [] := filter_none fun a ha => by
          rw [ltB_asymm _ _ (ltB_trans _ _ _ c2 (hy a ha)), Bool.and_false]
        rw [f1, List.nil_append] at ih ⊢
        rw [ih]
end Go.Proofs.YtmcoepkopfcbdaaGreat
/- Plain: the chapter's example. -/
namespace Go.Proofs.YtmcoepkopfcbdaaGreat
set_option linter.unusedVariables false

def nameL : List UInt8 := [110, 97, 109, 101]
def valueL : List UInt8 := [118, 97, 108, 117, 101]
def aliveR : List UInt8 := [4, 110, 97, 109, 101, 5, 118, 97, 108, 117, 101]
def aliveV : List (List UInt8) := (setP (begV 3) 6 1 nameL valueL).1
theorem ins_empty (x : Att) : insA [] x = [x] := rfl
theorem rowA_one (x : Att) (h1 : x.1.length < 128) (h2 : x.2.length < 128) : rowA [x] = UInt8.ofNat x.1.length :: (x.1 ++ UInt8.ofNat x.2.length :: x.2) := by
  rw [rowA_cons, lenL_small h1, lenL_small h2]; simp [rowA, flatA, rowL]
theorem rowA_len (x : Att) (l : List Att) (h1 : x.1.length < 128) (h2 : x.2.length < 128) : (rowA (x :: l)).length = 2 + x.1.length + x.2.length + (rowA l).length := by
  rw [rowA_cons, lenL_small h1, lenL_small h2]; simp only [List.length_append, List.length_cons, List.length_nil]; omega
theorem beg_live (k : Int) (h1 : 1 ≤ k) (h2 : k ≤ 3) : (inoAt (begV 3) k).getD 0 0 ≠ 0 ∧ extraOf (inoAt (begV 3) k) = 0 := by
  rw [(ino_beg 3 (by omega)).1 k h1 (by omega)]
  exact ⟨by simp [begX], rfl⟩
theorem beg_atts (k : Int) (h1 : 1 ≤ k) (h2 : k ≤ 3) : attsOf (begV 3) 6 k = [] :=
  (fine_open fine_beg h1 (by omega) (beg_live k h1 h2).1).2.1 (beg_live k h1 h2).2
theorem beg_set (k : Int) (h1 : 1 ≤ k) (h2 : k ≤ 3) {name value : List UInt8} (hm : mayB name = true) (hr : (rowA [(name, value)]).length ≤ 126) :
    (setP (begV 3) 6 k name value).2 = 0 ∧ SetOk (begV 3) (setP (begV 3) 6 k name value).1 6 k 6 name value := by
  have hl := setP_live fine_beg h1 (by omega) (beg_live k h1 h2).1 hm value
  rw [beg_atts k h1 h2, ins_empty] at hl
  have h0 := hl.2.1 hr (.inr (by rw [beg_take 3 (by omega)]; simp))
  obtain ⟨e, he⟩ := setP_ok fine_beg h0
  obtain ⟨h3, h4, _⟩ := he.new (beg_live k h1 h2).2
  rw [beg_take 3 (by omega)] at h4
  have : e = 6 := by injection h4; omega
  subst this
  exact ⟨h0, he⟩
theorem alive_row : rowA [(nameL, valueL)] = aliveR := by rw [rowA_one _ (by decide) (by decide)]; rfl
theorem alive_ok : (setP (begV 3) 6 1 nameL valueL).2 = 0 ∧ SetOk (begV 3) aliveV 6 1 6 nameL valueL :=
  beg_set 1 (by omega) (by omega) (by decide) (by rw [alive_row]; decide)
theorem alive_open : openP aliveV 6 1 = (inoAt aliveV 1, [(nameL, valueL)], 0) ∧ extraOf (inoAt aliveV 1) = 6 ∧ (inoAt aliveV 1).getD 0 0 ≠ 0 := by
  have h := alive_ok.2
  have hk : (inoAt aliveV 1).getD 0 0 ≠ 0 := by rw [h.ino, kind_set]; exact h.live
  have ha := h.atts
  rw [beg_atts 1 (by omega) (by omega), ins_empty] at ha
  have ho := (fine_open h.fine (by omega) (by omega) hk).1
  rw [ha] at ho
  exact ⟨ho, by rw [h.ino, extra_set _ (inoAt_len _ _)], hk⟩
theorem alive_block : aliveV.getD 6 [] = blockL aliveR := by
  have h := alive_ok.2
  have ho := alive_open
  have hb := ((fine_open h.fine (by omega) (by omega) ho.2.2).2.2 (by rw [ho.2.1]; decide)).2
  rw [ho.2.1] at hb
  have e : attsOf aliveV 6 1 = [(nameL, valueL)] := by unfold attsOf; rw [ho.1]
  rw [e, alive_row] at hb
  exact hb
theorem alive_13 : (blockL aliveR).take 13 = [11, 0, 4, 110, 97, 109, 101, 5, 118, 97, 108, 117, 101] := by decide
theorem alive_idx : idxA [(nameL, valueL)] nameL = ((0 : Nat) : Int) := by decide
/-- the volume behind the drop -/
def aliveW : List (List UInt8) := putAt (givenV aliveV 6) 1 ((inoAt aliveV 1).set 11 0)
theorem aliveW_good : Good aliveW 6 ∧ bitB (aliveW.getD 2 []) 6 = false ∧ aliveW.length = 24 := by
  have h := alive_ok.2
  have ho := alive_open
  have g := fine_give h.fine (k := 1) (by omega) (by omega) ho.2.2 (by rw [ho.2.1]; decide)
  rw [ho.2.1, show (6 : Int).toNat = 6 from rfl] at g
  refine ⟨g.1.good, ?_, by unfold aliveW; rw [putAt_len, givenV_len, h.len, beg_len]⟩
  have hb := g.2.2.2.2.2 6
  unfold aliveW
  rw [hb, (h.new (beg_live 1 (by omega) (by omega)).2).2.2 6, beg_map 3 (by omega), map_bit 6 (by omega)]
  decide
end Go.Proofs.YtmcoepkopfcbdaaGreat
/- Plain: the room of a volume; a block that is taken. -/
namespace Go.Proofs.YtmcoepkopfcbdaaGreat
set_option linter.unusedVariables false

theorem roomF_same {m m' : List UInt8} {k : Nat} (h : ∀ j, j < k → bitB m' j = bitB m j) : roomF m' k = roomF m k := by
  induction k with
  | zero => rfl
  | succ k ih => rw [roomF, roomF, ih (fun j hj => h j (by omega)), h k (by omega)]
theorem roomF_flip {m m' : List UInt8} {i : Nat} (h : ∀ j, bitB m' j = (bitB m j ^^ decide (i = j))) (hi : bitB m i = false) {k : Nat} (hk : i < k) : roomF m k = roomF m' k + 1 := by
  induction k with
  | zero => omega
  | succ k ih =>
    rw [roomF, roomF]
    by_cases e : i = k
    · subst e
      rw [roomF_same (m := m) (m' := m') (fun j hj => by rw [h j, show decide (i = j) = false by simp; omega, Bool.xor_false]), h i, hi]; simp
    · rw [ih (by omega), h k, show decide (i = k) = false by simp [e], Bool.xor_false]; omega
theorem roomF_none {m : List UInt8} {k : Nat} (h : ∀ j, j < k → bitB m j = true) : roomF m k = 0 := by
  induction k with
  | zero => rfl
  | succ k ih => rw [roomF, ih (fun j hj => h j (by omega)), h k (by omega)]; rfl
theorem roomF_all {m : List UInt8} {k : Nat} (h : roomF m k = 0) : ∀ j, j < k → bitB m j = true := by
  induction k with
  | zero => intro j hj; omega
  | succ k ih =>
    rw [roomF] at h
    intro j hj
    by_cases e : j = k
    · subst e
      cases hb : bitB m j with
      | true => rfl
      | false => rw [hb] at h; simp at h
    · exact ih (by omega) j (by omega)
theorem room_take {v : List (List UInt8)} {I : Int} (hg : Good v I) : roomN v = 0 ↔ takeI v I = none := by
  constructor
  · intro h
    cases ht : takeI v I with
    | none => rfl
    | some i =>
      obtain ⟨_, h2, h3, _⟩ := takeI_some ht
      rw [roomF_all h i h2] at h3; cases h3
  · intro h
    refine roomF_none fun j hj => ?_
    by_cases e : dataOf I ≤ (j : Int)
    · exact takeI_none h j e hj
    · unfold dataOf at e; exact hg.low j (by omega)
theorem room_pos {v : List (List UInt8)} {I : Int} (hg : Good v I) (h : 0 < roomN v) : ∃ i, takeI v I = some i := by
  cases ht : takeI v I with
  | none => rw [(room_take hg).2 ht] at h; omega
  | some i => exact ⟨i, rfl⟩
theorem room_taken {v : List (List UInt8)} {I : Int} (hg : Good v I) {i : Nat} (ht : takeI v I = some i) : roomN v = roomN (takenV v i) + 1 := by
  obtain ⟨h1, h2, h3, _⟩ := takeI_some ht
  unfold dataOf at h1
  have hp := plan_bd hg.plan
  unfold roomN
  rw [takenV_len]
  exact roomF_flip (fun j => taken_bit hg h2 (by omega) j) h3 h2
theorem room_set {v v' : List (List UInt8)} {I k e : Int} {name value : List UInt8} (h : SetOk v v' I k e name value) : (roomN v : Int) = roomN v' + if extraOf (inoAt v k) = 0 then 1 else 0 := by
  unfold roomN
  rw [h.len]
  by_cases he : extraOf (inoAt v k) = 0
  · obtain ⟨h1, h2, h3⟩ := h.new he
    obtain ⟨_, t2, t3, _⟩ := takeI_some h2
    rw [if_pos he, roomF_flip h3 t3 t2]; rfl
  · rw [if_neg he, (h.same he).2]; omega
/-- a block is taken; nobody has it -/
theorem fine_taken {v : List (List UInt8)} {I : Int} (h : Fine v I) {i : Nat} (ht : takeI v I = some i) :
    Fine (takenV v i) I ∧ (∀ j, 1 ≤ j → j ≤ I → inoAt (takenV v i) j = inoAt v j) ∧ ∀ j, (inoAt v j).getD 0 0 ≠ 0 → 1 ≤ j → j ≤ I → openP (takenV v i) I j = openP v I j := by
  obtain ⟨t1, t2, t3, t4⟩ := takeI_some ht
  have hp := plan_bd h.good.plan
  have t1' := t1
  unfold dataOf at t1'
  have hgt := h.good.taken ht
  have hlt := takenV_len v i
  have hit : ∀ j, 1 ≤ j → j ≤ I → inoAt (takenV v i) j = inoAt v j := fun j _ _ => by
    unfold takenV
    rw [inoAt_set _ _ (by omega), inoAt_set _ _ (by omega)]
  have hne : ∀ j, 1 ≤ j → j ≤ I → (inoAt v j).getD 0 0 ≠ 0 → extraOf (inoAt v j) ≠ 0 → extraOf (inoAt v j) ≠ (i : Int) := fun j j1 j2 hj ej e => by
    have := (used_bd (h.att j j1 j2 hj ej).2.1).2.2
    rw [e, show (i : Int).toNat = i by omega, t3] at this
    cases this
  have huw : ∀ j, 1 ≤ j → j ≤ I → (inoAt v j).getD 0 0 ≠ 0 → extraOf (inoAt v j) ≠ 0 → usedB (takenV v i) (extraOf (inoAt v j)) = usedB v (extraOf (inoAt v j)) := fun j j1 j2 hj ej => by
    unfold usedB
    have hn := hne j j1 j2 hj ej
    have := extra_bd v j
    rw [hlt, taken_bit h.good t2 (by omega), show decide (i = (extraOf (inoAt v j)).toNat) = false by simp; omega, Bool.xor_false]
  have hsw : ∀ j, 1 ≤ j → j ≤ I → (inoAt v j).getD 0 0 ≠ 0 → extraOf (inoAt v j) ≠ 0 → (takenV v i).getD (extraOf (inoAt v j)).toNat [] = v.getD (extraOf (inoAt v j)).toNat [] := fun j j1 j2 hj ej => by
    have hn := hne j j1 j2 hj ej
    have := extra_bd v j
    have hd := (h.att j j1 j2 hj ej).1
    unfold dataOf at hd
    unfold takenV
    rw [getD_set_ne' _ _ (by omega), getD_set_ne' _ _ (by omega)]
  refine ⟨⟨hgt, fun j j1 j2 hj ej => ?_, fun a b a1 a2 b1 b2 => ?_⟩, hit, fun j hj j1 j2 => open_congr (hit j j1 j2) (fun ej => ⟨huw j j1 j2 hj ej, hsw j j1 j2 hj ej⟩)⟩
  · rw [hit j j1 j2] at *
    rw [huw j j1 j2 hj ej, hsw j j1 j2 hj ej]; exact h.att j j1 j2 hj ej
  · rw [hit a a1 a2, hit b b1 b2]; exact h.apart a b a1 a2 b1 b2
end Go.Proofs.YtmcoepkopfcbdaaGreat
/- The walk of xattrAlive. -/
namespace Go.Proofs.YtmcoepkopfcbdaaGreat
set_option linter.unusedVariables false
open Go.RowKit

set_option maxHeartbeats 1000000 in
set_option maxRecDepth 100000 in
theorem alive_any (w : World) :
    Calls Tryz.prog 4 #[] w fun e w' => e = .returned (.bool true) ∧ Ext w w' := by
  have HS := Lib.hid (fun A c w h => set_any A 24 c (begV 3) 6 1 nameL valueL w h (good_beg 3 (by omega)) (by decide) (by decide))
  rw [alive_ok.1, show (setP (begV 3) 6 1 nameL valueL).1.length = 24 from alive_ok.2.len.trans (beg_len 3), show (setP (begV 3) 6 1 nameL valueL).1 = aliveV from rfl] at HS
  have HG := Lib.hid (fun A c w h => get_yes A 24 c 0 aliveV 6 1 nameL w h alive_ok.2.fine.good (by rw [alive_open.1]) (by rw [alive_open.1]; exact alive_idx) (by rw [alive_open.1]; decide))
  have HD := Lib.hid (fun A c w h => drop_one A 24 c aliveV 6 1 nameL w h alive_ok.2.fine.good (by rw [alive_open.1]) (by rw [alive_open.1]; decide) (by rw [alive_open.1]; decide))
  have eD : putAt (givenV aliveV (extraOf (openP aliveV 6 1).1).toNat) 1 ((openP aliveV 6 1).1.set 11 0) = aliveW := by rw [alive_open.1]; simp only; rw [alive_open.2.1]; rfl
  rw [eD, show aliveV.length = 24 from alive_ok.2.len.trans (beg_len 3)] at HD
  have eG : ∀ h, ((openP aliveV 6 1).2.1[0]'h).2 = valueL := by rw [alive_open.1]; exact fun _ => rfl
  simp only [eG] at HG
  have HU := Lib.hid (fun A c w h => rused_yes A 24 c 6 aliveW 6 w h aliveW_good.1 (by rw [aliveW_good.2.2]; decide))
  rw [aliveW_good.2.1] at HU
  have hx13 : (str (blockL aliveR)).extract 0 13 = ⟨#[11, 0, 4, 110, 97, 109, 101, 5, 118, 97, 108, 117, 101]⟩ := by rw [str_ext]; show str ((blockL aliveR).take 13) = _; rw [alive_13]; rfl
  have hvl : (str valueL).toList = [118, 97, 108, 117, 101] := str_toList _
  have hl : (str (blockL aliveR)).size = 128 := by rw [str_size]; exact blockL_len _ (by decide)
  have HB := Lib.hid alive_block
  have HL := Lib.hid (show aliveV.length = 24 from alive_ok.2.len.trans (beg_len 3))
  clear eD eG
  generalize aliveV = V at *
  generalize blockL aliveR = bl at *
  go_enter Tryz.func4, Tryz.ntmps4
  go_wp2_with fail
  refine (begin_any _).mono ?_
  rintro e w1 ⟨u1, rfl, x1, own1⟩
  obtain ⟨g1, c1, rfl, hg1, s1⟩ := Strs.own' own1 (by omega)
  go_wp2_with fail
  refine (HS.out _ _ _ s1).mono ?_
  rintro e w2 ⟨u2, rfl, x2, own2⟩
  obtain ⟨g2, c2, rfl, hg2, s2⟩ := Strs.own' own2 (by omega)
  have k6 : w2.cell? ⟨g2, 6, none⟩ = some (.string (str bl)) := (own2.cellAt 6 (by omega)).trans (by
    have : 6 < V.length := by rw [HL.out]; omega
    rw [← HB.out, List.getD_eq_getElem?_getD, List.getElem?_eq_getElem this]; simp [strL, this])
  go_wp2_with fail
  refine (HG.out _ _ _ s2).mono ?_
  rintro e w3 ⟨rfl, x3⟩
  go_wp2_with fail
  refine (HD.out _ _ _ (s2.ext x3)).mono ?_
  rintro e w4 ⟨u4, rfl, x4, own4⟩
  obtain ⟨g4, c4, rfl, hg4, s4⟩ := Strs.own' own4 (by omega)
  go_wp2_with fail
  refine (HU.out _ _ _ s4).mono ?_
  rintro e w5 ⟨rfl, x5⟩
  go_wp2_with fail
  go_ret
  exact ⟨rfl, x1.trans (x2.trans (x3.trans (x4.trans x5)))⟩
end Go.Proofs.YtmcoepkopfcbdaaGreat
/- append(append([]Act{}, acts...), a), in whatever order; acts that are set one behind the other. -/
namespace Go.Proofs.YtmcoepkopfcbdaaGreat
set_option linter.unusedVariables false
open Go.RowKit

theorem app_acts {w : World} {g m c : Nat} {A : Option Addr} {l : List ActT} (hb : Box w g 28 #[]) (hs : Acts w A m l) (hA : A = none → m = 0 ∧ c = 0) (ty : TypeId) (hn : m * 48 ≤ 140737488355328) :
    ∃ u' w', (Builtin.append_ #[22, 22] ty #[.slice (some ⟨g, 0, none⟩) 0 0, .slice A m c]).run Tryz.prog w = .ok u' w' ∧ w'.ownsRow g 28 4 u' m (actsL l) ∧ Ext w w' := by
  obtain ⟨i, hi, hz, h1, h2⟩ := info_parts actInfo
  obtain ⟨rfl, hs2⟩ := hs
  have h0 : w.ownsRow g 28 4 (.slice (some ⟨g, 0, none⟩) 0 0) 0 [] := ⟨rfl, .inr ⟨g, 0, #[], rfl, Nat.le_refl _, hb, Nat.le_refl _, by decide, rfl, rfl⟩⟩
  by_cases hm : l.length = 0
  · have hl : l = [] := List.eq_nil_of_length_eq_zero hm
    subst hl
    cases A with
    | none =>
      obtain ⟨_, rfl⟩ := hA rfl
      exact ⟨_, w, run_append_owned_none w g _ ty _ i 4 Tryz.underlying22 hi _ 0 [] h0, h0, Ext.refl w⟩
    | some a =>
      have hr := run_append_room_cells (P := Tryz.prog) w 22 ty 28 i Tryz.underlying22 hi g 0 0 0 a 0 c [] (by simp) (fun j u hj => by simp at hj) (fun u hu => by cases hu) (Nat.le_refl _) (fun j hj => by simp at hj) (fun j hj => by simp at hj)
      exact ⟨_, w, hr, h0, Ext.refl w⟩
  · obtain ⟨b, o, rfl, hc⟩ := hs2 (by omega)
    obtain ⟨v', w', hr, ho, hg⟩ := run_append_arg_grows (P := Tryz.prog) w 22 ty 28 i _ 4 48 Tryz.underlying22 hi hz h1 h2 rfl (by decide) ⟨g, 0, none⟩ 0 0 [] rfl (fun j u hj => by simp at hj) ⟨b, o, none⟩ l.length c (actsL l) (actsL_len l) (fun j u hj => by
      have ha : (⟨b, o, none⟩ : Addr).add j = ⟨b, o + j, none⟩ := by unfold Addr.add; split <;> simp_all
      rw [ha]; exact hc j u hj) (by omega) (by unfold maxLen; omega) (by omega)
    rw [Nat.zero_add, List.nil_append] at ho
    exact ⟨v', w', hr, own_base ho (Nat.le_of_lt hb.lt), ext_grown hg⟩
theorem app_act {w : World} {B g n : Nat} {u : Value} {l : List ActT} {x : ActT} (h0 : w.ownsRow B 28 4 u n (actsL l)) (hb : Box w g 28 (actL x).toArray) (ty : TypeId) (hn : (n + 1) * 48 ≤ 140737488355328) (hB : B ≤ w.heap.size) :
    ∃ u' w', (Builtin.append_ #[22, 22] ty #[u, .slice (some ⟨g, 0, none⟩) 1 1]).run Tryz.prog w = .ok u' w' ∧ w'.ownsRow B 28 4 u' (n + 1) (actsL (l ++ [x])) ∧ w.grownBy w' u.ownBlock := by
  obtain ⟨i, hi, hz, h1, h2⟩ := info_parts actInfo
  obtain ⟨v', w', hr, ho, hg, _, hbk⟩ := run_append_own_at (P := Tryz.prog) w B 22 ty 28 i _ 4 48 Tryz.underlying22 hi hz h1 h2 rfl (by decide) u n (actsL l) h0 ⟨g, 0, none⟩ 1 1 (actL x) rfl (fun j u hj => by
    have ha : (⟨g, 0, none⟩ : Addr).add j = ⟨g, j, none⟩ := by unfold Addr.add; split <;> simp_all
    rw [ha, hb.cell j]; simpa using hj) (fun u hu => actsL_one [x] u (by simpa [actsL] using hu)) (by unfold maxLen; omega) hn hB
  refine ⟨v', w', hr, ?_, hg⟩
  rw [actsL_append, show actsL [x] = actL x by simp [actsL]]
  exact ho
section
variable {ops : Array Oper} {rest : List Oper} {o : Oper} {a : Act} {w : World} {Q : Exit → Act → World → Prop}
theorem wp_app_acts {g m c : Nat} {A : Option Addr} {l : List ActT} (hgd : o.guard = none) (sl x : Operand)
    (ho : o.op = .call { callee := .builtin .append, args := #[sl, x], argTypes := #[22, 22] }) (hs : a.eval sl = .slice (some ⟨g, 0, none⟩) 0 0) (hx : a.eval x = .slice A m c)
    (hb : Box w g 28 #[]) (hl : Acts w A m l) (hA : A = none → m = 0 ∧ c = 0) (hn : m * 48 ≤ 140737488355328)
    (hK : ∀ u' w', w'.ownsRow g 28 4 u' m (actsL l) → Ext w w' → wpList Tryz.prog ops Q rest (a.put o.dst u') w') : wpList Tryz.prog ops Q (o :: rest) a w := by
  refine wpList_plain hgd fun K hK' => ?_
  obtain ⟨v', w', hr, h2, h3⟩ := app_acts (c := c) hb hl hA o.type hn
  unfold Oper.wp execOp
  simp only [ho, resolve, invoke, builtin, Sem.run_bind, Sem.run_pure, Result.andThen_ok, List.map_toArray, List.map_cons, List.map_nil, hs, hx, hr]
  exact hK' _ _ (hK v' w' h2 h3)
theorem wp_app_act {B g n : Nat} {u : Value} {l : List ActT} {y : ActT} (hgd : o.guard = none) (sl x : Operand)
    (ho : o.op = .call { callee := .builtin .append, args := #[sl, x], argTypes := #[22, 22] }) (hs : a.eval sl = u) (hx : a.eval x = .slice (some ⟨g, 0, none⟩) 1 1)
    (h0 : w.ownsRow B 28 4 u n (actsL l)) (hb : Box w g 28 (actL y).toArray) (hn : (n + 1) * 48 ≤ 140737488355328) (hB : B ≤ w.heap.size)
    (hK : ∀ u' w', w'.ownsRow B 28 4 u' (n + 1) (actsL (l ++ [y])) → w.grownBy w' u.ownBlock → wpList Tryz.prog ops Q rest (a.put o.dst u') w') : wpList Tryz.prog ops Q (o :: rest) a w := by
  refine wpList_plain hgd fun K hK' => ?_
  obtain ⟨v', w', hr, h2, h3⟩ := app_act h0 hb o.type hn hB
  unfold Oper.wp execOp
  simp only [ho, resolve, invoke, builtin, Sem.run_bind, Sem.run_pure, Result.andThen_ok, List.map_toArray, List.map_cons, List.map_nil, hs, hx, hr]
  exact hK' _ _ (hK v' w' h2 h3)
end
theorem actSize : (Tryz.prog.info? 28).map (·.size) = some 4 := by kernel_rfl
/-- what the operations of append(append([]Act{}, acts...), a) leave -/
def gV (B : Nat) (A : Option Addr) (n c : Nat) (l : List ActT) (x : ActT) : Nat → World → Value → Prop
  | 0, w, u => ∃ g, u = .slice (some ⟨g, 0, none⟩) 0 0 ∧ B ≤ g ∧ Box w g 28 #[]
  | 1, _, u => u = .slice A n c
  | 2, w, u => w.ownsRow B 28 4 u n (actsL l)
  | 3, _, u => u = .agg (actL x).toArray
  | 4, w, u => ∃ g, u = .slice (some ⟨g, 0, none⟩) 1 1 ∧ Box w g 28 (actL x).toArray
  | _, _, _ => True
theorem gV_ext {B : Nat} {A : Option Addr} {n c : Nat} {l : List ActT} {x : ActT} (k : Nat) (w w' : World) (u : Value) (hx : Ext w w') (h : gV B A n c l x k w u) : gV B A n c l x k w' u := by
  match k, h with
  | 0, ⟨g, e, hg, hb⟩ => exact ⟨g, e, hg, hb.ext hx⟩
  | 1, h => exact h
  | 2, h => exact own_ext h hx
  | 3, h => exact h
  | 4, ⟨g, e, hb⟩ => exact ⟨g, e, hb.ext hx⟩
  | _ + 5, _ => trivial
theorem Box.setNe {w : World} {g : Nat} {t : TypeId} {cs : Array Value} (h : Box w g t cs) {p : Addr} (hne : g ≠ p.block) (u : Value) : Box (w.setCell p u) g t cs := (Below.heap_setCell w p u g hne).trans h
theorem Strs.at0 {w : World} {g n : Nat} {ss : List (List UInt8)} (h : Strs w (some ⟨g, 0, none⟩) n ss) {j : Nat} (hj : j < ss.length) : w.cell? ⟨g, j, none⟩ = some (.string (str (ss.getD j []))) := by
  obtain ⟨b, o, e, hc⟩ := h.2 (by rw [h.1]; omega)
  cases e
  have := hc j hj
  rw [Nat.zero_add] at this
  rw [this, List.getD_eq_getElem?_getD, List.getElem?_eq_getElem hj]; rfl
theorem great_small {l : List ActT} (h : greatB l = false) : l.length ≤ 20 ∧ ∀ y ∈ l, y.2.2.1.length ≤ 200 ∧ y.2.2.2.length ≤ 300 := by
  unfold greatB at h
  rw [Bool.or_eq_false_iff] at h
  obtain ⟨h1, h2⟩ := h
  refine ⟨by simpa using h2, fun y hy => ?_⟩
  have := List.any_eq_false.1 h1 y hy
  simp [bigAct] at this
  omega
/-- what holds while attributes are set -/
structure Sets (v : List (List UInt8)) : Prop where
  fine : Fine v 6
  len : v.length = 24
  live : ∀ k : Int, 1 ≤ k → k ≤ 3 → (inoAt v k).getD 0 0 ≠ 0
theorem sets_beg : Sets (begV 3) := ⟨fine_beg, beg_len 3, fun k h1 h2 => (beg_live k h1 h2).1⟩
theorem SetOk.sets {v v' : List (List UInt8)} {k e : Int} {name value : List UInt8} (hs : SetOk v v' 6 k e name value) (h : Sets v) : Sets v' := by
  refine ⟨hs.fine, by rw [hs.len, h.len], fun j h1 h2 => ?_⟩
  by_cases ej : j = k
  · subst ej; rw [hs.ino, kind_set]; exact hs.live
  · rw [hs.inos j h1 (by omega) ej]; exact h.live j h1 h2
theorem SetOk.low {v v' : List (List UInt8)} {I k e : Int} {name value : List UInt8} (hs : SetOk v v' I k e name value) (h : Fine v I) : dataOf I ≤ e := by
  by_cases he : extraOf (inoAt v k) = 0
  · obtain ⟨h1, h2, _⟩ := hs.new he
    have := (takeI_some h2).1
    omega
  · rw [(hs.same he).1]
    exact (h.att k hs.k1 hs.k2 hs.live he).1
theorem Sets.set {v : List (List UInt8)} {k : Int} {name value : List UInt8} (h : Sets v) (hs : (setP v 6 k name value).2 = 0) : Sets (setP v 6 k name value).1 := by
  obtain ⟨e, he⟩ := setP_ok h.fine hs
  exact he.sets h
end Go.Proofs.YtmcoepkopfcbdaaGreat
/- The walk of slices.Delete of one attribute. -/
namespace Go.Proofs.YtmcoepkopfcbdaaGreat
set_option linter.unusedVariables false
open Go.RowKit

theorem attInfo' : (Tryz.prog.info? 49).map (fun i => (i.zero, i.size, i.bytes)) = some (some (.agg #[.string ⟨#[]⟩, .string ⟨#[]⟩]), 2, 32) := by kernel_rfl
/-- values put into a row one behind the other -/
def putA (cs : Array Value) : Nat → List Value → Array Value
  | _, [] => cs
  | o, v :: r => putA (cs.setIfInBounds o v) (o + 1) r
theorem putA_size : ∀ (vs : List Value) (o : Nat) (cs : Array Value), (putA cs o vs).size = cs.size
  | [], _, _ => rfl
  | v :: r, o, cs => by rw [putA, putA_size r]; simp
theorem putA_at : ∀ (vs : List Value) (o : Nat) (cs : Array Value) (j : Nat), (putA cs o vs)[j]? = if o ≤ j ∧ j < o + vs.length ∧ j < cs.size then vs[j - o]? else cs[j]?
  | [], o, cs, j => by rw [putA, if_neg (by simp; omega)]
  | v :: r, o, cs, j => by
    rw [putA, putA_at r (o + 1) _ j]
    simp only [Array.size_setIfInBounds, List.length_cons, Array.getElem?_setIfInBounds]
    by_cases e : j = o
    · subst e
      rw [if_neg (by omega), if_pos rfl]
      by_cases h : j < cs.size
      · rw [if_pos h, if_pos (by omega)]; simp
      · rw [if_neg h, if_neg (by omega), Array.getElem?_eq_none (by omega)]
    · rw [if_neg (Ne.symm e)]
      by_cases h : o ≤ j ∧ j < o + (r.length + 1) ∧ j < cs.size
      · rw [if_pos (by omega), if_pos h, show j - o = (j - (o + 1)) + 1 by omega]; rfl
      · rw [if_neg (by omega), if_neg h]
theorem Box.setCells {w : World} {g : Nat} {t : TypeId} : ∀ (vs : List Value) (o : Nat) {w : World} {cs : Array Value}, Box w g t cs → Box (w.setCells g o vs) g t (putA cs o vs)
  | [], _, _, _, h => h
  | v :: r, o, _, _, h => Box.setCells (w := w) r (o + 1) (h.set o v)
theorem grown_setCells {g : Nat} : ∀ (vs : List Value) (o : Nat) (w : World), w.grownBy (w.setCells g o vs) (some g)
  | [], _, w => ⟨rfl, rfl, rfl, Nat.le_refl _, fun _ _ _ => rfl⟩
  | v :: r, o, w => by
    have h := grown_setCells (g := g) r (o + 1) (w.setCell ⟨g, o, none⟩ v)
    have h1 : (w.setCell ⟨g, o, none⟩ v).heap.size = w.heap.size := by simp [World.setCell]
    exact ⟨h.os, h.tape, h.output, by have := h.size; rw [h1] at this; exact this, fun k hk hne => (h.block k (by omega) hne).trans (Below.heap_setCell w ⟨g, o, none⟩ v k (fun e => hne (by rw [e])))⟩
theorem attL_take : ∀ (l : List Att) (i : Nat), attL (l.take i) = (attL l).take (2 * i)
  | [], i => by simp [attL]
  | x :: l, 0 => rfl
  | x :: l, i + 1 => by
    rw [List.take_succ_cons, show attL (x :: l.take i) = .string (str x.1) :: .string (str x.2) :: attL (l.take i) from rfl, attL_take l i, show 2 * (i + 1) = 2 * i + 1 + 1 by omega]; rfl
theorem attL_drop : ∀ (l : List Att) (i : Nat), attL (l.drop i) = (attL l).drop (2 * i)
  | [], i => by simp [attL]
  | x :: l, 0 => rfl
  | x :: l, i + 1 => by
    rw [List.drop_succ_cons, attL_drop l i, show 2 * (i + 1) = 2 * i + 1 + 1 by omega]; rfl
/-- the row behind the delete -/
theorem del_row {l : List Att} {i n cap : Nat} {cur : Array Value} {e0 e1 : Value} (hn : n = l.length) (hi : i < n) (hcap : n ≤ cap) (hs : cur.size = cap * 2) (ht : cur.toList.take (2 * n) = attL l) :
    (putA (putA cur (i * 2) (attL (l.drop (i + 1)))) ((n - 1) * 2) [e0, e1]).toList.take (2 * (n - 1)) = attL (l.take i ++ l.drop (i + 1)) := by
  apply List.ext_getElem?
  intro j
  have hal := attL_len l
  have hdl : (attL (l.drop (i + 1))).length = 2 * (n - (i + 1)) := by rw [attL_len, List.length_drop, hn]; omega
  have htl : (attL (l.take i)).length = 2 * i := by rw [attL_len, List.length_take]; omega
  rw [List.getElem?_take, attL_append]
  split
  · rename_i hj
    rw [Array.getElem?_toList, putA_at, if_neg (by omega), putA_at]
    by_cases h : i * 2 ≤ j
    · rw [if_pos (by omega), List.getElem?_append_right (by omega), htl, show j - i * 2 = j - 2 * i by omega]
    · rw [if_neg (by omega), List.getElem?_append_left (by omega), attL_take, List.getElem?_take, if_pos (by omega), ← ht, List.getElem?_take, if_pos (by omega), Array.getElem?_toList]
  · rename_i hj
    rw [List.getElem?_eq_none (by rw [List.length_append, hdl, htl]; omega)]
theorem clear_one {w : World} {g o c : Nat} {cs : Array Value} (hb : Box w g 49 cs) (ho : o + 1 < cs.size) (ty : TypeId) :
    (Builtin.clear_ #[43] ty #[.slice (some ⟨g, o, none⟩) 1 c]).run Tryz.prog w = .ok (.tuple #[]) (w.setCells g o [.string ⟨#[]⟩, .string ⟨#[]⟩]) := by
  have hz : ∀ w, (zeroValue 49).run Tryz.prog w = .ok (.agg #[.string ⟨#[]⟩, .string ⟨#[]⟩]) w := fun w => by kernel_rfl
  have hst := run_storeCells_cells (P := Tryz.prog) g o [.string ⟨#[]⟩, .string ⟨#[]⟩] 0 w (fun j hj => by
    simp at hj
    rw [Nat.add_zero, hb.cell]; simp; omega) (fun j hj => by rw [Nat.add_zero]; exact hb.frozen _) (fun u hu => by rcases (by simpa using hu : u = .string ⟨#[]⟩) with rfl; rfl)
  simp only [Nat.add_zero] at hst
  have hzc : (Builtin.zeroCells (Value.agg #[.string ⟨#[]⟩, .string ⟨#[]⟩]).cells 1).toList = [.string ⟨#[]⟩, .string ⟨#[]⟩] := by kernel_rfl
  simp [Builtin.clear_, run_underlying Tryz.underlying43, hz, hzc, hst]
end Go.Proofs.YtmcoepkopfcbdaaGreat
/- The walk of slices.Delete of one attribute. -/
namespace Go.Proofs.YtmcoepkopfcbdaaGreat
set_option linter.unusedVariables false
open Go.RowKit

theorem grownBy_ext {w w' w2 : World} {row : Option Nat} (h : Ext w w') (k : w'.grownBy w2 row) : w.grownBy w2 row := by
  have b : Below w.heap.size w w' := h
  exact ⟨k.os.trans b.os, k.tape.trans b.tape, k.output.trans b.output, Nat.le_trans b.size k.size, fun j hj hne => (k.block j (Nat.lt_of_lt_of_le hj b.size) hne).trans (b.block j hj)⟩
theorem grownBy_trans {w w' w2 : World} {row : Option Nat} (h : w.grownBy w' row) (k : w'.grownBy w2 row) : w.grownBy w2 row :=
  ⟨k.os.trans h.os, k.tape.trans h.tape, k.output.trans h.output, Nat.le_trans h.size k.size, fun j hj hne => (k.block j (Nat.lt_of_lt_of_le hj h.size) hne).trans (h.block j hj hne)⟩
section
variable {ops : Array Oper} {rest : List Oper} {o : Oper} {a : Act} {w : World} {Q : Exit → Act → World → Prop}
theorem wp_app_room {g i cap m c : Nat} {ad : Addr} {cs : Array Value} {news : List Value} (hgd : o.guard = none) (sl x : Operand)
    (ho : o.op = .call { callee := .builtin .append, args := #[sl, x], argTypes := #[43, 43] }) (hs : a.eval sl = .slice (some ⟨g, 0, none⟩) i cap) (hx : a.eval x = .slice (some ad) m c)
    (hb : Box w g 49 cs) (hl : news.length = m * 2) (hn : ∀ j u, news[j]? = some u → w.cell? (ad.add j) = some u) (h1 : ∀ u ∈ news, u.oneCell' = true) (hr : i + m ≤ cap) (hsz : cs.size = cap * 2)
    (hK : wpList Tryz.prog ops Q rest (a.put o.dst (.slice (some ⟨g, 0, none⟩) (i + m) cap)) (w.setCells g (i * 2) news)) : wpList Tryz.prog ops Q (o :: rest) a w := by
  refine wpList_plain hgd fun K hK' => ?_
  obtain ⟨inf, hi, hz, e1, e2⟩ := info_parts attInfo'
  have hrun := run_append_room_cells (P := Tryz.prog) w 43 o.type 49 inf Tryz.underlying43 hi g 0 i cap ad m c news (by rw [e1]; exact hl) hn h1 hr
    (fun j hj => by rw [e1, hb.cell]; simp; omega) (fun j hj => hb.frozen _)
  rw [e1, Nat.zero_add] at hrun
  unfold Oper.wp execOp
  simp only [ho, resolve, invoke, builtin, Sem.run_bind, Sem.run_pure, Result.andThen_ok, List.map_toArray, List.map_cons, List.map_nil, hs, hx, hrun]
  exact hK' _ _ hK
theorem wp_clear_one {g p c : Nat} {cs : Array Value} (hgd : o.guard = none) (x : Operand) (ho : o.op = .call { callee := .builtin .clear, args := #[x], argTypes := #[43] }) (hx : a.eval x = .slice (some ⟨g, p, none⟩) 1 c)
    (hb : Box w g 49 cs) (hp : p + 1 < cs.size)
    (hK : wpList Tryz.prog ops Q rest (a.put o.dst (.tuple #[])) (w.setCells g p [.string ⟨#[]⟩, .string ⟨#[]⟩])) : wpList Tryz.prog ops Q (o :: rest) a w := by
  refine wpList_plain hgd fun K hK' => ?_
  have hrun := clear_one (c := c) hb hp o.type
  unfold Oper.wp execOp
  simp only [ho, resolve, invoke, builtin, Sem.run_bind, Sem.run_pure, Result.andThen_ok, List.map_toArray, List.map_cons, List.map_nil, hx, hrun]
  exact hK' _ _ hK
end
/-- six known values -/
def sixV (a b c d e f : Value) : Nat → World → Value → Prop
  | 0, _, u => u = a
  | 1, _, u => u = b
  | 2, _, u => u = c
  | 3, _, u => u = d
  | 4, _, u => u = e
  | 5, _, u => u = f
  | _, _, _ => True
theorem sixV_ext {a b c d e f : Value} (k : Nat) (w w' : World) (u : Value) (_ : Ext w w') (h : sixV a b c d e f k w u) : sixV a b c d e f k w' u := by
  match k, h with
  | 0, h => exact h
  | 1, h => exact h
  | 2, h => exact h
  | 3, h => exact h
  | 4, h => exact h
  | 5, h => exact h
  | _ + 6, _ => trivial
set_option maxHeartbeats 8000000 in
set_option maxRecDepth 100000 in
theorem delete_any (g n cap i base : Nat) (l : List Att) (w : World) (h : OwnA w base (.slice (some ⟨g, 0, none⟩) n cap) l) (hn : n = l.length) (hi : i < n) :
    Calls Tryz.prog 35 #[.slice (some ⟨g, 0, none⟩) n cap, .int .i64 i, .int .i64 (i + 1 : Nat)] w fun e w' => ∃ u, e = .returned u ∧ w.grownBy w' (some g) ∧ OwnA w' base u (l.take i ++ l.drop (i + 1)) := by
  obtain ⟨g', cap', cur, ev, hbg, hh, hcap, hcm, hsz, htake⟩ := (h.2.resolve_left (by rintro ⟨_, h0⟩; omega))
  obtain ⟨rfl, rfl⟩ : g = g' ∧ cap = cap' := by simp at ev; exact ⟨ev.1, ev.2.2⟩
  have hb : Box w g 49 cur := hh
  have hmax : cap ≤ 9223372036854775807 := by have h9 := hcm; unfold maxLen at h9; exact h9
  have HD := Lib.hid (del_row (e0 := .string ⟨#[]⟩) (e1 := .string ⟨#[]⟩) hn hi (by omega : n ≤ cap) (by omega) (by rw [hn, Nat.mul_comm]; exact htake))
  have HL := Lib.hid (show (l.take i ++ l.drop (i + 1)).length = n - 1 by simp; omega)
  have Hn := Lib.hid hn
  have HTk := Lib.hid htake
  have hnl : n ≤ cap := by omega
  clear ev hcap hn htake h hh
  obtain ⟨m, rfl⟩ : ∃ m, n = m + 1 := ⟨n - 1, by omega⟩
  rw [Nat.add_sub_cancel] at HD HL
  have d1 : ((i : Int) == (i : Int) + 1) = false := by simp; omega
  go_enter Tryz.func35, Tryz.ntmps35
  go_wp2_with fail
  obtain ⟨ad, had⟩ : ∃ ad : Addr, ad = if cap = i + 1 then ⟨g, 0, none⟩ else ⟨g, (i + 1) * 2, none⟩ := ⟨_, rfl⟩
  have Had := Lib.hid had
  clear had
  refine wp_region_web' 6 [[], [], [0, 1], [], [], [3, 4]] (sixV (.slice (some ⟨g, 0, none⟩) (m + 1) cap) (.int .i64 i) (.slice (some ⟨g, 0, none⟩) i cap) (.slice (some ⟨g, 0, none⟩) (m + 1) cap) (.int .i64 (i + 1 : Nat)) (.slice (some ad) (m - i) (cap - (i + 1)))) (by kernel_rfl) (by kernel_rfl) sixV_ext (fun us => ?_)
  simp only [List.take_succ_cons, List.take_zero, List.drop_succ_cons, List.drop_zero]
  refine ⟨fun w' hx hd => ?_, fun w' hx hd => ?_, fun w' hx hd => ?_, fun w' hx hd => ?_, fun w' hx hd => ?_, fun w' hx hd => ?_, fun w' hx hv => ?_⟩
  · refine web_of_list 20 rfl (by simp) rfl ?_
    go_wp2_with fail
    exact ⟨Ext.refl _, show _ = _ from rfl⟩
  · refine web_of_list 21 rfl (by simp [Act.put]) rfl ?_
    go_wp2_with fail
    exact ⟨Ext.refl _, show _ = _ from rfl⟩
  · have h0 := hd 0 (by simp)
    have h1 := hd 1 (by simp)
    clear hd
    generalize us 0 = u0 at *
    generalize us 1 = u1 at *
    obtain rfl : u0 = .slice (some ⟨g, 0, none⟩) (m + 1) cap := h0
    obtain rfl : u1 = .int .i64 i := h1
    refine web_of_list 22 rfl (by simp [Act.put]) rfl ?_
    go_wp2_with fail
    exact ⟨Ext.refl _, show _ = _ from rfl⟩
  · refine web_of_list 23 rfl (by simp [Act.put]) rfl ?_
    go_wp2_with fail
    exact ⟨Ext.refl _, show _ = _ from rfl⟩
  · refine web_of_list 24 rfl (by simp [Act.put]) rfl ?_
    go_wp2_with fail
    exact ⟨Ext.refl _, show _ = _ from rfl⟩
  · have h0 := hd 3 (by simp)
    have h1 := hd 4 (by simp)
    clear hd
    generalize us 3 = u0 at *
    generalize us 4 = u1 at *
    obtain rfl : u0 = .slice (some ⟨g, 0, none⟩) (m + 1) cap := h0
    obtain rfl : u1 = .int .i64 (i + 1 : Nat) := h1
    refine web_of_list (V := sixV (.slice (some ⟨g, 0, none⟩) (m + 1) cap) (.int .i64 i) (.slice (some ⟨g, 0, none⟩) i cap) (.slice (some ⟨g, 0, none⟩) (m + 1) cap) (.int .i64 (i + 1 : Nat)) (.slice (some ad) (m - i) (cap - (i + 1))) 5) 25 rfl ?_ rfl ?_
    · simp [Act.put]
    by_cases hc : cap = i + 1
    · have ha := Had.out
      rw [if_pos hc] at ha
      subst ha
      subst hc
      have hmi : m - i = 0 := by omega
      rw [hmi]
      go_wp2_with fail
      exact ⟨Ext.refl _, show _ = _ from rfl⟩
    · have ha := Had.out
      rw [if_neg hc] at ha
      subst ha
      go_wp2_with fail
      exact ⟨Ext.refl _, show _ = _ from rfl⟩
  · have h2 := hv 2 (by omega)
    have h5 := hv 5 (by omega)
    clear hv
    generalize us 0 = u0 at *
    generalize us 1 = u1 at *
    generalize us 2 = u2 at *
    generalize us 3 = u3 at *
    generalize us 4 = u4 at *
    generalize us 5 = u5 at *
    obtain rfl : u2 = .slice (some ⟨g, 0, none⟩) i cap := h2
    obtain rfl : u5 = .slice (some ad) (m - i) (cap - (i + 1)) := h5
    have hb2 := hb.ext hx
    have hnl2 : (attL (l.drop (i + 1))).length = (m - i) * 2 := by rw [attL_len, List.length_drop, ← Hn.out]; omega
    have hcells : ∀ j u, (attL (l.drop (i + 1)))[j]? = some u → w'.cell? (ad.add j) = some u := fun j u hj => by
      have hjl := (List.getElem?_eq_some_iff.1 hj).1
      have hc : ¬ cap = i + 1 := by omega
      have ha := Had.out
      rw [if_neg hc] at ha
      rw [ha, show (⟨g, (i + 1) * 2, none⟩ : Addr).add j = ⟨g, (i + 1) * 2 + j, none⟩ by unfold Addr.add; split <;> simp_all, hb2.cell, ← hj, attL_drop, List.getElem?_drop, ← HTk.out, List.getElem?_take, if_pos (by have := Hn.out; omega), Array.getElem?_toList, Nat.mul_comm]
    have him : i + (m - i) = m := by omega
    have hb3 := Box.setCells (w := w') (attL (l.drop (i + 1))) (i * 2) hb2
    have hs3 := putA_size (attL (l.drop (i + 1))) (i * 2) cur
    go_wp2_with (first
      | (refine wp_app_room (cs := cur) rfl (.tmp 22) (.tmp 25) rfl rfl rfl hb2 hnl2 hcells (attL_one _) (by omega) (by omega) ?_; rw [him])
      | (refine wp_clear_one (p := m * 2) rfl (.tmp 31) rfl rfl hb3 (by omega) ?_))
    go_ret
    refine ⟨_, rfl, grownBy_ext hx (grownBy_trans (grown_setCells _ _ _) (grown_setCells _ _ _)), ?_⟩
    have hb4 := Box.setCells (w := w') [.string ⟨#[]⟩, .string ⟨#[]⟩] (m * 2) hb3
    unfold OwnA
    rw [HL.out]
    refine ⟨by rw [attL_len, HL.out], .inr ⟨g, cap, _, rfl, hbg, hb4, by omega, hcm, by rw [putA_size, putA_size]; exact hsz, ?_⟩⟩
    have h9 := HD.out
    rw [Nat.mul_comm 2 m] at h9
    exact h9
end Go.Proofs.YtmcoepkopfcbdaaGreat
/- Plain: the attribute of a name left out. -/
namespace Go.Proofs.YtmcoepkopfcbdaaGreat
set_option linter.unusedVariables false

theorem del_at {l : List Att} (hr : Rising l) {i : Nat} (hi : i < l.length) {name : List UInt8} (hn : l[i].1 = name) : delA l name = l.take i ++ l.drop (i + 1) := by
  have hl : l = l.take i ++ l[i] :: l.drop (i + 1) := by
    rw [← List.drop_eq_getElem_cons hi, List.take_append_drop]
  have hp : Rising (l.take i ++ l[i] :: l.drop (i + 1)) := by rw [← hl]; exact hr
  unfold Rising at hp
  rw [List.pairwise_append] at hp
  obtain ⟨_, h2, h3⟩ := hp
  have h4 := (List.pairwise_cons.1 h2).1
  have e : delA l name = delA (l.take i ++ l[i] :: l.drop (i + 1)) name := by rw [← hl]
  rw [e]
  unfold delA
  rw [List.filter_append, List.filter_cons]
  rw [if_neg (by simp [hn])]
  rw [filter_all (fun y hy => by
    have := ltB_ne (h3 y hy l[i] (List.mem_cons_self ..))
    rw [hn] at this
    simpa using this), filter_all (fun y hy => by
    have := ltB_ne (h4 y hy)
    rw [hn] at this
    simpa using fun e => this e.symm)]
theorem Short.del {l : List Att} (h : Short l) (name : List UInt8) : Short (delA l name) := fun y hy => h y (List.mem_filter.1 hy).1
theorem ins_idx {l : List Att} (hr : Rising l) (x : Att) : ∃ i : Nat, ∃ h : i < (insA l x).length, idxA (insA l x) x.1 = i ∧ (insA l x)[i] = x := by
  rcases idxA_cases (insA l x) x.1 with ⟨_, h⟩ | ⟨i, hi, e, hn⟩
  · exact absurd rfl (h x (ins_mem l x))
  · refine ⟨i, hi, e, ?_⟩
    have hri := rising_ins hr x
    have hmem : (insA l x)[i] ∈ insA l x := List.getElem_mem hi
    generalize (insA l x)[i] = z at hmem hn ⊢
    unfold insA at hmem
    rcases List.mem_append.1 hmem with h | h
    · have := (List.mem_filter.1 h).2
      rw [hn, ltB_irrefl] at this; cases this
    · rcases List.mem_cons.1 h with h | h
      · exact h
      · have := (List.mem_filter.1 h).2
        rw [hn, ltB_irrefl] at this; cases this
theorem ins_count {l : List Att} (hr : Rising l) (x : Att) : (insA l x).length = (delA l x.1).length + 1 := by
  have h := del_ins hr x
  obtain ⟨i, hi, _, hx⟩ := ins_idx hr x
  have h2 := del_at (rising_ins hr x) hi (name := x.1) (by rw [hx])
  rw [← h, h2, List.length_append, List.length_take, List.length_drop]
  omega
end Go.Proofs.YtmcoepkopfcbdaaGreat
/- The walk of xattr.Drop where more than one attribute is there. -/
namespace Go.Proofs.YtmcoepkopfcbdaaGreat
set_option linter.unusedVariables false
open Go.RowKit

theorem cell_grown {w w' : World} {row : Option Nat} (hg : w.grownBy w' row) {b o : Nat} {u : Value} (hne : some b ≠ row) (h : w.cell? ⟨b, o, none⟩ = some u) : w'.cell? ⟨b, o, none⟩ = some u :=
  (World.cell?_of_block (w := w) (hg.block b (World.block_lt_of_cell? w _ h) hne)).trans h
theorem Strs.grownFar {w w' : World} {A : Option Addr} {n g : Nat} {ss : List (List UInt8)} (h : Strs w A n ss) (hg : w.grownBy w' (some g)) (hf : FarS A g) : Strs w' A n ss :=
  ⟨h.1, fun hn => by
    obtain ⟨b, o, e, hc⟩ := h.2 hn
    exact ⟨b, o, e, fun j hj => cell_grown hg (fun e2 => hf b o e (by injection e2)) (hc j hj)⟩⟩
theorem Strs.low {w : World} {A : Option Addr} {n : Nat} {ss : List (List UInt8)} (h : Strs w A n ss) (hn : 0 < n) {g : Nat} (hg : w.heap.size ≤ g) : FarS A g := fun b o e hb => by
  obtain ⟨b', o', e', hc⟩ := h.2 hn
  rw [e] at e'
  cases e'
  have := World.block_lt_of_cell? w _ (hc 0 (by rw [← h.1]; exact hn))
  simp at this
  omega
theorem OwnA.formS {w : World} {base : Nat} {u : Value} {l : List Att} (h : OwnA w base u l) (hl : 0 < l.length) : ∃ g cap, u = .slice (some ⟨g, 0, none⟩) l.length cap ∧ base ≤ g ∧ g < w.heap.size ∧ Atts w (some ⟨g, 0, none⟩) l.length l := by
  obtain ⟨A, cap, rfl, ha⟩ := h.form
  obtain ⟨g, rfl, hg, _⟩ := OwnA.blk h hl
  exact ⟨g, cap, rfl, hg, own_lt h rfl, ha⟩
set_option maxHeartbeats 3000000 in
set_option maxRecDepth 100000 in
theorem drop_many (A : Option Addr) (n c i : Nat) (v : List (List UInt8)) (I k : Int) (name : List UInt8) (w : World) (hv : Strs w A n v) (hg : Good v I) (he : (openP v I k).2.2 = 0) (hi : idxA (openP v I k).2.1 name = i) (hil : i < (openP v I k).2.1.length) (h1 : 1 < (openP v I k).2.1.length) (hn : ((openP v I k).2.1[i]).1 = name)
    (hr : (rowA (delA (openP v I k).2.1 name)).length ≤ 126) :
    Calls Tryz.prog 9 #[.slice A n c, .int .i64 k, .string (str name)] w fun e w' => ∃ u, e = .returned (.tuple #[u, .int .i64 0]) ∧ Ext w w' ∧
      w'.ownsRow w.heap.size 9 1 u v.length (strL (v.set (extraOf (openP v I k).1).toNat (blockL (rowA (delA (openP v I k).2.1 name))))) := by
  have HO := Lib.hid (fun w h => opened_any A n c v I k w h hg)
  have hlx := openP_len v I k
  have hpl := plan_bd hg.plan
  have hok := open_ok he
  have hne : extraOf (inoAt v k) ≠ 0 := fun h0 => by
    rcases hok.2.2.2.2 with ⟨_, hl⟩ | h
    · rw [hl] at h1; simp at h1
    · exact h.1 h0
  obtain ⟨_, hd, hu, hrest⟩ := hok.2.2.2.2.resolve_left (fun h => hne h.1)
  clear hrest
  have hxx := hok.2.2.1
  rw [← hxx] at hd hu hne
  have hda := del_at (rising_open v I k) hil hn
  have hsh := sum_short _ ((short_open v I k).del name)
  have hdl : (delA (openP v I k).2.1 name).length ≤ 126 := by
    have := List.length_filter_le (fun y : Att => y.1 != name) (openP v I k).2.1
    have := openP_small v I k
    unfold delA; omega
  have hsm := openP_small v I k
  clear hxx hok hn
  rw [he] at HO
  clear he
  generalize openP v I k = op at *
  have hext := used_bd hu
  obtain ⟨q, hq⟩ := Int.eq_ofNat_of_zero_le hext.1
  have hq11 : op.1.getD 11 0 = (q : Int) := hq
  have hvl : n = v.length := hv.1
  rw [hq] at hext hd hne ⊢
  rw [show ((q : Int)).toNat = q from rfl] at hext ⊢
  have HC := Lib.hid (fun w h => changed_any A n c q v (rowA (delA op.2.1 name)) w h (by omega) (by omega) hr)
  have Hda := Lib.hid hda
  have HDel := Lib.hid (fun g cap w h => delete_any g op.2.1.length cap i w.heap.size op.2.1 w h rfl hil)
  have HDel2 := Lib.hid (fun g cap base w h => delete_any g op.2.1.length cap i base op.2.1 w h rfl hil)
  have HR := Lib.hid (fun A m c w h => xrow_any A m c (delA op.2.1 name) w h (by omega) (by rw [h.1]; omega))
  have d1 : (1 : Int) < (op.2.1.length : Int) := by omega
  have hvn : 0 < n := by omega
  have Hvl := Lib.hid hvl
  clear hu hext hne hq hda HDel hvl
  have Hi := Lib.hid hi
  go_enter Tryz.func9, Tryz.ntmps9
  go_wp2_with fail
  refine (HO.out _ hv).mono ?_
  rintro e w1 ⟨u, rfl, x1, own1⟩
  obtain ⟨g2, cap2, rfl, hg2, hlt2, at2⟩ := own1.formS (by omega)
  have HF := Lib.hid (fun w h => of_any (some ⟨g2, 0, none⟩) op.2.1.length cap2 op.2.1 name w h (by omega))
  rw [hi] at HF
  clear hi
  go_upto_region 8 with (first
    | (refine wp_st_ino (.tmp 8) (.tmp 17) rfl rfl w1.heap.size _ zero12 42 rfl rfl (Box.new _ _ _) hlx rfl ?_; intro w2 b2 gg2; have x2 : Ext w1 w2 := ((Ext.refl w1).alloc _).grown gg2 (fun k e => by cases e; exact Nat.le_refl _); have xw2 := x1.trans x2)
    | (go_at_call 18; refine (HF.out _ (at2.ext x2)).mono ?_; rintro e w3 ⟨rfl, x3⟩; have b3 := b2.ext x3; have c3 : w3.cell? ⟨w1.heap.size, 11, none⟩ = some (.int .i64 (q : Int)) := (b3.at 11 (by omega)).trans (congrArg (fun z => some (Value.int .i64 z)) hq11)))
  have e1 : ((i + 1 : Nat) : Int) = (i : Int) + 1 := by omega
  rw [e1] at HDel2
  clear e1
  have t1 : IntKind.i64.wrap ((i : Int) + 1) = (i : Int) + 1 := IntWalk.i64_in _ (by omega)
  have o3 := own1.ext ((x2.trans x3).drew)
  have cd3 : w3.drew.cell? ⟨w1.heap.size, 11, none⟩ = some (.int .i64 (q : Int)) := c3
  have sd3 := (hv.ext (xw2.trans x3)).drew
  have far := hv.low hvn hg2
  have xd3 : Ext w w3.drew := (xw2.trans x3).drew
  have hne2 : some w1.heap.size ≠ some g2 := by simp; omega
  clear own1 at2
  go_region_with (first
    | (go_at_call 35; with_reducible (refine (HDel2.out g2 cap2 w.heap.size _ o3).mono ?_); rintro e w4 ⟨u4, rfl, g4, own4⟩; have c4 := cell_grown g4 hne2 cd3; have st4 := sd3.grownFar g4 far; have x4 : Ext w w4 := xd3.grown g4 (fun k e => by cases e; exact hg2); rw [← Hda.out] at own4; obtain ⟨A4, cp4, rfl, at4⟩ := own4.form)
    | (go_at_call 22; with_reducible (refine (HR.out A4 _ cp4 _ at4).mono ?_); rintro e w5 ⟨rfl, x5⟩; have c5 := x5.keep c4)
    | (go_at_call 23; with_reducible (refine (HC.out _ (st4.ext x5)).mono ?_); rintro e w6 ⟨u6, rfl, x6, own6⟩))
  all_goals
    go_wp2_with fail
    go_ret2
    refine ⟨u6, rfl, x4.trans (x5.trans x6), ?_⟩
    rw [← Hvl.out]
    exact own_base own6 (x4.trans x5).size
end Go.Proofs.YtmcoepkopfcbdaaGreat
/- xattr.Drop on a volume whose attributes are as they may be. -/
namespace Go.Proofs.YtmcoepkopfcbdaaGreat
set_option linter.unusedVariables false
open Go.RowKit

theorem drop_fine (A : Option Addr) (n c : Nat) (v : List (List UInt8)) (I k : Int) (name : List UInt8) (w : World) (hv : Strs w A n v) (hf : Fine v I) (h1 : 1 ≤ k) (h2 : k ≤ I) (hk : (inoAt v k).getD 0 0 ≠ 0) (hi : 0 ≤ idxA (attsOf v I k) name) :
    Calls Tryz.prog 9 #[.slice A n c, .int .i64 k, .string (str name)] w fun e w' => ∃ u, e = .returned (.tuple #[u, .int .i64 0]) ∧ Ext w w' ∧ w'.ownsRow w.heap.size 9 1 u v.length (strL (dropP v I k name).1) := by
  have ho := fine_open hf h1 h2 hk
  have ho1 := ho.1
  have he : (openP v I k).2.2 = 0 := by rw [ho1]
  have hne : extraOf (inoAt v k) ≠ 0 := fun e => by
    rw [ho.2.1 e] at hi; exact absurd (show (0 : Int) ≤ -1 from hi) (by decide)
  obtain ⟨hl, _⟩ := ho.2.2 hne
  unfold attsOf at hi hl
  by_cases hlen : 1 < (openP v I k).2.1.length
  · rcases idxA_cases (openP v I k).2.1 name with ⟨e, _⟩ | ⟨i, hil, e, hn⟩
    · omega
    · have hr : (rowA (delA (openP v I k).2.1 name)).length ≤ 126 := Nat.le_trans (rowA_filter _ _) hl.short
      have hd : (dropP v I k name).1 = v.set (extraOf (openP v I k).1).toNat (blockL (rowA (delA (openP v I k).2.1 name))) := by
        unfold dropP
        rw [if_neg (by simp [he]), if_neg (by omega), if_pos hlen]
      rw [hd]
      exact drop_many A n c i v I k name w hv hf.good he e hil hlen hn hr
  · have hd : (dropP v I k name).1 = putAt (givenV v (extraOf (openP v I k).1).toNat) k ((openP v I k).1.set 11 0) := by
      unfold dropP
      rw [if_neg (by simp [he]), if_neg (by omega), if_neg hlen]
    rw [hd]
    exact drop_one A n c v I k name w hv hf.good he hi (by omega)
end Go.Proofs.YtmcoepkopfcbdaaGreat
/- An attribute appended to a row of attributes of the call's own. -/
namespace Go.Proofs.YtmcoepkopfcbdaaGreat
set_option linter.unusedVariables false
open Go.RowKit

theorem wp_app_att {ops : Array Oper} {rest : List Oper} {o : Oper} {a : Act} {w : World} {Q : Exit → Act → World → Prop} {B g n : Nat} {u : Value} {l : List Att} {y : Att} (hgd : o.guard = none) (sl x : Operand)
    (ho : o.op = .call { callee := .builtin .append, args := #[sl, x], argTypes := #[43, 43] }) (hs : a.eval sl = u) (hx : a.eval x = .slice (some ⟨g, 0, none⟩) 1 1)
    (h0 : w.ownsRow B 49 2 u n (attL l)) (hb : Box w g 49 #[.string (str y.1), .string (str y.2)]) (hn : n ≤ 1000000) (hB : B ≤ w.heap.size)
    (hK : ∀ u' w', w'.ownsRow B 49 2 u' (n + 1) (attL (l ++ [y])) → w.grownBy w' u.ownBlock → wpList Tryz.prog ops Q rest (a.put o.dst u') w') : wpList Tryz.prog ops Q (o :: rest) a w := by
  refine wpList_plain hgd fun K hK' => ?_
  obtain ⟨i, hi, hz, h1, h2⟩ := info_parts attInfo'
  obtain ⟨v', w', hr, ho2, hg, _, _⟩ := run_append_own_at (P := Tryz.prog) w B 43 o.type 49 i _ 2 32 Tryz.underlying43 hi hz h1 h2 rfl (by decide) u n (attL l) h0 ⟨g, 0, none⟩ 1 1 [.string (str y.1), .string (str y.2)] rfl (fun j u hj => by
    have ha : (⟨g, 0, none⟩ : Addr).add j = ⟨g, j, none⟩ := by unfold Addr.add; split <;> simp_all
    rw [ha, hb.cell j]; simpa using hj) (fun u hu => by rcases (by simpa using hu : u = .string (str y.1) ∨ u = .string (str y.2)) with rfl | rfl <;> rfl) (by unfold maxLen; omega) (by omega) hB
  unfold Oper.wp execOp
  simp only [ho, resolve, invoke, builtin, Sem.run_bind, Sem.run_pure, Result.andThen_ok, List.map_toArray, List.map_cons, List.map_nil, hs, hx, hr]
  refine hK' _ _ (hK v' w' ?_ hg)
  rw [attL_append]
  exact ho2
theorem OwnA.snoc {w : World} {B n : Nat} {u : Value} {l : List Att} {y : Att} (h : w.ownsRow B 49 2 u (n + 1) (attL (l ++ [y]))) (hn : n = l.length) : OwnA w B u (l ++ [y]) := by
  subst hn; unfold OwnA; rw [List.length_append]; exact h
theorem delA_snoc (l : List Att) (y : Att) (name : List UInt8) : delA (l ++ [y]) name = delA l name ++ if y.1 = name then [] else [y] := by
  unfold delA
  rw [List.filter_append]
  by_cases h : y.1 = name <;> simp [h]
theorem take_snoc' (L : List Att) (m : Nat) (h : m < L.length) : L.take (m + 1) = L.take m ++ [L[m]] := List.take_succ_eq_append_getElem h
end Go.Proofs.YtmcoepkopfcbdaaGreat
/- The document's attributes of a block: Of, at a block of attributes that may be. -/
namespace Go.Proofs.YtmcoepkopfcbdaaGreat
set_option linter.unusedVariables false
open Go.RowKit

theorem block_head (r : List UInt8) (h : r.length ≤ 126) : (str (blockL r)).extract 0 2 = str [b8 ((r.length : Int) % 256), b8 ((r.length : Int) / 256)] := by
  rw [str_ext, put2_eq _ (by omega)]
  unfold blockL
  rw [List.drop_zero, List.append_assoc, List.take_append_of_le_length (by rw [putL_len]; omega), List.take_of_length_le (by rw [putL_len]; omega)]
theorem block_cut (r : List UInt8) (h : r.length ≤ 126) : (str (blockL r)).extract 2 (2 + r.length) = str r := by
  rw [str_ext]
  congr 1
  unfold blockL
  rw [show 2 + r.length - 2 = r.length by omega, List.append_assoc, List.drop_append_of_le_length (by rw [putL_len]; omega), List.drop_of_length_le (by rw [putL_len]; omega), List.nil_append, List.take_append_of_le_length (by omega), List.take_of_length_le (by omega)]
theorem flatA_at (l : List Att) (j : Nat) (h : j < l.length) : (flatA l)[2 * j]? = some l[j].1 ∧ (flatA l)[2 * j + 1]? = some l[j].2 := by
  induction l generalizing j with
  | nil => simp at h
  | cons x l ih =>
    have e : flatA (x :: l) = x.1 :: x.2 :: flatA l := rfl
    cases j with
    | zero => exact ⟨rfl, rfl⟩
    | succ j =>
      have := ih j (by simpa using h)
      rw [e, show 2 * (j + 1) = 2 * j + 1 + 1 by omega]
      exact this
theorem row_short {l : List Att} (h : (rowA l).length ≤ 126) : (flatA l).length ≤ 126 ∧ ∀ s ∈ flatA l, s.length < 128 := by
  refine ⟨?_, fun s hs => by have := text_le_row _ s hs; unfold rowA at h; omega⟩
  unfold rowA at h
  generalize flatA l = ss at *
  have : ∀ ss : List (List UInt8), ss.length ≤ (rowL ss).length := fun ss => by
    induction ss with
    | nil => simp
    | cons s ss ih =>
      rw [rowL_cons]
      have := lenL_pos s.length
      simp only [List.length_append, List.length_cons]; omega
  have := this ss
  omega
set_option maxHeartbeats 2000000 in
set_option maxRecDepth 100000 in
theorem rof21_yes (l : List Att) (w : World) (h : AttL l) :
    Calls Tryz.prog 62 #[.string (str (blockL (rowA l)))] w fun e w' => ∃ u, e = .returned (.tuple #[u, .bool true]) ∧ Ext w w' ∧ OwnA w' w.heap.size u l := by
  obtain ⟨hfl, hsh⟩ := row_short h.short
  have hr := h.short
  have hz : (str (blockL (rowA l))).size = 128 := by rw [str_size, blockL_len _ hr]
  have e0 := block_head (rowA l) hr
  have e1 := block_cut (rowA l) hr
  have HFN := Lib.hid (flatA_len l)
  have hne : l.length ≠ 0 := fun e => h.some' (List.eq_nil_of_length_eq_zero e)
  have HG := Lib.hid (fun w => rget2_at (b8 (((rowA l).length : Int) % 256)) (b8 (((rowA l).length : Int) / 256)) ((rowA l).length : Int) w (by
    rw [b8_toNat _ (by omega) (by omega), b8_toNat _ (by omega) (by omega)]; omega))
  have hfs := flatA_len l
  have HT := Lib.hid (fun w => rtexts_row (flatA l) w hsh (by have : rowL (flatA l) = rowA l := rfl; rw [this]; omega) (by omega))
  clear hfs
  have HB := Lib.hid (fun w => rblock21_any (rowA l) w hr)
  have HFA := Lib.hid (flatA_at l)
  have HR := Lib.hid h.rising
  have HMAY := Lib.hid h.may
  have u1 : (rowL (flatA l)) = rowA l := rfl
  rw [u1] at HT
  clear h u1
  generalize hrr : rowA l = r at *
  clear hrr
  generalize hbb : blockL r = b at *
  clear hbb
  have c1 : ¬ (126 : Int) < (r.length : Int) := by omega
  go_enter Tryz.func62, Tryz.ntmps62
  go_wp2_with fail
  refine (HG.out _).mono ?_
  rintro e w1 ⟨rfl, rfl⟩
  go_wp2_with fail
  refine (HT.out _).mono ?_
  rintro e w2 ⟨u, rfl, x2, own2⟩
  obtain ⟨A, cap, rfl, st2⟩ := own_strs own2
  generalize flatA l = ss at *
  have d2 : ((ss.length : Int) == 0) = false := by have := HFN.out; rw [beq_eq_false_iff_ne]; omega
  have d3 : ((ss.length : Int) % 2 == 1) = false := by have := HFN.out; simp; omega
  go_wp2_with fail
  refine (HB.out _).mono ?_
  rintro e w3 ⟨rfl, x3⟩
  go_wp2_with fail
  have st3 := st2.ext x3
  have x0 := x2.trans x3
  have o0 : (w3.alloc (.cells #[] 49)).ownsRow w3.heap.size 49 2 (.slice (some ⟨w3.heap.size, 0, none⟩) 0 0) 0 (attL []) := World.ownsRow_lit w3 #[] 0 (Nat.le_refl _) (by decide) rfl
  have hw3 : w.heap.size ≤ w3.heap.size := (x2.trans x3).size
  clear st2 own2 x2 x3 d2 d3 HB HG HT
  have hss := HFN.out
  obtain ⟨g, o, rfl, hcell⟩ := st3.2 (by omega)
  have hl63 : l.length ≤ 63 := by omega
  have hl1 : 1 ≤ l.length := by omega
  clear hss
  obtain ⟨i0, hi, hz0, hz1, hz2⟩ := info_parts attInfo
  have HCELL := Lib.hid hcell
  clear hcell
  obtain ⟨wo, rfl⟩ : ∃ wo : World, wo = w3 := ⟨_, rfl⟩
  go_loopw [7, 8] (fun v s wr => ∃ j : Nat, j ≤ l.length ∧ s = .int .i64 ((2 * j : Nat) : Int) ∧ Ext wo wr ∧ wr.ownsRow wo.heap.size 49 2 v j (attL (l.take j))) (fun _ i _ => ss.length - (intOf i).toNat)
  case atStart => exact ⟨0, by omega, rfl, (Ext.refl _).alloc _, o0⟩
  case round =>
    clear o0
    obtain ⟨j, hj, rfl, hx, hown⟩ := hrel
    have xr := x0.trans hx
    have hxs := xr.size
    have hss := HFN.out
    by_cases hlt : j < l.length
    · obtain ⟨f0, f1⟩ := HFA.out j hlt
      have s0 : 2 * j < ss.length := by omega
      have s1 : 2 * j + 1 < ss.length := by omega
      have k0 : ∀ y : Later wr, y.now.cell? ⟨g, o + 2 * j, none⟩ = some (.string (str l[j].1)) := fun y => by
        have := (hx.trans y.ext).keep (HCELL.out _ s0)
        rw [List.getElem?_eq_getElem s0] at f0
        rw [this]; injection f0 with f0; rw [f0]
      have k1 : ∀ y : Later wr, y.now.cell? ⟨g, o + (2 * j + 1), none⟩ = some (.string (str l[j].2)) := fun y => by
        have := (hx.trans y.ext).keep (HCELL.out _ s1)
        rw [List.getElem?_eq_getElem s1] at f1
        rw [this]; injection f1 with f1; rw [f1]
      have K2 : Hid (0 < j → ∀ y : Later wr, y.now.cell? ⟨g, o + (2 * j - 2), none⟩ = some (.string (str (l.getD (j - 1) ([], [])).1)) ∧ ltB (l.getD (j - 1) ([], [])).1 l[j].1 = true) := fun hp y => by
        have hp1 : j - 1 < l.length := by omega
        have hp2 : 2 * (j - 1) < ss.length := by omega
        obtain ⟨f2, _⟩ := HFA.out (j - 1) hp1
        have := (hx.trans y.ext).keep (HCELL.out _ hp2)
        rw [List.getElem?_eq_getElem hp2] at f2
        have hgd : l.getD (j - 1) ([], []) = l[j - 1] := by simp [List.getD, hp1]
        rw [show 2 * j - 2 = 2 * (j - 1) by omega, this, hgd]
        injection f2 with f2
        exact ⟨by rw [f2], List.pairwise_iff_getElem.1 HR.out (j - 1) j hp1 hlt (by omega)⟩
      have hm : mayB l[j].1 = true := HMAY.out _ (List.getElem_mem hlt)
      have hm0 : l[j].1.length ≤ 1000000000 := by
        unfold mayB at hm; simp only [Bool.and_eq_true, decide_eq_true_eq] at hm; omega
      have HM := Lib.hid (fun w => rmay_any l[j].1 w hm0)
      rw [hm] at HM
      have HT := Lib.hid (take_snoc' l j hlt)
      clear f0 f1 hm hm0 s0 s1
      generalize l[j] = y at *
      obtain ⟨sb, sc⟩ := y
      generalize (l.getD (j - 1) ([], [])).1 = sa at *
      simp only at k0 k1 K2 HM HT
      have j1 : 2 * j < ss.length := by omega
      have j2 : 2 * j + 1 < ss.length := by omega
      clear hss
      generalize hi2 : 2 * j = i at *
      have HI := Lib.hid hi2
      clear hi2
      go_wp2_with fail
      go_cut [73] (fun s wx => s = .bool false ∧ Ext wr wx)
      case first =>
        clear k1 HT HCELL
        by_cases hj00 : j = 0
        · have hpos : decide ((0 : Int) < (i : Int)) = false := by have := HI.out; simp; omega
          have hpos2 : decide (0 < i) = false := by have := HI.out; simp; omega
          clear hj00
          refine wp_region_later (by kernel_rfl) (by kernel_rfl) ?_
          repeat (go_big_quiet_step ((with_reducible exact later_of_same (HM.out _))))
          refine wpQuiet_nil ?_
          rintro w5 ⟨y, rfl⟩
          go_wp2_with fail
          go_meet
          exact ⟨rfl, y.ext⟩
        · have hpos : decide ((0 : Int) < (i : Int)) = true := by have := HI.out; simp; omega
          have hpos2 : 0 < i := by have := HI.out; omega
          have t5 : (2 : Int) ≤ (i : Int) := by have := HI.out; omega
          have t6 : 2 ≤ i := by have := HI.out; omega
          have k2 : ∀ y : Later wr, y.now.cell? ⟨g, o + (i - 2), none⟩ = some (.string (str sa)) := fun y => (K2 (by omega) y).1
          have hl' : Op.bytesLess (str sa).toList (str sb).toList = true := by rw [str_toList, str_toList]; exact (K2 (by omega) ⟨wr, Ext.refl _⟩).2
          have t1 : IntKind.i64.wrap ((i : Int) - 2) = (i : Int) - 2 := IntWalk.i64_in _ (by omega)
          have t2 : (0 : Int) ≤ (i : Int) - 2 := by omega
          have t3 : ((i : Int) - 2).toNat = i - 2 := by omega
          have t4 : (i : Int) - 2 < (ss.length : Int) := by omega
          clear hj00 K2
          refine wp_region_later (by kernel_rfl) (by kernel_rfl) ?_
          repeat (go_big_quiet_step ((with_reducible exact later_of_same (HM.out _))))
          refine wpQuiet_nil ?_
          rintro w5 ⟨y, rfl⟩
          go_wp2_with fail
          go_meet
          exact ⟨rfl, y.ext⟩
      case rest =>
        obtain ⟨rfl, hxc⟩ := hcut
        clear HM K2
        have q0 : wc.drew.cell? ⟨g, o + i, none⟩ = some (.string (str sb)) := k0 ⟨wc, hxc⟩
        have q1 : wc.drew.cell? ⟨g, o + (i + 1), none⟩ = some (.string (str sc)) := k1 ⟨wc, hxc⟩
        have hwB : wo.heap.size ≤ wc.heap.size := (hx.trans hxc).size
        have ownc : (wc.drew.alloc (.cells #[.string (str sb), .string (str sc)] 49)).ownsRow wo.heap.size 49 2 u7 j (attL (l.take j)) := own_ext (own_ext hown hxc) (((Ext.refl wc).drew).alloc _)
        have HNEW := Lib.hid (World.news_of_block (w := wc.drew.alloc (.cells #[.string (str sb), .string (str sc)] 49)) (Box.new wc.drew 49 #[.string (str sb), .string (str sc)]))
        have hlo := Lib.hid (show ∀ k, u7.ownBlock = some k → wo.heap.size ≤ k from fun k e => own_low hown e)
        have t1 : IntKind.i64.wrap ((i : Int) + 1) = (i : Int) + 1 := IntWalk.i64_in _ (by omega)
        have t2 : (0 : Int) ≤ (i : Int) + 1 := by omega
        have t3 : ((i : Int) + 1).toNat = i + 1 := by omega
        have t4 : (i : Int) + 1 < (ss.length : Int) := by omega
        clear k0 k1
        go_wp2_with fail
        go_region_law ((refine step_append_lies _ rfl (.tmp 74) (.tmp 85) 43 rfl wo.heap.size 49 i0 _ 2 32 Tryz.underlying43 hi hz0 hz1 hz2 rfl (by decide) u7 j _ (by simp [Act.eval]) ownc ⟨wc.heap.size, 0, none⟩ 1 1 [.string (str sb), .string (str sc)] (by simp [Act.eval]) rfl HNEW.out (all_one rfl) (by decide) (by unfold maxLen; omega) (by omega) (by simp; omega) (wc.heap.size + 1) (by simp) ?_; intro g1 cap1 w6 own6 hg6 _ _))
        all_goals
          have ownF : w6.ownsRow wo.heap.size 49 2 (.slice (some ⟨g1, 0, none⟩) (j + 1) cap1) (j + 1) (attL (l.take (j + 1))) := by
            rw [HT.out, attL_append]
            exact own6
          have xF : Ext wo w6 := ((hx.trans hxc).drew.alloc _).grown hg6 (fun k e => hlo.out k e)
          clear own6 hg6 ownc HNEW t1 t2 t3 t4
          go_wp2_with fail
          go_roundw
          case rel => exact ⟨j + 1, by omega, by have := HI.out; rw [show 2 * (j + 1) = i + 2 by omega]; go_num, xF, ownF⟩
          case measure => simp [intOf]; omega
    · obtain rfl : j = l.length := by omega
      have d1 : ¬ ((2 * l.length : Nat) : Int) < (ss.length : Int) := by omega
      rw [List.take_length] at hown
      clear hss
      go_wp2_with fail
      go_ret2
      exact ⟨_, rfl, xr, own_base hown hw3⟩
end Go.Proofs.YtmcoepkopfcbdaaGreat
