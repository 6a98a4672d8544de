/- Plain: inodes and attributes behind a change. -/
import Derived.Test.YtmcoepkopfcbdaaMa15
import Derived.Test.YtmcoepkopfcbdaaMa5
import Derived.Deep.DeepCutAuto
import Derived.ChangeKeysEq
namespace Go.Proofs.Ytmcoepkopfcbdaa
set_option linter.unusedVariables false

theorem part_eq {l l' : List UInt8} {o o' z : Nat} (h : ∀ j, j < z → l[o + j]? = l'[o' + j]?) : (l.drop o).take z = (l'.drop o').take z := by
  apply List.ext_getElem?
  intro j
  rw [List.getElem?_take, List.getElem?_take, List.getElem?_drop, List.getElem?_drop]
  split
  · exact h j ‹_›
  · rfl
theorem overL_at {b s : List UInt8} {p : Nat} (h : p + s.length ≤ b.length) (j : Nat) : (overL b p s)[j]? = if j < p then b[j]? else if j < p + s.length then s[j - p]? else b[j]? := by
  unfold overL
  have hp : (b.take p).length = p := by simp; omega
  by_cases h1 : j < p
  · rw [if_pos h1, List.append_assoc, List.getElem?_append_left (by omega), List.getElem?_take, if_pos h1]
  · rw [if_neg h1, List.append_assoc, List.getElem?_append_right (by omega), hp]
    by_cases h2 : j < p + s.length
    · rw [if_pos h2, List.getElem?_append_left (by omega)]
    · rw [if_neg h2, List.getElem?_append_right (by omega), List.getElem?_drop, show p + s.length + (j - p - s.length) = j by omega]
theorem fnum_over_in {b s : List UInt8} {p : Nat} (h : p + s.length ≤ b.length) {i z : Nat} (hz : i + z ≤ s.length) : fnum (overL b p s) (p + i) z = fnum s i z := by
  unfold fnum
  rw [part_eq (l' := s) (o' := i) (fun j hj => by rw [overL_at h, if_neg (by omega), if_pos (by omega), show p + i + j - p = i + j by omega])]
theorem fnum_over_out {b s : List UInt8} {p : Nat} (h : p + s.length ≤ b.length) {o z : Nat} (hz : o + z ≤ p ∨ p + s.length ≤ o) : fnum (overL b p s) o z = fnum b o z := by
  unfold fnum
  rw [part_eq (l' := b) (o' := o) (fun j hj => by
    rw [overL_at h]
    rcases hz with hz | hz
    · rw [if_pos (by omega)]
    · rw [if_neg (by omega), if_neg (by omega)])]
theorem fit_at {x : List Int} (h : fitsB x = true) (k : Fin 12) : 0 ≤ x.getD (fplace k) 0 ∧ x.getD (fplace k) 0 < 256 ^ (fsize k).toNat := by
  unfold fitsB at h
  rw [List.all_eq_true] at h
  refine of_decide_eq_true (h k ?_)
  rcases k with ⟨k, hk⟩
  rcases (by omega : k = 0 ∨ k = 1 ∨ k = 2 ∨ k = 3 ∨ k = 4 ∨ k = 5 ∨ k = 6 ∨ k = 7 ∨ k = 8 ∨ k = 9 ∨ k = 10 ∨ k = 11) with rfl | rfl | rfl | rfl | rfl | rfl | rfl | rfl | rfl | rfl | rfl | rfl <;> simp [allF]
theorem inoL_inoB {x : List Int} (hx : x.length = 12) (h : fitsB x = true) : inoL (inoB x) 0 = x := by
  obtain ⟨k, l, o, s, d0, d1, d2, d3, d4, d5, n, e, rfl⟩ : ∃ k l o s d0 d1 d2 d3 d4 d5 n e : Int, x = [k, l, o, s, d0, d1, d2, d3, d4, d5, n, e] := by
    match x, hx with
    | [k, l, o, s, d0, d1, d2, d3, d4, d5, n, e], _ => exact ⟨k, l, o, s, d0, d1, d2, d3, d4, d5, n, e, rfl⟩
  have f := fun k => fit_at h k
  have e0 : fnum (inoB [k, l, o, s, d0, d1, d2, d3, d4, d5, n, e]) 0 1 = k := numL_putL k 1 (f 0).1 (f 0).2
  have e1 : fnum (inoB [k, l, o, s, d0, d1, d2, d3, d4, d5, n, e]) (0 + 2) 2 = l := numL_putL l 2 (f 2).1 (f 2).2
  have e2 : fnum (inoB [k, l, o, s, d0, d1, d2, d3, d4, d5, n, e]) (0 + 1) 1 = o := numL_putL o 1 (f 1).1 (f 1).2
  have e3 : fnum (inoB [k, l, o, s, d0, d1, d2, d3, d4, d5, n, e]) (0 + 4) 4 = s := numL_putL s 4 (f 3).1 (f 3).2
  have e4 : fnum (inoB [k, l, o, s, d0, d1, d2, d3, d4, d5, n, e]) (0 + 8) 2 = d0 := numL_putL d0 2 (f 4).1 (f 4).2
  have e5 : fnum (inoB [k, l, o, s, d0, d1, d2, d3, d4, d5, n, e]) (0 + 10) 2 = d1 := numL_putL d1 2 (f 5).1 (f 5).2
  have e6 : fnum (inoB [k, l, o, s, d0, d1, d2, d3, d4, d5, n, e]) (0 + 12) 2 = d2 := numL_putL d2 2 (f 6).1 (f 6).2
  have e7 : fnum (inoB [k, l, o, s, d0, d1, d2, d3, d4, d5, n, e]) (0 + 14) 2 = d3 := numL_putL d3 2 (f 7).1 (f 7).2
  have e8 : fnum (inoB [k, l, o, s, d0, d1, d2, d3, d4, d5, n, e]) (0 + 16) 2 = d4 := numL_putL d4 2 (f 8).1 (f 8).2
  have e9 : fnum (inoB [k, l, o, s, d0, d1, d2, d3, d4, d5, n, e]) (0 + 18) 2 = d5 := numL_putL d5 2 (f 9).1 (f 9).2
  have e10 : fnum (inoB [k, l, o, s, d0, d1, d2, d3, d4, d5, n, e]) (0 + 20) 2 = n := numL_putL n 2 (f 10).1 (f 10).2
  have e11 : fnum (inoB [k, l, o, s, d0, d1, d2, d3, d4, d5, n, e]) (0 + 22) 2 = e := numL_putL e 2 (f 11).1 (f 11).2
  unfold inoL
  rw [e0, e1, e2, e3, e4, e5, e6, e7, e8, e9, e10, e11]
theorem inoL_over {b s : List UInt8} {p : Nat} (h : p + s.length ≤ b.length) (hs : s.length = 24) : inoL (overL b p s) p = inoL s 0 := by
  unfold inoL
  have e : ∀ i z : Nat, i + z ≤ 24 → fnum (overL b p s) (p + i) z = fnum s (0 + i) z := fun i z hz => by rw [fnum_over_in h (by omega), Nat.zero_add]
  rw [show fnum (overL b p s) p 1 = fnum s 0 1 from e 0 1 (by omega), e 2 2 (by omega), e 1 1 (by omega), e 4 4 (by omega), e 8 2 (by omega), e 10 2 (by omega), e 12 2 (by omega), e 14 2 (by omega), e 16 2 (by omega), e 18 2 (by omega), e 20 2 (by omega), e 22 2 (by omega)]
theorem inoL_over_ne {b s : List UInt8} {p q : Nat} (h : p + s.length ≤ b.length) (hs : s.length = 24) (hq : q + 24 ≤ p ∨ p + 24 ≤ q) : inoL (overL b p s) q = inoL b q := by
  unfold inoL
  have e : ∀ i z : Nat, i + z ≤ 24 → fnum (overL b p s) (q + i) z = fnum b (q + i) z := fun i z hz => fnum_over_out h (by omega)
  rw [show fnum (overL b p s) q 1 = fnum b q 1 from e 0 1 (by omega), e 2 2 (by omega), e 1 1 (by omega), e 4 4 (by omega), e 8 2 (by omega), e 10 2 (by omega), e 12 2 (by omega), e 14 2 (by omega), e 16 2 (by omega), e 18 2 (by omega), e 20 2 (by omega), e 22 2 (by omega)]
theorem inoAt_put_eq {v : List (List UInt8)} {I k : Int} (hg : Good v I) (h1 : 1 ≤ k) (h2 : k ≤ I) {x : List Int} (hx : x.length = 12) (hf : fitsB x = true) : inoAt (putAt v k x) k = x := by
  have hp := plan_bd hg.plan
  have hi : (3 + (k - 1) / 2).toNat < v.length := by omega
  unfold inoAt putAt
  rw [getD_set_eq' _ _ hi, inoL_over (by rw [inoB_len, getD_len hg hi]; omega) (inoB_len x), inoL_inoB hx hf]
theorem inoAt_put_ne {v : List (List UInt8)} {I k j : Int} (hg : Good v I) (h1 : 1 ≤ k) (h2 : k ≤ I) (j1 : 1 ≤ j) (hne : j ≠ k) (x : List Int) : inoAt (putAt v k x) j = inoAt v j := by
  have hp := plan_bd hg.plan
  have hi : (3 + (k - 1) / 2).toNat < v.length := by omega
  unfold inoAt putAt
  by_cases e : (3 + (k - 1) / 2).toNat = (3 + (j - 1) / 2).toNat
  · rw [← e, getD_set_eq' _ _ hi, inoL_over_ne (by rw [inoB_len, getD_len hg hi]; omega) (inoB_len x) (by omega)]
  · rw [getD_set_ne' _ _ e]
theorem inoAt_set (v : List (List UInt8)) {i : Nat} {k : Int} (b : List UInt8) (h : i ≠ (3 + (k - 1) / 2).toNat) : inoAt (v.set i b) k = inoAt v k := by
  unfold inoAt; rw [getD_set_ne' _ _ h]
theorem inoAt_fits (v : List (List UInt8)) (k : Int) : fitsB (inoAt v k) = true := fits_ino _ _

/-- attributes that a block may say -/
structure AttL (l : List Att) : Prop where
  rising : Rising l
  some' : l ≠ []
  may : ∀ x ∈ l, mayB x.1 = true
  short : (rowA l).length ≤ 126
theorem text_le_row : ∀ (ss : List (List UInt8)) (s : List UInt8), s ∈ ss → s.length ≤ (rowL ss).length
  | [], _, h => by cases h
  | t :: ss, s, h => by
    rw [rowL_cons, List.length_append, List.length_append]
    rcases List.mem_cons.1 h with rfl | h
    · omega
    · have := text_le_row ss s h; omega
theorem pairs_flat : ∀ l : List Att, pairsA (flatA l) = l
  | [] => rfl
  | x :: l => by
    have e : flatA (x :: l) = x.1 :: x.2 :: flatA l := rfl
    rw [e, pairsA, pairs_flat l]
theorem flatA_getD : ∀ (l : List Att) (j : Nat) (h : j < l.length), (flatA l).getD (j * 2) [] = l[j].1
  | x :: l, 0, _ => rfl
  | x :: l, j + 1, h => by
    have e : flatA (x :: l) = x.1 :: x.2 :: flatA l := rfl
    rw [e, show (j + 1) * 2 = j * 2 + 1 + 1 by omega]
    exact flatA_getD l j (by simpa using h)
theorem okAll_flat {l : List Att} (hr : Rising l) (hm : ∀ x ∈ l, mayB x.1 = true) : okAll (flatA l) = true := by
  unfold okAll
  rw [List.all_eq_true]
  intro j hj
  have hj' : j < l.length := by have := List.mem_range.1 hj; rw [flatA_len] at this; omega
  unfold okAt
  rw [flatA_getD l j hj', hm _ (List.getElem_mem hj'), Bool.true_and]
  cases j with
  | zero => rfl
  | succ j =>
    rw [show (j + 1) * 2 - 2 = j * 2 by omega, flatA_getD l j (by omega), (List.pairwise_iff_getElem.1 hr) j (j + 1) (by omega) hj' (by omega), Bool.or_true]
theorem block_num {r : List UInt8} (h : r.length ≤ 126) : numL ((blockL r).take 2) = r.length := by
  have e : (blockL r).take 2 = putL r.length 2 := by
    unfold blockL
    rw [List.append_assoc, List.take_append_of_le_length (by rw [putL_len]; omega), List.take_of_length_le (by rw [putL_len]; omega)]
  have := numL_putL r.length 2 (by omega) (by have : (256 : Int) ^ 2 = 65536 := rfl; omega)
  rw [e]; omega
theorem block_row {r : List UInt8} (h : r.length ≤ 126) : rowOf (blockL r) = r := by
  unfold rowOf
  rw [block_num h]
  unfold blockL
  rw [List.append_assoc, List.drop_append_of_le_length (by rw [putL_len]; omega), List.drop_of_length_le (by rw [putL_len]; omega), List.nil_append, List.take_append_of_le_length (by omega), List.take_of_length_le (by omega)]
theorem attrs_block {l : List Att} (h : AttL l) : attrsB (blockL (rowA l)) = true ∧ attrsP (blockL (rowA l)) = l := by
  have ht : textsP (rowA l) = (flatA l, 0) := textsP_row _ (fun s hs => by have := text_le_row _ s hs; have := h.short; unfold rowA at this; omega)
  have hb : attrsB (blockL (rowA l)) = true := by
    unfold attrsB
    rw [block_row h.short, block_num h.short, ht]
    simp only [Bool.and_eq_true, decide_eq_true_eq]
    refine ⟨⟨⟨⟨⟨h.short, trivial⟩, ?_⟩, ?_⟩, trivial⟩, okAll_flat h.rising h.may⟩
    · intro e
      have := flatA_len l
      rw [e] at this
      exact h.some' (List.eq_nil_of_length_eq_zero (by simp at this; omega))
    · rw [flatA_len]; omega
  refine ⟨hb, ?_⟩
  unfold attrsP
  rw [hb, if_pos rfl, block_row h.short, ht, pairs_flat]
theorem ins_may {l : List Att} (h : ∀ x ∈ l, mayB x.1 = true) {x : Att} (hx : mayB x.1 = true) : ∀ y ∈ insA l x, mayB y.1 = true := by
  intro y hy
  unfold insA at hy
  rcases List.mem_append.1 hy with hy | hy
  · exact h y (List.mem_filter.1 hy).1
  · rcases List.mem_cons.1 hy with rfl | hy
    · exact hx
    · exact h y (List.mem_filter.1 hy).1
theorem ins_ne (l : List Att) (x : Att) : insA l x ≠ [] := by unfold insA; simp
theorem rowA_cons (x : Att) (l : List Att) : rowA (x :: l) = lenL x.1.length ++ x.1 ++ (lenL x.2.length ++ x.2 ++ rowA l) := by
  show rowL (x.1 :: x.2 :: flatA l) = _
  rw [rowL_cons, rowL_cons]; rfl
theorem rowA_append (a b : List Att) : rowA (a ++ b) = rowA a ++ rowA b := by
  unfold rowA; rw [show flatA (a ++ b) = flatA a ++ flatA b by unfold flatA; simp, rowL_append]
theorem rowA_filter (p : Att → Bool) : ∀ l : List Att, (rowA (l.filter p)).length ≤ (rowA l).length
  | [] => Nat.le_refl _
  | x :: l => by
    have ih := rowA_filter p l
    rw [List.filter_cons]
    split
    · rw [rowA_cons, rowA_cons]; simp only [List.length_append]; omega
    · rw [rowA_cons]; simp only [List.length_append]; omega

/-- a volume all of whose attributes are as they may be, each inode's in a block of its own -/
structure Fine (v : List (List UInt8)) (I : Int) : Prop where
  good : Good v I
  att : ∀ k : Int, 1 ≤ k → k ≤ I → (inoAt v k).getD 0 0 ≠ 0 → extraOf (inoAt v k) ≠ 0 → dataOf I ≤ extraOf (inoAt v k) ∧ usedB v (extraOf (inoAt v k)) = true ∧ ∃ l, AttL l ∧ v.getD (extraOf (inoAt v k)).toNat [] = blockL (rowA l)
  apart : ∀ j k : Int, 1 ≤ j → j ≤ I → 1 ≤ k → k ≤ I → (inoAt v j).getD 0 0 ≠ 0 → (inoAt v k).getD 0 0 ≠ 0 → extraOf (inoAt v j) ≠ 0 → extraOf (inoAt v j) = extraOf (inoAt v k) → j = k
def attsOf (v : List (List UInt8)) (I k : Int) : List Att := (openP v I k).2.1
theorem fine_open {v : List (List UInt8)} {I k : Int} (h : Fine v I) (h1 : 1 ≤ k) (h2 : k ≤ I) (hk : (inoAt v k).getD 0 0 ≠ 0) :
    openP v I k = (inoAt v k, attsOf v I k, 0) ∧ (extraOf (inoAt v k) = 0 → attsOf v I k = []) ∧ (extraOf (inoAt v k) ≠ 0 → AttL (attsOf v I k) ∧ v.getD (extraOf (inoAt v k)).toNat [] = blockL (rowA (attsOf v I k))) := by
  unfold attsOf openP
  rw [if_neg (by omega), if_neg hk]
  by_cases e : extraOf (inoAt v k) = 0
  · have e' : (inoAt v k).getD 11 0 = 0 := e
    rw [if_pos e']
    exact ⟨rfl, fun _ => rfl, fun h => absurd e h⟩
  · have e' : ¬ (inoAt v k).getD 11 0 = 0 := e
    rw [if_neg e']
    obtain ⟨a1, a2, l, a3, a4⟩ := h.att k h1 h2 hk e
    have a5 := attrs_block a3
    unfold extraOf at *
    rw [a4, if_neg (by rintro (h | h | h); · omega
                       · rw [a2] at h; cases h
                       · rw [a5.1] at h; cases h), a5.2]
    exact ⟨rfl, fun h => absurd h e, fun _ => ⟨a3, rfl⟩⟩
theorem open_congr {v v' : List (List UInt8)} {I k : Int} (h : inoAt v' k = inoAt v k) (hu : extraOf (inoAt v k) ≠ 0 → usedB v' (extraOf (inoAt v k)) = usedB v (extraOf (inoAt v k)) ∧ v'.getD (extraOf (inoAt v k)).toNat [] = v.getD (extraOf (inoAt v k)).toNat []) : openP v' I k = openP v I k := by
  unfold openP
  rw [h]
  by_cases e : (inoAt v k).getD 11 0 = 0
  · simp only [if_pos e]
  · obtain ⟨h1, h2⟩ := hu e
    unfold extraOf at h1 h2
    rw [h1, h2]
theorem usedB_set {v : List (List UInt8)} {i : Nat} {b : List UInt8} (h : i ≠ 2) (e : Int) : usedB (v.set i b) e = usedB v e := by
  unfold usedB; rw [getD_set_ne' _ _ h, List.length_set]
theorem used_bd {v : List (List UInt8)} {e : Int} (h : usedB v e = true) : 0 ≤ e ∧ e < v.length ∧ bitB (v.getD 2 []) e.toNat = true := by
  unfold usedB at h
  simp only [Bool.and_eq_true, decide_eq_true_eq] at h
  exact ⟨h.1.1, h.1.2, h.2⟩
end Go.Proofs.Ytmcoepkopfcbdaa
/- Plain: what setting and dropping an attribute makes of a volume. -/
namespace Go.Proofs.Ytmcoepkopfcbdaa
set_option linter.unusedVariables false

theorem extra_bd (v : List (List UInt8)) (k : Int) : 0 ≤ extraOf (inoAt v k) ∧ extraOf (inoAt v k) < 65536 := by
  have h := fit_at (inoAt_fits v k) 11
  exact ⟨h.1, h.2⟩
theorem extra_set (x : List Int) (hx : x.length = 12) (e : Int) : extraOf (x.set 11 e) = e := by unfold extraOf; simp [List.getD, hx]
theorem kind_set (x : List Int) (e : Int) : (x.set 11 e).getD 0 0 = x.getD 0 0 := by simp [List.getD]
theorem set_back (x : List Int) (hx : x.length = 12) (e : Int) : (x.set 11 e).set 11 (extraOf x) = x := by
  rw [List.set_set]; unfold extraOf
  rw [List.getD_eq_getElem?_getD, List.getElem?_eq_getElem (by omega)]; simp
/-- a block with attributes is written anew -/
theorem fine_write {v : List (List UInt8)} {I k : Int} (h : Fine v I) (h1 : 1 ≤ k) (h2 : k ≤ I) (hk : (inoAt v k).getD 0 0 ≠ 0) (he : extraOf (inoAt v k) ≠ 0) {l : List Att} (hl : AttL l) :
    Fine (v.set (extraOf (inoAt v k)).toNat (blockL (rowA l))) I ∧ (∀ j, 1 ≤ j → j ≤ I → inoAt (v.set (extraOf (inoAt v k)).toNat (blockL (rowA l))) j = inoAt v j) ∧
      attsOf (v.set (extraOf (inoAt v k)).toNat (blockL (rowA l))) I k = l ∧ (∀ j, j ≠ k → (inoAt v j).getD 0 0 ≠ 0 → 1 ≤ j → j ≤ I → openP (v.set (extraOf (inoAt v k)).toNat (blockL (rowA l))) I j = openP v I j) := by
  obtain ⟨a1, a2, _⟩ := h.att k h1 h2 hk he
  have hb := used_bd a2
  have hp := plan_bd h.good.plan
  unfold dataOf at a1
  have hi : ∀ j, 1 ≤ j → j ≤ I → inoAt (v.set (extraOf (inoAt v k)).toNat (blockL (rowA l))) j = inoAt v j := fun j _ _ => inoAt_set v _ (by omega)
  have hg : Good (v.set (extraOf (inoAt v k)).toNat (blockL (rowA l))) I := h.good.set (by omega) (by omega) (blockL_len _ hl.short)
  have hs : (v.set (extraOf (inoAt v k)).toNat (blockL (rowA l))).getD (extraOf (inoAt v k)).toNat [] = blockL (rowA l) := getD_set_eq' _ _ (by omega)
  have hn : ∀ j, j ≠ k → (inoAt v j).getD 0 0 ≠ 0 → 1 ≤ j → j ≤ I → extraOf (inoAt v j) ≠ 0 → (v.set (extraOf (inoAt v k)).toNat (blockL (rowA l))).getD (extraOf (inoAt v j)).toNat [] = v.getD (extraOf (inoAt v j)).toNat [] := fun j hne hj j1 j2 ej => by
    refine getD_set_ne' _ _ (fun e => hne ?_)
    have := extra_bd v j
    exact h.apart j k j1 j2 h1 h2 hj hk ej (by omega)
  have hf : Fine (v.set (extraOf (inoAt v k)).toNat (blockL (rowA l))) I := by
    refine ⟨hg, fun j j1 j2 hj ej => ?_, fun i j i1 i2 j1 j2 => ?_⟩
    · rw [hi j j1 j2] at *
      rw [usedB_set (by omega)]
      by_cases e : j = k
      · subst e; exact ⟨(h.att j j1 j2 hj ej).1, a2, l, hl, hs⟩
      · rw [hn j e hj j1 j2 ej]; exact h.att j j1 j2 hj ej
    · rw [hi i i1 i2, hi j j1 j2]; exact h.apart i j i1 i2 j1 j2
  refine ⟨hf, hi, ?_, fun j hne hj j1 j2 => open_congr (hi j j1 j2) (fun ej => ⟨usedB_set (by omega) _, hn j hne hj j1 j2 ej⟩)⟩
  have ho := (fine_open hf h1 h2 (by rw [hi k h1 h2]; exact hk)).2.2 (by rw [hi k h1 h2]; exact he)
  rw [hi k h1 h2, hs] at ho
  have e1 := (attrs_block hl).2
  rw [ho.2, (attrs_block ho.1).2] at e1
  exact e1
theorem taken_bit {v : List (List UInt8)} {I : Int} (hg : Good v I) {i : Nat} (h1 : i < v.length) (h2 : 2 ≠ i) (j : Nat) : bitB ((takenV v i).getD 2 []) j = (bitB (v.getD 2 []) j ^^ decide (i = j)) := by
  have hp := plan_bd hg.plan
  unfold takenV
  rw [getD_set_ne' _ _ (Ne.symm h2), getD_set_eq' _ _ (by omega), bit_flip _ _ _ (by rw [getD_len hg (by omega)]; omega)]
/-- a block is taken, and says attributes -/
theorem fine_take {v : List (List UInt8)} {I k : Int} (h : Fine v I) (h1 : 1 ≤ k) (h2 : k ≤ I) (hk : (inoAt v k).getD 0 0 ≠ 0) (he : extraOf (inoAt v k) = 0) {i : Nat} (ht : takeI v I = some i) {l : List Att} (hl : AttL l) :
    Fine ((putAt (takenV v i) k ((inoAt v k).set 11 i)).set i (blockL (rowA l))) I ∧ (∀ j, 1 ≤ j → j ≤ I → j ≠ k → inoAt ((putAt (takenV v i) k ((inoAt v k).set 11 i)).set i (blockL (rowA l))) j = inoAt v j) ∧
      inoAt ((putAt (takenV v i) k ((inoAt v k).set 11 i)).set i (blockL (rowA l))) k = (inoAt v k).set 11 i ∧
      attsOf ((putAt (takenV v i) k ((inoAt v k).set 11 i)).set i (blockL (rowA l))) I k = l ∧ (∀ j, j ≠ k → (inoAt v j).getD 0 0 ≠ 0 → 1 ≤ j → j ≤ I → openP ((putAt (takenV v i) k ((inoAt v k).set 11 i)).set i (blockL (rowA l))) I j = openP v I j) ∧
      (∀ j : Nat, bitB (((putAt (takenV v i) k ((inoAt v k).set 11 i)).set i (blockL (rowA l))).getD 2 []) j = (bitB (v.getD 2 []) j ^^ decide (i = j))) := by
  obtain ⟨t1, t2, t3, t4⟩ := takeI_some ht
  have hp := plan_bd h.good.plan
  have t1' := t1
  unfold dataOf at t1'
  have hgt := h.good.taken ht
  have hlt := takenV_len v i
  have hgp : Good (putAt (takenV v i) k ((inoAt v k).set 11 i)) I := hgt.putAt h1 h2 _
  have hlp : (putAt (takenV v i) k ((inoAt v k).set 11 (i : Int))).length = v.length := by rw [putAt_len, hlt]
  have hit : ∀ j, 1 ≤ j → j ≤ I → inoAt (takenV v i) j = inoAt v j := fun j _ _ => by
    unfold takenV
    rw [inoAt_set _ _ (by omega), inoAt_set _ _ (by omega)]
  have hx12 : ((inoAt v k).set 11 (i : Int)).length = 12 := by rw [List.length_set]; exact inoAt_len v k
  have hxf : fitsB ((inoAt v k).set 11 (i : Int)) = true := fits_set (inoAt_fits v k) (inoAt_len v k) (by omega) (by omega)
  generalize hu : putAt (takenV v i) k ((inoAt v k).set 11 (i : Int)) = u at *
  have hiu : inoAt u k = (inoAt v k).set 11 (i : Int) := by rw [← hu]; exact inoAt_put_eq hgt h1 h2 hx12 hxf
  have hju : ∀ j, 1 ≤ j → j ≤ I → j ≠ k → inoAt u j = inoAt v j := fun j j1 j2 hne => by rw [← hu, inoAt_put_ne hgt h1 h2 j1 hne, hit j j1 j2]
  have h2u : u.getD 2 [] = (takenV v i).getD 2 [] := by rw [← hu]; unfold putAt; rw [getD_set_ne' _ _ (by omega)]
  have hku : inoAt (u.set i (blockL (rowA l))) k = (inoAt v k).set 11 (i : Int) := by rw [inoAt_set _ _ (by omega), hiu]
  have hjw : ∀ j, 1 ≤ j → j ≤ I → j ≠ k → inoAt (u.set i (blockL (rowA l))) j = inoAt v j := fun j j1 j2 hne => by rw [inoAt_set _ _ (by omega), hju j j1 j2 hne]
  have hgw : Good (u.set i (blockL (rowA l))) I := hgp.set (by omega) (by omega) (blockL_len _ hl.short)
  have hbw : ∀ j : Nat, bitB ((u.set i (blockL (rowA l))).getD 2 []) j = (bitB (v.getD 2 []) j ^^ decide (i = j)) := fun j => by
    rw [getD_set_ne' _ _ (by omega), h2u, taken_bit h.good t2 (by omega)]
  have hlw : (u.set i (blockL (rowA l))).length = v.length := by rw [List.length_set, hlp]
  have hne : ∀ j, 1 ≤ j → j ≤ I → (inoAt v j).getD 0 0 ≠ 0 → extraOf (inoAt v j) ≠ 0 → extraOf (inoAt v j) ≠ (i : Int) := fun j j1 j2 hj ej e => by
    have := (used_bd (h.att j j1 j2 hj ej).2.1).2.2
    rw [e, show (i : Int).toNat = i by omega, t3] at this
    cases this
  have huw : ∀ j, 1 ≤ j → j ≤ I → (inoAt v j).getD 0 0 ≠ 0 → extraOf (inoAt v j) ≠ 0 → usedB (u.set i (blockL (rowA l))) (extraOf (inoAt v j)) = usedB v (extraOf (inoAt v j)) := fun j j1 j2 hj ej => by
    unfold usedB
    have hn := hne j j1 j2 hj ej
    have := extra_bd v j
    rw [hlw, hbw, show decide (i = (extraOf (inoAt v j)).toNat) = false by simp; omega, Bool.xor_false]
  have hsw : ∀ j, 1 ≤ j → j ≤ I → (inoAt v j).getD 0 0 ≠ 0 → extraOf (inoAt v j) ≠ 0 → (u.set i (blockL (rowA l))).getD (extraOf (inoAt v j)).toNat [] = v.getD (extraOf (inoAt v j)).toNat [] := fun j j1 j2 hj ej => by
    have hn := hne j j1 j2 hj ej
    have := extra_bd v j
    have hd := (h.att j j1 j2 hj ej).1
    unfold dataOf at hd
    rw [getD_set_ne' _ _ (by omega), ← hu]
    unfold putAt takenV
    rw [getD_set_ne' _ _ (by omega), getD_set_ne' _ _ (by omega), getD_set_ne' _ _ (by omega)]
  have hsi : (u.set i (blockL (rowA l))).getD i [] = blockL (rowA l) := getD_set_eq' _ _ (by omega)
  have hxe : extraOf ((inoAt v k).set 11 (i : Int)) = i := extra_set _ (inoAt_len v k) _
  have hxk : ((inoAt v k).set 11 (i : Int)).getD 0 0 ≠ 0 := by rw [kind_set]; exact hk
  have hf : Fine (u.set i (blockL (rowA l))) I := by
    refine ⟨hgw, fun j j1 j2 hj ej => ?_, fun a b a1 a2 b1 b2 ha hb ea eab => ?_⟩
    · by_cases e : j = k
      · subst e
        rw [hku, hxe, show (i : Int).toNat = i by omega]
        refine ⟨t1, ?_, l, hl, hsi⟩
        unfold usedB
        rw [hlw, show (i : Int).toNat = i by omega, hbw, t3]; simp; omega
      · rw [hjw j j1 j2 e] at *
        rw [huw j j1 j2 hj ej, hsw j j1 j2 hj ej]; exact h.att j j1 j2 hj ej
    · by_cases e1 : a = k
      · by_cases e2 : b = k
        · rw [e1, e2]
        · rw [hjw b b1 b2 e2] at *
          subst e1
          rw [hku, hxe] at eab
          exact absurd eab.symm (hne b b1 b2 hb (by omega))
      · rw [hjw a a1 a2 e1] at *
        by_cases e2 : b = k
        · subst e2
          rw [hku, hxe] at eab
          exact absurd eab (hne a a1 a2 ha ea)
        · rw [hjw b b1 b2 e2] at *
          exact h.apart a b a1 a2 b1 b2 ha hb ea eab
  refine ⟨hf, hjw, hku, ?_, fun j hne hj j1 j2 => open_congr (hjw j j1 j2 hne) (fun ej => ⟨huw j j1 j2 hj ej, hsw j j1 j2 hj ej⟩), hbw⟩
  have ho := (fine_open hf h1 h2 (by rw [hku]; exact hxk)).2.2 (by rw [hku, hxe]; omega)
  rw [hku, hxe, show (i : Int).toNat = i by omega, hsi] at ho
  have e1 := (attrs_block hl).2
  rw [ho.2, (attrs_block ho.1).2] at e1
  exact e1
/-- the block of attributes is given back -/
theorem fine_give {v : List (List UInt8)} {I k : Int} (h : Fine v I) (h1 : 1 ≤ k) (h2 : k ≤ I) (hk : (inoAt v k).getD 0 0 ≠ 0) (he : extraOf (inoAt v k) ≠ 0) :
    Fine (putAt (givenV v (extraOf (inoAt v k)).toNat) k ((inoAt v k).set 11 0)) I ∧ (∀ j, 1 ≤ j → j ≤ I → j ≠ k → inoAt (putAt (givenV v (extraOf (inoAt v k)).toNat) k ((inoAt v k).set 11 0)) j = inoAt v j) ∧
      inoAt (putAt (givenV v (extraOf (inoAt v k)).toNat) k ((inoAt v k).set 11 0)) k = (inoAt v k).set 11 0 ∧
      attsOf (putAt (givenV v (extraOf (inoAt v k)).toNat) k ((inoAt v k).set 11 0)) I k = [] ∧ (∀ j, j ≠ k → (inoAt v j).getD 0 0 ≠ 0 → 1 ≤ j → j ≤ I → openP (putAt (givenV v (extraOf (inoAt v k)).toNat) k ((inoAt v k).set 11 0)) I j = openP v I j) ∧
      (∀ j : Nat, bitB ((putAt (givenV v (extraOf (inoAt v k)).toNat) k ((inoAt v k).set 11 0)).getD 2 []) j = (bitB (v.getD 2 []) j ^^ decide ((extraOf (inoAt v k)).toNat = j))) := by
  obtain ⟨a1, a2, _⟩ := h.att k h1 h2 hk he
  have hb := used_bd a2
  have hp := plan_bd h.good.plan
  have hde : dataOf I ≤ ((extraOf (inoAt v k)).toNat : Int) := by omega
  have hgg : Good (givenV v (extraOf (inoAt v k)).toNat) I := h.good.given hde (by omega)
  unfold dataOf at a1
  have hig : ∀ j, 1 ≤ j → j ≤ I → inoAt (givenV v (extraOf (inoAt v k)).toNat) j = inoAt v j := fun j _ _ => by
    unfold givenV
    rw [inoAt_set _ _ (by omega)]
  have hx12 : ((inoAt v k).set 11 0).length = 12 := by rw [List.length_set]; exact inoAt_len v k
  have hxf : fitsB ((inoAt v k).set 11 0) = true := fits_set (inoAt_fits v k) (inoAt_len v k) (by omega) (by omega)
  have hl : (putAt (givenV v (extraOf (inoAt v k)).toNat) k ((inoAt v k).set 11 0)).length = v.length := by rw [putAt_len, givenV_len]
  have hg : Good (putAt (givenV v (extraOf (inoAt v k)).toNat) k ((inoAt v k).set 11 0)) I := hgg.putAt h1 h2 _
  have h2u : (putAt (givenV v (extraOf (inoAt v k)).toNat) k ((inoAt v k).set 11 0)).getD 2 [] = flipL (v.getD 2 []) (extraOf (inoAt v k)).toNat := by
    unfold putAt givenV
    rw [getD_set_ne' _ _ (by omega), getD_set_eq' _ _ (by omega)]
  have hbw : ∀ j : Nat, bitB ((putAt (givenV v (extraOf (inoAt v k)).toNat) k ((inoAt v k).set 11 0)).getD 2 []) j = (bitB (v.getD 2 []) j ^^ decide ((extraOf (inoAt v k)).toNat = j)) := fun j => by
    rw [h2u, bit_flip _ _ _ (by rw [getD_len h.good (by omega)]; omega)]
  have hsu : ∀ e : Nat, dataOf I ≤ (e : Int) → (putAt (givenV v (extraOf (inoAt v k)).toNat) k ((inoAt v k).set 11 0)).getD e [] = v.getD e [] := fun e he => by
    unfold dataOf at he
    unfold putAt givenV
    rw [getD_set_ne' _ _ (by omega), getD_set_ne' _ _ (by omega)]
  have hku : inoAt (putAt (givenV v (extraOf (inoAt v k)).toNat) k ((inoAt v k).set 11 0)) k = (inoAt v k).set 11 0 := inoAt_put_eq hgg h1 h2 hx12 hxf
  have hju : ∀ j, 1 ≤ j → j ≤ I → j ≠ k → inoAt (putAt (givenV v (extraOf (inoAt v k)).toNat) k ((inoAt v k).set 11 0)) j = inoAt v j := fun j j1 j2 hne => by rw [inoAt_put_ne hgg h1 h2 j1 hne, hig j j1 j2]
  generalize putAt (givenV v (extraOf (inoAt v k)).toNat) k ((inoAt v k).set 11 0) = u at *
  have hne : ∀ j, 1 ≤ j → j ≤ I → j ≠ k → (inoAt v j).getD 0 0 ≠ 0 → extraOf (inoAt v j) ≠ 0 → extraOf (inoAt v j) ≠ extraOf (inoAt v k) := fun j j1 j2 hn hj ej e => hn (h.apart j k j1 j2 h1 h2 hj hk ej e)
  have huw : ∀ j, 1 ≤ j → j ≤ I → j ≠ k → (inoAt v j).getD 0 0 ≠ 0 → extraOf (inoAt v j) ≠ 0 → usedB u (extraOf (inoAt v j)) = usedB v (extraOf (inoAt v j)) := fun j j1 j2 hn hj ej => by
    unfold usedB
    have hn := hne j j1 j2 hn hj ej
    have := extra_bd v j
    rw [hl, hbw, show decide ((extraOf (inoAt v k)).toNat = (extraOf (inoAt v j)).toNat) = false by simp; omega, Bool.xor_false]
  have hsw : ∀ j, 1 ≤ j → j ≤ I → (inoAt v j).getD 0 0 ≠ 0 → extraOf (inoAt v j) ≠ 0 → u.getD (extraOf (inoAt v j)).toNat [] = v.getD (extraOf (inoAt v j)).toNat [] := fun j j1 j2 hj ej => by
    have hd := (h.att j j1 j2 hj ej).1
    have := extra_bd v j
    exact hsu _ (by omega)
  have hxe : extraOf ((inoAt v k).set 11 0) = 0 := extra_set _ (inoAt_len v k) _
  have hxk : ((inoAt v k).set 11 0).getD 0 0 ≠ 0 := by rw [kind_set]; exact hk
  have hf : Fine u I := by
    refine ⟨hg, fun j j1 j2 hj ej => ?_, fun a b a1 a2 b1 b2 ha hb ea eab => ?_⟩
    · by_cases e : j = k
      · subst e
        rw [hku, hxe] at ej
        exact absurd rfl ej
      · rw [hju j j1 j2 e] at *
        rw [huw j j1 j2 e hj ej, hsw j j1 j2 hj ej]; exact h.att j j1 j2 hj ej
    · by_cases e1 : a = k
      · subst e1
        rw [hku, hxe] at ea
        exact absurd rfl ea
      · rw [hju a a1 a2 e1] at *
        by_cases e2 : b = k
        · subst e2
          rw [hku, hxe] at eab
          exact absurd eab ea
        · rw [hju b b1 b2 e2] at *
          exact h.apart a b a1 a2 b1 b2 ha hb ea eab
  refine ⟨hf, hju, hku, ?_, fun j hn hj j1 j2 => open_congr (hju j j1 j2 hn) (fun ej => ⟨huw j j1 j2 hn hj ej, hsw j j1 j2 hj ej⟩), hbw⟩
  exact (fine_open hf h1 h2 (by rw [hku]; exact hxk)).2.1 (by rw [hku, hxe])
end Go.Proofs.Ytmcoepkopfcbdaa
/- Plain: the volume that the statements begin with. -/
namespace Go.Proofs.Ytmcoepkopfcbdaa
set_option linter.unusedVariables false

theorem flips6 : flips (zs 128) 6 = 63 :: zs 127 := by decide
set_option maxRecDepth 100000 in
theorem format_all : ∀ b ∈ formatV, b.length = 128 := by decide
theorem format_len : formatV.length = 24 := by simp [formatV, bareV]
theorem format_map : formatV.getD 2 [] = 63 :: zs 127 := by
  unfold formatV
  rw [getD_set_eq' _ _ (by simp [bareV]), flips6]
theorem zs_getD (n i : Nat) : (zs n).getD i 0 = 0 := by
  unfold zs
  rw [List.getD_eq_getElem?_getD, List.getElem?_replicate]
  split <;> rfl
theorem good_format : Good formatV 6 := by
  refine ⟨fun j hj => format_all _ (List.getElem_mem hj), by rw [format_len]; decide, rfl, fun i hi => ?_, fun i h1 h2 => ?_⟩
  · rw [format_map]
    rcases (by omega : i = 0 ∨ i = 1 ∨ i = 2 ∨ i = 3 ∨ i = 4 ∨ i = 5) with rfl | rfl | rfl | rfl | rfl | rfl <;> decide
  · rw [format_len] at h2
    rw [format_map]
    unfold bitB
    obtain ⟨q, hq⟩ : ∃ q, i / 8 = q + 1 := ⟨i / 8 - 1, by omega⟩
    rw [hq, List.getD_cons_succ, zs_getD]
    simp
/-- the inodes of the beginning -/
def begX (i : Nat) : List Int := [1, 1, i, 0, 0, 0, 0, 0, 0, 0, 0, 0]
/-- the volume with the first so many files -/
def begV : Nat → List (List UInt8)
  | 0 => formatV
  | i + 1 => putAt (begV i) ((i : Int) + 1) (begX i)
theorem begX_fits (i : Nat) (h : i < 3) : fitsB (begX i) = true := by
  rcases (by omega : i = 0 ∨ i = 1 ∨ i = 2) with rfl | rfl | rfl <;> decide
theorem good_beg (i : Nat) (h : i ≤ 3) : Good (begV i) 6 := by
  induction i with
  | zero => exact good_format
  | succ i ih => exact (ih (by omega)).putAt (by omega) (by omega) _
theorem beg_len (i : Nat) : (begV i).length = 24 := by
  induction i with
  | zero => exact format_len
  | succ i ih => rw [begV, putAt_len, ih]
theorem inoL_zs (n o : Nat) : inoL (zs n) o = zero12 := by
  have e : ∀ o z, fnum (zs n) o z = 0 := fun o z => by
    have h : ((zs n).drop o).take z = zs (min z (n - o)) := by unfold zs; simp
    unfold fnum
    rw [h]
    have k : ∀ m, numL (zs m) = 0 := fun m => by
      induction m with
      | zero => rfl
      | succ m ih => rw [show zs (m + 1) = 0 :: zs m from rfl, numL, ih]; rfl
    rw [k]; rfl
  unfold inoL
  simp only [e]; rfl
theorem ino_format (k : Int) (h1 : 1 ≤ k) (h2 : k ≤ 6) : inoAt formatV k = zero12 := by
  have h : formatV.getD (3 + (k - 1) / 2).toNat [] = zs 128 := by
    rcases (by omega : (3 + (k - 1) / 2).toNat = 3 ∨ (3 + (k - 1) / 2).toNat = 4 ∨ (3 + (k - 1) / 2).toNat = 5) with e | e | e <;> (rw [e]; rfl)
  unfold inoAt
  rw [h, inoL_zs]
theorem ino_beg (i : Nat) (h : i ≤ 3) : (∀ k : Int, 1 ≤ k → k ≤ i → inoAt (begV i) k = begX (k - 1).toNat) ∧ ∀ k : Int, i < k → k ≤ 6 → inoAt (begV i) k = zero12 := by
  induction i with
  | zero => exact ⟨fun k _ _ => by omega, fun k h1 h2 => ino_format k (by omega) h2⟩
  | succ i ih =>
    obtain ⟨a, b⟩ := ih (by omega)
    have hg := good_beg i (by omega)
    refine ⟨fun k h1 h2 => ?_, fun k h1 h2 => ?_⟩
    · rw [begV]
      by_cases e : k = (i : Int) + 1
      · rw [e, inoAt_put_eq hg (by omega) (by omega) rfl (begX_fits i (by omega)), show ((i : Int) + 1 - 1).toNat = i by omega]
      · rw [inoAt_put_ne hg (by omega) (by omega) h1 e, a k h1 (by omega)]
    · rw [begV, inoAt_put_ne hg (by omega) (by omega) (by omega) (by omega), b k (by omega) h2]
theorem beg_block (i j : Nat) (hi : i ≤ 3) (h1 : 6 ≤ j) (h2 : j < 24) : (begV i).getD j [] = zs 128 := by
  induction i with
  | zero =>
    show formatV.getD j [] = zs 128
    unfold formatV bareV
    obtain ⟨q, rfl⟩ : ∃ q, j = q + 1 := ⟨j - 1, by omega⟩
    rw [getD_set_ne' _ _ (by omega), List.getD_cons_succ, List.getD_eq_getElem?_getD, List.getElem?_replicate, if_pos (by omega)]; rfl
  | succ i ih => rw [begV]; unfold putAt; rw [getD_set_ne' _ _ (by omega), ih (by omega)]
theorem beg_map (i : Nat) (hi : i ≤ 3) : (begV i).getD 2 [] = 63 :: zs 127 := by
  induction i with
  | zero => exact format_map
  | succ i ih => rw [begV]; unfold putAt; rw [getD_set_ne' _ _ (by omega), ih (by omega)]
theorem map_bit (j : Nat) (h : 6 ≤ j) : bitB (63 :: zs 127) j = false := by
  unfold bitB
  by_cases e : j < 8
  · rcases (by omega : j = 6 ∨ j = 7) with rfl | rfl <;> decide
  · obtain ⟨q, hq⟩ : ∃ q, j / 8 = q + 1 := ⟨j / 8 - 1, by omega⟩
    rw [hq, List.getD_cons_succ, zs_getD]; simp
theorem beg_take (i : Nat) (hi : i ≤ 3) : takeI (begV i) 6 = some 6 := by
  unfold takeI
  rw [beg_len, beg_map i hi]
  decide
theorem fine_beg : Fine (begV 3) 6 := by
  have hi := ino_beg 3 (by omega)
  have he : ∀ k : Int, 1 ≤ k → k ≤ 6 → extraOf (inoAt (begV 3) k) = 0 := fun k h1 h2 => by
    by_cases h : k ≤ 3
    · rw [hi.1 k h1 h]; rfl
    · rw [hi.2 k (by omega) h2]; rfl
  exact ⟨good_beg 3 (by omega), fun k h1 h2 _ h => absurd (he k h1 h2) h, fun j k h1 h2 _ _ _ _ h _ => absurd (he j h1 h2) h⟩
end Go.Proofs.Ytmcoepkopfcbdaa
/- The walk of Begin. -/
namespace Go.Proofs.Ytmcoepkopfcbdaa
set_option linter.unusedVariables false
open Go.RowKit

theorem own_len {w : World} {base n size : Nat} {t : TypeId} {u : Value} {xs : List Value} (h : w.ownsRow base t size u n xs) : ∃ A c, u = .slice A n c := by
  rcases h.2 with ⟨rfl, h0⟩ | ⟨g, cap, cur, rfl, _⟩
  · exact ⟨none, 0, by rw [h0]⟩
  · exact ⟨_, _, rfl⟩
theorem beg_new (i c : Nat) (A : Option Addr) (w : World) (hi : i < 3) (hv : Strs w A 24 (begV i)) :
    Calls Try.prog 19 #[.slice A 24 c, .int .i64 1, .int .i64 i] w fun e w' => ∃ u, e = .returned (.tuple #[u, .int .i64 (i + 1 : Nat), .int .i64 0]) ∧ Ext w w' ∧ w'.ownsRow w.heap.size 9 1 u 24 (strL (begV (i + 1))) := by
  have hb := ino_beg i (by omega)
  have h := rnew_yes A 24 c (i + 1) (begV i) 6 i w hv (good_beg i (by omega)) (by omega) (by omega) (by omega) (by omega) (by rw [hb.2 _ (by omega) (by omega)]; rfl)
    (fun j h1 h2 => by rw [hb.1 j (by omega) (by omega)]; intro e; cases e)
  exact h
set_option maxHeartbeats 1000000 in
set_option maxRecDepth 100000 in
theorem begin_any (w : World) :
    Calls Try.prog 7 #[] w fun e w' => ∃ u, e = .returned u ∧ Ext w w' ∧ w'.ownsRow w.heap.size 9 1 u 24 (strL (begV 3)) := by
  have HN := Lib.hid beg_new
  have H0 := Lib.hid (show formatV = begV 0 from rfl)
  have HL := Lib.hid beg_len
  go_enter Try.func7, Try.ntmps7
  go_wp2_with fail
  refine (rformat_one _).mono ?_
  rintro e w1 ⟨u, rfl, x1, own1⟩
  rw [H0.out] at own1
  go_wp2_with fail
  go_loopw [1, 8] (fun t s wx => ∃ i : Nat, i ≤ 3 ∧ s = .int .i64 i ∧ Ext w wx ∧ wx.ownsRow w.heap.size 9 1 t 24 (strL (begV i))) (fun _ s _ => 3 - (intOf s).toNat)
  case atStart => exact ⟨0, by omega, rfl, x1, own1⟩
  case round =>
    obtain ⟨i, hi, rfl, xi, oi⟩ := hrel
    by_cases hlt : i < 3
    · obtain ⟨g, cap, rfl, hgW, si⟩ := Strs.own' oi (by omega)
      go_wp2_with fail
      refine (HN.out i _ _ _ hlt si).mono ?_
      rintro e w2 ⟨u2, rfl, x2, own2⟩
      go_wp2_with fail
      go_roundw
      case rel => exact ⟨i + 1, by omega, by go_num, xi.trans x2, own_base own2 xi.size⟩
      case measure => simp [intOf]; omega
    · obtain rfl : i = 3 := by omega
      go_wp2_with fail
      go_ret
      exact ⟨_, rfl, xi, oi⟩
end Go.Proofs.Ytmcoepkopfcbdaa
/- Acts: rows of them in memory; the walk of great. -/
namespace Go.Proofs.Ytmcoepkopfcbdaa
set_option linter.unusedVariables false
open Go.RowKit

/-- an act: its kind, its inode, the name, the value -/
abbrev ActT := Int × Int × List UInt8 × List UInt8
def actL (x : ActT) : List Value := [.int .i64 x.1, .int .i64 x.2.1, .string (str x.2.2.1), .string (str x.2.2.2)]
def actsL (l : List ActT) : List Value := l.flatMap actL
theorem actsL_append (a b : List ActT) : actsL (a ++ b) = actsL a ++ actsL b := by simp [actsL]
theorem actsL_len (l : List ActT) : (actsL l).length = l.length * 4 := by
  induction l with
  | nil => rfl
  | cons x l ih => rw [show actsL (x :: l) = actL x ++ actsL l from rfl, List.length_append, ih]; simp [actL]; omega
theorem actsL_at : ∀ (l : List ActT) (j : Nat) (h : j < l.length) (i : Nat), i < 4 → (actsL l)[j * 4 + i]? = (actL l[j])[i]?
  | x :: l, 0, _, i, hi => by
    rw [show actsL (x :: l) = actL x ++ actsL l from rfl, Nat.zero_mul, Nat.zero_add, List.getElem?_append_left (by simp [actL]; omega)]; rfl
  | x :: l, j + 1, h, i, hi => by
    rw [show actsL (x :: l) = actL x ++ actsL l from rfl, List.getElem?_append_right (by simp [actL]; omega), show (j + 1) * 4 + i - (actL x).length = j * 4 + i by simp [actL]; omega]
    exact actsL_at l j (by simpa using h) i hi
theorem actsL_one (l : List ActT) : ∀ u ∈ actsL l, u.oneCell' = true := by
  intro u hu
  simp only [actsL, actL, List.mem_flatMap, List.mem_cons, List.not_mem_nil, or_false] at hu
  obtain ⟨x, _, h | h | h | h⟩ := hu <;> (rw [h]; rfl)
/-- the slice with the address A and n places holds these acts -/
def Acts (w : World) (A : Option Addr) (n : Nat) (l : List ActT) : Prop :=
  n = l.length ∧ (0 < n → ∃ b o, A = some ⟨b, o, none⟩ ∧ ∀ j v, (actsL l)[j]? = some v → w.cell? ⟨b, o + j, none⟩ = some v)
theorem Acts.ext {w w' : World} {A : Option Addr} {n : Nat} {l : List ActT} (h : Acts w A n l) (k : Ext w w') : Acts w' A n l :=
  ⟨h.1, fun hn => by obtain ⟨b, o, e, hc⟩ := h.2 hn; exact ⟨b, o, e, fun j v hj => k.keep (hc j v hj)⟩⟩
theorem Acts.cells {w : World} {b o : Nat} {l : List ActT} (hc : ∀ j v, (actsL l)[j]? = some v → w.cell? ⟨b, o + j, none⟩ = some v) (k : Nat) (hk : k < l.length) :
    w.cell? ⟨b, o + k * 4, none⟩ = some (.int .i64 l[k].1) ∧ w.cell? ⟨b, o + k * 4 + 1, none⟩ = some (.int .i64 l[k].2.1) ∧ w.cell? ⟨b, o + k * 4 + 2, none⟩ = some (.string (str l[k].2.2.1)) ∧ w.cell? ⟨b, o + k * 4 + 3, none⟩ = some (.string (str l[k].2.2.2)) := by
  have h := fun i hi => actsL_at l k hk i hi
  refine ⟨?_, ?_, ?_, ?_⟩
  · exact hc (k * 4) _ (by rw [show k * 4 = k * 4 + 0 by omega, h 0 (by omega)]; rfl)
  · rw [Nat.add_assoc]; exact hc (k * 4 + 1) _ (by rw [h 1 (by omega)]; rfl)
  · rw [Nat.add_assoc]; exact hc (k * 4 + 2) _ (by rw [h 2 (by omega)]; rfl)
  · rw [Nat.add_assoc]; exact hc (k * 4 + 3) _ (by rw [h 3 (by omega)]; rfl)
theorem actInfo : (Try.prog.info? 35).map (fun i => (i.zero, i.size, i.bytes)) = some (some (.agg #[.int .i64 0, .int .i64 0, .string ⟨#[]⟩, .string ⟨#[]⟩]), 4, 48) := by kernel_rfl
def OwnAct (w : World) (base : Nat) (u : Value) (l : List ActT) : Prop := w.ownsRow base 35 4 u l.length (actsL l)
theorem OwnAct.form {w : World} {base : Nat} {u : Value} {l : List ActT} (h : OwnAct w base u l) : ∃ A cap, u = .slice A l.length cap ∧ Acts w A l.length l := by
  rcases h.2 with ⟨rfl, h0⟩ | ⟨g, cap, cur, rfl, hb, hh, hcap, _, hsz, htake⟩
  · exact ⟨none, 0, by rw [h0], rfl, fun hn => by omega⟩
  · refine ⟨_, cap, rfl, rfl, fun hn => ⟨g, 0, rfl, fun j v hj => ?_⟩⟩
    have hjl : j < (actsL l).length := (List.getElem?_eq_some_iff.1 hj).1
    rw [Nat.zero_add, cell_of_row w g j cur _ _ hh, ← hj, ← htake, List.getElem?_take, if_pos (by rw [actsL_len] at hjl; omega)]; simp
def bigAct (x : ActT) : Bool := decide (200 < x.2.2.1.length) || decide (300 < x.2.2.2.length)
def greatB (l : List ActT) : Bool := l.any bigAct || decide (20 < l.length)
set_option maxHeartbeats 1000000 in
set_option maxRecDepth 100000 in
theorem great_any (A : Option Addr) (n c : Nat) (l : List ActT) (w : World) (hs : Acts w A n l) (hn : n ≤ 9223372036854775806) :
    Calls Try.prog 11 #[.slice A n c] w fun e w' => e = .returned (.bool (greatB l)) ∧ Ext w w' := by
  obtain ⟨rfl, hs2⟩ := hs
  have HS := Lib.hid hs2
  have hz := str_size
  clear hs2
  go_enter Try.func11, Try.ntmps11
  go_wp2_with fail
  go_loopw [4, 7] (fun _ i wr => ∃ k : Nat, k ≤ l.length ∧ i = .int .i64 k ∧ Ext w wr ∧ (l.take k).any bigAct = false) (fun _ i _ => l.length - (intOf i).toNat)
  case atStart => exact ⟨0, by omega, rfl, Ext.refl _, rfl⟩
  case round =>
    obtain ⟨k, hk, rfl, hx, hb⟩ := hrel
    have HB := Lib.hid hb
    clear hb
    by_cases hlt : k < l.length
    · obtain ⟨b, o, rfl, hc⟩ := HS.out (by omega)
      obtain ⟨c0, c1, c2, c3⟩ := Acts.cells (fun j v hj => hx.keep (hc j v hj)) k hlt
      have HT := Lib.hid (show l.take (k + 1) = l.take k ++ [l[k]] from List.take_succ_eq_append_getElem hlt)
      have HM := Lib.hid (show l[k] ∈ l from List.getElem_mem hlt)
      clear hc
      generalize l[k] = x at *
      by_cases h1 : 200 < x.2.2.1.length
      · have hg : greatB l = true := by
          unfold greatB; rw [show l.any bigAct = true from List.any_eq_true.2 ⟨x, HM.out, by simp [bigAct, h1]⟩]; rfl
        have HG := Lib.hid hg
        clear hg
        have d1 : (200 : Int) < (x.2.2.1.length : Int) := by omega
        go_wp2_with fail
        go_ret
        exact ⟨by rw [HG.out]; rfl, hx.alloc _⟩
      · have d1 : ¬ (200 : Int) < (x.2.2.1.length : Int) := by omega
        by_cases h2 : 300 < x.2.2.2.length
        · have hg : greatB l = true := by
            unfold greatB; rw [show l.any bigAct = true from List.any_eq_true.2 ⟨x, HM.out, by simp [bigAct, h2]⟩]; rfl
          have HG := Lib.hid hg
          clear hg
          have d2 : (300 : Int) < (x.2.2.2.length : Int) := by omega
          go_wp2_with fail
          go_ret
          exact ⟨by rw [HG.out]; rfl, hx.alloc _⟩
        · have d2 : ¬ (300 : Int) < (x.2.2.2.length : Int) := by omega
          have hb2 : (l.take (k + 1)).any bigAct = false := by
            rw [HT.out, List.any_append, HB.out]
            simp [bigAct]; omega
          go_wp2_with fail
          go_roundw
          case rel => exact ⟨k + 1, by omega, by go_num, hx.alloc _, hb2⟩
          case measure => simp [intOf]; omega
    · obtain rfl : k = l.length := by omega
      have hg : greatB l = decide (20 < (l.length : Int)) := by
        unfold greatB
        have := HB.out
        rw [List.take_length] at this
        rw [this, Bool.false_or]
        exact decide_eq_decide.2 (by omega)
      have HG := Lib.hid hg
      clear hg
      go_wp2_with fail
      go_ret
      exact ⟨by rw [HG.out]; first | rfl | simp, hx⟩
end Go.Proofs.Ytmcoepkopfcbdaa
/- Plain: what setP and dropP say of a volume whose attributes are as they may be. -/
namespace Go.Proofs.Ytmcoepkopfcbdaa
set_option linter.unusedVariables false

/-- what a set attribute makes of a volume -/
structure SetOk (v v' : List (List UInt8)) (I k e : Int) (name value : List UInt8) : Prop where
  k1 : 1 ≤ k
  k2 : k ≤ I
  live : (inoAt v k).getD 0 0 ≠ 0
  may : mayB name = true
  row : (rowA (insA (attsOf v I k) (name, value))).length ≤ 126
  fine : Fine v' I
  len : v'.length = v.length
  pos : e ≠ 0
  ino : inoAt v' k = (inoAt v k).set 11 e
  inos : ∀ j, 1 ≤ j → j ≤ I → j ≠ k → inoAt v' j = inoAt v j
  atts : attsOf v' I k = insA (attsOf v I k) (name, value)
  others : ∀ j, j ≠ k → (inoAt v j).getD 0 0 ≠ 0 → 1 ≤ j → j ≤ I → openP v' I j = openP v I j
  same : extraOf (inoAt v k) ≠ 0 → e = extraOf (inoAt v k) ∧ v'.getD 2 [] = v.getD 2 []
  new : extraOf (inoAt v k) = 0 → 0 ≤ e ∧ takeI v I = some e.toNat ∧ ∀ j : Nat, bitB (v'.getD 2 []) j = (bitB (v.getD 2 []) j ^^ decide (e.toNat = j))
  blocks : ∀ j : Nat, (j : Int) ≠ e → (j < 2 ∨ dataOf I ≤ (j : Int)) → v'.getD j [] = v.getD j []
theorem setP_err {v : List (List UInt8)} {I k : Int} {name value : List UInt8} (h : (setP v I k name value).2 ≠ 0) : (setP v I k name value).1 = [] := by
  unfold setP at *
  split at h
  · rename_i h1; rw [if_pos h1]
  · rename_i h1
    rw [if_neg h1]
    split at h
    · rename_i h2; rw [if_pos h2]
    · rename_i h2
      rw [if_neg h2]
      split at h
      · rename_i h3; rw [if_pos h3]
      · rename_i h3
        rw [if_neg h3]
        split at h
        · exact absurd rfl h
        · rename_i h4
          rw [if_neg h4]
          split at h
          · rename_i h5; rfl
          · exact absurd rfl h
theorem attL_ins {v : List (List UInt8)} {I k : Int} {name value : List UInt8} (h : Fine v I) (h1 : 1 ≤ k) (h2 : k ≤ I) (hk : (inoAt v k).getD 0 0 ≠ 0) (hm : mayB name = true) (hr : (rowA (insA (attsOf v I k) (name, value))).length ≤ 126) : AttL (insA (attsOf v I k) (name, value)) := by
  refine ⟨rising_ins (rising_open v I k) _, ins_ne _ _, ins_may (fun x hx => ?_) hm, hr⟩
  by_cases e : extraOf (inoAt v k) = 0
  · rw [(fine_open h h1 h2 hk).2.1 e] at hx; cases hx
  · exact ((fine_open h h1 h2 hk).2.2 e).1.may x hx
theorem setP_ok {v : List (List UInt8)} {I k : Int} {name value : List UInt8} (h : Fine v I) (hs : (setP v I k name value).2 = 0) : ∃ e, SetOk v (setP v I k name value).1 I k e name value := by
  have ho : (openP v I k).2.2 = 0 := by
    by_cases e : (openP v I k).2.2 = 0
    · exact e
    · unfold setP at hs; rw [if_pos e] at hs; exact hs
  obtain ⟨h1, h2, hx, hk, _⟩ := open_ok ho
  have hp := plan_bd h.good.plan
  have hm : mayB name = true := by
    cases hm : mayB name with
    | true => rfl
    | false => unfold setP at hs; rw [if_neg (by simp [ho]), if_pos hm] at hs; cases hs
  have hr : (rowA (insA (attsOf v I k) (name, value))).length ≤ 126 := by
    refine Nat.le_of_not_lt fun hr => ?_
    unfold attsOf at hr
    unfold setP at hs; rw [if_neg (by simp [ho]), if_neg (by simp [hm]), if_pos hr] at hs; cases hs
  have hl := attL_ins h h1 h2 hk hm hr
  unfold setP at hs ⊢
  rw [if_neg (by simp [ho]), if_neg (by simp [hm]), if_neg (by unfold attsOf at hr; omega)] at hs ⊢
  rw [hx] at hs ⊢
  by_cases he : extraOf (inoAt v k) = 0
  · rw [if_neg (by simpa using he)] at hs ⊢
    cases ht : takeI v I with
    | none => rw [ht] at hs; cases hs
    | some i =>
      obtain ⟨a1, a2, a3, a4, a5, a6⟩ := fine_take h h1 h2 hk he ht hl
      obtain ⟨t1, t2, _, _⟩ := takeI_some ht
      unfold dataOf at t1
      refine ⟨i, ⟨h1, h2, hk, hm, hr, a1, ?_, by omega, a3, a2, a4, a5, fun e => absurd he e, fun _ => ⟨by omega, by rw [Int.toNat_natCast, ht], by rw [Int.toNat_natCast]; exact a6⟩, fun j hj hd => ?_⟩⟩
      · show (List.set _ _ _).length = _
        rw [List.length_set, putAt_len, takenV_len]
      · show (List.set _ _ _).getD j [] = _
        unfold dataOf at hd
        rw [getD_set_ne' _ _ (by omega)]
        unfold putAt takenV
        rw [getD_set_ne' _ _ (by omega), getD_set_ne' _ _ (by omega), getD_set_ne' _ _ (by omega)]
  · rw [if_pos (by simpa using he)] at hs ⊢
    obtain ⟨a1, a2, a3, a4⟩ := fine_write h h1 h2 hk he hl
    have hd := (h.att k h1 h2 hk he).1
    have hb := used_bd (h.att k h1 h2 hk he).2.1
    unfold dataOf at hd
    refine ⟨extraOf (inoAt v k), ⟨h1, h2, hk, hm, hr, a1, ?_, he, ?_, fun j j1 j2 _ => a2 j j1 j2, a3, a4, fun _ => ⟨rfl, ?_⟩, fun e => absurd e he, fun j hj hd => ?_⟩⟩
    · show (List.set _ _ _).length = _
      rw [List.length_set]
    · have e1 := set_back (inoAt v k) (inoAt_len v k) (extraOf (inoAt v k))
      rw [List.set_set] at e1
      rw [e1]; exact a2 k h1 h2
    · show (List.set _ _ _).getD 2 [] = _
      rw [getD_set_ne' _ _ (by omega)]
    · show (List.set _ _ _).getD j [] = _
      rw [getD_set_ne' _ _ (by omega)]
theorem not_live {v : List (List UInt8)} {I k : Int} (h : Fine v I) (ho : (openP v I k).2.2 ≠ 0) : k < 1 ∨ I < k ∨ (inoAt v k).getD 0 0 = 0 := by
  by_cases h1 : k < 1 ∨ I < k
  · rcases h1 with h1 | h1
    · exact .inl h1
    · exact .inr (.inl h1)
  · refine .inr (.inr ?_)
    by_cases hk : (inoAt v k).getD 0 0 = 0
    · exact hk
    · rw [(fine_open h (by omega) (by omega) hk).1] at ho
      exact absurd rfl ho
theorem setP_live {v : List (List UInt8)} {I k : Int} (h : Fine v I) (h1 : 1 ≤ k) (h2 : k ≤ I) (hk : (inoAt v k).getD 0 0 ≠ 0) {name : List UInt8} (hm : mayB name = true) (value : List UInt8) :
    ((rowA (insA (attsOf v I k) (name, value))).length > 126 → setP v I k name value = ([], 6)) ∧
    ((rowA (insA (attsOf v I k) (name, value))).length ≤ 126 → extraOf (inoAt v k) ≠ 0 ∨ takeI v I ≠ none → (setP v I k name value).2 = 0) ∧
    ((rowA (insA (attsOf v I k) (name, value))).length ≤ 126 → extraOf (inoAt v k) = 0 → takeI v I = none → setP v I k name value = ([], 10)) := by
  have ho := (fine_open h h1 h2 hk).1
  unfold attsOf at *
  have h3 : (openP v I k).2.2 = 0 := by rw [ho]
  have h4 : (openP v I k).1 = inoAt v k := by rw [ho]
  unfold setP
  rw [if_neg (by simp [h3]), if_neg (by simp [hm]), h4]
  refine ⟨fun hr => by rw [if_pos hr], fun hr he => ?_, fun hr he ht => ?_⟩
  · rw [if_neg (by omega)]
    by_cases e : extraOf (inoAt v k) = 0
    · rw [if_neg (by simpa using e)]
      cases ht : takeI v I with
      | none => exact absurd ht (he.resolve_left (by simpa using e))
      | some i => rfl
    · rw [if_pos (by simpa using e)]
  · rw [if_neg (by omega), if_neg (by simpa using he), ht]
/-- what a dropped attribute makes of a volume -/
structure DropOk (v v' : List (List UInt8)) (I k : Int) (name : List UInt8) : Prop where
  fine : Fine v' I
  len : v'.length = v.length
  kinds : ∀ j, 1 ≤ j → j ≤ I → (inoAt v' j).getD 0 0 = (inoAt v j).getD 0 0
  atts : attsOf v' I k = delA (attsOf v I k) name
  others : ∀ j, j ≠ k → (inoAt v j).getD 0 0 ≠ 0 → 1 ≤ j → j ≤ I → openP v' I j = openP v I j
theorem attL_del {l : List Att} (h : AttL l) {name : List UInt8} (hn : delA l name ≠ []) : AttL (delA l name) :=
  ⟨rising_del h.rising name, hn, fun x hx => h.may x (List.mem_filter.1 hx).1, Nat.le_trans (rowA_filter _ l) h.short⟩
theorem del_nil {l : List Att} {name : List UInt8} (h : idxA l name < 0) : delA l name = l := by
  rcases idxA_cases l name with ⟨_, h1⟩ | ⟨i, hi, e, _⟩
  · unfold delA
    exact filter_all fun x hx => by simpa using h1 x hx
  · omega
theorem del_one {l : List Att} {name : List UInt8} (h : 0 ≤ idxA l name) (hl : l.length ≤ 1) : delA l name = [] := by
  rcases idxA_cases l name with ⟨e, _⟩ | ⟨i, hi, e, hn⟩
  · omega
  · match l, hl, hi, hn with
    | [x], _, hi, hn =>
      have : i = 0 := by simpa using hi
      subst this
      have hn' : x.1 = name := hn
      simp [delA, hn']
theorem del_more {l : List Att} (hr : Rising l) {name : List UInt8} (hl : 1 < l.length) : delA l name ≠ [] := by
  intro e
  unfold delA at e
  rw [List.filter_eq_nil_iff] at e
  match l, hl, hr with
  | x :: y :: _, _, hr =>
    have hx : x.1 = name := by simpa using e x (by simp)
    have hy : y.1 = name := by simpa using e y (by simp)
    have hxy : ltB x.1 y.1 = true := (List.pairwise_cons.1 hr).1 y (by simp)
    exact ltB_ne hxy (hx.trans hy.symm)
theorem dropP_ok {v : List (List UInt8)} {I k : Int} {name : List UInt8} (h : Fine v I) (h1 : 1 ≤ k) (h2 : k ≤ I) (hk : (inoAt v k).getD 0 0 ≠ 0) (hi : 0 ≤ idxA (attsOf v I k) name) :
    (dropP v I k name).2 = 0 ∧ DropOk v (dropP v I k name).1 I k name := by
  have ho := (fine_open h h1 h2 hk)
  have he : extraOf (inoAt v k) ≠ 0 := fun e => by
    rw [ho.2.1 e] at hi; exact absurd (show (0 : Int) ≤ -1 from hi) (by decide)
  obtain ⟨hl, hb⟩ := ho.2.2 he
  have ho1 := ho.1
  unfold attsOf at ho1
  have h3 : (openP v I k).2.2 = 0 := by rw [ho1]
  have h4 : (openP v I k).1 = inoAt v k := by rw [ho1]
  unfold dropP
  rw [if_neg (by simp [h3]), if_neg (by unfold attsOf at hi; omega), h4]
  by_cases hn : 1 < (openP v I k).2.1.length
  · rw [if_pos hn]
    refine ⟨rfl, ?_⟩
    have hd := attL_del hl (del_more hl.rising (name := name) hn)
    obtain ⟨a1, a2, a3, a4⟩ := fine_write h h1 h2 hk he hd
    exact ⟨a1, by show (List.set _ _ _).length = _; rw [List.length_set], fun j j1 j2 => by rw [show ((v.set (extraOf (inoAt v k)).toNat (blockL (rowA (delA (openP v I k).2.1 name))), (0 : Int)).1) = v.set (extraOf (inoAt v k)).toNat (blockL (rowA (delA (attsOf v I k) name))) from rfl, a2 j j1 j2], a3, a4⟩
  · rw [if_neg hn]
    refine ⟨rfl, ?_⟩
    obtain ⟨a1, a2, a3, a4, a5, _⟩ := fine_give h h1 h2 hk he
    have hz := del_one hi (by unfold attsOf; omega)
    refine ⟨a1, by show (putAt _ _ _).length = _; rw [putAt_len, givenV_len], fun j j1 j2 => ?_, by rw [hz]; exact a4, a5⟩
    show (inoAt (putAt _ _ _) j).getD 0 0 = _
    by_cases e : j = k
    · rw [e, a3, kind_set]
    · rw [a2 j j1 j2 e]
theorem del_ins {l : List Att} (hr : Rising l) (x : Att) : delA (insA l x) x.1 = delA l x.1 := by
  unfold delA insA
  rw [List.filter_append, List.filter_cons]
  simp only [bne_self_eq_false, Bool.false_eq_true, if_false]
  rw [List.filter_filter, List.filter_filter]
  induction l with
  | nil => rfl
  | cons y l ih =>
    have ih := ih (List.pairwise_cons.1 hr).2
    have hy := (List.pairwise_cons.1 hr).1
    simp only [List.filter_cons]
    by_cases e : y.1 = x.1
    · simp only [e, bne_self_eq_false, Bool.false_and, Bool.false_eq_true, if_false]
      exact ih
    · have ne : (y.1 != x.1) = true := by simpa using e
      cases c : ltB y.1 x.1 with
      | true =>
        have c2 := ltB_asymm _ _ c
        simp only [ne, c2, Bool.and_true, Bool.and_false, Bool.false_eq_true, if_false, if_true, List.cons_append]
        rw [ih]
      | false =>
        have c2 : ltB x.1 y.1 = true := by
          cases c2 : ltB x.1 y.1 with
          | true => rfl
          | false => exact absurd (ltB_tri _ _ c c2) e
        simp only [ne, c2, Bool.and_true, Bool.and_false, Bool.false_eq_true, if_false, if_true]
        have f1 : (l.filter fun a => a.1 != x.1 && ltB a.1 x.1) = [] := filter_none fun a ha => by
          rw [ltB_asymm _ _ (ltB_trans _ _ _ c2 (hy a ha)), Bool.and_false]
        rw [f1, List.nil_append] at ih ⊢
        rw [ih]
end Go.Proofs.Ytmcoepkopfcbdaa
/- Plain: the chapter's example. -/
namespace Go.Proofs.Ytmcoepkopfcbdaa
set_option linter.unusedVariables false

def nameL : List UInt8 := [110, 97, 109, 101]
def valueL : List UInt8 := [118, 97, 108, 117, 101]
def aliveR : List UInt8 := [4, 110, 97, 109, 101, 5, 118, 97, 108, 117, 101]
def aliveV : List (List UInt8) := (setP (begV 3) 6 1 nameL valueL).1
theorem ins_empty (x : Att) : insA [] x = [x] := rfl
theorem rowA_one (x : Att) (h1 : x.1.length < 128) (h2 : x.2.length < 128) : rowA [x] = UInt8.ofNat x.1.length :: (x.1 ++ UInt8.ofNat x.2.length :: x.2) := by
  rw [rowA_cons, lenL_small h1, lenL_small h2]; simp [rowA, flatA, rowL]
theorem rowA_len (x : Att) (l : List Att) (h1 : x.1.length < 128) (h2 : x.2.length < 128) : (rowA (x :: l)).length = 2 + x.1.length + x.2.length + (rowA l).length := by
  rw [rowA_cons, lenL_small h1, lenL_small h2]; simp only [List.length_append, List.length_cons, List.length_nil]; omega
theorem beg_live (k : Int) (h1 : 1 ≤ k) (h2 : k ≤ 3) : (inoAt (begV 3) k).getD 0 0 ≠ 0 ∧ extraOf (inoAt (begV 3) k) = 0 := by
  rw [(ino_beg 3 (by omega)).1 k h1 (by omega)]
  exact ⟨by simp [begX], rfl⟩
theorem beg_atts (k : Int) (h1 : 1 ≤ k) (h2 : k ≤ 3) : attsOf (begV 3) 6 k = [] :=
  (fine_open fine_beg h1 (by omega) (beg_live k h1 h2).1).2.1 (beg_live k h1 h2).2
theorem beg_set (k : Int) (h1 : 1 ≤ k) (h2 : k ≤ 3) {name value : List UInt8} (hm : mayB name = true) (hr : (rowA [(name, value)]).length ≤ 126) :
    (setP (begV 3) 6 k name value).2 = 0 ∧ SetOk (begV 3) (setP (begV 3) 6 k name value).1 6 k 6 name value := by
  have hl := setP_live fine_beg h1 (by omega) (beg_live k h1 h2).1 hm value
  rw [beg_atts k h1 h2, ins_empty] at hl
  have h0 := hl.2.1 hr (.inr (by rw [beg_take 3 (by omega)]; simp))
  obtain ⟨e, he⟩ := setP_ok fine_beg h0
  obtain ⟨h3, h4, _⟩ := he.new (beg_live k h1 h2).2
  rw [beg_take 3 (by omega)] at h4
  have : e = 6 := by injection h4; omega
  subst this
  exact ⟨h0, he⟩
theorem alive_row : rowA [(nameL, valueL)] = aliveR := by rw [rowA_one _ (by decide) (by decide)]; rfl
theorem alive_ok : (setP (begV 3) 6 1 nameL valueL).2 = 0 ∧ SetOk (begV 3) aliveV 6 1 6 nameL valueL :=
  beg_set 1 (by omega) (by omega) (by decide) (by rw [alive_row]; decide)
theorem alive_open : openP aliveV 6 1 = (inoAt aliveV 1, [(nameL, valueL)], 0) ∧ extraOf (inoAt aliveV 1) = 6 ∧ (inoAt aliveV 1).getD 0 0 ≠ 0 := by
  have h := alive_ok.2
  have hk : (inoAt aliveV 1).getD 0 0 ≠ 0 := by rw [h.ino, kind_set]; exact h.live
  have ha := h.atts
  rw [beg_atts 1 (by omega) (by omega), ins_empty] at ha
  have ho := (fine_open h.fine (by omega) (by omega) hk).1
  rw [ha] at ho
  exact ⟨ho, by rw [h.ino, extra_set _ (inoAt_len _ _)], hk⟩
theorem alive_block : aliveV.getD 6 [] = blockL aliveR := by
  have h := alive_ok.2
  have ho := alive_open
  have hb := ((fine_open h.fine (by omega) (by omega) ho.2.2).2.2 (by rw [ho.2.1]; decide)).2
  rw [ho.2.1] at hb
  have e : attsOf aliveV 6 1 = [(nameL, valueL)] := by unfold attsOf; rw [ho.1]
  rw [e, alive_row] at hb
  exact hb
theorem alive_13 : (blockL aliveR).take 13 = [11, 0, 4, 110, 97, 109, 101, 5, 118, 97, 108, 117, 101] := by decide
theorem alive_idx : idxA [(nameL, valueL)] nameL = ((0 : Nat) : Int) := by decide
/-- the volume behind the drop -/
def aliveW : List (List UInt8) := putAt (givenV aliveV 6) 1 ((inoAt aliveV 1).set 11 0)
theorem aliveW_good : Good aliveW 6 ∧ bitB (aliveW.getD 2 []) 6 = false ∧ aliveW.length = 24 := by
  have h := alive_ok.2
  have ho := alive_open
  have g := fine_give h.fine (k := 1) (by omega) (by omega) ho.2.2 (by rw [ho.2.1]; decide)
  rw [ho.2.1, show (6 : Int).toNat = 6 from rfl] at g
  refine ⟨g.1.good, ?_, by unfold aliveW; rw [putAt_len, givenV_len, h.len, beg_len]⟩
  have hb := g.2.2.2.2.2 6
  unfold aliveW
  rw [hb, (h.new (beg_live 1 (by omega) (by omega)).2).2.2 6, beg_map 3 (by omega), map_bit 6 (by omega)]
  decide
end Go.Proofs.Ytmcoepkopfcbdaa
/- Plain: the room of a volume; a block that is taken. -/
namespace Go.Proofs.Ytmcoepkopfcbdaa
set_option linter.unusedVariables false

theorem roomF_same {m m' : List UInt8} {k : Nat} (h : ∀ j, j < k → bitB m' j = bitB m j) : roomF m' k = roomF m k := by
  induction k with
  | zero => rfl
  | succ k ih => rw [roomF, roomF, ih (fun j hj => h j (by omega)), h k (by omega)]
theorem roomF_flip {m m' : List UInt8} {i : Nat} (h : ∀ j, bitB m' j = (bitB m j ^^ decide (i = j))) (hi : bitB m i = false) {k : Nat} (hk : i < k) : roomF m k = roomF m' k + 1 := by
  induction k with
  | zero => omega
  | succ k ih =>
    rw [roomF, roomF]
    by_cases e : i = k
    · subst e
      rw [roomF_same (m := m) (m' := m') (fun j hj => by rw [h j, show decide (i = j) = false by simp; omega, Bool.xor_false]), h i, hi]; simp
    · rw [ih (by omega), h k, show decide (i = k) = false by simp [e], Bool.xor_false]; omega
theorem roomF_none {m : List UInt8} {k : Nat} (h : ∀ j, j < k → bitB m j = true) : roomF m k = 0 := by
  induction k with
  | zero => rfl
  | succ k ih => rw [roomF, ih (fun j hj => h j (by omega)), h k (by omega)]; rfl
theorem roomF_all {m : List UInt8} {k : Nat} (h : roomF m k = 0) : ∀ j, j < k → bitB m j = true := by
  induction k with
  | zero => intro j hj; omega
  | succ k ih =>
    rw [roomF] at h
    intro j hj
    by_cases e : j = k
    · subst e
      cases hb : bitB m j with
      | true => rfl
      | false => rw [hb] at h; simp at h
    · exact ih (by omega) j (by omega)
theorem room_take {v : List (List UInt8)} {I : Int} (hg : Good v I) : roomN v = 0 ↔ takeI v I = none := by
  constructor
  · intro h
    cases ht : takeI v I with
    | none => rfl
    | some i =>
      obtain ⟨_, h2, h3, _⟩ := takeI_some ht
      rw [roomF_all h i h2] at h3; cases h3
  · intro h
    refine roomF_none fun j hj => ?_
    by_cases e : dataOf I ≤ (j : Int)
    · exact takeI_none h j e hj
    · unfold dataOf at e; exact hg.low j (by omega)
theorem room_pos {v : List (List UInt8)} {I : Int} (hg : Good v I) (h : 0 < roomN v) : ∃ i, takeI v I = some i := by
  cases ht : takeI v I with
  | none => rw [(room_take hg).2 ht] at h; omega
  | some i => exact ⟨i, rfl⟩
theorem room_taken {v : List (List UInt8)} {I : Int} (hg : Good v I) {i : Nat} (ht : takeI v I = some i) : roomN v = roomN (takenV v i) + 1 := by
  obtain ⟨h1, h2, h3, _⟩ := takeI_some ht
  unfold dataOf at h1
  have hp := plan_bd hg.plan
  unfold roomN
  rw [takenV_len]
  exact roomF_flip (fun j => taken_bit hg h2 (by omega) j) h3 h2
theorem room_set {v v' : List (List UInt8)} {I k e : Int} {name value : List UInt8} (h : SetOk v v' I k e name value) : (roomN v : Int) = roomN v' + if extraOf (inoAt v k) = 0 then 1 else 0 := by
  unfold roomN
  rw [h.len]
  by_cases he : extraOf (inoAt v k) = 0
  · obtain ⟨h1, h2, h3⟩ := h.new he
    obtain ⟨_, t2, t3, _⟩ := takeI_some h2
    rw [if_pos he, roomF_flip h3 t3 t2]; rfl
  · rw [if_neg he, (h.same he).2]; omega
/-- a block is taken; nobody has it -/
theorem fine_taken {v : List (List UInt8)} {I : Int} (h : Fine v I) {i : Nat} (ht : takeI v I = some i) :
    Fine (takenV v i) I ∧ (∀ j, 1 ≤ j → j ≤ I → inoAt (takenV v i) j = inoAt v j) ∧ ∀ j, (inoAt v j).getD 0 0 ≠ 0 → 1 ≤ j → j ≤ I → openP (takenV v i) I j = openP v I j := by
  obtain ⟨t1, t2, t3, t4⟩ := takeI_some ht
  have hp := plan_bd h.good.plan
  have t1' := t1
  unfold dataOf at t1'
  have hgt := h.good.taken ht
  have hlt := takenV_len v i
  have hit : ∀ j, 1 ≤ j → j ≤ I → inoAt (takenV v i) j = inoAt v j := fun j _ _ => by
    unfold takenV
    rw [inoAt_set _ _ (by omega), inoAt_set _ _ (by omega)]
  have hne : ∀ j, 1 ≤ j → j ≤ I → (inoAt v j).getD 0 0 ≠ 0 → extraOf (inoAt v j) ≠ 0 → extraOf (inoAt v j) ≠ (i : Int) := fun j j1 j2 hj ej e => by
    have := (used_bd (h.att j j1 j2 hj ej).2.1).2.2
    rw [e, show (i : Int).toNat = i by omega, t3] at this
    cases this
  have huw : ∀ j, 1 ≤ j → j ≤ I → (inoAt v j).getD 0 0 ≠ 0 → extraOf (inoAt v j) ≠ 0 → usedB (takenV v i) (extraOf (inoAt v j)) = usedB v (extraOf (inoAt v j)) := fun j j1 j2 hj ej => by
    unfold usedB
    have hn := hne j j1 j2 hj ej
    have := extra_bd v j
    rw [hlt, taken_bit h.good t2 (by omega), show decide (i = (extraOf (inoAt v j)).toNat) = false by simp; omega, Bool.xor_false]
  have hsw : ∀ j, 1 ≤ j → j ≤ I → (inoAt v j).getD 0 0 ≠ 0 → extraOf (inoAt v j) ≠ 0 → (takenV v i).getD (extraOf (inoAt v j)).toNat [] = v.getD (extraOf (inoAt v j)).toNat [] := fun j j1 j2 hj ej => by
    have hn := hne j j1 j2 hj ej
    have := extra_bd v j
    have hd := (h.att j j1 j2 hj ej).1
    unfold dataOf at hd
    unfold takenV
    rw [getD_set_ne' _ _ (by omega), getD_set_ne' _ _ (by omega)]
  refine ⟨⟨hgt, fun j j1 j2 hj ej => ?_, fun a b a1 a2 b1 b2 => ?_⟩, hit, fun j hj j1 j2 => open_congr (hit j j1 j2) (fun ej => ⟨huw j j1 j2 hj ej, hsw j j1 j2 hj ej⟩)⟩
  · rw [hit j j1 j2] at *
    rw [huw j j1 j2 hj ej, hsw j j1 j2 hj ej]; exact h.att j j1 j2 hj ej
  · rw [hit a a1 a2, hit b b1 b2]; exact h.apart a b a1 a2 b1 b2
end Go.Proofs.Ytmcoepkopfcbdaa
/- The walk of xattrAlive. -/
namespace Go.Proofs.Ytmcoepkopfcbdaa
set_option linter.unusedVariables false
open Go.RowKit

set_option maxHeartbeats 1000000 in
set_option maxRecDepth 100000 in
theorem alive_any (w : World) :
    Calls Try.prog 6 #[] w fun e w' => e = .returned (.bool true) ∧ Ext w w' := by
  have HS := Lib.hid (fun A c w h => set_any A 24 c (begV 3) 6 1 nameL valueL w h (good_beg 3 (by omega)) (by decide) (by decide))
  rw [alive_ok.1, show (setP (begV 3) 6 1 nameL valueL).1.length = 24 from alive_ok.2.len.trans (beg_len 3), show (setP (begV 3) 6 1 nameL valueL).1 = aliveV from rfl] at HS
  have HG := Lib.hid (fun A c w h => get_yes A 24 c 0 aliveV 6 1 nameL w h alive_ok.2.fine.good (by rw [alive_open.1]) (by rw [alive_open.1]; exact alive_idx) (by rw [alive_open.1]; decide))
  have HD := Lib.hid (fun A c w h => drop_one A 24 c aliveV 6 1 nameL w h alive_ok.2.fine.good (by rw [alive_open.1]) (by rw [alive_open.1]; decide) (by rw [alive_open.1]; decide))
  have eD : putAt (givenV aliveV (extraOf (openP aliveV 6 1).1).toNat) 1 ((openP aliveV 6 1).1.set 11 0) = aliveW := by rw [alive_open.1]; simp only; rw [alive_open.2.1]; rfl
  rw [eD, show aliveV.length = 24 from alive_ok.2.len.trans (beg_len 3)] at HD
  have eG : ∀ h, ((openP aliveV 6 1).2.1[0]'h).2 = valueL := by rw [alive_open.1]; exact fun _ => rfl
  simp only [eG] at HG
  have HU := Lib.hid (fun A c w h => rused_yes A 24 c 6 aliveW 6 w h aliveW_good.1 (by rw [aliveW_good.2.2]; decide))
  rw [aliveW_good.2.1] at HU
  have hx13 : (str (blockL aliveR)).extract 0 13 = ⟨#[11, 0, 4, 110, 97, 109, 101, 5, 118, 97, 108, 117, 101]⟩ := by rw [str_ext]; show str ((blockL aliveR).take 13) = _; rw [alive_13]; rfl
  have hvl : (str valueL).toList = [118, 97, 108, 117, 101] := str_toList _
  have hl : (str (blockL aliveR)).size = 128 := by rw [str_size]; exact blockL_len _ (by decide)
  have HB := Lib.hid alive_block
  have HL := Lib.hid (show aliveV.length = 24 from alive_ok.2.len.trans (beg_len 3))
  clear eD eG
  generalize aliveV = V at *
  generalize blockL aliveR = bl at *
  go_enter Try.func6, Try.ntmps6
  go_wp2_with fail
  refine (begin_any _).mono ?_
  rintro e w1 ⟨u1, rfl, x1, own1⟩
  obtain ⟨g1, c1, rfl, hg1, s1⟩ := Strs.own' own1 (by omega)
  go_wp2_with fail
  refine (HS.out _ _ _ s1).mono ?_
  rintro e w2 ⟨u2, rfl, x2, own2⟩
  obtain ⟨g2, c2, rfl, hg2, s2⟩ := Strs.own' own2 (by omega)
  have k6 : w2.cell? ⟨g2, 6, none⟩ = some (.string (str bl)) := (own2.cellAt 6 (by omega)).trans (by
    have : 6 < V.length := by rw [HL.out]; omega
    rw [← HB.out, List.getD_eq_getElem?_getD, List.getElem?_eq_getElem this]; simp [strL, this])
  go_wp2_with fail
  refine (HG.out _ _ _ s2).mono ?_
  rintro e w3 ⟨rfl, x3⟩
  go_wp2_with fail
  refine (HD.out _ _ _ (s2.ext x3)).mono ?_
  rintro e w4 ⟨u4, rfl, x4, own4⟩
  obtain ⟨g4, c4, rfl, hg4, s4⟩ := Strs.own' own4 (by omega)
  go_wp2_with fail
  refine (HU.out _ _ _ s4).mono ?_
  rintro e w5 ⟨rfl, x5⟩
  go_wp2_with fail
  go_ret
  exact ⟨rfl, x1.trans (x2.trans (x3.trans (x4.trans x5)))⟩
end Go.Proofs.Ytmcoepkopfcbdaa
/- append(append([]Act{}, acts...), a), in whatever order; acts that are set one behind the other. -/
namespace Go.Proofs.Ytmcoepkopfcbdaa
set_option linter.unusedVariables false
open Go.RowKit

theorem app_acts {w : World} {g m c : Nat} {A : Option Addr} {l : List ActT} (hb : Box w g 35 #[]) (hs : Acts w A m l) (hA : A = none → m = 0 ∧ c = 0) (ty : TypeId) (hn : m * 48 ≤ 140737488355328) :
    ∃ u' w', (Builtin.append_ #[33, 33] ty #[.slice (some ⟨g, 0, none⟩) 0 0, .slice A m c]).run Try.prog w = .ok u' w' ∧ w'.ownsRow g 35 4 u' m (actsL l) ∧ Ext w w' := by
  obtain ⟨i, hi, hz, h1, h2⟩ := info_parts actInfo
  obtain ⟨rfl, hs2⟩ := hs
  have h0 : w.ownsRow g 35 4 (.slice (some ⟨g, 0, none⟩) 0 0) 0 [] := ⟨rfl, .inr ⟨g, 0, #[], rfl, Nat.le_refl _, hb, Nat.le_refl _, by decide, rfl, rfl⟩⟩
  by_cases hm : l.length = 0
  · have hl : l = [] := List.eq_nil_of_length_eq_zero hm
    subst hl
    cases A with
    | none =>
      obtain ⟨_, rfl⟩ := hA rfl
      exact ⟨_, w, run_append_owned_none w g _ ty _ i 4 Try.underlying33 hi _ 0 [] h0, h0, Ext.refl w⟩
    | some a =>
      have hr := run_append_room_cells (P := Try.prog) w 33 ty 35 i Try.underlying33 hi g 0 0 0 a 0 c [] (by simp) (fun j u hj => by simp at hj) (fun u hu => by cases hu) (Nat.le_refl _) (fun j hj => by simp at hj) (fun j hj => by simp at hj)
      exact ⟨_, w, hr, h0, Ext.refl w⟩
  · obtain ⟨b, o, rfl, hc⟩ := hs2 (by omega)
    obtain ⟨v', w', hr, ho, hg⟩ := run_append_arg_grows (P := Try.prog) w 33 ty 35 i _ 4 48 Try.underlying33 hi hz h1 h2 rfl (by decide) ⟨g, 0, none⟩ 0 0 [] rfl (fun j u hj => by simp at hj) ⟨b, o, none⟩ l.length c (actsL l) (actsL_len l) (fun j u hj => by
      have ha : (⟨b, o, none⟩ : Addr).add j = ⟨b, o + j, none⟩ := by unfold Addr.add; split <;> simp_all
      rw [ha]; exact hc j u hj) (by omega) (by unfold maxLen; omega) (by omega)
    rw [Nat.zero_add, List.nil_append] at ho
    exact ⟨v', w', hr, own_base ho (Nat.le_of_lt hb.lt), ext_grown hg⟩
theorem app_act {w : World} {B g n : Nat} {u : Value} {l : List ActT} {x : ActT} (h0 : w.ownsRow B 35 4 u n (actsL l)) (hb : Box w g 35 (actL x).toArray) (ty : TypeId) (hn : (n + 1) * 48 ≤ 140737488355328) (hB : B ≤ w.heap.size) :
    ∃ u' w', (Builtin.append_ #[33, 33] ty #[u, .slice (some ⟨g, 0, none⟩) 1 1]).run Try.prog w = .ok u' w' ∧ w'.ownsRow B 35 4 u' (n + 1) (actsL (l ++ [x])) ∧ w.grownBy w' u.ownBlock := by
  obtain ⟨i, hi, hz, h1, h2⟩ := info_parts actInfo
  obtain ⟨v', w', hr, ho, hg, _, hbk⟩ := run_append_own_at (P := Try.prog) w B 33 ty 35 i _ 4 48 Try.underlying33 hi hz h1 h2 rfl (by decide) u n (actsL l) h0 ⟨g, 0, none⟩ 1 1 (actL x) rfl (fun j u hj => by
    have ha : (⟨g, 0, none⟩ : Addr).add j = ⟨g, j, none⟩ := by unfold Addr.add; split <;> simp_all
    rw [ha, hb.cell j]; simpa using hj) (fun u hu => actsL_one [x] u (by simpa [actsL] using hu)) (by unfold maxLen; omega) hn hB
  refine ⟨v', w', hr, ?_, hg⟩
  rw [actsL_append, show actsL [x] = actL x by simp [actsL]]
  exact ho
section
variable {ops : Array Oper} {rest : List Oper} {o : Oper} {a : Act} {w : World} {Q : Exit → Act → World → Prop}
theorem wp_app_acts {g m c : Nat} {A : Option Addr} {l : List ActT} (hgd : o.guard = none) (sl x : Operand)
    (ho : o.op = .call { callee := .builtin .append, args := #[sl, x], argTypes := #[33, 33] }) (hs : a.eval sl = .slice (some ⟨g, 0, none⟩) 0 0) (hx : a.eval x = .slice A m c)
    (hb : Box w g 35 #[]) (hl : Acts w A m l) (hA : A = none → m = 0 ∧ c = 0) (hn : m * 48 ≤ 140737488355328)
    (hK : ∀ u' w', w'.ownsRow g 35 4 u' m (actsL l) → Ext w w' → wpList Try.prog ops Q rest (a.put o.dst u') w') : wpList Try.prog ops Q (o :: rest) a w := by
  refine wpList_plain hgd fun K hK' => ?_
  obtain ⟨v', w', hr, h2, h3⟩ := app_acts (c := c) hb hl hA o.type hn
  unfold Oper.wp execOp
  simp only [ho, resolve, invoke, builtin, Sem.run_bind, Sem.run_pure, Result.andThen_ok, List.map_toArray, List.map_cons, List.map_nil, hs, hx, hr]
  exact hK' _ _ (hK v' w' h2 h3)
theorem wp_app_act {B g n : Nat} {u : Value} {l : List ActT} {y : ActT} (hgd : o.guard = none) (sl x : Operand)
    (ho : o.op = .call { callee := .builtin .append, args := #[sl, x], argTypes := #[33, 33] }) (hs : a.eval sl = u) (hx : a.eval x = .slice (some ⟨g, 0, none⟩) 1 1)
    (h0 : w.ownsRow B 35 4 u n (actsL l)) (hb : Box w g 35 (actL y).toArray) (hn : (n + 1) * 48 ≤ 140737488355328) (hB : B ≤ w.heap.size)
    (hK : ∀ u' w', w'.ownsRow B 35 4 u' (n + 1) (actsL (l ++ [y])) → w.grownBy w' u.ownBlock → wpList Try.prog ops Q rest (a.put o.dst u') w') : wpList Try.prog ops Q (o :: rest) a w := by
  refine wpList_plain hgd fun K hK' => ?_
  obtain ⟨v', w', hr, h2, h3⟩ := app_act h0 hb o.type hn hB
  unfold Oper.wp execOp
  simp only [ho, resolve, invoke, builtin, Sem.run_bind, Sem.run_pure, Result.andThen_ok, List.map_toArray, List.map_cons, List.map_nil, hs, hx, hr]
  exact hK' _ _ (hK v' w' h2 h3)
end
theorem actSize : (Try.prog.info? 35).map (·.size) = some 4 := by kernel_rfl
/-- what the operations of append(append([]Act{}, acts...), a) leave -/
def gV (B : Nat) (A : Option Addr) (n c : Nat) (l : List ActT) (x : ActT) : Nat → World → Value → Prop
  | 0, w, u => ∃ g, u = .slice (some ⟨g, 0, none⟩) 0 0 ∧ B ≤ g ∧ Box w g 35 #[]
  | 1, _, u => u = .slice A n c
  | 2, w, u => w.ownsRow B 35 4 u n (actsL l)
  | 3, _, u => u = .agg (actL x).toArray
  | 4, w, u => ∃ g, u = .slice (some ⟨g, 0, none⟩) 1 1 ∧ Box w g 35 (actL x).toArray
  | _, _, _ => True
theorem gV_ext {B : Nat} {A : Option Addr} {n c : Nat} {l : List ActT} {x : ActT} (k : Nat) (w w' : World) (u : Value) (hx : Ext w w') (h : gV B A n c l x k w u) : gV B A n c l x k w' u := by
  match k, h with
  | 0, ⟨g, e, hg, hb⟩ => exact ⟨g, e, hg, hb.ext hx⟩
  | 1, h => exact h
  | 2, h => exact own_ext h hx
  | 3, h => exact h
  | 4, ⟨g, e, hb⟩ => exact ⟨g, e, hb.ext hx⟩
  | _ + 5, _ => trivial
theorem Box.setNe {w : World} {g : Nat} {t : TypeId} {cs : Array Value} (h : Box w g t cs) {p : Addr} (hne : g ≠ p.block) (u : Value) : Box (w.setCell p u) g t cs := (Below.heap_setCell w p u g hne).trans h
theorem Strs.at0 {w : World} {g n : Nat} {ss : List (List UInt8)} (h : Strs w (some ⟨g, 0, none⟩) n ss) {j : Nat} (hj : j < ss.length) : w.cell? ⟨g, j, none⟩ = some (.string (str (ss.getD j []))) := by
  obtain ⟨b, o, e, hc⟩ := h.2 (by rw [h.1]; omega)
  cases e
  have := hc j hj
  rw [Nat.zero_add] at this
  rw [this, List.getD_eq_getElem?_getD, List.getElem?_eq_getElem hj]; rfl
theorem great_small {l : List ActT} (h : greatB l = false) : l.length ≤ 20 ∧ ∀ y ∈ l, y.2.2.1.length ≤ 200 ∧ y.2.2.2.length ≤ 300 := by
  unfold greatB at h
  rw [Bool.or_eq_false_iff] at h
  obtain ⟨h1, h2⟩ := h
  refine ⟨by simpa using h2, fun y hy => ?_⟩
  have := List.any_eq_false.1 h1 y hy
  simp [bigAct] at this
  omega
/-- what holds while attributes are set -/
structure Sets (v : List (List UInt8)) : Prop where
  fine : Fine v 6
  len : v.length = 24
  live : ∀ k : Int, 1 ≤ k → k ≤ 3 → (inoAt v k).getD 0 0 ≠ 0
theorem sets_beg : Sets (begV 3) := ⟨fine_beg, beg_len 3, fun k h1 h2 => (beg_live k h1 h2).1⟩
theorem SetOk.sets {v v' : List (List UInt8)} {k e : Int} {name value : List UInt8} (hs : SetOk v v' 6 k e name value) (h : Sets v) : Sets v' := by
  refine ⟨hs.fine, by rw [hs.len, h.len], fun j h1 h2 => ?_⟩
  by_cases ej : j = k
  · subst ej; rw [hs.ino, kind_set]; exact hs.live
  · rw [hs.inos j h1 (by omega) ej]; exact h.live j h1 h2
theorem SetOk.low {v v' : List (List UInt8)} {I k e : Int} {name value : List UInt8} (hs : SetOk v v' I k e name value) (h : Fine v I) : dataOf I ≤ e := by
  by_cases he : extraOf (inoAt v k) = 0
  · obtain ⟨h1, h2, _⟩ := hs.new he
    have := (takeI_some h2).1
    omega
  · rw [(hs.same he).1]
    exact (h.att k hs.k1 hs.k2 hs.live he).1
theorem Sets.set {v : List (List UInt8)} {k : Int} {name value : List UInt8} (h : Sets v) (hs : (setP v 6 k name value).2 = 0) : Sets (setP v 6 k name value).1 := by
  obtain ⟨e, he⟩ := setP_ok h.fine hs
  exact he.sets h
end Go.Proofs.Ytmcoepkopfcbdaa
/- Two inodes that are one are not unlike. -/
namespace Go.Proofs.Ytmcoepkopfcbdaa
set_option linter.unusedVariables false
open Go.RowKit

theorem ino12 {X : List Int} (hx : X.length = 12) : ∃ k l o s d0 d1 d2 d3 d4 d5 n e : Int, X = [k, l, o, s, d0, d1, d2, d3, d4, d5, n, e] := by
  match X, hx with
  | [k, l, o, s, d0, d1, d2, d3, d4, d5, n, e], _ => exact ⟨k, l, o, s, d0, d1, d2, d3, d4, d5, n, e, rfl⟩
theorem cells64 : Try.prog.cellsOf 3 = 1 := by kernel_rfl
theorem intInfo' : (Try.prog.info? 3).map (fun i => (i.zero, i.size, i.bytes)) = some (some (.int .i64 0), 1, 8) := by kernel_rfl
set_option maxRecDepth 100000 in
theorem eq_arr6 (d0 d1 d2 d3 d4 d5 : Int) (w : World) : (Op.equalIn 9999 47 (.agg #[.int .i64 d0, .int .i64 d1, .int .i64 d2, .int .i64 d3, .int .i64 d4, .int .i64 d5]) (.agg #[.int .i64 d0, .int .i64 d1, .int .i64 d2, .int .i64 d3, .int .i64 d4, .int .i64 d5])).run Try.prog w = .ok true w := by
  obtain ⟨i, hi, _⟩ := info_parts intInfo'
  rw [run_equalIn_array w 9998 _ _ Try.underlying47 hi, cells64]
  simp only [List.range, List.range.loop, Op.eqItems]
  go_simp
set_option maxHeartbeats 1000000 in
set_option maxRecDepth 100000 in
theorem wp_neq_ino {ops : Array Oper} {rest : List Oper} {o : Oper} {a : Act} {w : World} {Q : Exit → Act → World → Prop} (x y : Operand) (hgd : o.guard = none) (ho : o.op = .binOp .neq 49 x y 49) (X : List Int) (hx : a.eval x = .agg (intVals X)) (hy : a.eval y = .agg (intVals X)) (hl : X.length = 12)
    (hK : wpList Try.prog ops Q rest (a.put o.dst (.bool false)) w) : wpList Try.prog ops Q (o :: rest) a w := by
  have he := eq_arr6
  obtain ⟨k, l, ow, s, d0, d1, d2, d3, d4, d5, n, e, rfl⟩ := ino12 hl
  refine wpList_plain hgd fun K hK' => ?_
  unfold Oper.wp execOp
  simp only [ho, hx, hy, intVals, List.map_cons, List.map_nil]
  go_simp
  exact hK' _ _ hK
end Go.Proofs.Ytmcoepkopfcbdaa
/- The walk of XattrApart. -/
namespace Go.Proofs.Ytmcoepkopfcbdaa
set_option linter.unusedVariables false
open Go.RowKit

set_option maxHeartbeats 4000000 in
set_option maxRecDepth 100000 in
theorem apart_any (A : Option Addr) (n c : Nat) (l : List ActT) (x : ActT) (w : World) (hs : Acts w A n l) (hA : A = none → n = 0 ∧ c = 0) (hn : (n + 1) * 48 ≤ 140737488355328) :
    Calls Try.prog 5 #[.slice A n c, .agg (actL x).toArray] w fun e w' => e = .returned (.bool true) ∧ Ext w w' := by
  have HA := Lib.hid hA
  clear hA
  unfold actL
  go_enter Try.func5, Try.ntmps5
  go_wp2_with (go_at_call 6; refine (alive_any _).mono ?_; rintro e w1 ⟨rfl, x1⟩)
  have bx : Box w1 w.heap.size 35 (actL x).toArray := (Box.new w 35 (actL x).toArray).ext x1
  have x2 : Ext w w1 := ((Ext.refl w).alloc _).trans x1
  go_cut [29] (fun s wx => s = .bool (greatB (l ++ [x])) ∧ Ext w1 wx)
  case first =>
    refine wp_region_web' 5 [[], [], [0, 1], [], [3]] (gV w1.heap.size A n c l x) (by kernel_rfl) (by kernel_rfl) gV_ext (fun us => ?_)
    simp only [List.take_succ_cons, List.take_zero, List.drop_succ_cons, List.drop_zero]
    refine ⟨fun w' hx hd => ?_, fun w' hx hd => ?_, fun w' hx hd => ?_, fun w' hx hd => ?_, fun w' hx hd => ?_, fun w' hx hv => ?_⟩
    · refine web_of_list 23 rfl (by simp [Act.put]) rfl ?_
      go_wp2_with fail
      exact ⟨(Ext.refl _).alloc _, _, rfl, hx.size, Box.new _ _ _⟩
    · refine web_of_list 24 rfl (by simp [Act.put]) rfl ?_
      go_wp2_with fail
      exact ⟨Ext.refl _, rfl⟩
    · have h0 := hd 0 (by simp)
      have h1 := hd 1 (by simp)
      clear hd
      generalize us 0 = u0 at *
      generalize us 1 = u1 at *
      obtain ⟨g, rfl, hg, hb⟩ := h0
      obtain rfl : u1 = .slice A n c := h1
      have hs2 := hs.ext (x2.trans hx)
      refine web_of_list 25 rfl (by simp [Act.put]) rfl ?_
      go_wp2_with (refine wp_app_acts rfl (.tmp 23) (.tmp 24) rfl rfl rfl hb hs2 HA.out (by omega) ?_; intro u' w2 own2 xx)
      exact own_base own2 hg
    · refine web_of_list 26 rfl (by simp [Act.put]) rfl ?_
      go_wp2_with (refine wp_ld 35 (.tmp 3) rfl rfl w.heap.size (actL x).toArray 35 _ rfl (bx.ext hx) Try.underlying35 rfl actSize ?_)
      exact ⟨Ext.refl _, rfl⟩
    · have h3 := hd 3 (by simp)
      clear hd
      generalize us 3 = u3 at *
      obtain rfl : u3 = .agg (actL x).toArray := h3
      unfold actL
      refine web_of_list 27 rfl (by simp [Act.put]) rfl ?_
      go_wp2_with fail
      exact ⟨(Ext.refl _).alloc _, _, rfl, Box.new _ _ _⟩
    · have h2 := hv 2 (by omega)
      have h4 := hv 4 (by omega)
      clear hv
      generalize us 0 = u0 at *
      generalize us 1 = u1 at *
      generalize us 2 = u2 at *
      generalize us 3 = u3 at *
      generalize us 4 = u4 at *
      have own2 : w'.ownsRow w1.heap.size 35 4 u2 n (actsL l) := h2
      obtain ⟨g, rfl, hb⟩ := h4
      clear h2
      go_wp2_with (refine wp_app_act rfl (.tmp 25) (.tmp 27) rfl rfl rfl own2 hb (by omega) hx.size ?_; intro u' w3 own3 g3)
      have x3 : Ext w1 w3 := hx.grown g3 (fun k e => own_low own2 e)
      have hl : n + 1 = (l ++ [x]).length := by rw [List.length_append, ← hs.1]; rfl
      rw [hl] at own3
      obtain ⟨A3, c3, rfl, s3⟩ := OwnAct.form own3
      have HG := Lib.hid (great_any A3 (l ++ [x]).length c3 (l ++ [x]) w3 s3 (by omega))
      go_wp2_with fail
      refine HG.out.mono ?_
      rintro e w4 ⟨rfl, x4⟩
      go_wp2_with fail
      go_meet
      exact ⟨rfl, x3.trans x4⟩
  case rest =>
    obtain ⟨rfl, xc⟩ := hcut
    clear x1
    cases hg : greatB (l ++ [x]) with
    | true =>
      go_wp2_with fail
      go_ret
      exact ⟨rfl, x2.trans xc⟩
    | false =>
      obtain ⟨hl20, hall⟩ := great_small hg
      have Hall := Lib.hid hall
      rw [List.length_append] at hl20
      have hl19 : l.length ≤ 19 := by simpa using hl20
      clear hg hall hl20
      obtain ⟨rfl, hs2⟩ := hs
      have HS := Lib.hid (fun h => hs2 h)
      clear hs2
      go_wp2_with fail
      refine (begin_any _).mono ?_
      rintro e w3 ⟨u3, rfl, x3, own3⟩
      have x4 := xc.trans x3
      have own4 := own_base own3 xc.size
      have hB := Lib.hid sets_beg
      generalize begV 3 = V0 at hB own4
      clear x3 xc own3
      go_wp2_with fail
      go_loopw [5, 33] (fun t i wx => ∃ (k : Nat) (v : List (List UInt8)), k ≤ l.length ∧ i = .int .i64 k ∧ Sets v ∧ Ext w1 wx ∧ wx.ownsRow w1.heap.size 9 1 t 24 (strL v)) (fun _ i _ => l.length - (intOf i).toNat)
      case atStart => exact ⟨0, V0, by omega, rfl, hB.out, x4, own4⟩
      case round =>
        clear own4 x4 hB
        obtain ⟨k, v, hk, rfl, hf, xk, ok⟩ := hrel
        obtain ⟨g, cp, rfl, hgW, sk⟩ := Strs.own' ok (by omega)
        by_cases hlt : k < l.length
        · obtain ⟨b, o, rfl, hc⟩ := HS.out (by omega)
          obtain ⟨c0, c1, c2, c3⟩ := Acts.cells (fun j v hj => (x2.trans xk).keep (hc j v hj)) k hlt
          obtain ⟨ln, lv⟩ := Hall.out l[k] (List.mem_append_left _ (List.getElem_mem hlt))
          clear hc
          generalize l[k] = y at *
          have HP := Lib.hid (fun w h => set_any (some ⟨g, 0, none⟩) 24 cp v 6 y.2.1 y.2.2.1 y.2.2.2 w h hf.fine.good (by omega) (by omega))
          by_cases he : (setP v 6 y.2.1 y.2.2.1 y.2.2.2).2 = 0
          · have hf2 := hf.set he
            rw [he, hf2.len] at HP
            have HE := Lib.hid he
            clear he
            generalize (setP v 6 y.2.1 y.2.2.1 y.2.2.2).1 = v2 at *
            go_wp2_with fail
            refine (HP.out _ (sk.ext ((Ext.refl _).alloc _))).mono ?_
            rintro e w5 ⟨u5, rfl, x5, own5⟩
            go_wp2_with fail
            go_roundw
            case rel => exact ⟨k + 1, v2, by omega, by go_num, hf2, (xk.alloc _).trans x5, own_base own5 (by have := xk.size; simp; omega)⟩
            case measure => simp [intOf]; omega
          · have hee : ((setP v 6 y.2.1 y.2.2.1 y.2.2.2).2 == 0) = false := by simpa using he
            clear he
            generalize (setP v 6 y.2.1 y.2.2.1 y.2.2.2).2 = e2 at *
            go_wp2_with fail
            refine (HP.out _ (sk.ext ((Ext.refl _).alloc _))).mono ?_
            rintro e w5 ⟨u5, rfl, x5, own5⟩
            go_wp2_with fail
            go_roundw
            case rel => exact ⟨k + 1, v, by omega, by go_num, hf, (xk.alloc _).trans x5, own_ext ok (((Ext.refl _).alloc _).trans x5)⟩
            case measure => simp [intOf]; omega
        · obtain rfl : k = l.length := by omega
          clear hlt HS hl19
          obtain ⟨ln, lv⟩ := Hall.out x (by simp)
          clear Hall
          have bK := bx.ext xk
          have q1 : wr.cell? ⟨w.heap.size, 1, none⟩ = some (.int .i64 x.2.1) := bK.cell 1
          have HLi := Lib.hid (fun w h => list_any (some ⟨g, 0, none⟩) 24 cp v 6 x.2.1 w h hf.fine.good)
          have HP := Lib.hid (fun w h => set_any (some ⟨g, 0, none⟩) 24 cp v 6 x.2.1 x.2.2.1 x.2.2.2 w h hf.fine.good (by omega) (by omega))
          go_wp2_with fail
          refine (HLi.out _ sk).mono ?_
          rintro e w5 ⟨u5, rfl, x5, own5⟩
          obtain ⟨A5, c5, rfl, s5⟩ := OwnA.form own5
          have bL := bK.ext x5
          have q2 : w5.cell? ⟨w.heap.size, 1, none⟩ = some (.int .i64 x.2.1) := bL.cell 1
          have q3 : w5.cell? ⟨w.heap.size, 2, none⟩ = some (.string (str x.2.2.1)) := bL.cell 2
          have q4 : w5.cell? ⟨w.heap.size, 3, none⟩ = some (.string (str x.2.2.2)) := bL.cell 3
          have s6 := sk.ext x5
          have x6 := xk.trans x5
          generalize hle : (openP v 6 x.2.1).2.2 = le at *
          have hatl : (openP v 6 x.2.1).2.1 = attsOf v 6 x.2.1 := rfl
          rw [hatl] at own5 s5 ⊢
          clear hatl q1 own5 s5 HLi hle
          by_cases he : (setP v 6 x.2.1 x.2.2.1 x.2.2.2).2 = 0
          · obtain ⟨ex, hok⟩ := setP_ok hf.fine he
            rw [he, (hok.sets hf).len] at HP
            generalize (setP v 6 x.2.1 x.2.2.1 x.2.2.2).1 = v2 at *
            clear he
            have hf2 := hok.sets hf
            have hro := room_set hok
            have hr1 : roomN v ≤ 24 := by have := roomF_le (v.getD 2 []) v.length; rw [hf.len] at this; unfold roomN; rw [hf.len]; exact this
            have hop := fine_open hf.fine hok.k1 hok.k2 hok.live
            have HRv := Lib.hid (fun w h => rroom_yes (some ⟨g, 0, none⟩) 24 cp v 6 w h hf.fine.good)
            have HRw := Lib.hid (fun g c w h => rroom_yes (some ⟨g, 0, none⟩) 24 c v2 6 w h hf2.fine.good)
            have HGv := Lib.hid (fun w h => riget_yes (some ⟨g, 0, none⟩) 24 cp v 6 x.2.1 w h hf.fine.good hok.k1 hok.k2)
            have HGw := Lib.hid (fun g c w h => riget_yes (some ⟨g, 0, none⟩) 24 c v2 6 x.2.1 w h hf2.fine.good hok.k1 hok.k2)
            rw [hok.ino] at HGw
            have hxl := inoAt_len v x.2.1
            have HBk := Lib.hid hok.blocks
            have HL := Lib.hid (And.intro hf.len hf2.len)
            have hep := hok.pos
            have hlow := hok.low hf.fine
            unfold dataOf at hlow
            have hsame : attsOf v 6 x.2.1 ≠ [] → ex = extraOf (inoAt v x.2.1) := fun ha => (hok.same fun e0 => ha (hop.2.1 e0)).1
            have hemp : extraOf (inoAt v x.2.1) ≠ 0 → attsOf v 6 x.2.1 ≠ [] := fun e0 => (hop.2.2 e0).1.some'
            have hback := set_back (inoAt v x.2.1) hxl ex
            have hop0 := hop.2.1
            clear hop hok
            generalize inoAt v x.2.1 = X at *
            generalize roomN v = r1 at *
            generalize roomN v2 = r2 at *
            obtain ⟨ls, hls, hls1, hls2⟩ : ∃ ls : Int, (r1 : Int) = r2 + ls ∧ (attsOf v 6 x.2.1 = [] → ls = 1) ∧ (attsOf v 6 x.2.1 ≠ [] → ls = 0) := by
              by_cases ha : attsOf v 6 x.2.1 = []
              · have he0 : extraOf X = 0 := Classical.byContradiction fun e0 => hemp e0 ha
                rw [if_pos he0] at hro
                exact ⟨1, hro, fun _ => rfl, fun h => absurd ha h⟩
              · by_cases he0 : extraOf X = 0
                · exact absurd (hop0 he0) ha
                · rw [if_neg he0] at hro
                  exact ⟨0, hro, fun h => absurd h ha, fun _ => rfl⟩
            have Hs := Lib.hid hsame
            have H1 := Lib.hid hls1
            have H2 := Lib.hid hls2
            clear hsame hemp hro hop0 hls1 hls2
            generalize attsOf v 6 x.2.1 = at5 at *
            have hd : ((r2 : Int) != (r1 : Int) - ls) = false := by simp; omega
            have hls3 : 0 ≤ ls ∧ ls ≤ 1 := by
              by_cases ha : at5 = []
              · rw [H1.out ha]; omega
              · rw [H2.out ha]; omega
            obtain ⟨hls4, hls5⟩ := hls3
            clear hls
            go_wp2_with fail
            refine (HP.out _ s6).mono ?_
            rintro e w7 ⟨u7, rfl, x7, own7⟩
            obtain ⟨g7, c7, rfl, hg7, s7⟩ := Strs.own' own7 (by omega)
            go_upto_if 77 with (fail)
            go_cut [14] (fun s wx => s = .int .i64 ls ∧ w7 = wx)
            case first =>
              by_cases ha : at5 = []
              · have hl1 := H1.out ha
                subst ha
                go_wp2_with fail
                go_meet
                exact ⟨by rw [hl1], rfl⟩
              · have hl1 := H2.out ha
                have hl2 : ((at5.length : Int) == 0) = false := by simpa using ha
                have hl3 : (at5.length == 0) = false := by simpa using ha
                clear ha
                go_wp2_with fail
                go_meet
                exact ⟨by rw [hl1], rfl⟩
            case rest =>
              obtain ⟨rfl, rfl⟩ := hcut
              go_wp2_with fail
              refine (HRw.out _ _ _ s7).mono ?_
              rintro e w8 ⟨rfl, x8⟩
              go_wp2_with fail
              refine (HRv.out _ (s6.ext (x7.trans x8))).mono ?_
              rintro e w9 ⟨rfl, x9⟩
              have x10 := x6.trans (x7.trans (x8.trans x9))
              have q5 : w9.cell? ⟨w.heap.size, 1, none⟩ = some (.int .i64 x.2.1) := (bL.ext (x7.trans (x8.trans x9))).cell 1
              go_wp2_with fail
              refine (HGv.out _ (s6.ext (x7.trans (x8.trans x9)))).mono ?_
              rintro e w11 ⟨rfl, x11⟩
              have y7 := x8.trans (x9.trans x11)
              have y6 := x7.trans y7
              go_wp2_with (refine wp_st_ino (.tmp 15) (.tmp 97) rfl rfl w11.heap.size _ zero12 49 rfl rfl (Box.new _ _ _) hxl rfl ?_; intro w12 b12 g12; have z12 : Ext w11 w12 := ((Ext.refl _).alloc _).grown g12 (fun k e => by cases e; exact Nat.le_refl _); have q6 : w12.cell? ⟨w.heap.size, 1, none⟩ = some (.int .i64 x.2.1) := (bL.ext (y6.trans z12)).cell 1)
              refine (HGw.out _ _ _ (s7.ext (y7.trans z12))).mono ?_
              rintro e w13 ⟨rfl, x13⟩
              have hex : extraOf (X.set 11 ex) = ex := extra_set X hxl ex
              go_upto_region 24 with (refine wp_st_ino (.tmp 17) (.tmp 104) rfl rfl w13.heap.size _ zero12 49 rfl rfl (Box.new _ _ _) (by rw [List.length_set]; exact hxl) rfl ?_; intro w14 b14 g14)
              have z14 : Ext w13 w14 := ((Ext.refl _).alloc _).grown g14 (fun k e => by cases e; exact Nat.le_refl _)
              have b15 := (b12.ext x13).ext z14
              have d11 : w14.cell? ⟨w13.heap.size, 11, none⟩ = some (.int .i64 ex) := by rw [← hex]; exact b14.at 11 (by rw [List.length_set]; omega)
              have e11 : w14.cell? ⟨w11.heap.size, 11, none⟩ = some (.int .i64 (extraOf X)) := b15.at 11 (by omega)
              have fz := b14.frozen 11
              have hlt12 := b12.lt
              have hlt13 := x13.size
              have hepb : (ex == 0) = false := by simpa using hep
              go_cut [122] (fun s wx => s = .bool false ∧ w14 = wx)
              case first =>
                by_cases ha : at5 = []
                · subst ha
                  go_wp2_with fail
                  go_meet
                  exact ⟨rfl, rfl⟩
                · have hxx : X.set 11 ex = X := by
                    have := hback
                    rw [← Hs.out ha] at this
                    rw [List.set_set] at this
                    exact this
                  rw [hxx] at b14
                  have he6 := eq_arr6
                  have hl3 : 0 < at5.length := List.length_pos_iff.2 ha
                  have hl2 : (0 : Int) < (at5.length : Int) := by omega
                  have hxe := Hs.out ha
                  clear ha hxx hback d11 e11 fz
                  obtain ⟨k0, k1, k2, k3, k4, k5, k6, k7, k8, k9, k10, k11, rfl⟩ := ino12 hxl
                  have hk : (k11 == 0) = false := by rw [show ex = k11 from hxe] at hepb; exact hepb
                  clear hxe hepb hex hxl
                  have a0 : w14.cell? ⟨w13.heap.size, 0, none⟩ = some (.int .i64 k0) := b14.cell 0
                  have f0 : w14.cell? ⟨w11.heap.size, 0, none⟩ = some (.int .i64 k0) := b15.cell 0
                  have a1 : w14.cell? ⟨w13.heap.size, 1, none⟩ = some (.int .i64 k1) := b14.cell 1
                  have f1 : w14.cell? ⟨w11.heap.size, 1, none⟩ = some (.int .i64 k1) := b15.cell 1
                  have a2 : w14.cell? ⟨w13.heap.size, 2, none⟩ = some (.int .i64 k2) := b14.cell 2
                  have f2 : w14.cell? ⟨w11.heap.size, 2, none⟩ = some (.int .i64 k2) := b15.cell 2
                  have a3 : w14.cell? ⟨w13.heap.size, 3, none⟩ = some (.int .i64 k3) := b14.cell 3
                  have f3 : w14.cell? ⟨w11.heap.size, 3, none⟩ = some (.int .i64 k3) := b15.cell 3
                  have a4 : w14.cell? ⟨w13.heap.size, 4, none⟩ = some (.int .i64 k4) := b14.cell 4
                  have f4 : w14.cell? ⟨w11.heap.size, 4, none⟩ = some (.int .i64 k4) := b15.cell 4
                  have a5 : w14.cell? ⟨w13.heap.size, 5, none⟩ = some (.int .i64 k5) := b14.cell 5
                  have f5 : w14.cell? ⟨w11.heap.size, 5, none⟩ = some (.int .i64 k5) := b15.cell 5
                  have a6 : w14.cell? ⟨w13.heap.size, 6, none⟩ = some (.int .i64 k6) := b14.cell 6
                  have f6 : w14.cell? ⟨w11.heap.size, 6, none⟩ = some (.int .i64 k6) := b15.cell 6
                  have a7 : w14.cell? ⟨w13.heap.size, 7, none⟩ = some (.int .i64 k7) := b14.cell 7
                  have f7 : w14.cell? ⟨w11.heap.size, 7, none⟩ = some (.int .i64 k7) := b15.cell 7
                  have a8 : w14.cell? ⟨w13.heap.size, 8, none⟩ = some (.int .i64 k8) := b14.cell 8
                  have f8 : w14.cell? ⟨w11.heap.size, 8, none⟩ = some (.int .i64 k8) := b15.cell 8
                  have a9 : w14.cell? ⟨w13.heap.size, 9, none⟩ = some (.int .i64 k9) := b14.cell 9
                  have f9 : w14.cell? ⟨w11.heap.size, 9, none⟩ = some (.int .i64 k9) := b15.cell 9
                  have a10 : w14.cell? ⟨w13.heap.size, 10, none⟩ = some (.int .i64 k10) := b14.cell 10
                  have f10 : w14.cell? ⟨w11.heap.size, 10, none⟩ = some (.int .i64 k10) := b15.cell 10
                  have a11 : w14.cell? ⟨w13.heap.size, 11, none⟩ = some (.int .i64 k11) := b14.cell 11
                  have f11 : w14.cell? ⟨w11.heap.size, 11, none⟩ = some (.int .i64 k11) := b15.cell 11
                  go_wp2_with fail
                  go_meet
                  exact ⟨rfl, rfl⟩
              case rest =>
                obtain ⟨rfl, rfl⟩ := hcut
                have bY : Box (w14.setCell ⟨w13.heap.size, 11, none⟩ (.int .i64 (extraOf X))) w13.heap.size 49 (intVals X) := by
                  have := b14.set 11 (.int .i64 (extraOf X)); rw [intVals_set, hback] at this; exact this
                have bX : Box (w14.setCell ⟨w13.heap.size, 11, none⟩ (.int .i64 (extraOf X))) w11.heap.size 49 (intVals X) := b15.setNe (show w11.heap.size ≠ w13.heap.size by omega) _
                have x15 : Ext w1 w14 := x6.trans (y6.trans (z12.trans (x13.trans z14)))
                have hxs : w1.heap.size ≤ w13.heap.size := (x6.trans (y6.trans (z12.trans x13))).size
                have x16 : Ext w1 (w14.setCell ⟨w13.heap.size, 11, none⟩ (.int .i64 (extraOf X))) := x15.setCell hxs _
                have y16 : Ext w5 (w14.setCell ⟨w13.heap.size, 11, none⟩ (.int .i64 (extraOf X))) := (y6.trans (z12.trans (x13.trans z14))).setCell (y6.trans (z12.trans x13)).size _
                have v16 := s6.ext y16
                have y17 : Ext w7 (w14.setCell ⟨w13.heap.size, 11, none⟩ (.int .i64 (extraOf X))) := (y7.trans (z12.trans (x13.trans z14))).setCell (y7.trans (z12.trans x13)).size _
                have v17 := s7.ext y17
                go_wp2_with (first
                  | (refine wp_ld_ino (.tmp 17) rfl rfl w13.heap.size X 49 rfl bY hxl ?_)
                  | (refine wp_ld_ino (.tmp 15) rfl rfl w11.heap.size X 49 rfl bX hxl ?_)
                  | (refine wp_neq_ino (.tmp 126) (.tmp 127) rfl rfl X rfl rfl hxl ?_))
                generalize w14.setCell ⟨w13.heap.size, 11, none⟩ (.int .i64 (extraOf X)) = W at x16 v16 v17 ⊢
                clear bY bX x15 y16 y17 hxs fz e11 d11 b15 b14 b12 hd hlt12 hlt13 hepb hback hxl
                have hc : ∀ wx, Ext W wx → ∀ j, j < 24 → wx.cell? ⟨g, j, none⟩ = some (.string (str (v.getD j []))) := fun wx h j hj => (v16.ext h).at0 (by rw [HL.out.1]; exact hj)
                have hc2 : ∀ wx, Ext W wx → ∀ j, j < 24 → wx.cell? ⟨g7, j, none⟩ = some (.string (str (v2.getD j []))) := fun wx h j hj => (v17.ext h).at0 (by rw [HL.out.2]; exact hj)
                have HC := Lib.hid hc
                have HC2 := Lib.hid hc2
                clear hc hc2 v16 v17
                go_loopw [19, 131] (fun t i wx => ∃ k tn : Nat, k ≤ 24 ∧ i = .int .i64 k ∧ t = .int .i64 tn ∧ tn ≤ 1 ∧ ((k : Int) ≤ ex → tn = 0) ∧ Ext W wx) (fun _ i _ => 24 - (intOf i).toNat)
                case atStart => exact ⟨0, 0, by omega, rfl, rfl, by omega, fun _ => rfl, Ext.refl _⟩
                case round =>
                  obtain ⟨k, tn, hk, rfl, rfl, ht1, ht2, xk2⟩ := hrel
                  have HT := Lib.hid ht2
                  clear ht2
                  by_cases hlt : k < 24
                  · have c1 := HC.out _ xk2 k hlt
                    have c2 := HC2.out _ xk2 k hlt
                    have hlti : (k : Int) < 24 := by omega
                    by_cases h6 : 6 ≤ k
                    · have d6 : decide (6 ≤ (k : Int)) = true := by simp; omega
                      have HB2 := Lib.hid (HBk.out k)
                      generalize v.getD k [] = s1 at *
                      generalize v2.getD k [] = s2 at *
                      by_cases hs : s2 = s1
                      · subst hs
                        go_wp2_with fail
                        go_quiet (fail)
                        go_wp2_with fail
                        go_roundw
                        case rel => exact ⟨k + 1, tn, by omega, by go_num, rfl, by omega, fun h => HT.out (by omega), xk2.drewN _⟩
                        case measure => simp [intOf]; omega
                      · have hke : (k : Int) = ex := Classical.byContradiction fun h => hs (HB2.out h (.inr (by unfold dataOf; omega)))
                        obtain rfl := HT.out (by omega)
                        have HKE := Lib.hid hke
                        clear hke
                        have hne : ((str s1).toList == (str s2).toList) = false := by rw [str_toList, str_toList]; simpa using fun h => hs h.symm
                        have hne2 : ((str s1).toList != (str s2).toList) = true := by rw [bne, hne]; rfl
                        go_wp2_with fail
                        go_quiet (fail)
                        go_wp2_with fail
                        go_roundw
                        case rel => exact ⟨k + 1, 1, by omega, by go_num, rfl, by omega, fun h => by have := HKE.out; omega, xk2.drewN _⟩
                        case measure => simp [intOf]; omega
                    · have d6 : decide (6 ≤ (k : Int)) = false := by simp; omega
                      go_wp2_with fail
                      go_quiet (fail)
                      go_wp2_with fail
                      go_roundw
                      case rel => exact ⟨k + 1, tn, by omega, by go_num, rfl, by omega, fun h => HT.out (by omega), xk2.drewN _⟩
                      case measure => simp [intOf]; omega
                  · obtain rfl : k = 24 := by omega
                    have c10 := HC.out _ xk2 0 (by omega)
                    have c20 := HC2.out _ xk2 0 (by omega)
                    have c11 := HC.out _ xk2 1 (by omega)
                    have c21 := HC2.out _ xk2 1 (by omega)
                    rw [HBk.out 0 (by omega) (.inl (by omega))] at c20
                    rw [HBk.out 1 (by omega) (.inl (by omega))] at c21
                    generalize v.getD 0 [] = t0 at *
                    generalize v.getD 1 [] = t1 at *
                    have dt : decide ((tn : Int) ≤ 1) = true := by simp; omega
                    go_wp2_with fail
                    go_quiet (fail)
                    go_wp2_with fail
                    go_ret
                    exact ⟨rfl, x2.trans (x16.trans (xk2.drewN _))⟩
          · have hz := setP_err he
            rw [hz] at HP
            have hee : ((setP v 6 x.2.1 x.2.2.1 x.2.2.2).2 != 0) = true := by simpa using he
            clear he hz
            generalize (setP v 6 x.2.1 x.2.2.1 x.2.2.2).2 = e2 at *
            generalize attsOf v 6 x.2.1 = at5 at *
            go_wp2_with fail
            refine (HP.out _ s6).mono ?_
            rintro e w7 ⟨u7, rfl, x7, own7⟩
            obtain ⟨A7, c7, rfl⟩ := own_len own7
            go_wp2_with fail
            go_ret
            exact ⟨rfl, x2.trans (x6.trans x7)⟩
end Go.Proofs.Ytmcoepkopfcbdaa
