/- The plain law and the walk of DayRises. -/
import Derived.Test.YtcifjneckbonlaaLawTexts
namespace Go.Proofs.Ytcifjneckbonlaa
open Go.RowKit

/-- l is not behind l' in the order of bytes -/
def NotAfter (l l' : List UInt8) : Prop := Op.bytesLess l l' = true ∨ l = l'
theorem notAfter_refl (l : List UInt8) : NotAfter l l := Or.inr rfl
theorem less_app (c : List UInt8) (l l' : List UInt8) : Op.bytesLess (c ++ l) (c ++ l') = Op.bytesLess l l' := by
  induction c with
  | nil => rfl
  | cons x c ih => simp [Op.bytesLess, ih]
theorem notAfter_app (c : List UInt8) {l l' : List UInt8} (h : NotAfter l l') : NotAfter (c ++ l) (c ++ l') := by
  rcases h with h | rfl
  · exact Or.inl (by rw [less_app]; exact h)
  · exact Or.inr rfl
theorem less_front : ∀ (a a' l l' : List UInt8), a.length = a'.length → Op.bytesLess a a' = true → Op.bytesLess (a ++ l) (a' ++ l') = true
  | [], [], _, _, _, h => by simp [Op.bytesLess] at h
  | [], _ :: _, _, _, e, _ => by simp at e
  | _ :: _, [], _, _, e, _ => by simp at e
  | x :: a, x' :: a', l, l', e, h => by
    simp only [List.cons_append, Op.bytesLess, Bool.or_eq_true, Bool.and_eq_true, decide_eq_true_eq, beq_iff_eq] at h ⊢
    rcases h with h | ⟨h1, h2⟩
    · exact Or.inl h
    · exact Or.inr ⟨h1, less_front a a' l l' (by simpa using e) h2⟩
theorem b8_lt {u v : Int} (h0 : 0 ≤ u) (h : u < v) (h1 : v ≤ 255) : b8 u < b8 v := by
  have a := b8_toNat u h0 (by omega)
  have b := b8_toNat v (by omega) h1
  rw [UInt8.lt_iff_toNat_lt]; omega
theorem less_cons_lt {u v : Int} (l l' : List UInt8) (h0 : 0 ≤ u) (h : u < v) (h1 : v ≤ 255) : Op.bytesLess (b8 u :: l) (b8 v :: l') = true := by
  simp [Op.bytesLess, b8_lt h0 h h1]
theorem less_cons_eq {u v : Int} (l l' : List UInt8) (h : u = v) : Op.bytesLess (b8 u :: l) (b8 v :: l') = Op.bytesLess l l' := by
  subst h; simp [Op.bytesLess]
theorem less_d2 {u v : Int} (h0 : 0 ≤ u) (h : u < v) (h1 : v ≤ 99) : Op.bytesLess ((d2 u).map b8) ((d2 v).map b8) = true := by
  simp only [d2, List.map]
  rcases (show u / 10 % 10 < v / 10 % 10 ∨ (u / 10 % 10 = v / 10 % 10 ∧ u % 10 < v % 10) by omega) with a | ⟨a, b⟩
  · exact less_cons_lt _ _ (by omega) (by omega) (by omega)
  · rw [less_cons_eq _ _ (by omega)]; exact less_cons_lt _ _ (by omega) (by omega) (by omega)
theorem less_d4 {u v : Int} (h0 : 0 ≤ u) (h : u < v) (h1 : v ≤ 9999) : Op.bytesLess ((d4 u).map b8) ((d4 v).map b8) = true := by
  simp only [d4, List.map]
  by_cases a : u / 1000 % 10 = v / 1000 % 10
  · rw [less_cons_eq _ _ (by omega)]
    by_cases b : u / 100 % 10 = v / 100 % 10
    · rw [less_cons_eq _ _ (by omega)]
      by_cases c : u / 10 % 10 = v / 10 % 10
      · rw [less_cons_eq _ _ (by omega)]; exact less_cons_lt _ _ (by omega) (by omega) (by omega)
      · exact less_cons_lt _ _ (by omega) (by omega) (by omega)
    · exact less_cons_lt _ _ (by omega) (by omega) (by omega)
  · exact less_cons_lt _ _ (by omega) (by omega) (by omega)
/-- a field that is less ends it; an equal one hands it on -/
theorem field2 {u v : Int} {l l' : List UInt8} (h0 : 0 ≤ u) (h1 : v ≤ 99) (h : u < v ∨ (u = v ∧ NotAfter l l')) : NotAfter ((d2 u).map b8 ++ l) ((d2 v).map b8 ++ l') := by
  rcases h with h | ⟨rfl, h⟩
  · exact Or.inl (less_front _ _ _ _ rfl (less_d2 h0 h h1))
  · exact notAfter_app _ h
theorem field4 {u v : Int} {l l' : List UInt8} (h0 : 0 ≤ u) (h1 : v ≤ 9999) (h : u < v ∨ (u = v ∧ NotAfter l l')) : NotAfter ((d4 u).map b8 ++ l) ((d4 v).map b8 ++ l') := by
  rcases h with h | ⟨rfl, h⟩
  · exact Or.inl (less_front _ _ _ _ rfl (less_d4 h0 h h1))
  · exact notAfter_app _ h
theorem txt_map (y m i r : Int) : (strOfNums (txt y m i r)).toList = (d4 y).map b8 ++ ([b8 45] ++ ((d2 (m + 1)).map b8 ++ ([b8 45] ++ ((d2 (i + 1)).map b8 ++ ([b8 32] ++ ((d2 (r / 60)).map b8 ++ ([b8 58] ++ ((d2 (r % 60)).map b8 ++ [])))))))) := by
  rw [ByteArray.toList_eq, strOfNums_data]; rfl
theorem txt_rises {a b y m i y' m' i' : Int} (h : Cal.IsDate (a / 1440) y m i) (h' : Cal.IsDate (b / 1440) y' m' i') (hab : a ≤ b) (hy0 : 0 ≤ y) (hy1 : y' ≤ 9999) :
    NotAfter (strOfNums (txt y m i (a % 1440))).toList (strOfNums (txt y' m' i' (b % 1440))).toList := by
  rw [txt_map, txt_map]
  have k1 := Cal.year_le h h' (by omega)
  have m0 := h.m0; have m1' := h'.m1; have i0 := h.i0
  have i1' : i' < 31 := by have := h'.i1; have := Cal.mlen_bd y' m'; omega
  refine field4 hy0 hy1 ?_
  by_cases c1 : y = y'
  · refine Or.inr ⟨c1, notAfter_app _ ?_⟩
    subst c1
    have k2 := Cal.month_le h h' (by omega)
    refine field2 (by omega) (by omega) ?_
    by_cases c2 : m = m'
    · refine Or.inr ⟨by omega, notAfter_app _ ?_⟩
      subst c2
      have e1 := h.eq; have e2 := h'.eq
      refine field2 (by omega) (by omega) ?_
      by_cases c3 : i = i'
      · refine Or.inr ⟨by omega, notAfter_app _ ?_⟩
        subst c3
        refine field2 (by omega) (by omega) ?_
        by_cases c4 : a % 1440 / 60 = b % 1440 / 60
        · refine Or.inr ⟨c4, notAfter_app _ (field2 (by omega) (by omega) ?_)⟩
          by_cases c5 : a % 1440 % 60 = b % 1440 % 60
          · exact Or.inr ⟨c5, notAfter_refl _⟩
          · exact Or.inl (by omega)
        · exact Or.inl (by omega)
      · exact Or.inl (by omega)
    · exact Or.inl (by omega)
  · exact Or.inl (by omega)
theorem gt_false {l l' : List UInt8} (h : NotAfter l l') : (!Op.bytesLess l l' && !(l == l')) = false := by
  rcases h with h | rfl
  · simp [h]
  · simp
theorem months_le {d d' y m i y' m' i' : Int} (h : Cal.IsDate d y m i) (h' : Cal.IsDate d' y' m' i') (hd : d ≤ d') : (y - 2000) * 12 + m ≤ (y' - 2000) * 12 + m' := by
  have k1 := Cal.year_le h h' hd
  have m1 := h.m1; have m0 := h'.m0
  by_cases c : y = y'
  · subst c; have := Cal.month_le h h' hd; omega
  · omega
set_option maxHeartbeats 1000000 in
theorem rises_both (a b y m i y' m' i' : Int) (w : World) (ha : -9223372036854775808 ≤ a) (ha2 : a ≤ 9223372036854775807) (hb : -9223372036854775808 ≤ b) (hb2 : b ≤ 9223372036854775807)
    (hab : a ≤ b) (h : Cal.IsDate (a / 1440) y m i) (h' : Cal.IsDate (b / 1440) y' m' i') (hy : 0 ≤ y ∧ y ≤ 9999) (hy' : 0 ≤ y' ∧ y' ≤ 9999) :
    Calls Try.prog 7 #[.int .i64 a, .int .i64 b] w fun e w' => e = .returned (.bool true) ∧ Grown w w' := by
  have e1 : y ≤ y' := Cal.year_le h h' (by omega)
  have e2 : (y - 2000) * 12 + m ≤ (y' - 2000) * 12 + m' := months_le h h' (by omega)
  have e3 : (a / 1440 + 5) / 7 ≤ (b / 1440 + 5) / 7 := by omega
  have e4 : a / 1440 ≤ b / 1440 := by omega
  have g := gt_false (txt_rises h h' hab hy.1 hy'.2)
  have n1 := txt_notEmpty y m i (a % 1440)
  have n2 := txt_notEmpty y' m' i' (b % 1440)
  go_enter Try.func7, Try.ntmps7
  go_wp2_with fail
  refine (text_any a y m i _ ha ha2 h hy.1 hy.2).mono ?_
  rintro e w1 ⟨rfl, hg1⟩
  go_wp2_with fail
  refine (text_any b y' m' i' _ hb hb2 h' hy'.1 hy'.2).mono ?_
  rintro e w2 ⟨rfl, hg2⟩
  generalize strOfNums (txt y m i (a % 1440)) = S at *
  generalize strOfNums (txt y' m' i' (b % 1440)) = T at *
  go_wp2_with fail
  refine (day_any _ _ (by omega) (by omega)).mono ?_
  rintro e w3 ⟨rfl, hg3⟩
  go_wp2_with fail
  refine (day_any _ _ (by omega) (by omega)).mono ?_
  rintro e w4 ⟨rfl, hg4⟩
  go_wp2_with fail
  refine (week_any _ _ (by omega) (by omega)).mono ?_
  rintro e w5 ⟨rfl, hg5⟩
  go_wp2_with fail
  refine (week_any _ _ (by omega) (by omega)).mono ?_
  rintro e w6 ⟨rfl, hg6⟩
  go_wp2_with fail
  refine (month_any _ y m i _ (by omega) (by omega) h).mono ?_
  rintro e w7 ⟨rfl, hg7⟩
  go_wp2_with fail
  refine (month_any _ y' m' i' _ (by omega) (by omega) h').mono ?_
  rintro e w8 ⟨rfl, hg8⟩
  go_wp2_with fail
  refine (year_any _ y m i _ (by omega) (by omega) h).mono ?_
  rintro e w9 ⟨rfl, hg9⟩
  go_wp2_with fail
  refine (year_any _ y' m' i' _ (by omega) (by omega) h').mono ?_
  rintro e w10 ⟨rfl, hg10⟩
  go_wp2_with fail
  refine (awake_any _).mono ?_
  rintro e w11 ⟨rfl, hg11⟩
  go_wp2_with fail
  go_ret
  exact ⟨rfl, gtrans hg1 (gtrans hg2 (gtrans hg3 (gtrans hg4 (gtrans hg5 (gtrans hg6 (gtrans hg7 (gtrans hg8 (gtrans hg9 (gtrans hg10 hg11)))))))))⟩
set_option maxHeartbeats 1000000 in
theorem rises_first (a b y m i y' m' i' : Int) (w : World) (ha : -9223372036854775808 ≤ a) (ha2 : a ≤ 9223372036854775807) (hb : -9223372036854775808 ≤ b) (hb2 : b ≤ 9223372036854775807)
    (hab : a ≤ b) (h : Cal.IsDate (a / 1440) y m i) (h' : Cal.IsDate (b / 1440) y' m' i') (hy : 0 ≤ y ∧ y ≤ 9999) (hy' : y' < 0 ∨ 9999 < y') :
    Calls Try.prog 7 #[.int .i64 a, .int .i64 b] w fun e w' => e = .returned (.bool true) ∧ Grown w w' := by
  have e1 : y ≤ y' := Cal.year_le h h' (by omega)
  have e2 : (y - 2000) * 12 + m ≤ (y' - 2000) * 12 + m' := months_le h h' (by omega)
  have e3 : (a / 1440 + 5) / 7 ≤ (b / 1440 + 5) / 7 := by omega
  have e4 : a / 1440 ≤ b / 1440 := by omega
  have n1 := txt_notEmpty y m i (a % 1440)
  go_enter Try.func7, Try.ntmps7
  go_wp2_with fail
  refine (text_any a y m i _ ha ha2 h hy.1 hy.2).mono ?_
  rintro e w1 ⟨rfl, hg1⟩
  go_wp2_with fail
  refine (text_none b y' m' i' _ hb hb2 h' hy').mono ?_
  rintro e w2 ⟨rfl, hg2⟩
  generalize strOfNums (txt y m i (a % 1440)) = S at *
  go_wp2_with fail
  refine (day_any _ _ (by omega) (by omega)).mono ?_
  rintro e w3 ⟨rfl, hg3⟩
  go_wp2_with fail
  refine (day_any _ _ (by omega) (by omega)).mono ?_
  rintro e w4 ⟨rfl, hg4⟩
  go_wp2_with fail
  refine (week_any _ _ (by omega) (by omega)).mono ?_
  rintro e w5 ⟨rfl, hg5⟩
  go_wp2_with fail
  refine (week_any _ _ (by omega) (by omega)).mono ?_
  rintro e w6 ⟨rfl, hg6⟩
  go_wp2_with fail
  refine (month_any _ y m i _ (by omega) (by omega) h).mono ?_
  rintro e w7 ⟨rfl, hg7⟩
  go_wp2_with fail
  refine (month_any _ y' m' i' _ (by omega) (by omega) h').mono ?_
  rintro e w8 ⟨rfl, hg8⟩
  go_wp2_with fail
  refine (year_any _ y m i _ (by omega) (by omega) h).mono ?_
  rintro e w9 ⟨rfl, hg9⟩
  go_wp2_with fail
  refine (year_any _ y' m' i' _ (by omega) (by omega) h').mono ?_
  rintro e w10 ⟨rfl, hg10⟩
  go_wp2_with fail
  refine (awake_any _).mono ?_
  rintro e w11 ⟨rfl, hg11⟩
  go_wp2_with fail
  go_ret
  exact ⟨rfl, gtrans hg1 (gtrans hg2 (gtrans hg3 (gtrans hg4 (gtrans hg5 (gtrans hg6 (gtrans hg7 (gtrans hg8 (gtrans hg9 (gtrans hg10 hg11)))))))))⟩
set_option maxHeartbeats 1000000 in
theorem rises_second (a b y m i y' m' i' : Int) (w : World) (ha : -9223372036854775808 ≤ a) (ha2 : a ≤ 9223372036854775807) (hb : -9223372036854775808 ≤ b) (hb2 : b ≤ 9223372036854775807)
    (hab : a ≤ b) (h : Cal.IsDate (a / 1440) y m i) (h' : Cal.IsDate (b / 1440) y' m' i') (hy : y < 0 ∨ 9999 < y) (hy' : 0 ≤ y' ∧ y' ≤ 9999) :
    Calls Try.prog 7 #[.int .i64 a, .int .i64 b] w fun e w' => e = .returned (.bool true) ∧ Grown w w' := by
  have e1 : y ≤ y' := Cal.year_le h h' (by omega)
  have e2 : (y - 2000) * 12 + m ≤ (y' - 2000) * 12 + m' := months_le h h' (by omega)
  have e3 : (a / 1440 + 5) / 7 ≤ (b / 1440 + 5) / 7 := by omega
  have e4 : a / 1440 ≤ b / 1440 := by omega
  go_enter Try.func7, Try.ntmps7
  go_wp2_with fail
  refine (text_none a y m i _ ha ha2 h hy).mono ?_
  rintro e w1 ⟨rfl, hg1⟩
  go_wp2_with fail
  refine (text_any b y' m' i' _ hb hb2 h' hy'.1 hy'.2).mono ?_
  rintro e w2 ⟨rfl, hg2⟩
  generalize strOfNums (txt y' m' i' (b % 1440)) = T at *
  go_wp2_with fail
  refine (day_any _ _ (by omega) (by omega)).mono ?_
  rintro e w3 ⟨rfl, hg3⟩
  go_wp2_with fail
  refine (day_any _ _ (by omega) (by omega)).mono ?_
  rintro e w4 ⟨rfl, hg4⟩
  go_wp2_with fail
  refine (week_any _ _ (by omega) (by omega)).mono ?_
  rintro e w5 ⟨rfl, hg5⟩
  go_wp2_with fail
  refine (week_any _ _ (by omega) (by omega)).mono ?_
  rintro e w6 ⟨rfl, hg6⟩
  go_wp2_with fail
  refine (month_any _ y m i _ (by omega) (by omega) h).mono ?_
  rintro e w7 ⟨rfl, hg7⟩
  go_wp2_with fail
  refine (month_any _ y' m' i' _ (by omega) (by omega) h').mono ?_
  rintro e w8 ⟨rfl, hg8⟩
  go_wp2_with fail
  refine (year_any _ y m i _ (by omega) (by omega) h).mono ?_
  rintro e w9 ⟨rfl, hg9⟩
  go_wp2_with fail
  refine (year_any _ y' m' i' _ (by omega) (by omega) h').mono ?_
  rintro e w10 ⟨rfl, hg10⟩
  go_wp2_with fail
  refine (awake_any _).mono ?_
  rintro e w11 ⟨rfl, hg11⟩
  go_wp2_with fail
  go_ret
  exact ⟨rfl, gtrans hg1 (gtrans hg2 (gtrans hg3 (gtrans hg4 (gtrans hg5 (gtrans hg6 (gtrans hg7 (gtrans hg8 (gtrans hg9 (gtrans hg10 hg11)))))))))⟩
set_option maxHeartbeats 1000000 in
theorem rises_none (a b y m i y' m' i' : Int) (w : World) (ha : -9223372036854775808 ≤ a) (ha2 : a ≤ 9223372036854775807) (hb : -9223372036854775808 ≤ b) (hb2 : b ≤ 9223372036854775807)
    (hab : a ≤ b) (h : Cal.IsDate (a / 1440) y m i) (h' : Cal.IsDate (b / 1440) y' m' i') (hy : y < 0 ∨ 9999 < y) (hy' : y' < 0 ∨ 9999 < y') :
    Calls Try.prog 7 #[.int .i64 a, .int .i64 b] w fun e w' => e = .returned (.bool true) ∧ Grown w w' := by
  have e1 : y ≤ y' := Cal.year_le h h' (by omega)
  have e2 : (y - 2000) * 12 + m ≤ (y' - 2000) * 12 + m' := months_le h h' (by omega)
  have e3 : (a / 1440 + 5) / 7 ≤ (b / 1440 + 5) / 7 := by omega
  have e4 : a / 1440 ≤ b / 1440 := by omega
  go_enter Try.func7, Try.ntmps7
  go_wp2_with fail
  refine (text_none a y m i _ ha ha2 h hy).mono ?_
  rintro e w1 ⟨rfl, hg1⟩
  go_wp2_with fail
  refine (text_none b y' m' i' _ hb hb2 h' hy').mono ?_
  rintro e w2 ⟨rfl, hg2⟩
  go_wp2_with fail
  refine (day_any _ _ (by omega) (by omega)).mono ?_
  rintro e w3 ⟨rfl, hg3⟩
  go_wp2_with fail
  refine (day_any _ _ (by omega) (by omega)).mono ?_
  rintro e w4 ⟨rfl, hg4⟩
  go_wp2_with fail
  refine (week_any _ _ (by omega) (by omega)).mono ?_
  rintro e w5 ⟨rfl, hg5⟩
  go_wp2_with fail
  refine (week_any _ _ (by omega) (by omega)).mono ?_
  rintro e w6 ⟨rfl, hg6⟩
  go_wp2_with fail
  refine (month_any _ y m i _ (by omega) (by omega) h).mono ?_
  rintro e w7 ⟨rfl, hg7⟩
  go_wp2_with fail
  refine (month_any _ y' m' i' _ (by omega) (by omega) h').mono ?_
  rintro e w8 ⟨rfl, hg8⟩
  go_wp2_with fail
  refine (year_any _ y m i _ (by omega) (by omega) h).mono ?_
  rintro e w9 ⟨rfl, hg9⟩
  go_wp2_with fail
  refine (year_any _ y' m' i' _ (by omega) (by omega) h').mono ?_
  rintro e w10 ⟨rfl, hg10⟩
  go_wp2_with fail
  refine (awake_any _).mono ?_
  rintro e w11 ⟨rfl, hg11⟩
  go_wp2_with fail
  go_ret
  exact ⟨rfl, gtrans hg1 (gtrans hg2 (gtrans hg3 (gtrans hg4 (gtrans hg5 (gtrans hg6 (gtrans hg7 (gtrans hg8 (gtrans hg9 (gtrans hg10 hg11)))))))))⟩
set_option maxHeartbeats 1000000 in
theorem rises_law (a b : Int) (w : World) (ha : -9223372036854775808 ≤ a) (ha2 : a ≤ 9223372036854775807) (hb : -9223372036854775808 ≤ b) (hb2 : b ≤ 9223372036854775807) :
    Calls Try.prog 7 #[.int .i64 a, .int .i64 b] w fun e w' => e = .returned (.bool true) ∧ Grown w w' := by
  by_cases hab : b < a
  · go_enter Try.func7, Try.ntmps7
    go_wp2_with fail
    refine (awake_any _).mono ?_
    rintro e w11 ⟨rfl, hg11⟩
    go_wp2_with fail
    go_ret
    exact ⟨rfl, hg11⟩
  · obtain ⟨y, m, i, h⟩ := Cal.date_exists (a / 1440)
    obtain ⟨y', m', i', h'⟩ := Cal.date_exists (b / 1440)
    by_cases hy : 0 ≤ y ∧ y ≤ 9999
    · by_cases hy' : 0 ≤ y' ∧ y' ≤ 9999
      · exact rises_both a b y m i y' m' i' w ha ha2 hb hb2 (by omega) h h' hy hy'
      · exact rises_first a b y m i y' m' i' w ha ha2 hb hb2 (by omega) h h' hy (by omega)
    · by_cases hy' : 0 ≤ y' ∧ y' ≤ 9999
      · exact rises_second a b y m i y' m' i' w ha ha2 hb hb2 (by omega) h h' (by omega) hy'
      · exact rises_none a b y m i y' m' i' w ha ha2 hb hb2 (by omega) h h' (by omega) (by omega)
end Go.Proofs.Ytcifjneckbonlaa
