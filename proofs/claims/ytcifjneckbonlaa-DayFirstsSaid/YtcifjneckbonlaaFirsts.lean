/- The plain law and the walk of DayFirsts. -/
import Derived.Test.YtcifjneckbonlaaLawTexts
import Derived.Deep.RegionWith
namespace Go.Proofs.Ytcifjneckbonlaa
open Go.RowKit

/-- the worlds that have grown out of w -/
def Cls (w w' : World) : Prop := Grown w w'
theorem wp_region_cls {P : Program} {id : Nat} {Q : Exit → Act → World → Prop} {a : Act} {w : World} {l : List Oper} (hm : P.follows .mixedOrders = true) (hB : Region.lexB .any l.toArray = true)
    (h : wpQuiet P l.toArray (Cls w) (fun a' => ∀ w', Cls w w' → Q .normal a' w') l a) : (Code.region id l.toArray true).wp P Q a w :=
  wp_region_quiet (C := Cls w) hm hB (Grown.refl _) (by simpa using h)
theorem cls_of {P : Program} {f : FuncId} {args : Array Value} {w w1 : World} {v : Value} (hc : Cls w w1)
    (h : Calls P f args w1 fun e w' => e = .returned v ∧ Grown w1 w') : Calls P f args w1 fun e w' => e = .returned v ∧ Cls w w' :=
  h.mono fun _ _ ⟨he, hg⟩ => ⟨he, gtrans hc hg⟩

theorem ext8 (y m i r : Int) : ((strOfNums (txt y m i r)).extract 8 10).toList = (d2 (i + 1)).map b8 := by
  rw [ByteArray.toList_eq]; exact fld2 y m i r
theorem ext5 (y m i r : Int) : ((strOfNums (txt y m i r)).extract 5 10).toList = (d2 (m + 1)).map b8 ++ b8 45 :: (d2 (i + 1)).map b8 := by
  rw [ByteArray.toList_eq, Lib.extract_data]; rfl
theorem d2_one (x : Int) (h0 : 0 ≤ x) (h1 : x ≤ 99) : ((d2 x).map b8 = [48, 49]) ↔ x = 1 := by
  constructor
  · intro h
    have a := (num2 x h0 h1).2
    rw [h] at a
    rw [← a]; rfl
  · rintro rfl; rfl
theorem is01 {x : Int} (h0 : 0 ≤ x) (h1 : x ≤ 99) (h : x = 1) : ((d2 x).map b8 == [48, 49]) = true := by rw [beq_iff_eq]; exact (d2_one x h0 h1).2 h
theorem not01 {x : Int} (h0 : 0 ≤ x) (h1 : x ≤ 99) (h : x ≠ 1) : ((d2 x).map b8 == [48, 49]) = false := by rw [beq_eq_false_iff_ne]; exact fun e => h ((d2_one x h0 h1).1 e)
theorem first_five {x z : Int} (h : x = 1) (h' : z = 1) : ((d2 x).map b8 ++ b8 45 :: (d2 z).map b8 == [48, 49, 45, 48, 49]) = true := by subst h h'; rfl
theorem app_five {l l' : List UInt8} (h : l.length = 2) (e : l ++ b8 45 :: l' = [48, 49, 45, 48, 49]) : l = [48, 49] ∧ l' = [48, 49] := by
  match l, h with
  | [a, b], _ => simp only [List.cons_append, List.nil_append, List.cons.injEq] at e; obtain ⟨rfl, rfl, _, e⟩ := e; exact ⟨rfl, e⟩
theorem not_five {x z : Int} (h0 : 0 ≤ x) (h1 : x ≤ 99) (k0 : 0 ≤ z) (k1 : z ≤ 99) (h : x ≠ 1 ∨ z ≠ 1) : ((d2 x).map b8 ++ b8 45 :: (d2 z).map b8 == [48, 49, 45, 48, 49]) = false := by
  rw [beq_eq_false_iff_ne]
  intro e
  obtain ⟨a, b⟩ := app_five rfl e
  have a' := (d2_one x h0 h1).1 a
  have b' := (d2_one z k0 k1).1 b
  omega
theorem i_lt {d y m i : Int} (h : Cal.IsDate d y m i) : i < 31 := by have := h.i1; have := Cal.mlen_bd y m; omega
/-- the day behind a day: in the same month, or the first of the next month, or the first of the next year -/
theorem next_day {d y m i y' m' i' : Int} (h : Cal.IsDate d y m i) (h' : Cal.IsDate (d + 1) y' m' i') :
    (y' = y ∧ m' = m ∧ i' = i + 1) ∨ (y' = y ∧ m' = m + 1 ∧ i' = 0) ∨ (y' = y + 1 ∧ m' = 0 ∧ i' = 0) := by
  have m0 := h.m0; have m1 := h.m1; have i0 := h.i0; have i1 := h.i1; have e := h.eq
  by_cases c : i + 1 < Cal.mlen y m
  · have k : Cal.IsDate (d + 1) y m (i + 1) := ⟨m0, m1, by omega, c, by omega⟩
    obtain ⟨rfl, rfl, rfl⟩ := Cal.date_unique h' k
    exact Or.inl ⟨rfl, rfl, rfl⟩
  · have cs := Cal.cum_succ y m m0 m1
    by_cases c2 : m = 11
    · subst c2
      have k : Cal.IsDate (d + 1) (y + 1) 0 0 := ⟨by omega, by omega, by omega, by have := Cal.mlen_bd (y + 1) 0; omega, by
        rw [Cal.cum_0, Cal.dby_succ, ← Cal.cum_12]; rw [show (11 : Int) + 1 = 12 from rfl] at cs; omega⟩
      obtain ⟨rfl, rfl, rfl⟩ := Cal.date_unique h' k
      exact Or.inr (Or.inr ⟨rfl, rfl, rfl⟩)
    · have k : Cal.IsDate (d + 1) y (m + 1) 0 := ⟨by omega, by omega, by omega, by have := Cal.mlen_bd y (m + 1); omega, by rw [cs]; omega⟩
      obtain ⟨rfl, rfl, rfl⟩ := Cal.date_unique h' k
      exact Or.inr (Or.inl ⟨rfl, rfl, rfl⟩)
set_option maxHeartbeats 1000000 in
theorem firsts_same (a y m i y' m' i' : Int) (w : World) (ha : -1125899906842624 ≤ a) (ha2 : a ≤ 1125899906842624)
    (h : Cal.IsDate (a / 1440) y m i) (h' : Cal.IsDate ((a + 1440) / 1440) y' m' i') (hy : 0 ≤ y ∧ y ≤ 9999) (hy' : 0 ≤ y' ∧ y' ≤ 9999) (hi : y' = y ∧ m' = m ∧ i' = i + 1) :
    Calls Try.prog 9 #[.int .i64 a] w fun e w' => e = .returned (.bool true) ∧ Grown w w' := by
  have n1 := txt_notEmpty y m i (a % 1440)
  have z1 := str_size y' m' i' ((a + 1440) % 1440)
  have x8 : (((strOfNums (txt y' m' i' ((a + 1440) % 1440))).extract 8 10).toList == [48, 49]) = false := by have a1 := h'.m0; have a2 := h'.m1; have a3 := h'.i0; have a4 := i_lt h'; have b1 := h.m0; have b2 := h.i0; rw [ext8]; exact not01 (by omega) (by omega) (by omega)
  have x5 : (((strOfNums (txt y' m' i' ((a + 1440) % 1440))).extract 5 10).toList == [48, 49, 45, 48, 49]) = false := by have a1 := h'.m0; have a2 := h'.m1; have a3 := h'.i0; have a4 := i_lt h'; have b1 := h.m0; have b2 := h.i0; rw [ext5]; exact not_five (by omega) (by omega) (by omega) (by omega) (by omega)
  have f1 : (((y' - 2000) * 12 + m') != ((y - 2000) * 12 + m)) = false := by simp; omega
  have f2 : (y' != y) = false := by simp; omega
  clear hi
  go_enter Try.func9, Try.ntmps9
  go_wp2_with fail
  refine (text_any _ y' m' i' _ (by omega) (by omega) h' hy'.1 hy'.2).mono ?_
  rintro e w1 ⟨rfl, hg1⟩
  generalize strOfNums (txt y' m' i' ((a + 1440) % 1440)) = T at *
  go_wp2_with fail
  refine (text_any _ y m i _ (by omega) (by omega) h hy.1 hy.2).mono ?_
  rintro e w2 ⟨rfl, hg2⟩
  generalize strOfNums (txt y m i (a % 1440)) = S at *
  go_wp2_with fail
  refine wp_region_cls (by kernel_rfl) (by kernel_rfl) ?_
  repeat (first | go_big_quiet_skip | (go_big_quiet_want; go_big_quiet_op; first | go_big_quiet_on | (refine ⟨_, fun _ _ => by with_reducible rfl, ?_⟩; go_big_quiet_on)))
  go_big_quiet_want
  go_big_quiet_op
  refine ⟨_, fun wx hc => cls_of hc (month_any (a + 1440) y' m' i' wx (by omega) (by omega) h'), ?_⟩
  go_big_quiet_on
  repeat (first | go_big_quiet_skip | (go_big_quiet_want; go_big_quiet_op; first | go_big_quiet_on | (refine ⟨_, fun _ _ => by with_reducible rfl, ?_⟩; go_big_quiet_on)))
  go_big_quiet_want
  go_big_quiet_op
  refine ⟨_, fun wx hc => cls_of hc (month_any a y m i wx (by omega) (by omega) h), ?_⟩
  go_big_quiet_on
  repeat (first | go_big_quiet_skip | (go_big_quiet_want; go_big_quiet_op; first | go_big_quiet_on | (refine ⟨_, fun _ _ => by with_reducible rfl, ?_⟩; go_big_quiet_on)))
  go_big_quiet_want
  go_big_quiet_op
  refine ⟨_, fun wx hc => cls_of hc (year_any (a + 1440) y' m' i' wx (by omega) (by omega) h'), ?_⟩
  go_big_quiet_on
  repeat (first | go_big_quiet_skip | (go_big_quiet_want; go_big_quiet_op; first | go_big_quiet_on | (refine ⟨_, fun _ _ => by with_reducible rfl, ?_⟩; go_big_quiet_on)))
  go_big_quiet_want
  go_big_quiet_op
  refine ⟨_, fun wx hc => cls_of hc (year_any a y m i wx (by omega) (by omega) h), ?_⟩
  go_big_quiet_on
  repeat (first | go_big_quiet_skip | (go_big_quiet_want; go_big_quiet_op; first | go_big_quiet_on | (refine ⟨_, fun _ _ => by with_reducible rfl, ?_⟩; go_big_quiet_on)))
  go_big_quiet_want
  go_big_quiet_op
  refine ⟨_, fun wx hc => cls_of hc (awake_any wx), ?_⟩
  go_big_quiet_on
  repeat (first | go_big_quiet_skip | (go_big_quiet_want; go_big_quiet_op; first | go_big_quiet_on | (refine ⟨_, fun _ _ => by with_reducible rfl, ?_⟩; go_big_quiet_on)))
  refine wpQuiet_nil ?_
  intro w3 hw3
  go_wp2_with fail
  go_ret
  exact ⟨rfl, gtrans hg1 (gtrans hg2 hw3)⟩
set_option maxHeartbeats 1000000 in
theorem firsts_month (a y m i y' m' i' : Int) (w : World) (ha : -1125899906842624 ≤ a) (ha2 : a ≤ 1125899906842624)
    (h : Cal.IsDate (a / 1440) y m i) (h' : Cal.IsDate ((a + 1440) / 1440) y' m' i') (hy : 0 ≤ y ∧ y ≤ 9999) (hy' : 0 ≤ y' ∧ y' ≤ 9999) (hi : y' = y ∧ m' = m + 1 ∧ i' = 0) :
    Calls Try.prog 9 #[.int .i64 a] w fun e w' => e = .returned (.bool true) ∧ Grown w w' := by
  have n1 := txt_notEmpty y m i (a % 1440)
  have z1 := str_size y' m' i' ((a + 1440) % 1440)
  have x8 : (((strOfNums (txt y' m' i' ((a + 1440) % 1440))).extract 8 10).toList == [48, 49]) = true := by have a1 := h'.m0; have a2 := h'.m1; have a3 := h'.i0; have a4 := i_lt h'; have b1 := h.m0; have b2 := h.i0; rw [ext8]; exact is01 (by omega) (by omega) (by omega)
  have x5 : (((strOfNums (txt y' m' i' ((a + 1440) % 1440))).extract 5 10).toList == [48, 49, 45, 48, 49]) = false := by have a1 := h'.m0; have a2 := h'.m1; have a3 := h'.i0; have a4 := i_lt h'; have b1 := h.m0; have b2 := h.i0; rw [ext5]; exact not_five (by omega) (by omega) (by omega) (by omega) (by omega)
  have f1 : (((y' - 2000) * 12 + m') != ((y - 2000) * 12 + m)) = true := by rw [bne_iff_ne]; omega
  have f2 : (y' != y) = false := by simp; omega
  clear hi
  go_enter Try.func9, Try.ntmps9
  go_wp2_with fail
  refine (text_any _ y' m' i' _ (by omega) (by omega) h' hy'.1 hy'.2).mono ?_
  rintro e w1 ⟨rfl, hg1⟩
  generalize strOfNums (txt y' m' i' ((a + 1440) % 1440)) = T at *
  go_wp2_with fail
  refine (text_any _ y m i _ (by omega) (by omega) h hy.1 hy.2).mono ?_
  rintro e w2 ⟨rfl, hg2⟩
  generalize strOfNums (txt y m i (a % 1440)) = S at *
  go_wp2_with fail
  refine wp_region_cls (by kernel_rfl) (by kernel_rfl) ?_
  repeat (first | go_big_quiet_skip | (go_big_quiet_want; go_big_quiet_op; first | go_big_quiet_on | (refine ⟨_, fun _ _ => by with_reducible rfl, ?_⟩; go_big_quiet_on)))
  go_big_quiet_want
  go_big_quiet_op
  refine ⟨_, fun wx hc => cls_of hc (month_any (a + 1440) y' m' i' wx (by omega) (by omega) h'), ?_⟩
  go_big_quiet_on
  repeat (first | go_big_quiet_skip | (go_big_quiet_want; go_big_quiet_op; first | go_big_quiet_on | (refine ⟨_, fun _ _ => by with_reducible rfl, ?_⟩; go_big_quiet_on)))
  go_big_quiet_want
  go_big_quiet_op
  refine ⟨_, fun wx hc => cls_of hc (month_any a y m i wx (by omega) (by omega) h), ?_⟩
  go_big_quiet_on
  repeat (first | go_big_quiet_skip | (go_big_quiet_want; go_big_quiet_op; first | go_big_quiet_on | (refine ⟨_, fun _ _ => by with_reducible rfl, ?_⟩; go_big_quiet_on)))
  go_big_quiet_want
  go_big_quiet_op
  refine ⟨_, fun wx hc => cls_of hc (year_any (a + 1440) y' m' i' wx (by omega) (by omega) h'), ?_⟩
  go_big_quiet_on
  repeat (first | go_big_quiet_skip | (go_big_quiet_want; go_big_quiet_op; first | go_big_quiet_on | (refine ⟨_, fun _ _ => by with_reducible rfl, ?_⟩; go_big_quiet_on)))
  go_big_quiet_want
  go_big_quiet_op
  refine ⟨_, fun wx hc => cls_of hc (year_any a y m i wx (by omega) (by omega) h), ?_⟩
  go_big_quiet_on
  repeat (first | go_big_quiet_skip | (go_big_quiet_want; go_big_quiet_op; first | go_big_quiet_on | (refine ⟨_, fun _ _ => by with_reducible rfl, ?_⟩; go_big_quiet_on)))
  go_big_quiet_want
  go_big_quiet_op
  refine ⟨_, fun wx hc => cls_of hc (awake_any wx), ?_⟩
  go_big_quiet_on
  repeat (first | go_big_quiet_skip | (go_big_quiet_want; go_big_quiet_op; first | go_big_quiet_on | (refine ⟨_, fun _ _ => by with_reducible rfl, ?_⟩; go_big_quiet_on)))
  refine wpQuiet_nil ?_
  intro w3 hw3
  go_wp2_with fail
  go_ret
  exact ⟨rfl, gtrans hg1 (gtrans hg2 hw3)⟩
set_option maxHeartbeats 1000000 in
theorem firsts_year (a y m i y' m' i' : Int) (w : World) (ha : -1125899906842624 ≤ a) (ha2 : a ≤ 1125899906842624)
    (h : Cal.IsDate (a / 1440) y m i) (h' : Cal.IsDate ((a + 1440) / 1440) y' m' i') (hy : 0 ≤ y ∧ y ≤ 9999) (hy' : 0 ≤ y' ∧ y' ≤ 9999) (hi : y' = y + 1 ∧ m' = 0 ∧ i' = 0 ∧ m ≤ 11) :
    Calls Try.prog 9 #[.int .i64 a] w fun e w' => e = .returned (.bool true) ∧ Grown w w' := by
  have n1 := txt_notEmpty y m i (a % 1440)
  have z1 := str_size y' m' i' ((a + 1440) % 1440)
  have x8 : (((strOfNums (txt y' m' i' ((a + 1440) % 1440))).extract 8 10).toList == [48, 49]) = true := by have a1 := h'.m0; have a2 := h'.m1; have a3 := h'.i0; have a4 := i_lt h'; have b1 := h.m0; have b2 := h.i0; rw [ext8]; exact is01 (by omega) (by omega) (by omega)
  have x5 : (((strOfNums (txt y' m' i' ((a + 1440) % 1440))).extract 5 10).toList == [48, 49, 45, 48, 49]) = true := by have a1 := h'.m0; have a2 := h'.m1; have a3 := h'.i0; have a4 := i_lt h'; have b1 := h.m0; have b2 := h.i0; rw [ext5]; exact first_five (by omega) (by omega)
  have f1 : (((y' - 2000) * 12 + m') != ((y - 2000) * 12 + m)) = true := by rw [bne_iff_ne]; omega
  have f2 : (y' != y) = true := by rw [bne_iff_ne]; omega
  clear hi
  go_enter Try.func9, Try.ntmps9
  go_wp2_with fail
  refine (text_any _ y' m' i' _ (by omega) (by omega) h' hy'.1 hy'.2).mono ?_
  rintro e w1 ⟨rfl, hg1⟩
  generalize strOfNums (txt y' m' i' ((a + 1440) % 1440)) = T at *
  go_wp2_with fail
  refine (text_any _ y m i _ (by omega) (by omega) h hy.1 hy.2).mono ?_
  rintro e w2 ⟨rfl, hg2⟩
  generalize strOfNums (txt y m i (a % 1440)) = S at *
  go_wp2_with fail
  refine wp_region_cls (by kernel_rfl) (by kernel_rfl) ?_
  repeat (first | go_big_quiet_skip | (go_big_quiet_want; go_big_quiet_op; first | go_big_quiet_on | (refine ⟨_, fun _ _ => by with_reducible rfl, ?_⟩; go_big_quiet_on)))
  go_big_quiet_want
  go_big_quiet_op
  refine ⟨_, fun wx hc => cls_of hc (month_any (a + 1440) y' m' i' wx (by omega) (by omega) h'), ?_⟩
  go_big_quiet_on
  repeat (first | go_big_quiet_skip | (go_big_quiet_want; go_big_quiet_op; first | go_big_quiet_on | (refine ⟨_, fun _ _ => by with_reducible rfl, ?_⟩; go_big_quiet_on)))
  go_big_quiet_want
  go_big_quiet_op
  refine ⟨_, fun wx hc => cls_of hc (month_any a y m i wx (by omega) (by omega) h), ?_⟩
  go_big_quiet_on
  repeat (first | go_big_quiet_skip | (go_big_quiet_want; go_big_quiet_op; first | go_big_quiet_on | (refine ⟨_, fun _ _ => by with_reducible rfl, ?_⟩; go_big_quiet_on)))
  go_big_quiet_want
  go_big_quiet_op
  refine ⟨_, fun wx hc => cls_of hc (year_any (a + 1440) y' m' i' wx (by omega) (by omega) h'), ?_⟩
  go_big_quiet_on
  repeat (first | go_big_quiet_skip | (go_big_quiet_want; go_big_quiet_op; first | go_big_quiet_on | (refine ⟨_, fun _ _ => by with_reducible rfl, ?_⟩; go_big_quiet_on)))
  go_big_quiet_want
  go_big_quiet_op
  refine ⟨_, fun wx hc => cls_of hc (year_any a y m i wx (by omega) (by omega) h), ?_⟩
  go_big_quiet_on
  repeat (first | go_big_quiet_skip | (go_big_quiet_want; go_big_quiet_op; first | go_big_quiet_on | (refine ⟨_, fun _ _ => by with_reducible rfl, ?_⟩; go_big_quiet_on)))
  go_big_quiet_want
  go_big_quiet_op
  refine ⟨_, fun wx hc => cls_of hc (awake_any wx), ?_⟩
  go_big_quiet_on
  repeat (first | go_big_quiet_skip | (go_big_quiet_want; go_big_quiet_op; first | go_big_quiet_on | (refine ⟨_, fun _ _ => by with_reducible rfl, ?_⟩; go_big_quiet_on)))
  refine wpQuiet_nil ?_
  intro w3 hw3
  go_wp2_with fail
  go_ret
  exact ⟨rfl, gtrans hg1 (gtrans hg2 hw3)⟩
set_option maxHeartbeats 400000 in
theorem firsts_far (a : Int) (w : World) (h : 1125899906842624 < a ∨ a < -1125899906842624) :
    Calls Try.prog 9 #[.int .i64 a] w fun e w' => e = .returned (.bool true) ∧ Grown w w' := by
  rcases h with h | h
  all_goals
    go_enter Try.func9, Try.ntmps9
    go_wp2_with fail
    refine (awake_any _).mono ?_
    rintro e w9 ⟨rfl, hg9⟩
    go_wp2_with fail
    go_ret
    exact ⟨rfl, hg9⟩
set_option maxHeartbeats 400000 in
theorem firsts_law (a : Int) (w : World) :
    Calls Try.prog 9 #[.int .i64 a] w fun e w' => e = .returned (.bool true) ∧ Grown w w' := by
  by_cases hf : 1125899906842624 < a ∨ a < -1125899906842624
  · exact firsts_far a w hf
  obtain ⟨y, m, i, h⟩ := Cal.date_exists (a / 1440)
  obtain ⟨y', m', i', h'⟩ := Cal.date_exists ((a + 1440) / 1440)
  have hn := h'
  rw [show (a + 1440) / 1440 = a / 1440 + 1 from by omega] at hn
  have hc := next_day h hn
  by_cases hy' : 0 ≤ y' ∧ y' ≤ 9999
  · by_cases hy : 0 ≤ y ∧ y ≤ 9999
    · have := h.m1
      rcases hc with hc | hc | hc
      · exact firsts_same a y m i y' m' i' w (by omega) (by omega) h h' hy hy' hc
      · exact firsts_month a y m i y' m' i' w (by omega) (by omega) h h' hy hy' hc
      · exact firsts_year a y m i y' m' i' w (by omega) (by omega) h h' hy hy' ⟨hc.1, hc.2.1, hc.2.2, this⟩
    · have z1 := str_size y' m' i' ((a + 1440) % 1440)
      clear hc
      go_enter Try.func9, Try.ntmps9
      go_wp2_with fail
      refine (text_any _ y' m' i' _ (by omega) (by omega) h' hy'.1 hy'.2).mono ?_
      rintro e w1 ⟨rfl, hg1⟩
      generalize strOfNums (txt y' m' i' ((a + 1440) % 1440)) = T at *
      go_wp2_with fail
      refine (text_none _ y m i _ (by omega) (by omega) h (by omega)).mono ?_
      rintro e w2 ⟨rfl, hg2⟩
      go_wp2_with fail
      refine (awake_any _).mono ?_
      rintro e w9 ⟨rfl, hg9⟩
      go_wp2_with fail
      go_ret
      exact ⟨rfl, gtrans hg1 (gtrans hg2 hg9)⟩
  · clear hc
    go_enter Try.func9, Try.ntmps9
    go_wp2_with fail
    refine (text_none _ y' m' i' _ (by omega) (by omega) h' (by omega)).mono ?_
    rintro e w1 ⟨rfl, hg1⟩
    go_wp2_with fail
    refine (awake_any _).mono ?_
    rintro e w9 ⟨rfl, hg9⟩
    go_wp2_with fail
    go_ret
    exact ⟨rfl, gtrans hg1 hg9⟩
end Go.Proofs.Ytcifjneckbonlaa
