/- The walks of Month, Year, begin and the document's date, Month, Year. -/
import Derived.Test.YtcifjneckbonlaaDates
namespace Go.Proofs.Ytcifjneckbonlaa
open Go.RowKit

theorem year_bd {d y m i : Int} (h : Cal.IsDate d y m i) (hd1 : -10000000000000000 ≤ d) (hd2 : d ≤ 10000000000000000) : -100000000000000 ≤ y ∧ y ≤ 100000000000000 := by
  have a := h.year
  unfold Cal.dby at a
  omega

theorem month_any (a y m i : Int) (w : World) (ha : -9223372036854775808 ≤ a) (ha2 : a ≤ 9223372036854775807) (h : Cal.IsDate (a / 1440) y m i) :
    Calls Try.prog 19 #[.int .i64 a] w fun e w' => e = .returned (.int .i64 ((y - 2000) * 12 + m)) ∧ Grown w w' := by
  have hb := year_bd h (by omega) (by omega)
  have m0 := h.m0; have m1 := h.m1
  go_enter Try.func19, Try.ntmps19
  go_wp2_with fail
  refine (day_any _ _ ha ha2).mono ?_
  rintro e w1 ⟨rfl, hg1⟩
  go_wp2_with fail
  refine (date_any _ y m i _ h (by omega) (by omega)).mono ?_
  rintro e w2 ⟨rfl, hg2⟩
  go_wp2_with fail
  go_ret
  exact ⟨rfl, gtrans hg1 hg2⟩
theorem year_any (a y m i : Int) (w : World) (ha : -9223372036854775808 ≤ a) (ha2 : a ≤ 9223372036854775807) (h : Cal.IsDate (a / 1440) y m i) :
    Calls Try.prog 21 #[.int .i64 a] w fun e w' => e = .returned (.int .i64 y) ∧ Grown w w' := by
  go_enter Try.func21, Try.ntmps21
  go_wp2_with fail
  refine (day_any _ _ ha ha2).mono ?_
  rintro e w1 ⟨rfl, hg1⟩
  go_wp2_with fail
  refine (date_any _ y m i _ h (by omega) (by omega)).mono ?_
  rintro e w2 ⟨rfl, hg2⟩
  go_wp2_with fail
  go_ret
  exact ⟨rfl, gtrans hg1 hg2⟩

theorem rd_step {d y m i Y M : Int} (h : Cal.IsDate d y m i) (hM0 : 1 ≤ M) (hM1 : M ≤ 12) (hn : Y < y ∨ (Y = y ∧ M < m + 1)) : Cal.mlen Y (M - 1) ≤ d - Cal.dby Y - Cal.cum Y (M - 1) := by
  have hs := Cal.cum_succ Y (M - 1) (by omega) (by omega)
  rw [show M - 1 + 1 = M from by omega] at hs
  rcases hn with a | ⟨rfl, b⟩
  · have h1 := Cal.cum_bd Y M (by omega) (by omega)
    have h2 := Cal.dby_succ Y
    have h3 := Cal.dby_mono (Y + 1) y (by omega)
    have h4 := h.year; omega
  · have h1 := Cal.cum_mono Y M m (by omega) (by omega) (by have := h.m1; omega)
    have h2 := h.eq; have h3 := h.i0; omega
theorem rd_next (d Y M : Int) (hM0 : 1 ≤ M) (hM1 : M ≤ 11) : d - Cal.dby Y - Cal.cum Y (M - 1) - Cal.mlen Y (M - 1) = d - Cal.dby Y - Cal.cum Y (M + 1 - 1) := by
  have hs := Cal.cum_succ Y (M - 1) (by omega) (by omega)
  rw [show M - 1 + 1 = M + 1 - 1 from by omega] at hs; omega
theorem rd_year (d Y : Int) : d - Cal.dby Y - Cal.cum Y 11 - Cal.mlen Y 11 = d - Cal.dby (Y + 1) - Cal.cum (Y + 1) (1 - 1) := by
  have hs := Cal.cum_succ Y 11 (by omega) (by omega)
  rw [show (11 : Int) + 1 = 12 from rfl, Cal.cum_12] at hs
  rw [show (1 : Int) - 1 = 0 from rfl, Cal.cum_0, Cal.dby_succ]; omega
set_option maxHeartbeats 1000000 in
theorem rdate_any (d y m i : Int) (w : World) (h : Cal.IsDate d y m i) (hd1 : -10000000000000000 ≤ d) (hd2 : d ≤ 10000000000000000) :
    Calls Try.prog 26 #[.int .i64 d] w fun e w' => e = .returned (.tuple #[.int .i64 y, .int .i64 (m + 1), .int .i64 (i + 1)]) ∧ w = w' := by
  have hr0 : 0 ≤ d % 146097 := Int.emod_nonneg _ (by omega)
  have hr1 : d % 146097 < 146097 := Int.emod_lt_of_pos _ (by omega)
  obtain ⟨hy0, hy1⟩ := base_year (base_date h) hr0 hr1
  have hq0 : -100000000000 ≤ d / 146097 := by omega
  have hq1 : d / 146097 ≤ 100000000000 := by omega
  have hb := year_bd h hd1 hd2
  have ht0 : Cal.dby (2000 + 400 * (d / 146097)) = 146097 * (d / 146097) := by rw [Cal.dby_400, Cal.dby_2000]; omega
  have hfit : 0 ≤ d - 146097 * (d / 146097) ∧ d - 146097 * (d / 146097) < 146097 := by omega
  have HT := Lib.hid ht0
  clear ht0
  have hst : 2000 + 400 * (d / 146097) ≤ y := by omega
  go_enter Try.func26, Try.ntmps26
  go_wp2_with (go_at_call 34; refine (floor_any _ _ _ (by omega) (by omega) (by omega)).mono ?_; rintro e w' ⟨rfl, rfl⟩)
  generalize d / 146097 = q at *
  go_loop [5, 6, 7] (fun t l u => ∃ Y M : Int, 2000 + 400 * q ≤ Y ∧ 1 ≤ M ∧ M ≤ 12 ∧ Y ≤ y ∧ (Y = y → M ≤ m + 1) ∧ t = .int .i64 Y ∧ l = .int .i64 (d - Cal.dby Y - Cal.cum Y (M - 1)) ∧ u = .int .i64 M) (fun t _ u => ((y - intOf t) * 12 + (12 - intOf u)).toNat)
  case atStart => exact ⟨2000 + 400 * q, 1, by omega, by omega, by omega, hst, fun _ => by have := h.m0; omega, rfl, by rw [HT.out, show (1 : Int) - 1 = 0 from rfl, Cal.cum_0]; go_num, rfl⟩
  case round =>
    obtain ⟨Y, M, hY0, hM0, hM1, hY1, hYM, rfl, rfl, rfl⟩ := hrel
    have hml := Cal.mlen_bd Y (M - 1)
    have hcb := Cal.cum_bd Y (M - 1) (by omega) (by omega)
    have hdb := Cal.dby_mono (2000 + 400 * q) Y hY0
    rw [HT.out] at hdb
    have hdy := Cal.dby_mono Y y hY1
    have hyr := h.year
    have hyl : Cal.ylen Y ≤ 366 := by have := Cal.lp_01 Y; unfold Cal.ylen; omega
    by_cases hn : Y < y ∨ (Y = y ∧ M < m + 1)
    · have hst := rd_step h hM0 hM1 hn
      by_cases h12 : M = 12
      · subst h12
        have hlt : Y < y := by have := h.m1; omega
        have HS := Lib.hid (rd_year d Y)
        clear hn hYM
        simp only [show (12 : Int) - 1 = 11 from rfl] at hst hml hcb ⊢
        go_wp2_with (go_at_call 32; refine (days_any _ _ _).mono ?_; rintro e w' ⟨rfl, rfl⟩)
        go_round
        case rel => exact ⟨Y + 1, 1, by omega, by omega, by omega, by omega, fun _ => by have := h.m0; omega, rfl, by rw [← HS.out], rfl⟩
        case measure => simp [intOf]; omega
      · have HS := Lib.hid (rd_next d Y M hM0 (by omega))
        have h13 : (M + 1 == 13) = false := by simp; omega
        have HN := Lib.hid hn
        clear hn
        go_wp2_with (go_at_call 32; refine (days_any _ _ _).mono ?_; rintro e w' ⟨rfl, rfl⟩)
        go_round
        case rel => exact ⟨Y, M + 1, by omega, by omega, by omega, by omega, fun _ => by have := HN.out; omega, rfl, by rw [← HS.out], rfl⟩
        case measure => simp [intOf]; omega
    · obtain rfl : y = Y := by omega
      have hM : M = m + 1 := by have := hYM rfl; omega
      have HE := Lib.hid (show d - Cal.dby y - Cal.cum y (M - 1) + 1 = i + 1 from by have := h.eq; rw [hM, show m + 1 - 1 = m from by omega]; omega)
      have hst : d - Cal.dby y - Cal.cum y (M - 1) < Cal.mlen y (M - 1) := by have := h.eq; have := h.i1; rw [hM, show m + 1 - 1 = m from by omega]; omega
      have HM := Lib.hid hM
      clear hn hYM hM
      go_wp2_with (go_at_call 32; refine (days_any _ _ _).mono ?_; rintro e w' ⟨rfl, rfl⟩)
      go_ret3
      exact ⟨ret_three rfl HM.out HE.out, rfl⟩
theorem rmonth_any (a y m i : Int) (w : World) (ha : -9223372036854775808 ≤ a) (ha2 : a ≤ 9223372036854775807) (h : Cal.IsDate (a / 1440) y m i) :
    Calls Try.prog 20 #[.int .i64 a] w fun e w' => e = .returned (.int .i64 ((y - 2000) * 12 + m)) ∧ w = w' := by
  have hb := year_bd h (by omega) (by omega)
  have m0 := h.m0; have m1 := h.m1
  go_enter Try.func20, Try.ntmps20
  go_wp2_with fail
  refine (rday_any _ _ ha ha2).mono ?_
  rintro e w1 ⟨rfl, rfl⟩
  go_wp2_with fail
  refine (rdate_any _ y m i _ h (by omega) (by omega)).mono ?_
  rintro e w2 ⟨rfl, rfl⟩
  go_wp2_with fail
  go_ret
  exact ⟨ret_int (by omega), rfl⟩
theorem ryear_any (a y m i : Int) (w : World) (ha : -9223372036854775808 ≤ a) (ha2 : a ≤ 9223372036854775807) (h : Cal.IsDate (a / 1440) y m i) :
    Calls Try.prog 22 #[.int .i64 a] w fun e w' => e = .returned (.int .i64 y) ∧ w = w' := by
  go_enter Try.func22, Try.ntmps22
  go_wp2_with fail
  refine (rday_any _ _ ha ha2).mono ?_
  rintro e w1 ⟨rfl, rfl⟩
  go_wp2_with fail
  refine (rdate_any _ y m i _ h (by omega) (by omega)).mono ?_
  rintro e w2 ⟨rfl, rfl⟩
  go_wp2_with fail
  go_ret
  exact ⟨rfl, rfl⟩

theorem begin_eq (y : Int) : (y - 2000) / 400 * 146097 + Cal.dby (2000 + (y - 2000) % 400) = Cal.dby y := by
  have := Cal.dby_400 (2000 + (y - 2000) % 400) ((y - 2000) / 400)
  rw [show 2000 + (y - 2000) % 400 + 400 * ((y - 2000) / 400) = y from by omega] at this; omega
theorem begin_any (y : Int) (w : World) (h0 : 0 ≤ y) (h1 : y ≤ 9999) :
    Calls Try.prog 29 #[.int .i64 y] w fun e w' => e = .returned (.int .i64 (Cal.dby y)) ∧ Grown w w' := by
  have HE := Lib.hid (begin_eq y)
  have hl0 : 0 ≤ (y - 2000) % 400 := Int.emod_nonneg _ (by omega)
  have hl1 : (y - 2000) % 400 < 400 := Int.emod_lt_of_pos _ (by omega)
  have hq0 : -5 ≤ (y - 2000) / 400 := by omega
  have hq1 : (y - 2000) / 400 ≤ 20 := by omega
  go_enter Try.func29, Try.ntmps29
  go_wp2_with fail
  refine (by_any _ _ _ (by omega) (by omega) (by omega) (by omega)).mono ?_
  rintro e w1 ⟨rfl, hg1⟩
  generalize (y - 2000) % 400 = l at *
  generalize (y - 2000) / 400 = q at *
  go_wp2_with fail
  go_loop [5, 6] (fun d t => ∃ Y : Int, 2000 ≤ Y ∧ Y ≤ 2000 + l ∧ t = .int .i64 Y ∧ d = .int .i64 (q * 146097 + Cal.dby Y)) (fun _ t => (2000 + l - intOf t).toNat)
  case atStart => exact ⟨2000, by omega, by omega, rfl, by rw [Cal.dby_2000]; simp⟩
  case round =>
    obtain ⟨Y, hY0, hY1, rfl, rfl⟩ := hrel
    have hdb := Cal.dby_mono 2000 Y hY0
    have he := Cal.dby_2000
    rw [he] at hdb
    have hd4 := Cal.dby_mono Y 2400 (by omega)
    have he4 := Cal.dby_2400
    rw [he4] at hd4
    have hl := Cal.lp_01 Y
    have hyl : 365 ≤ Cal.ylen Y ∧ Cal.ylen Y ≤ 366 := by unfold Cal.ylen; omega
    clear he he4
    by_cases hlt : Y < 2000 + l
    · have HS := Lib.hid (Cal.dby_succ Y)
      go_wp2_with (go_at_call 35; refine (yearDays_any _ _).mono ?_; rintro e w' ⟨rfl, rfl⟩)
      go_round
      case rel => exact ⟨Y + 1, by omega, by omega, rfl, by rw [HS.out]; go_num⟩
      case measure => simp [intOf]; omega
    · obtain rfl : Y = 2000 + l := by omega
      go_wp2_with fail
      go_ret
      exact ⟨ret_int HE.out, hg1⟩
end Go.Proofs.Ytcifjneckbonlaa
