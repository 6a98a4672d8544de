/- The walks of the laws DayCounts, DayWeeks, DayYears, DayTexts. -/
import Derived.Test.YtcifjneckbonlaaFields
namespace Go.Proofs.Ytcifjneckbonlaa
open Go.RowKit

set_option maxHeartbeats 400000 in
theorem counts_law (a : Int) (w : World) (ha : -9223372036854775808 ≤ a) (ha2 : a ≤ 9223372036854775807) :
    Calls Try.prog 6 #[.int .i64 a] w fun e w' => e = .returned (.bool true) ∧ Grown w w' := by
  obtain ⟨y, m, i, hd⟩ := Cal.date_exists (a / 1440)
  go_enter Try.func6, Try.ntmps6
  go_wp2_with fail
  refine (day_any _ _ ha ha2).mono ?_
  rintro e w1 ⟨rfl, hg1⟩
  go_wp2_with fail
  refine (rday_any _ _ ha ha2).mono ?_
  rintro e w2 ⟨rfl, rfl⟩
  go_wp2_with fail
  refine (week_any _ _ ha ha2).mono ?_
  rintro e w3 ⟨rfl, hg3⟩
  go_wp2_with fail
  refine (rweek_any _ _ ha ha2).mono ?_
  rintro e w4 ⟨rfl, rfl⟩
  go_wp2_with fail
  refine (month_any _ y m i _ ha ha2 hd).mono ?_
  rintro e w5 ⟨rfl, hg5⟩
  go_wp2_with fail
  refine (rmonth_any _ y m i _ ha ha2 hd).mono ?_
  rintro e w6 ⟨rfl, rfl⟩
  go_wp2_with fail
  refine (year_any _ y m i _ ha ha2 hd).mono ?_
  rintro e w7 ⟨rfl, hg7⟩
  go_wp2_with fail
  refine (ryear_any _ y m i _ ha ha2 hd).mono ?_
  rintro e w8 ⟨rfl, rfl⟩
  go_wp2_with fail
  refine (awake_any _).mono ?_
  rintro e w9 ⟨rfl, hg9⟩
  go_wp2_with fail
  go_ret
  exact ⟨rfl, gtrans hg1 (gtrans hg3 (gtrans hg5 (gtrans hg7 hg9)))⟩

set_option maxHeartbeats 400000 in
theorem years_far (a : Int) (w : World) (h : 1125899906842624 < a ∨ a < -1125899906842624) :
    Calls Try.prog 8 #[.int .i64 a] w fun e w' => e = .returned (.bool true) ∧ Grown w w' := by
  rcases h with h | h
  all_goals
    go_enter Try.func8, Try.ntmps8
    go_wp2_with fail
    refine (awake_any _).mono ?_
    rintro e w9 ⟨rfl, hg9⟩
    go_wp2_with fail
    go_ret
    exact ⟨rfl, hg9⟩
set_option maxHeartbeats 400000 in
theorem years_law (a : Int) (w : World) :
    Calls Try.prog 8 #[.int .i64 a] w fun e w' => e = .returned (.bool true) ∧ Grown w w' := by
  by_cases h : 1125899906842624 < a ∨ a < -1125899906842624
  · exact years_far a w h
  obtain ⟨y, m, i, hd⟩ := Cal.date_exists (a / 1440)
  have hd' : Cal.IsDate ((a + 210379680) / 1440) (y + 400) m i := by
    have := hd.shift 1
    rw [show (a + 210379680) / 1440 = a / 1440 + 146097 * 1 from by omega, show y + 400 = y + 400 * 1 from by omega]; exact this
  have hb := year_bd hd (by omega) (by omega)
  have m0 := hd.m0; have m1 := hd.m1
  have e1 : (y + 400 == y + 400) = true := by simp
  have e2 : ((y + 400 - 2000) * 12 + m == (y - 2000) * 12 + m + 4800) = true := by simp; omega
  go_enter Try.func8, Try.ntmps8
  go_wp2_with fail
  refine (year_any _ _ m i _ (by omega) (by omega) hd').mono ?_
  rintro e w1 ⟨rfl, hg1⟩
  go_wp2_with fail
  refine (year_any _ y m i _ (by omega) (by omega) hd).mono ?_
  rintro e w2 ⟨rfl, hg2⟩
  go_wp2_with fail
  refine (month_any _ _ m i _ (by omega) (by omega) hd').mono ?_
  rintro e w3 ⟨rfl, hg3⟩
  go_wp2_with fail
  refine (month_any _ y m i _ (by omega) (by omega) hd).mono ?_
  rintro e w4 ⟨rfl, hg4⟩
  go_wp2_with fail
  refine (awake_any _).mono ?_
  rintro e w9 ⟨rfl, hg9⟩
  go_wp2_with fail
  go_ret
  exact ⟨rfl, gtrans hg1 (gtrans hg2 (gtrans hg3 (gtrans hg4 hg9)))⟩

set_option maxHeartbeats 400000 in
theorem weeks_far (a : Int) (w : World) (h : 1125899906842624 < a ∨ a < -1125899906842624) :
    Calls Try.prog 5 #[.int .i64 a] w fun e w' => e = .returned (.bool true) ∧ Grown w w' := by
  rcases h with h | h
  all_goals
    go_enter Try.func5, Try.ntmps5
    go_wp2_with fail
    refine (awake_any _).mono ?_
    rintro e w9 ⟨rfl, hg9⟩
    go_wp2_with fail
    go_ret
    exact ⟨rfl, hg9⟩
set_option maxHeartbeats 400000 in
theorem weeks_law (a : Int) (w : World) :
    Calls Try.prog 5 #[.int .i64 a] w fun e w' => e = .returned (.bool true) ∧ Grown w w' := by
  by_cases h : 1125899906842624 < a ∨ a < -1125899906842624
  · exact weeks_far a w h
  have e1 : (((a + 10080) / 1440 + 5) / 7 == (a / 1440 + 5) / 7 + 1) = true := by simp; omega
  have e2 : ((a + 10080) / 1440 == a / 1440 + 7) = true := by simp; omega
  by_cases hs : (a + 1) / 1440 = a / 1440
  · have e3 : ((a + 1) / 1440 == a / 1440) = true := by simpa using hs
    have e4 : (((a + 1) / 1440 + 5) / 7 == (a / 1440 + 5) / 7) = true := by rw [hs]; simp
    clear hs
    go_enter Try.func5, Try.ntmps5
    go_wp2_with fail
    refine (day_any _ _ (by omega) (by omega)).mono ?_
    rintro e w1 ⟨rfl, hg1⟩
    go_wp2_with fail
    refine (day_any _ _ (by omega) (by omega)).mono ?_
    rintro e w2 ⟨rfl, hg2⟩
    go_wp2_with fail
    refine (week_any _ _ (by omega) (by omega)).mono ?_
    rintro e w3 ⟨rfl, hg3⟩
    go_wp2_with fail
    refine (week_any _ _ (by omega) (by omega)).mono ?_
    rintro e w4 ⟨rfl, hg4⟩
    go_wp2_with fail
    refine (day_any _ _ (by omega) (by omega)).mono ?_
    rintro e w5 ⟨rfl, hg5⟩
    go_wp2_with fail
    refine (day_any _ _ (by omega) (by omega)).mono ?_
    rintro e w6 ⟨rfl, hg6⟩
    go_wp2_with fail
    refine (week_any _ _ (by omega) (by omega)).mono ?_
    rintro e w7 ⟨rfl, hg7⟩
    go_wp2_with fail
    refine (week_any _ _ (by omega) (by omega)).mono ?_
    rintro e w8 ⟨rfl, hg8⟩
    go_wp2_with fail
    refine (awake_any _).mono ?_
    rintro e w9 ⟨rfl, hg9⟩
    go_wp2_with fail
    go_ret
    exact ⟨rfl, gtrans hg1 (gtrans hg2 (gtrans hg3 (gtrans hg4 (gtrans hg5 (gtrans hg6 (gtrans hg7 (gtrans hg8 hg9)))))))⟩
  · have e3 : ((a + 1) / 1440 == a / 1440) = false := by simpa using hs
    clear hs
    go_enter Try.func5, Try.ntmps5
    go_wp2_with fail
    refine (day_any _ _ (by omega) (by omega)).mono ?_
    rintro e w1 ⟨rfl, hg1⟩
    go_wp2_with fail
    refine (day_any _ _ (by omega) (by omega)).mono ?_
    rintro e w2 ⟨rfl, hg2⟩
    go_wp2_with fail
    refine (week_any _ _ (by omega) (by omega)).mono ?_
    rintro e w3 ⟨rfl, hg3⟩
    go_wp2_with fail
    refine (week_any _ _ (by omega) (by omega)).mono ?_
    rintro e w4 ⟨rfl, hg4⟩
    go_wp2_with fail
    refine (day_any _ _ (by omega) (by omega)).mono ?_
    rintro e w5 ⟨rfl, hg5⟩
    go_wp2_with fail
    refine (day_any _ _ (by omega) (by omega)).mono ?_
    rintro e w6 ⟨rfl, hg6⟩
    go_wp2_with fail
    refine (awake_any _).mono ?_
    rintro e w9 ⟨rfl, hg9⟩
    go_wp2_with fail
    go_ret
    exact ⟨rfl, gtrans hg1 (gtrans hg2 (gtrans hg3 (gtrans hg4 (gtrans hg5 (gtrans hg6 hg9)))))⟩
end Go.Proofs.Ytcifjneckbonlaa
