/- The walks of the small functions: leap, yearDays, floor, by, days, lengths: what each returns, for numbers of whatever size (floor, by: a divisor from 2 on). -/
import Derived.Test.YtcifjneckbonlaaRows
import Derived.Test.YtcifjneckbonlaaCal
import Derived.WalkKit
import Derived.WalkSpells
import Derived.WalkLawsBesides
import Derived.RegionTactic
import Derived.ChangeAlike
import Derived.Lib.Hide
import Derived.RowKit3
import Derived.IntWalk
import Derived.Deep.QuietTactic
import Derived.BigQuiet
namespace Go.Proofs.Ytcifjneckbonlaa
open Go.RowKit

theorem gtrans {a b c : World} (h1 : Grown a b) (h2 : Grown b c) : Grown a c :=
  ⟨World.keptBut_trans h1.1 h2.1, fun x => (h2.2.1 x).trans (h1.2.1 x), Nat.le_trans h1.2.2 h2.2.2⟩
theorem ret_int {k : IntKind} {a b : Int} (h : a = b) : Ending.returned (.int k a) = .returned (.int k b) := by rw [h]
theorem ret_bool {a b : Bool} (h : a = b) : Ending.returned (.bool a) = .returned (.bool b) := by rw [h]

theorem lp_yes (y : Int) (h1 : y % 4 = 0) (h2 : y % 100 ≠ 0) : Cal.leapB y = true := by
  unfold Cal.leapB Cal.lp; rw [if_pos ⟨h1, Or.inl h2⟩]; rfl
theorem lp_cent (y : Int) (h1 : y % 4 = 0) (h2 : y % 400 = 0) : Cal.leapB y = true := by
  unfold Cal.leapB Cal.lp; rw [if_pos ⟨h1, Or.inr h2⟩]; rfl
theorem lp_no (y : Int) (h1 : y % 4 ≠ 0) : Cal.leapB y = false := by
  unfold Cal.leapB Cal.lp; rw [if_neg (by omega)]; rfl
theorem lp_no2 (y : Int) (h1 : y % 100 = 0) (h2 : y % 400 ≠ 0) : Cal.leapB y = false := by
  unfold Cal.leapB Cal.lp; rw [if_neg (by omega)]; rfl

theorem tmod_zero (y k : Int) : (y.tmod k = 0) ↔ (y % k = 0) := by
  rw [← Int.dvd_iff_tmod_eq_zero, Int.dvd_iff_emod_eq_zero]

set_option maxHeartbeats 400000 in
theorem leap_any (y : Int) (w : World) :
    Calls Try.prog 36 #[.int .i64 y] w fun e w' => e = .returned (.bool (Cal.leapB y)) ∧ w = w' := by
  by_cases h4 : y % 4 = 0
  · have t4 : (y.tmod 4 == 0) = true := by rw [beq_iff_eq]; exact (tmod_zero _ _).2 h4
    by_cases h100 : y % 100 = 0
    · have t100 : (y.tmod 100 != 0) = false := by simp [(tmod_zero y 100).2 h100]
      by_cases h400 : y % 400 = 0
      · have t400 : (y.tmod 400 == 0) = true := by rw [beq_iff_eq]; exact (tmod_zero _ _).2 h400
        rw [lp_cent y h4 h400]
        clear h4 h100 h400
        go_enter Try.func36, Try.ntmps36
        go_wp2
        go_ret
        exact ⟨rfl, rfl⟩
      · have t400 : (y.tmod 400 == 0) = false := by rw [beq_eq_false_iff_ne]; exact fun h => h400 ((tmod_zero _ _).1 h)
        rw [lp_no2 y h100 h400]
        clear h4 h100 h400
        go_enter Try.func36, Try.ntmps36
        go_wp2
        go_ret
        exact ⟨rfl, rfl⟩
    · have t100 : (y.tmod 100 != 0) = true := by rw [bne_iff_ne]; exact fun h => h100 ((tmod_zero _ _).1 h)
      rw [lp_yes y h4 h100]
      clear h4 h100
      go_enter Try.func36, Try.ntmps36
      go_wp2
      go_ret
      exact ⟨rfl, rfl⟩
  · have t4 : (y.tmod 4 == 0) = false := by rw [beq_eq_false_iff_ne]; exact fun h => h4 ((tmod_zero _ _).1 h)
    rw [lp_no y h4]
    clear h4
    go_enter Try.func36, Try.ntmps36
    go_wp2
    go_ret
    exact ⟨rfl, rfl⟩
set_option maxHeartbeats 400000 in
theorem rleap_any (y : Int) (w : World) :
    Calls Try.prog 33 #[.int .i64 y] w fun e w' => e = .returned (.bool (Cal.leapB y)) ∧ w = w' := by
  by_cases h4 : y % 4 = 0
  · have t4 : (y.tmod 4 == 0) = true := by rw [beq_iff_eq]; exact (tmod_zero _ _).2 h4
    by_cases h100 : y % 100 = 0
    · have t100 : (y.tmod 100 != 0) = false := by simp [(tmod_zero y 100).2 h100]
      by_cases h400 : y % 400 = 0
      · have t400 : (y.tmod 400 == 0) = true := by rw [beq_iff_eq]; exact (tmod_zero _ _).2 h400
        rw [lp_cent y h4 h400]
        clear h4 h100 h400
        go_enter Try.func33, Try.ntmps33
        go_wp2
        go_ret
        exact ⟨rfl, rfl⟩
      · have t400 : (y.tmod 400 == 0) = false := by rw [beq_eq_false_iff_ne]; exact fun h => h400 ((tmod_zero _ _).1 h)
        rw [lp_no2 y h100 h400]
        clear h4 h100 h400
        go_enter Try.func33, Try.ntmps33
        go_wp2
        go_ret
        exact ⟨rfl, rfl⟩
    · have t100 : (y.tmod 100 != 0) = true := by rw [bne_iff_ne]; exact fun h => h100 ((tmod_zero _ _).1 h)
      rw [lp_yes y h4 h100]
      clear h4 h100
      go_enter Try.func33, Try.ntmps33
      go_wp2
      go_ret
      exact ⟨rfl, rfl⟩
  · have t4 : (y.tmod 4 == 0) = false := by rw [beq_eq_false_iff_ne]; exact fun h => h4 ((tmod_zero _ _).1 h)
    rw [lp_no y h4]
    clear h4
    go_enter Try.func33, Try.ntmps33
    go_wp2
    go_ret
    exact ⟨rfl, rfl⟩

theorem ylen_yes (y : Int) (h : Cal.leapB y = true) : Cal.ylen y = 366 := by
  unfold Cal.leapB at h; simp at h; unfold Cal.ylen; omega
theorem ylen_no (y : Int) (h : Cal.leapB y = false) : Cal.ylen y = 365 := by
  unfold Cal.leapB at h; simp at h; have := Cal.lp_01 y; unfold Cal.ylen; omega
theorem lp_of_yes (y : Int) (h : Cal.leapB y = true) : Cal.lp y = 1 := by
  unfold Cal.leapB at h; simp at h; exact h
theorem lp_of_no (y : Int) (h : Cal.leapB y = false) : Cal.lp y = 0 := by
  unfold Cal.leapB at h; simp at h; have := Cal.lp_01 y; omega

theorem yearDays_any (y : Int) (w : World) :
    Calls Try.prog 35 #[.int .i64 y] w fun e w' => e = .returned (.int .i64 (Cal.ylen y)) ∧ w = w' := by
  cases hb : Cal.leapB y
  · rw [ylen_no y hb]
    have H := Lib.hid hb; clear hb
    go_enter Try.func35, Try.ntmps35
    go_wp2_with (go_at_call 36; refine (leap_any _ _).mono ?_; rintro e w' ⟨rfl, rfl⟩; rw [H.out])
    go_ret
    exact ⟨rfl, rfl⟩
  · rw [ylen_yes y hb]
    have H := Lib.hid hb; clear hb
    go_enter Try.func35, Try.ntmps35
    go_wp2_with (go_at_call 36; refine (leap_any _ _).mono ?_; rintro e w' ⟨rfl, rfl⟩; rw [H.out])
    go_ret
    exact ⟨rfl, rfl⟩

/-- the document's days of a month from 1 on -/
theorem days_any (y m : Int) (w : World) :
    Calls Try.prog 32 #[.int .i64 y, .int .i64 m] w fun e w' => e = .returned (.int .i64 (Cal.mlen y (m - 1))) ∧ w = w' := by
  by_cases h2 : m = 2
  · subst h2
    cases hb : Cal.leapB y
    · rw [show Cal.mlen y (2 - 1) = 28 from by simp [Cal.mlen, lp_of_no y hb]]
      have H := Lib.hid hb; clear hb
      go_enter Try.func32, Try.ntmps32
      go_wp2_with (go_at_call 33; refine (rleap_any _ _).mono ?_; rintro e w' ⟨rfl, rfl⟩; rw [H.out])
      go_ret
      exact ⟨rfl, rfl⟩
    · rw [show Cal.mlen y (2 - 1) = 29 from by simp [Cal.mlen, lp_of_yes y hb]]
      have H := Lib.hid hb; clear hb
      go_enter Try.func32, Try.ntmps32
      go_wp2_with (go_at_call 33; refine (rleap_any _ _).mono ?_; rintro e w' ⟨rfl, rfl⟩; rw [H.out])
      go_ret
      exact ⟨rfl, rfl⟩
  · have e2 : (m == 2) = false := by simpa using h2
    by_cases h4 : m = 4
    · subst h4
      rw [show Cal.mlen y (4 - 1) = 30 from by simp [Cal.mlen]]
      go_enter Try.func32, Try.ntmps32
      go_wp2_with fail
      go_ret
      exact ⟨rfl, rfl⟩
    · have e4 : (m == 4) = false := by simpa using h4
      by_cases h6 : m = 6
      · subst h6
        rw [show Cal.mlen y (6 - 1) = 30 from by simp [Cal.mlen]]
        go_enter Try.func32, Try.ntmps32
        go_wp2_with fail
        go_ret
        exact ⟨rfl, rfl⟩
      · have e6 : (m == 6) = false := by simpa using h6
        by_cases h9 : m = 9
        · subst h9
          rw [show Cal.mlen y (9 - 1) = 30 from by simp [Cal.mlen]]
          go_enter Try.func32, Try.ntmps32
          go_wp2_with fail
          go_ret
          exact ⟨rfl, rfl⟩
        · have e9 : (m == 9) = false := by simpa using h9
          by_cases h11 : m = 11
          · subst h11
            rw [show Cal.mlen y (11 - 1) = 30 from by simp [Cal.mlen]]
            go_enter Try.func32, Try.ntmps32
            go_wp2_with fail
            go_ret
            exact ⟨rfl, rfl⟩
          · have e11 : (m == 11) = false := by simpa using h11
            rw [show Cal.mlen y (m - 1) = 31 from by unfold Cal.mlen; rw [if_neg (by omega), if_neg (by omega)]]
            clear h2 h4 h6 h9 h11
            go_enter Try.func32, Try.ntmps32
            go_wp2_with fail
            go_ret
            exact ⟨rfl, rfl⟩

theorem ediv_of (a b : Int) (hb : 2 ≤ b) (h : a.tmod b < 0) : a / b = a.tdiv b - 1 := by
  have h1 := Int.mul_tdiv_add_tmod a b
  have h2 := Int.tmod_lt_of_pos a (show 0 < b by omega)
  have h3 : -b < a.tmod b := Int.lt_tmod_of_pos a (show 0 < b by omega)
  have : a = (a.tdiv b - 1) * b + (a.tmod b + b) := by rw [Int.sub_mul, Int.mul_comm (a.tdiv b) b]; omega
  have hd : a / b = ((a.tdiv b - 1) * b + (a.tmod b + b)) / b := by rw [← this]
  rw [hd, Int.add_comm, Int.add_mul_ediv_right _ _ (by omega), Int.ediv_eq_zero_of_lt (by omega) (by omega)]; omega
theorem ediv_of' (a b : Int) (hb : 2 ≤ b) (h : 0 ≤ a.tmod b) : a / b = a.tdiv b := by
  have h1 := Int.mul_tdiv_add_tmod a b
  have h2 := Int.tmod_lt_of_pos a (show 0 < b by omega)
  have : a = a.tdiv b * b + a.tmod b := by rw [Int.mul_comm]; omega
  have hd : a / b = (a.tdiv b * b + a.tmod b) / b := by rw [← this]
  rw [hd, Int.add_comm, Int.add_mul_ediv_right _ _ (by omega), Int.ediv_eq_zero_of_lt h h2]; omega

theorem ediv_lo (a b : Int) (hb : 2 ≤ b) (ha : -9223372036854775808 ≤ a) : -9223372036854775808 ≤ a / b :=
  Int.le_ediv_of_mul_le (by omega) (by omega)
theorem tdiv_hi (a b : Int) (hb : 2 ≤ b) (h : a.tmod b < 0) : a.tdiv b ≤ 9223372036854775807 := by
  have h1 := ediv_of a b hb h
  have h2 : a < 0 := by
    rcases Int.lt_or_le a 0 with c | c
    · exact c
    · have := Int.tmod_nonneg b c; omega
  have h3 := Int.ediv_neg_of_neg_of_pos h2 (show 0 < b by omega)
  omega
theorem emod_of (a b : Int) (hb : 2 ≤ b) (h : a.tmod b < 0) : a % b = a.tmod b + b := by
  have h1 := Int.mul_tdiv_add_tmod a b
  have h2 := Int.emod_add_mul_ediv a b
  have h3 := ediv_of a b hb h
  rw [h3, Int.mul_sub] at h2; omega
theorem emod_of' (a b : Int) (hb : 2 ≤ b) (h : 0 ≤ a.tmod b) : a % b = a.tmod b := by
  have h1 := Int.mul_tdiv_add_tmod a b
  have h2 := Int.emod_add_mul_ediv a b
  have h3 := ediv_of' a b hb h
  rw [h3] at h2; omega

theorem floor_any (a b : Int) (w : World) (hb : 2 ≤ b) (ha : -9223372036854775808 ≤ a) (ha2 : a ≤ 9223372036854775807) :
    Calls Try.prog 34 #[.int .i64 a, .int .i64 b] w fun e w' => e = .returned (.int .i64 (a / b)) ∧ w = w' := by
  by_cases hr : a.tmod b < 0
  · have lo := ediv_lo a b hb ha
    have hi : a.tdiv b ≤ 9223372036854775807 := tdiv_hi a b hb hr
    rw [ediv_of a b hb hr] at lo ⊢
    go_enter Try.func34, Try.ntmps34
    go_wp2_with fail
    go_ret
    exact ⟨rfl, rfl⟩
  · rw [ediv_of' a b hb (by omega)]
    go_enter Try.func34, Try.ntmps34
    go_wp2_with fail
    go_ret
    exact ⟨rfl, rfl⟩

theorem by_any (a b : Int) (w : World) (hb : 2 ≤ b) (hb2 : b ≤ 1000000) (ha : -9223372036854775808 ≤ a) (ha2 : a ≤ 9223372036854775807) :
    Calls Try.prog 23 #[.int .i64 a, .int .i64 b] w fun e w' => e = .returned (.tuple #[.int .i64 (a / b), .int .i64 (a % b)]) ∧ Grown w w' := by
  have m1 := Int.tmod_lt_of_pos a (show 0 < b by omega)
  have m2 := Int.lt_tmod_of_pos a (show 0 < b by omega)
  by_cases hr : a.tmod b < 0
  · have lo := ediv_lo a b hb ha
    have hi : a.tdiv b ≤ 9223372036854775807 := tdiv_hi a b hb hr
    rw [ediv_of a b hb hr] at lo ⊢
    rw [emod_of a b hb hr]
    go_enter Try.func23, Try.ntmps23
    go_wp2_with fail
    go_quiet (fail)
    go_wp2_with fail
    go_ret2
    exact ⟨rfl, Grown.refl _⟩
  · rw [ediv_of' a b hb (by omega), emod_of' a b hb (by omega)]
    go_enter Try.func23, Try.ntmps23
    go_wp2_with fail
    go_quiet (fail)
    go_wp2_with fail
    go_ret2
    exact ⟨rfl, Grown.refl _⟩
end Go.Proofs.Ytcifjneckbonlaa
