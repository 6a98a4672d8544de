/- The walks of lengths, Day, Week, date, begin and the document's date. -/
import Derived.Test.YtcifjneckbonlaaSmall
namespace Go.Proofs.Ytcifjneckbonlaa
open Go.RowKit

def lens (y : Int) : Value := .agg #[.int .i64 31, .int .i64 (28 + Cal.lp y), .int .i64 31, .int .i64 30, .int .i64 31, .int .i64 30, .int .i64 31, .int .i64 31, .int .i64 30, .int .i64 31, .int .i64 30, .int .i64 31]
theorem lens_no (y : Int) (h : Cal.leapB y = false) : lens y = .agg #[.int .i64 31, .int .i64 28, .int .i64 31, .int .i64 30, .int .i64 31, .int .i64 30, .int .i64 31, .int .i64 31, .int .i64 30, .int .i64 31, .int .i64 30, .int .i64 31] := by
  unfold lens; rw [lp_of_no y h]; rfl
theorem lens_yes (y : Int) (h : Cal.leapB y = true) : lens y = .agg #[.int .i64 31, .int .i64 29, .int .i64 31, .int .i64 30, .int .i64 31, .int .i64 30, .int .i64 31, .int .i64 31, .int .i64 30, .int .i64 31, .int .i64 30, .int .i64 31] := by
  unfold lens; rw [lp_of_yes y h]; rfl

set_option maxHeartbeats 400000 in
theorem lengths_any (y : Int) (w : World) :
    Calls Try.prog 30 #[.int .i64 y] w fun e w' => e = .returned (lens y) ∧ Grown w w' := by
  cases hb : Cal.leapB y
  · rw [lens_no y hb]
    have H := Lib.hid hb; clear hb
    go_enter Try.func30, Try.ntmps30
    go_wp2_with (go_at_call 36; refine (leap_any _ _).mono ?_; rintro e w' ⟨rfl, rfl⟩; rw [H.out])
    exact bodyPost_ret (v := .agg #[.int .i64 31, .int .i64 28, .int .i64 31, .int .i64 30, .int .i64 31, .int .i64 30, .int .i64 31, .int .i64 31, .int .i64 30, .int .i64 31, .int .i64 30, .int .i64 31]) (by simp [results, Try.results30, go_sem]) rfl ⟨rfl, by repeat (first | exact Grown.refl _ | apply Grown.drew | apply Grown.alloc | (refine Grown.setCell ?_ (by simp) _))⟩
  · rw [lens_yes y hb]
    have H := Lib.hid hb; clear hb
    go_enter Try.func30, Try.ntmps30
    go_wp2_with (go_at_call 36; refine (leap_any _ _).mono ?_; rintro e w' ⟨rfl, rfl⟩; rw [H.out])
    exact bodyPost_ret (v := .agg #[.int .i64 31, .int .i64 29, .int .i64 31, .int .i64 30, .int .i64 31, .int .i64 30, .int .i64 31, .int .i64 31, .int .i64 30, .int .i64 31, .int .i64 30, .int .i64 31]) (by simp [results, Try.results30, go_sem]) rfl ⟨rfl, by repeat (first | exact Grown.refl _ | apply Grown.drew | apply Grown.alloc | (refine Grown.setCell ?_ (by simp) _))⟩
theorem day_any (a : Int) (w : World) (ha : -9223372036854775808 ≤ a) (ha2 : a ≤ 9223372036854775807) :
    Calls Try.prog 15 #[.int .i64 a] w fun e w' => e = .returned (.int .i64 (a / 1440)) ∧ Grown w w' := by
  go_enter Try.func15, Try.ntmps15
  go_wp2_with (go_at_call 23; refine (by_any _ _ _ (by omega) (by omega) (by omega) (by omega)).mono ?_; rintro e w' ⟨rfl, hg⟩)
  go_ret
  exact ⟨rfl, hg⟩
theorem rday_any (a : Int) (w : World) (ha : -9223372036854775808 ≤ a) (ha2 : a ≤ 9223372036854775807) :
    Calls Try.prog 17 #[.int .i64 a] w fun e w' => e = .returned (.int .i64 (a / 1440)) ∧ w = w' := by
  go_enter Try.func17, Try.ntmps17
  go_wp2_with (go_at_call 34; refine (floor_any _ _ _ (by omega) (by omega) (by omega)).mono ?_; rintro e w' ⟨rfl, rfl⟩)
  go_ret
  exact ⟨rfl, rfl⟩
theorem week_any (a : Int) (w : World) (ha : -9223372036854775808 ≤ a) (ha2 : a ≤ 9223372036854775807) :
    Calls Try.prog 16 #[.int .i64 a] w fun e w' => e = .returned (.int .i64 ((a / 1440 + 5) / 7)) ∧ Grown w w' := by
  have h1 : -9223372036854775800 ≤ a / 1440 := by omega
  have h2 : a / 1440 ≤ 9223372036854775800 := by omega
  go_enter Try.func16, Try.ntmps16
  go_wp2_with fail
  refine (day_any _ _ ha ha2).mono ?_
  rintro e w1 ⟨rfl, hg1⟩
  go_wp2_with fail
  refine (by_any _ _ _ (by omega) (by omega) (by omega) (by omega)).mono ?_
  rintro e w2 ⟨rfl, hg2⟩
  go_wp2_with fail
  go_ret
  exact ⟨rfl, gtrans hg1 hg2⟩
theorem rweek_any (a : Int) (w : World) (ha : -9223372036854775808 ≤ a) (ha2 : a ≤ 9223372036854775807) :
    Calls Try.prog 18 #[.int .i64 a] w fun e w' => e = .returned (.int .i64 ((a / 1440 + 5) / 7)) ∧ w = w' := by
  have h1 : -9223372036854775800 ≤ a / 1440 := by omega
  have h2 : a / 1440 ≤ 9223372036854775800 := by omega
  go_enter Try.func18, Try.ntmps18
  go_wp2_with fail
  refine (rday_any _ _ ha ha2).mono ?_
  rintro e w1 ⟨rfl, rfl⟩
  go_wp2_with fail
  refine (floor_any _ _ _ (by omega) (by omega) (by omega)).mono ?_
  rintro e w2 ⟨rfl, rfl⟩
  go_wp2_with fail
  go_ret
  exact ⟨rfl, rfl⟩

theorem idx0 (y : Int) (w : World) : (Instr.index 35 (lens y) (.int .i64 ((0 : Nat) : Int))).run Try.prog w = .ok (.int .i64 (Cal.mlen y ((0 : Nat) : Int))) w := by kernel_rfl
theorem idx1 (y : Int) (w : World) : (Instr.index 35 (lens y) (.int .i64 ((1 : Nat) : Int))).run Try.prog w = .ok (.int .i64 (Cal.mlen y ((1 : Nat) : Int))) w := by kernel_rfl
theorem idx2 (y : Int) (w : World) : (Instr.index 35 (lens y) (.int .i64 ((2 : Nat) : Int))).run Try.prog w = .ok (.int .i64 (Cal.mlen y ((2 : Nat) : Int))) w := by kernel_rfl
theorem idx3 (y : Int) (w : World) : (Instr.index 35 (lens y) (.int .i64 ((3 : Nat) : Int))).run Try.prog w = .ok (.int .i64 (Cal.mlen y ((3 : Nat) : Int))) w := by kernel_rfl
theorem idx4 (y : Int) (w : World) : (Instr.index 35 (lens y) (.int .i64 ((4 : Nat) : Int))).run Try.prog w = .ok (.int .i64 (Cal.mlen y ((4 : Nat) : Int))) w := by kernel_rfl
theorem idx5 (y : Int) (w : World) : (Instr.index 35 (lens y) (.int .i64 ((5 : Nat) : Int))).run Try.prog w = .ok (.int .i64 (Cal.mlen y ((5 : Nat) : Int))) w := by kernel_rfl
theorem idx6 (y : Int) (w : World) : (Instr.index 35 (lens y) (.int .i64 ((6 : Nat) : Int))).run Try.prog w = .ok (.int .i64 (Cal.mlen y ((6 : Nat) : Int))) w := by kernel_rfl
theorem idx7 (y : Int) (w : World) : (Instr.index 35 (lens y) (.int .i64 ((7 : Nat) : Int))).run Try.prog w = .ok (.int .i64 (Cal.mlen y ((7 : Nat) : Int))) w := by kernel_rfl
theorem idx8 (y : Int) (w : World) : (Instr.index 35 (lens y) (.int .i64 ((8 : Nat) : Int))).run Try.prog w = .ok (.int .i64 (Cal.mlen y ((8 : Nat) : Int))) w := by kernel_rfl
theorem idx9 (y : Int) (w : World) : (Instr.index 35 (lens y) (.int .i64 ((9 : Nat) : Int))).run Try.prog w = .ok (.int .i64 (Cal.mlen y ((9 : Nat) : Int))) w := by kernel_rfl
theorem idx10 (y : Int) (w : World) : (Instr.index 35 (lens y) (.int .i64 ((10 : Nat) : Int))).run Try.prog w = .ok (.int .i64 (Cal.mlen y ((10 : Nat) : Int))) w := by kernel_rfl
theorem idx11 (y : Int) (w : World) : (Instr.index 35 (lens y) (.int .i64 ((11 : Nat) : Int))).run Try.prog w = .ok (.int .i64 (Cal.mlen y ((11 : Nat) : Int))) w := by kernel_rfl
theorem idx (y : Int) (k : Nat) (hk : k < 12) (w : World) : (Instr.index 35 (lens y) (.int .i64 (k : Int))).run Try.prog w = .ok (.int .i64 (Cal.mlen y k)) w := by
  have h : k = 0 ∨ k = 1 ∨ k = 2 ∨ k = 3 ∨ k = 4 ∨ k = 5 ∨ k = 6 ∨ k = 7 ∨ k = 8 ∨ k = 9 ∨ k = 10 ∨ k = 11 := by omega
  rcases h with rfl | rfl | rfl | rfl | rfl | rfl | rfl | rfl | rfl | rfl | rfl | rfl
  · exact idx0 y w
  · exact idx1 y w
  · exact idx2 y w
  · exact idx3 y w
  · exact idx4 y w
  · exact idx5 y w
  · exact idx6 y w
  · exact idx7 y w
  · exact idx8 y w
  · exact idx9 y w
  · exact idx10 y w
  · exact idx11 y w

theorem ret_three {a b c a' b' c' : Int} (h1 : a = a') (h2 : b = b') (h3 : c = c') : Ending.returned (.tuple #[.int .i64 a, .int .i64 b, .int .i64 c]) = .returned (.tuple #[.int .i64 a', .int .i64 b', .int .i64 c']) := by rw [h1, h2, h3]
theorem base_date {d y m i : Int} (h : Cal.IsDate d y m i) : Cal.IsDate (d % 146097) (y - 400 * (d / 146097)) m i := by
  have := h.shift (-(d / 146097))
  rw [show d + 146097 * -(d / 146097) = d % 146097 from by omega, show y + 400 * -(d / 146097) = y - 400 * (d / 146097) from by omega] at this
  exact this
theorem base_year {d y m i : Int} (h : Cal.IsDate d y m i) (h0 : 0 ≤ d) (h1 : d < 146097) : 2000 ≤ y ∧ y ≤ 2399 := by
  have a := h.year
  have e0 := Cal.dby_2000; have e4 := Cal.dby_2400
  constructor
  · rcases Int.lt_or_le y 2000 with c | c
    · have := Cal.dby_mono (y + 1) 2000 (by omega); omega
    · exact c
  · rcases Int.lt_or_le 2399 y with c | c
    · have := Cal.dby_mono 2400 y (by omega); omega
    · omega

set_option maxHeartbeats 400000 in
theorem date_any (d y m i : Int) (w : World) (h : Cal.IsDate d y m i) (hd1 : -10000000000000000 ≤ d) (hd2 : d ≤ 10000000000000000) :
    Calls Try.prog 24 #[.int .i64 d] w fun e w' => e = .returned (.tuple #[.int .i64 y, .int .i64 m, .int .i64 i]) ∧ Grown w w' := by
  have hb := base_date h
  have hr0 : 0 ≤ d % 146097 := Int.emod_nonneg _ (by omega)
  have hr1 : d % 146097 < 146097 := Int.emod_lt_of_pos _ (by omega)
  obtain ⟨hy0, hy1⟩ := base_year hb hr0 hr1
  have hq0 : -10000000000000000 ≤ d / 146097 := by omega
  have hq1 : d / 146097 ≤ 10000000000000000 := by omega
  have HY := Lib.hid (show y - 400 * (d / 146097) + d / 146097 * 400 = y from by omega)
  generalize hyy : y - 400 * (d / 146097) = yy at *
  clear hyy h
  have hyr := hb.year
  go_enter Try.func24, Try.ntmps24
  go_wp2_with fail
  refine (by_any _ _ _ (by omega) (by omega) (by omega) (by omega)).mono ?_
  rintro e w1 ⟨rfl, hg1⟩
  generalize d % 146097 = r at *
  generalize d / 146097 = q at *
  go_wp2_with fail
  go_loop [6, 7] (fun l t => ∃ Y : Int, 2000 ≤ Y ∧ Y ≤ yy ∧ t = .int .i64 Y ∧ l = .int .i64 (r - Cal.dby Y)) (fun _ t => (yy - intOf t).toNat)
  case atStart => exact ⟨2000, by omega, by omega, rfl, by rw [Cal.dby_2000]; simp⟩
  case round =>
    obtain ⟨Y, hY0, hY1, rfl, rfl⟩ := hrel
    have hs := Cal.dby_succ Y
    have hdb := Cal.dby_mono 2000 Y hY0
    have he := Cal.dby_2000
    rw [he] at hdb
    have hmy := Cal.dby_mono Y yy hY1
    have hl := Cal.lp_01 Y
    have hyl : 365 ≤ Cal.ylen Y ∧ Cal.ylen Y ≤ 366 := by unfold Cal.ylen; omega
    by_cases hlt : Y < yy
    · have hmm := Cal.dby_mono (Y + 1) yy (by omega)
      have ht : Cal.ylen Y ≤ r - Cal.dby Y := by omega
      have HS := Lib.hid hs
      clear hs he hmm
      go_wp2_with (go_at_call 35; refine (yearDays_any _ _).mono ?_; rintro e w' ⟨rfl, rfl⟩)
      go_round
      case rel => exact ⟨Y + 1, by omega, by omega, rfl, by rw [HS.out]; go_num⟩
      case measure => simp [intOf]; omega
    · obtain rfl : yy = Y := by omega
      have ht : r - Cal.dby yy < Cal.ylen yy := by omega
      clear hs he hlt
      go_wp2_with fail
      refine (yearDays_any _ _).mono ?_
      rintro e w' ⟨rfl, rfl⟩
      go_wp2_with fail
      refine (lengths_any _ _).mono ?_
      rintro e w2 ⟨rfl, hg2⟩
      go_wp2_with fail
      go_loop [6, 8, 28] (fun l t u => ∃ k : Nat, (k : Int) ≤ m ∧ t = .int .i64 k ∧ u = .int .i64 k ∧ l = .int .i64 (r - Cal.dby yy - Cal.cum yy k)) (fun _ t _ => (m - intOf t).toNat)
      case atStart => exact ⟨0, by have := hb.m0; simpa using this, rfl, rfl, by simp [Cal.cum_0]⟩
      case round =>
        obtain ⟨k, hk, rfl, rfl, rfl⟩ := hrel
        have hm1 := hb.m1
        have hi := fun w => idx yy k (by omega) w
        have hml := Cal.mlen_bd yy k
        have hcb := Cal.cum_bd yy k (by omega) (by omega)
        have hcs := Cal.cum_succ yy k (by omega) (by omega)
        by_cases hlt : (k : Int) < m
        · have hcm := Cal.cum_mono yy (k + 1) m (by omega) (by omega) (by omega)
          have ht : Cal.mlen yy k ≤ r - Cal.dby yy - Cal.cum yy k := by have := hb.eq; have := hb.i0; omega
          have HS := Lib.hid hcs
          clear hcs hcm
          go_wp2_with fail
          go_round
          case rel => exact ⟨k + 1, by omega, by go_num, by go_num, by rw [show ((k + 1 : Nat) : Int) = (k : Int) + 1 from by omega, HS.out]; go_num⟩
          case measure => simp [intOf]; omega
        · obtain rfl : m = (k : Int) := by omega
          have ht : r - Cal.dby yy - Cal.cum yy k < Cal.mlen yy k := by have := hb.eq; have := hb.i1; omega
          have HE := Lib.hid (show r - Cal.dby yy - Cal.cum yy k = i from by have := hb.eq; omega)
          clear hcs hlt
          go_wp2_with fail
          go_ret3
          exact ⟨ret_three HY.out rfl HE.out, gtrans hg1 hg2⟩
end Go.Proofs.Ytcifjneckbonlaa
