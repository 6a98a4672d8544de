/- The walk of the document's Of where the text tells a minute. -/
import Derived.Test.YtcifjneckbonlaaROf
namespace Go.Proofs.Ytcifjneckbonlaa
open Go.RowKit

set_option maxHeartbeats 1000000 in
set_option maxRecDepth 100000 in
theorem rof_yes (s : ByteArray) (w : World) (hs : s.size = 16) (hp : sep s = ⟨#[45, 45, 32, 58]⟩) (Y M D H I : Int) (nY : rnum (fld s 0 4) = Y) (nM : rnum (fld s 5 7) = M) (nD : rnum (fld s 8 10) = D) (nH : rnum (fld s 11 13) = H) (nI : rnum (fld s 14 16) = I)
    (y0 : 0 ≤ Y) (y1 : Y ≤ 9999) (m0 : 1 ≤ M) (m1 : M ≤ 12) (d0 : 1 ≤ D) (d1 : D ≤ Cal.mlen Y (M - 1)) (h0 : 0 ≤ H) (hh1 : H ≤ 23) (i0 : 0 ≤ I) (i1 : I ≤ 59) :
    Calls Try.prog 14 #[.string s] w fun e w' => e = .returned (.tuple #[.int .i64 (minuteOf Y M D H I), .bool true]) ∧ Grown w w' := by
  have h1 : ((s.size : Int) != 16) = false := by simp; omega
  obtain ⟨A, B, C, E, zA, zB, zC, zE, e, sA, sB, sC, sE⟩ := sep_parts s hs
  obtain ⟨F0, F1, F2, F3, F4, z0, z1, z2, z3, z4, q0, q1, q2, q3, q4, t0, t1, t2, t3, t4⟩ := num_parts s hs
  have hp2 : ((A ++ B ++ C ++ E).toList == [45, 45, 32, 58]) = true := by rw [e, hp, beq_iff_eq]; exact ByteArray.toList_eq _
  have Q0 := Lib.hid (q0.trans nY)
  have Q1 := Lib.hid (q1.trans nM)
  have Q2 := Lib.hid (q2.trans nD)
  have Q3 := Lib.hid (q3.trans nH)
  have Q4 := Lib.hid (q4.trans nI)
  have bm := Cal.mlen_bd Y (M - 1)
  have bdb := dby_bd Y y0 y1
  clear hs hp e q0 q1 q2 q3 q4 nY nM nD nH nI
  go_enter Try.func14, Try.ntmps14
  go_wp2_with fail
  go_quiet (fail)
  have hgn : Grown w (w.drewN nq) := Grown.refl _
  generalize w.drewN nq = w1 at hgn ⊢
  clear hp2 sA sB sC sE
  go_wp2_with fail
  go_quiet (first
    | (go_at_call_of 31 (Value.string F0); exact Calls.quiet_of_same (rnumber_eq F0 Y _ z0 Q0.out))
    | (go_at_call_of 31 (Value.string F1); exact Calls.quiet_of_same (rnumber_eq F1 M _ z1 Q1.out))
    | (go_at_call_of 31 (Value.string F2); exact Calls.quiet_of_same (rnumber_eq F2 D _ z2 Q2.out))
    | (go_at_call_of 31 (Value.string F3); exact Calls.quiet_of_same (rnumber_eq F3 H _ z3 Q3.out))
    | (go_at_call_of 31 (Value.string F4); exact Calls.quiet_of_same (rnumber_eq F4 I _ z4 Q4.out)))
  have hgn2 : Grown w (w1.drewN nq) := hgn
  generalize w1.drewN nq = w2 at hgn2 ⊢
  clear hgn t0 t1 t2 t3 t4 z0 z1 z2 z3 z4 Q0 Q1 Q2 Q3 Q4
  go_wp2_with (go_at_call 32; refine (days_any _ _ _).mono ?_; rintro e w' ⟨rfl, rfl⟩)
  go_loop [9, 10] (fun n t => ∃ k : Int, 1 ≤ k ∧ k ≤ M ∧ t = .int .i64 k ∧ n = .int .i64 (D - 1 + Cal.cum Y (k - 1))) (fun _ t => (M - intOf t).toNat)
  case atStart => exact ⟨1, by omega, m0, rfl, by rw [show (1 : Int) - 1 = 0 from rfl, Cal.cum_0]; simp⟩
  case round =>
    obtain ⟨k, hk0, hk1, rfl, rfl⟩ := hrel
    have hcb := Cal.cum_bd Y (k - 1) (by omega) (by omega)
    have hyl : Cal.ylen Y ≤ 366 := by have := Cal.lp_01 Y; unfold Cal.ylen; omega
    by_cases hlt : k < M
    · have HS := Lib.hid (show D - 1 + Cal.cum Y (k - 1) + Cal.mlen Y (k - 1) = D - 1 + Cal.cum Y (k + 1 - 1) from by
        have := Cal.cum_succ Y (k - 1) (by omega) (by omega); rw [show k - 1 + 1 = k + 1 - 1 from by omega] at this; omega)
      have hml := Cal.mlen_bd Y (k - 1)
      go_wp2_with (go_at_call 32; refine (days_any _ _ _).mono ?_; rintro e w' ⟨rfl, rfl⟩)
      go_round
      case rel => exact ⟨k + 1, by omega, by omega, rfl, by rw [← HS.out]⟩
      case measure => simp [intOf]; omega
    · obtain rfl : M = k := by omega
      go_wp2_with fail
      have hn0 : 0 ≤ D - 1 + Cal.cum Y (M - 1) ∧ D - 1 + Cal.cum Y (M - 1) ≤ 500 := by omega
      have HN := Lib.hid (show D - 1 + Cal.cum Y (M - 1) = minuteOf Y M D H I / 1440 - Cal.dby Y from by unfold minuteOf; omega)
      have HX := Lib.hid (show 1440 * (D - 1 + Cal.cum Y (M - 1) + Cal.dby Y) + 60 * H + I = minuteOf Y M D H I from by unfold minuteOf; omega)
      generalize D - 1 + Cal.cum Y (M - 1) = n at *
      clear HN
      go_loop [9, 11] (fun v t => ∃ k : Int, 2000 ≤ k ∧ (k ≤ Y ∨ k = 2000) ∧ t = .int .i64 k ∧ v = .int .i64 (n + Cal.dby k)) (fun _ t => (Y - intOf t).toNat)
      case atStart => exact ⟨2000, by omega, by omega, rfl, by rw [Cal.dby_2000]; simp⟩
      case round =>
        obtain ⟨k, hk0, hk1, rfl, rfl⟩ := hrel
        have hdk := dby_bd k (by omega) (by omega)
        by_cases hlt : k < Y
        · have HS := Lib.hid (Cal.dby_succ k)
          cases hb : Cal.leapB k
          · have HB := Lib.hid hb
            have HY := Lib.hid (ylen_no k hb)
            clear hb
            go_wp2_with (go_at_call 33; refine (rleap_any _ _).mono ?_; rintro e w' ⟨rfl, rfl⟩; rw [HB.out])
            go_round
            case rel => exact ⟨k + 1, by omega, by omega, rfl, by rw [HS.out, HY.out]; go_num⟩
            case measure => simp [intOf]; omega
          · have HB := Lib.hid hb
            have HY := Lib.hid (ylen_yes k hb)
            clear hb
            go_wp2_with (go_at_call 33; refine (rleap_any _ _).mono ?_; rintro e w' ⟨rfl, rfl⟩; rw [HB.out])
            go_round
            case rel => exact ⟨k + 1, by omega, by omega, rfl, by rw [HS.out, HY.out]; go_num⟩
            case measure => simp [intOf]; omega
        · go_wp2_with fail
          have HK := Lib.hid (show k = Y ∨ (k = 2000 ∧ Y < 2000) from by omega)
          go_loop [9, 12] (fun v t => ∃ j : Int, Y ≤ j ∧ (j ≤ 2000 ∨ j = Y) ∧ t = .int .i64 j ∧ v = .int .i64 (n + Cal.dby k - (Cal.dby j - Cal.dby Y))) (fun _ t => (2000 - intOf t).toNat)
          case atStart => exact ⟨Y, by omega, by omega, rfl, by go_num⟩
          case round =>
            obtain ⟨j, hj0, hj1, rfl, rfl⟩ := hrel
            have hdj := dby_bd j (by omega) (by omega)
            by_cases hlj : j < 2000
            · have HS := Lib.hid (Cal.dby_succ j)
              cases hb : Cal.leapB j
              · have HB := Lib.hid hb
                have HY := Lib.hid (ylen_no j hb)
                clear hb
                go_wp2_with (go_at_call 33; refine (rleap_any _ _).mono ?_; rintro e w' ⟨rfl, rfl⟩; rw [HB.out])
                go_round
                case rel => exact ⟨j + 1, by omega, by omega, rfl, by rw [HS.out, HY.out]; go_num⟩
                case measure => simp [intOf]; omega
              · have HB := Lib.hid hb
                have HY := Lib.hid (ylen_yes j hb)
                clear hb
                go_wp2_with (go_at_call 33; refine (rleap_any _ _).mono ?_; rintro e w' ⟨rfl, rfl⟩; rw [HB.out])
                go_round
                case rel => exact ⟨j + 1, by omega, by omega, rfl, by rw [HS.out, HY.out]; go_num⟩
                case measure => simp [intOf]; omega
            · have HJ := Lib.hid (show Cal.dby k - (Cal.dby j - Cal.dby Y) = Cal.dby Y from by
                rcases HK.out with e1 | ⟨e1, e2⟩
                · subst e1
                  have : j = k ∨ j = 2000 := by omega
                  rcases this with e3 | e3
                  · subst e3; omega
                  · have : k = 2000 := by omega
                    subst e3; subst this; omega
                · have : j = 2000 := by omega
                  subst e1; subst this; omega)
              go_wp2_with fail
              go_ret2
              exact ⟨ret_nb (by have := HJ.out; have := HX.out; omega), hgn2⟩
end Go.Proofs.Ytcifjneckbonlaa
