/- The walks of Text and the document's Text. -/
import Derived.Test.YtcifjneckbonlaaTexts
namespace Go.Proofs.Ytcifjneckbonlaa
open Go.RowKit

def txt (y m i r : Int) : List Int := d4 y ++ 45 :: (d2 (m + 1) ++ 45 :: (d2 (i + 1) ++ 32 :: (d2 (r / 60) ++ 58 :: d2 (r % 60))))
theorem d2_len (x : Int) : (d2 x).length = 2 := rfl
theorem d4_len (x : Int) : (d4 x).length = 4 := rfl
theorem txt_len (y m i r : Int) : (txt y m i r).length = 16 := rfl
theorem s45 : (⟨#[45]⟩ : ByteArray) = strOfNums [45] := rfl
theorem s32 : (⟨#[32]⟩ : ByteArray) = strOfNums [32] := rfl
theorem s58 : (⟨#[58]⟩ : ByteArray) = strOfNums [58] := rfl

theorem by_eq (a b q r : Int) (w : World) (hb : 2 ≤ b) (hb2 : b ≤ 1000000) (ha : -9223372036854775808 ≤ a) (ha2 : a ≤ 9223372036854775807) (hq : a / b = q) (hr : a % b = r) :
    Calls Try.prog 23 #[.int .i64 a, .int .i64 b] w fun e w' => e = .returned (.tuple #[.int .i64 q, .int .i64 r]) ∧ Grown w w' := by
  subst hq hr; exact by_any a b w hb hb2 ha ha2
theorem small_of_year {d y m i : Int} (h : Cal.IsDate d y m i) (hy0 : 0 ≤ y) (hy1 : y ≤ 9999) : -1000000 ≤ d ∧ d ≤ 3000000 := by
  have a := h.year
  unfold Cal.dby at a
  omega
set_option maxHeartbeats 1000000 in
theorem text_any (a y m i : Int) (w : World) (ha : -9223372036854775808 ≤ a) (ha2 : a ≤ 9223372036854775807) (h : Cal.IsDate (a / 1440) y m i) (hy0 : 0 ≤ y) (hy1 : y ≤ 9999) :
    Calls Try.prog 10 #[.int .i64 a] w fun e w' => e = .returned (.string (strOfNums (txt y m i (a % 1440)))) ∧ Grown w w' := by
  have hr0 : 0 ≤ a % 1440 := Int.emod_nonneg _ (by omega)
  have hr1 : a % 1440 < 1440 := Int.emod_lt_of_pos _ (by omega)
  have m0 := h.m0; have m1 := h.m1; have i0 := h.i0
  have i1 : i < 31 := by have := h.i1; have := Cal.mlen_bd y m; omega
  generalize hr : a % 1440 = r at *
  have HR := Lib.hid hr
  clear hr
  go_enter Try.func10, Try.ntmps10
  go_wp2_with fail
  refine (by_eq a 1440 (a / 1440) r _ (by omega) (by omega) ha ha2 rfl HR.out).mono ?_
  rintro e w1 ⟨rfl, hg1⟩
  go_wp2_with fail
  refine (date_any _ y m i _ h (by omega) (by omega)).mono ?_
  rintro e w2 ⟨rfl, hg2⟩
  have hz := strOfNums_size
  have hap := str_app
  have h2 := d2_len
  have h4 := d4_len
  have h45 := s45
  have h32 := s32
  have h58 := s58
  go_wp2_with fail
  refine (digits4 _ _ (by omega) (by omega)).mono ?_
  rintro e w3 ⟨rfl, hg3⟩
  go_wp2_with fail
  refine (digits2 _ _ (by omega) (by omega)).mono ?_
  rintro e w4 ⟨rfl, hg4⟩
  go_wp2_with fail
  refine (digits2 _ _ (by omega) (by omega)).mono ?_
  rintro e w5 ⟨rfl, hg5⟩
  go_wp2_with fail
  refine (digits2 _ _ (by omega) (by omega)).mono ?_
  rintro e w6 ⟨rfl, hg6⟩
  go_wp2_with fail
  refine (digits2 _ _ (by omega) (by omega)).mono ?_
  rintro e w7 ⟨rfl, hg7⟩
  go_wp2_with fail
  go_ret
  exact ⟨ret_str (by simp [txt]), gtrans hg1 (gtrans hg2 (gtrans hg3 (gtrans hg4 (gtrans hg5 (gtrans hg6 hg7)))))⟩

theorem text_none (a y m i : Int) (w : World) (ha : -9223372036854775808 ≤ a) (ha2 : a ≤ 9223372036854775807) (h : Cal.IsDate (a / 1440) y m i) (hy : y < 0 ∨ 9999 < y) :
    Calls Try.prog 10 #[.int .i64 a] w fun e w' => e = .returned (.string ⟨#[]⟩) ∧ Grown w w' := by
  have m0 := h.m0; have m1 := h.m1; have i0 := h.i0
  rcases hy with hy | hy
  all_goals
    go_enter Try.func10, Try.ntmps10
    go_wp2_with fail
    refine (by_any _ _ _ (by omega) (by omega) ha ha2).mono ?_
    rintro e w1 ⟨rfl, hg1⟩
    go_wp2_with fail
    refine (date_any _ y m i _ h (by omega) (by omega)).mono ?_
    rintro e w2 ⟨rfl, hg2⟩
    go_wp2_with fail
    go_ret
    exact ⟨rfl, gtrans hg1 hg2⟩
set_option maxHeartbeats 1000000 in
theorem rtext_any (a y m i : Int) (w : World) (ha : -9223372036854775808 ≤ a) (ha2 : a ≤ 9223372036854775807) (h : Cal.IsDate (a / 1440) y m i) (hy0 : 0 ≤ y) (hy1 : y ≤ 9999) :
    Calls Try.prog 11 #[.int .i64 a] w fun e w' => e = .returned (.string (strOfNums (txt y m i (a % 1440)))) ∧ Grown w w' := by
  have hr0 : 0 ≤ a - 1440 * (a / 1440) := by omega
  have hr1 : a - 1440 * (a / 1440) < 1440 := by omega
  rw [show a % 1440 = a - 1440 * (a / 1440) from by omega]
  have m0 := h.m0; have m1 := h.m1; have i0 := h.i0
  have hsm := small_of_year h hy0 hy1
  have i1 : i < 31 := by have := h.i1; have := Cal.mlen_bd y m; omega
  go_enter Try.func11, Try.ntmps11
  go_wp2_with fail
  refine (rday_any _ _ ha ha2).mono ?_
  rintro e w1 ⟨rfl, rfl⟩
  go_wp2_with fail
  refine (rdate_any _ y m i _ h (by omega) (by omega)).mono ?_
  rintro e w2 ⟨rfl, rfl⟩
  go_wp2_with fail
  refine (rday_any _ _ ha ha2).mono ?_
  rintro e w1 ⟨rfl, rfl⟩
  have hz := strOfNums_size
  have hap := str_app
  have h2 := d2_len
  have h4 := d4_len
  have h45 := s45
  have h32 := s32
  have h58 := s58
  go_wp2_with fail
  refine (rdigits_any 4 (by omega) _ _ (by omega) (by omega)).mono ?_
  rw [dg_d4]
  rintro e w3 ⟨rfl, hg3⟩
  go_wp2_with fail
  refine (rdigits_any 2 (by omega) _ _ (by omega) (by omega)).mono ?_
  rw [dg_d2]
  rintro e w4 ⟨rfl, hg4⟩
  go_wp2_with fail
  refine (rdigits_any 2 (by omega) _ _ (by omega) (by omega)).mono ?_
  rw [dg_d2]
  rintro e w5 ⟨rfl, hg5⟩
  go_wp2_with fail
  refine (rdigits_any 2 (by omega) _ _ (by omega) (by omega)).mono ?_
  rw [dg_d2]
  rintro e w6 ⟨rfl, hg6⟩
  go_wp2_with fail
  refine (rdigits_any 2 (by omega) _ _ (by omega) (by omega)).mono ?_
  rw [dg_d2]
  rintro e w7 ⟨rfl, hg7⟩
  go_wp2_with fail
  go_ret
  exact ⟨ret_str (by simp [txt]), gtrans hg3 (gtrans hg4 (gtrans hg5 (gtrans hg6 hg7)))⟩
theorem rtext_none (a y m i : Int) (w : World) (ha : -9223372036854775808 ≤ a) (ha2 : a ≤ 9223372036854775807) (h : Cal.IsDate (a / 1440) y m i) (hy : y < 0 ∨ 9999 < y) :
    Calls Try.prog 11 #[.int .i64 a] w fun e w' => e = .returned (.string ⟨#[]⟩) ∧ w = w' := by
  have m0 := h.m0; have m1 := h.m1; have i0 := h.i0
  rcases hy with hy | hy
  all_goals
    go_enter Try.func11, Try.ntmps11
    go_wp2_with fail
    refine (rday_any _ _ ha ha2).mono ?_
    rintro e w1 ⟨rfl, rfl⟩
    go_wp2_with fail
    refine (rdate_any _ y m i _ h (by omega) (by omega)).mono ?_
    rintro e w2 ⟨rfl, rfl⟩
    go_wp2_with fail
    go_ret
    exact ⟨rfl, rfl⟩
end Go.Proofs.Ytcifjneckbonlaa
