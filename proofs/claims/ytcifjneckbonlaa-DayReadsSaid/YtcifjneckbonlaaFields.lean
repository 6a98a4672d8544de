/- The text of a minute, read again: Of of Text. -/
import Derived.Test.YtcifjneckbonlaaOf
import Derived.Lib.Strings
namespace Go.Proofs.Ytcifjneckbonlaa
open Go.RowKit

def b8 (n : Int) : UInt8 := UInt8.ofNat n.toNat
theorem b8_toNat (v : Int) (h0 : 0 ≤ v) (h1 : v ≤ 255) : ((b8 v).toNat : Int) = v := by
  unfold b8; simp [UInt8.toNat_ofNat']; omega
theorem b8_dig (v : Int) (h0 : 0 ≤ v) (h1 : v ≤ 9) : ((b8 (48 + v)).toNat : Int) = 48 + v := b8_toNat _ (by omega) (by omega)
theorem dig_b8 (v : Int) (h0 : 0 ≤ v) (h1 : v ≤ 9) : digB (b8 (48 + v)) = true := by
  unfold digB; rw [b8_dig v h0 h1]; simp; omega
theorem num2 (x : Int) (h0 : 0 ≤ x) (h1 : x ≤ 99) : allDig ((d2 x).map b8) = true ∧ numOf ((d2 x).map b8) = x := by
  constructor
  · simp only [d2, allDig, List.map, List.all_cons, List.all_nil, dig_b8 (x / 10 % 10) (by omega) (by omega), dig_b8 (x % 10) (by omega) (by omega)]; rfl
  · simp only [d2, numOf, List.map, List.foldl, b8_dig (x / 10 % 10) (by omega) (by omega), b8_dig (x % 10) (by omega) (by omega)]; omega
theorem num4 (x : Int) (h0 : 0 ≤ x) (h1 : x ≤ 9999) : allDig ((d4 x).map b8) = true ∧ numOf ((d4 x).map b8) = x := by
  constructor
  · simp only [d4, allDig, List.map, List.all_cons, List.all_nil, dig_b8 (x / 1000 % 10) (by omega) (by omega), dig_b8 (x / 100 % 10) (by omega) (by omega), dig_b8 (x / 10 % 10) (by omega) (by omega), dig_b8 (x % 10) (by omega) (by omega)]; rfl
  · simp only [d4, numOf, List.map, List.foldl, b8_dig (x / 1000 % 10) (by omega) (by omega), b8_dig (x / 100 % 10) (by omega) (by omega), b8_dig (x / 10 % 10) (by omega) (by omega), b8_dig (x % 10) (by omega) (by omega)]; omega
theorem fld_str (l : List Int) (a b : Nat) : fld (strOfNums l) a b = ((l.map b8).drop a).take (b - a) := by
  unfold fld; rw [Lib.extract_data]; rfl
theorem str_size (y m i r : Int) : (strOfNums (txt y m i r)).size = 16 := by rw [strOfNums_size]; rfl
theorem fld0 (y m i r : Int) : fld (strOfNums (txt y m i r)) 0 4 = (d4 y).map b8 := by rw [fld_str]; rfl
theorem fld1 (y m i r : Int) : fld (strOfNums (txt y m i r)) 5 7 = (d2 (m + 1)).map b8 := by rw [fld_str]; rfl
theorem fld2 (y m i r : Int) : fld (strOfNums (txt y m i r)) 8 10 = (d2 (i + 1)).map b8 := by rw [fld_str]; rfl
theorem fld3 (y m i r : Int) : fld (strOfNums (txt y m i r)) 11 13 = (d2 (r / 60)).map b8 := by rw [fld_str]; rfl
theorem fld4 (y m i r : Int) : fld (strOfNums (txt y m i r)) 14 16 = (d2 (r % 60)).map b8 := by rw [fld_str]; rfl

theorem minuteOf_date {a y m i : Int} (h : Cal.IsDate (a / 1440) y m i) : minuteOf y (m + 1) (i + 1) (a % 1440 / 60) (a % 1440 % 60) = a := by
  unfold minuteOf
  rw [show m + 1 - 1 = m from by omega]
  have := h.eq; omega

theorem of_text (a y m i : Int) (w : World) (h : Cal.IsDate (a / 1440) y m i) (hy0 : 0 ≤ y) (hy1 : y ≤ 9999) :
    Calls Try.prog 12 #[.string (strOfNums (txt y m i (a % 1440)))] w fun e w' => e = .returned (.tuple #[.int .i64 a, .bool true]) ∧ Grown w w' := by
  have m0 := h.m0; have m1 := h.m1; have i0 := h.i0
  have i1 : i < 31 := by have := h.i1; have := Cal.mlen_bd y m; omega
  have n0 := num4 y hy0 hy1
  have n1 := num2 (m + 1) (by omega) (by omega)
  have n2 := num2 (i + 1) (by omega) (by omega)
  have n3 := num2 (a % 1440 / 60) (by omega) (by omega)
  have n4 := num2 (a % 1440 % 60) (by omega) (by omega)
  refine (of_told _ y (m + 1) (i + 1) (a % 1440 / 60) (a % 1440 % 60) w (str_size _ _ _ _) (by rw [fld0]; exact n0.1) (by rw [fld1]; exact n1.1) (by rw [fld2]; exact n2.1) (by rw [fld3]; exact n3.1) (by rw [fld4]; exact n4.1) (by rw [fld0]; exact n0.2) (by rw [fld1]; exact n1.2) (by rw [fld2]; exact n2.2) (by rw [fld3]; exact n3.2) (by rw [fld4]; exact n4.2) (by omega) (by omega)).mono ?_
  rw [minuteOf_date h]
  rintro e w' ⟨y', m', i', hd, hg, hc⟩
  obtain ⟨rfl, rfl, rfl⟩ := Cal.date_unique h hd
  rcases hc with ⟨_, _, _, he⟩ | ⟨hn, _⟩
  · exact ⟨he, hg⟩
  · exact absurd ⟨hy0, hy1, rfl⟩ hn
theorem of_empty (w : World) : Calls Try.prog 12 #[.string ⟨#[]⟩] w fun e w' => e = .returned (.tuple #[.int .i64 0, .bool false]) ∧ w = w' :=
  of_short _ w (by decide) (by decide)

/- the three texts of the document's examples -/
theorem day0 : Cal.IsDate 0 2000 0 0 := ⟨by decide, by decide, by decide, by decide, by decide⟩
theorem day2 : Cal.IsDate 2 2000 0 2 := ⟨by decide, by decide, by decide, by decide, by decide⟩
theorem day60 : Cal.IsDate 60 2000 2 0 := ⟨by decide, by decide, by decide, by decide, by decide⟩
theorem ex0 : strOfNums (txt 2000 0 0 0) = ⟨#[50, 48, 48, 48, 45, 48, 49, 45, 48, 49, 32, 48, 48, 58, 48, 48]⟩ := by decide
theorem ex2 : strOfNums (txt 2000 0 2 0) = ⟨#[50, 48, 48, 48, 45, 48, 49, 45, 48, 51, 32, 48, 48, 58, 48, 48]⟩ := by decide
theorem ex60 : strOfNums (txt 2000 2 0 0) = ⟨#[50, 48, 48, 48, 45, 48, 51, 45, 48, 49, 32, 48, 48, 58, 48, 48]⟩ := by decide

theorem ofEx2 (w : World) : Calls Try.prog 12 #[.string ⟨#[50, 48, 48, 48, 45, 48, 49, 45, 48, 51, 32, 48, 48, 58, 48, 48]⟩] w fun e w' => e = .returned (.tuple #[.int .i64 2880, .bool true]) ∧ Grown w w' := by
  have := of_text 2880 2000 0 2 w day2 (by decide) (by decide)
  rw [show (2880 : Int) % 1440 = 0 from rfl, ex2] at this; exact this
theorem ofEx60 (w : World) : Calls Try.prog 12 #[.string ⟨#[50, 48, 48, 48, 45, 48, 51, 45, 48, 49, 32, 48, 48, 58, 48, 48]⟩] w fun e w' => e = .returned (.tuple #[.int .i64 86400, .bool true]) ∧ Grown w w' := by
  have := of_text 86400 2000 2 0 w day60 (by decide) (by decide)
  rw [show (86400 : Int) % 1440 = 0 from rfl, ex60] at this; exact this
theorem textEx0 (w : World) : Calls Try.prog 10 #[.int .i64 0] w fun e w' => e = .returned (.string ⟨#[50, 48, 48, 48, 45, 48, 49, 45, 48, 49, 32, 48, 48, 58, 48, 48]⟩) ∧ Grown w w' := by
  have := text_any 0 2000 0 0 w (by decide) (by decide) day0 (by decide) (by decide)
  rw [show (0 : Int) % 1440 = 0 from rfl, ex0] at this; exact this

set_option maxHeartbeats 400000 in
theorem awake_any (w : World) : Calls Try.prog 13 #[] w fun e w' => e = .returned (.bool true) ∧ Grown w w' := by
  go_enter Try.func13, Try.ntmps13
  go_wp2_with fail
  refine (ofEx2 _).mono ?_
  rintro e w1 ⟨rfl, hg1⟩
  go_wp2_with fail
  refine (ofEx60 _).mono ?_
  rintro e w2 ⟨rfl, hg2⟩
  go_wp2_with fail
  refine (textEx0 _).mono ?_
  rintro e w3 ⟨rfl, hg3⟩
  go_wp2_with fail
  refine (week_any _ _ (by omega) (by omega)).mono ?_
  rintro e w4 ⟨rfl, hg4⟩
  go_wp2_with fail
  refine (day_any _ _ (by omega) (by omega)).mono ?_
  rintro e w5 ⟨rfl, hg5⟩
  go_wp2_with fail
  go_ret
  exact ⟨rfl, gtrans hg1 (gtrans hg2 (gtrans hg3 (gtrans hg4 hg5)))⟩
end Go.Proofs.Ytcifjneckbonlaa
