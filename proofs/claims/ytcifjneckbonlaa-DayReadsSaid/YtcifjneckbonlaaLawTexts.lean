/- The walk of the law DayTexts. -/
import Derived.Test.YtcifjneckbonlaaFields
namespace Go.Proofs.Ytcifjneckbonlaa
open Go.RowKit

theorem txt_notEmpty (y m i r : Int) : (strOfNums (txt y m i r)).toList.isEmpty = false := notEmpty _ (by rw [str_size]; omega)
set_option maxHeartbeats 400000 in
theorem texts_law (a : Int) (w : World) (ha : -9223372036854775808 ≤ a) (ha2 : a ≤ 9223372036854775807) :
    Calls Try.prog 3 #[.int .i64 a] w fun e w' => e = .returned (.bool true) ∧ Grown w w' := by
  obtain ⟨y, m, i, hd⟩ := Cal.date_exists (a / 1440)
  by_cases hy : 0 ≤ y ∧ y ≤ 9999
  · have hne := txt_notEmpty y m i (a % 1440)
    have HO : ∀ w, Hid (Calls Try.prog 12 #[.string (strOfNums (txt y m i (a % 1440)))] w fun e w' => e = .returned (.tuple #[.int .i64 a, .bool true]) ∧ Grown w w') := fun w => Lib.hid (of_text a y m i w hd hy.1 hy.2)
    go_enter Try.func3, Try.ntmps3
    go_wp2_with fail
    refine (text_any a y m i _ ha ha2 hd hy.1 hy.2).mono ?_
    rintro e w1 ⟨rfl, hg1⟩
    go_wp2_with fail
    refine (rtext_any a y m i _ ha ha2 hd hy.1 hy.2).mono ?_
    rintro e w2 ⟨rfl, hg2⟩
    generalize strOfNums (txt y m i (a % 1440)) = T at *
    go_wp2_with fail
    refine ((HO _).out).mono ?_
    rintro e w3 ⟨rfl, hg3⟩
    go_wp2_with fail
    refine (awake_any _).mono ?_
    rintro e w4 ⟨rfl, hg4⟩
    go_wp2_with fail
    go_ret
    exact ⟨rfl, gtrans hg1 (gtrans hg2 (gtrans hg3 hg4))⟩
  · go_enter Try.func3, Try.ntmps3
    go_wp2_with fail
    refine (text_none a y m i _ ha ha2 hd (by omega)).mono ?_
    rintro e w1 ⟨rfl, hg1⟩
    go_wp2_with fail
    refine (rtext_none a y m i _ ha ha2 hd (by omega)).mono ?_
    rintro e w2 ⟨rfl, rfl⟩
    go_wp2_with fail
    refine (of_empty _).mono ?_
    rintro e w3 ⟨rfl, rfl⟩
    go_wp2_with fail
    refine (awake_any _).mono ?_
    rintro e w4 ⟨rfl, hg4⟩
    go_wp2_with fail
    go_ret
    exact ⟨rfl, gtrans hg1 hg4⟩
end Go.Proofs.Ytcifjneckbonlaa
