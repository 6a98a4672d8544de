/- The walk of the law DayReads. -/
import Derived.Test.YtcifjneckbonlaaReads
namespace Go.Proofs.Ytcifjneckbonlaa
open Go.RowKit

set_option maxHeartbeats 400000 in
theorem reads_law (s : ByteArray) (hm : s.size ≤ maxLen) (w : World) :
    Calls Try.prog 4 #[.string s] w fun e w' => e = .returned (.bool true) ∧ Grown w w' := by
  rcases of_both s hm with ⟨n12, n14⟩ | ⟨n, y12, y14, ht⟩
  · have N12 := Lib.hid n12
    have N14 := Lib.hid n14
    clear n12 n14
    go_enter Try.func4, Try.ntmps4
    go_wp2_with fail
    refine (N12.out _).mono ?_
    rintro e w1 ⟨rfl, hg1⟩
    go_wp2_with fail
    refine (N14.out _).mono ?_
    rintro e w2 ⟨rfl, hg2⟩
    go_wp2_with fail
    refine (awake_any _).mono ?_
    rintro e w3 ⟨rfl, hg3⟩
    go_wp2_with fail
    go_ret
    exact ⟨rfl, gtrans hg1 (gtrans hg2 hg3)⟩
  · have Y12 := Lib.hid y12
    have Y14 := Lib.hid y14
    have HT := Lib.hid ht
    clear y12 y14 ht
    go_enter Try.func4, Try.ntmps4
    go_wp2_with fail
    refine (Y12.out _).mono ?_
    rintro e w1 ⟨rfl, hg1⟩
    go_wp2_with fail
    refine (Y14.out _).mono ?_
    rintro e w2 ⟨rfl, hg2⟩
    go_wp2_with fail
    refine (HT.out _).mono ?_
    rintro e w3 ⟨rfl, hg3⟩
    go_wp2_with fail
    refine (awake_any _).mono ?_
    rintro e w4 ⟨rfl, hg4⟩
    go_wp2_with fail
    go_ret
    exact ⟨rfl, gtrans hg1 (gtrans hg2 (gtrans hg3 hg4))⟩
end Go.Proofs.Ytcifjneckbonlaa
