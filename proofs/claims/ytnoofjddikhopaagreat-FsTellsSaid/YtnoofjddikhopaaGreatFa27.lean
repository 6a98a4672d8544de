/- A volume without anything, of any size; with a directory at its top: plain. -/
import Derived.Test.YtnoofjddikhopaaGreatFa26
import Derived.Test.YtnoofjddikhopaaGreatFa19
import Derived.Test.YtnoofjddikhopaaGreatFa14
namespace Go.Proofs.YtnoofjddikhopaaGreat
set_option linter.unusedVariables false
set_option linter.unusedSimpArgs false
/-- why there is no plan -/
def planE (B I : Int) : Int := if B < 16 ∨ 223 < B ∨ I < 4 ∨ 64 < I then 2 else if B ≤ 3 + (I + 1) / 2 then 10 else 0
theorem planE_yes {B I : Int} (h : planB B I = true) : planE B I = 0 := by
  have := plan_bd h
  unfold planE
  rw [if_neg (by omega), if_neg (by omega)]
theorem planE_no {B I : Int} (h : planB B I = false) : planE B I ≠ 0 := by
  unfold planE
  split
  · decide
  · split
    · decide
    · exfalso
      have : planB B I = true := by unfold planB; simp; omega
      rw [this] at h; cases h
/-- a volume without anything -/
def fmtV (B I : Int) : List (List UInt8) := ((List.replicate B.toNat (zs 128)).set 0 (headL B I)).set 2 (flips (zs 128) (dataOf I).toNat)
theorem fmtV_len (B I : Int) : (fmtV B I).length = B.toNat := by simp [fmtV]
theorem bit_flips (m : List UInt8) (k j : Nat) (hk : k ≤ 8 * m.length) : bitB (flips m k) j = (bitB m j ^^ decide (j < k)) := by
  induction k with
  | zero => simp [flips]
  | succ k ih =>
    rw [flips, bit_flip _ _ _ (by rw [flips_len]; omega), ih (by omega)]
    by_cases h1 : j < k
    · rw [decide_eq_true h1, decide_eq_false (by omega : ¬ k = j), decide_eq_true (by omega : j < k + 1)]; simp
    · rw [decide_eq_false h1]
      by_cases h2 : k = j
      · rw [decide_eq_true h2, decide_eq_true (by omega : j < k + 1)]; simp
      · rw [decide_eq_false h2, decide_eq_false (by omega : ¬ j < k + 1)]; simp
theorem bit_zs (n j : Nat) : bitB (zs n) j = false := by
  unfold bitB
  rw [zs_getD]; simp
theorem fmtV_map {B I : Int} (h : planB B I = true) : (fmtV B I).getD 2 [] = flips (zs 128) (dataOf I).toNat := by
  have := plan_bd h
  unfold fmtV
  rw [getD_set_eq' _ _ (by simp; omega)]
theorem fmtV_at {B I : Int} {j : Nat} (h0 : j ≠ 0) (h2 : j ≠ 2) (hj : j < B.toNat) : (fmtV B I).getD j [] = zs 128 := by
  unfold fmtV
  rw [getD_set_ne' _ _ (Ne.symm h2), getD_set_ne' _ _ (Ne.symm h0), List.getD_eq_getElem?_getD, List.getElem?_eq_getElem (by simpa using hj)]
  simp
theorem good_fmtV {B I : Int} (h : planB B I = true) : Good (fmtV B I) I := by
  have hp := plan_bd h
  have hl : ((fmtV B I).length : Int) = B := by rw [fmtV_len]; omega
  refine ⟨fun j hj => ?_, by rw [hl]; exact h, ?_, fun i hi => ?_, fun i h1 h2 => ?_⟩
  · have hm := List.getElem_mem hj
    unfold fmtV at hm
    rcases List.mem_or_eq_of_mem_set hm with hm | e
    · rcases List.mem_or_eq_of_mem_set hm with hm | e
      · exact (congrArg List.length (List.eq_of_mem_replicate hm)).trans (zs_len 128)
      · exact (congrArg List.length e).trans (headL_len B I)
    · exact (congrArg List.length e).trans ((flips_len _ _).trans (zs_len 128))
  · rw [hl]
    unfold fmtV
    rw [getD_set_ne' _ _ (by decide), getD_set_eq' _ _ (by simp; omega)]
  · rw [fmtV_map h, bit_flips _ _ _ (by rw [zs_len]; unfold dataOf; omega), bit_zs, decide_eq_true (by unfold dataOf; omega)]; rfl
  · rw [fmtV_map h, bit_flips _ _ _ (by rw [zs_len]; unfold dataOf; omega), bit_zs, decide_eq_false (by unfold dataOf; omega)]; rfl
/-- with a directory at its top -/
def mkV (B I : Int) : List (List UInt8) := putAt (fmtV B I) 1 [2, 1, 0, 0, 0, 0, 0, 0, 0, 0, 0, 0]
theorem mkV_len (B I : Int) : (mkV B I).length = B.toNat := by unfold mkV; rw [putAt_len, fmtV_len]
theorem good_mkV {B I : Int} (h : planB B I = true) : Good (mkV B I) I := by
  have hp := plan_bd h
  exact (good_fmtV h).putAt (by omega) (by omega) _
theorem ino_fmtV {B I k : Int} (h : planB B I = true) (h1 : 1 ≤ k) (h2 : k ≤ I) : inoAt (fmtV B I) k = zero12 := by
  have hp := plan_bd h
  unfold inoAt
  rw [fmtV_at (by omega) (by omega) (by omega), inoL_zs]
/-- what is made, and the error -/
def mkP (B I : Int) : List (List UInt8) × Int := if planE B I ≠ 0 then ([], planE B I) else (mkV B I, 0)
end Go.Proofs.YtnoofjddikhopaaGreat
