/- Plain: a number's decimal text, and back. -/
import Derived.Lib.ItoaNum
import Derived.Lib.ParseIntB
namespace Go.Proofs.YtfaplefkakpgcaaGreatDoor
set_option linter.unusedVariables false
set_option linter.unusedSimpArgs false
theorem digits_ne (u : Nat) : Lib.decDigits u ≠ [] := by
  rw [Lib.decDigits]
  split
  · simp
  · simp
theorem digits_few : ∀ (k u : Nat), u < 10 ^ (k + 1) → (Lib.decDigits u).length ≤ k + 1
  | 0, u, h => by
    rw [Lib.decDigits, dif_pos (by simpa using h)]; simp
  | k + 1, u, h => by
    rw [Lib.decDigits]
    split
    · simp
    · have := digits_few k (u / 10) (by rw [Nat.pow_succ] at h; omega)
      simp; omega
theorem itoa_len {n : Int} (h0 : -9223372036854775808 ≤ n) (h1 : n ≤ 9223372036854775807) : (Lib.itoa n).length ≤ 20 := by
  unfold Lib.itoa
  have h19 : (10 : Nat) ^ (18 + 1) = 10000000000000000000 := by decide
  split
  · have := digits_few 18 n.natAbs (by rw [h19]; omega)
    simp; omega
  · have := digits_few 18 n.toNat (by rw [h19]; omega)
    omega
/-- a number of 64 bits -/
def N64 (n : Int) : Prop := -9223372036854775808 ≤ n ∧ n ≤ 9223372036854775807
/-- the number of a decimal text, if it is one in its one form -/
def intP (s : List UInt8) : Option Int := match Lib.parseIntB 64 s with
  | .ok n => if Lib.itoa n = s then some n else none
  | _ => none
end Go.Proofs.YtfaplefkakpgcaaGreatDoor
