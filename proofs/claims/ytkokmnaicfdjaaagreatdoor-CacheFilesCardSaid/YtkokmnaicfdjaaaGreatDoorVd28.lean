/- Plain: the order of texts. -/
import Derived.Test.YtkokmnaicfdjaaaGreatDoorProg
namespace Go.Proofs.YtkokmnaicfdjaaaGreatDoor
set_option linter.unusedVariables false
set_option linter.unusedSimpArgs false

abbrev ltB (a b : List UInt8) : Bool := Op.bytesLess a b
theorem u8_lt_iff (a b : UInt8) : a < b ↔ a.toNat < b.toNat := UInt8.lt_iff_toNat_lt
theorem u8_eq_iff (a b : UInt8) : a = b ↔ a.toNat = b.toNat := ⟨fun h => by rw [h], fun h => UInt8.toNat.inj h⟩
theorem ltB_irrefl : ∀ a : List UInt8, ltB a a = false
  | [] => rfl
  | c :: a => by
    have := ltB_irrefl a
    simp only [Op.bytesLess, u8_lt_iff, Nat.lt_irrefl, decide_false, Bool.false_or, beq_self_eq_true, Bool.true_and]; exact this
theorem ltB_cons (c d : UInt8) (a b : List UInt8) : ltB (c :: a) (d :: b) = true ↔ c.toNat < d.toNat ∨ (c.toNat = d.toNat ∧ ltB a b = true) := by
  simp only [Op.bytesLess, u8_lt_iff, Bool.or_eq_true, decide_eq_true_eq, Bool.and_eq_true, beq_iff_eq, u8_eq_iff]
theorem ltB_trans : ∀ (a b c : List UInt8), ltB a b = true → ltB b c = true → ltB a c = true
  | _, _, [], _, h => by simp [Op.bytesLess] at h
  | _, [], _ :: _, h, _ => by simp [Op.bytesLess] at h
  | [], _ :: _, _ :: _, _, _ => rfl
  | x :: a, y :: b, z :: c, h1, h2 => by
    rw [ltB_cons] at *
    rcases h1 with h1 | ⟨e1, h1⟩ <;> rcases h2 with h2 | ⟨e2, h2⟩
    · exact .inl (by omega)
    · exact .inl (by omega)
    · exact .inl (by omega)
    · exact .inr ⟨by omega, ltB_trans a b c h1 h2⟩
theorem ltB_tri : ∀ (a b : List UInt8), ltB a b = false → ltB b a = false → a = b
  | [], [], _, _ => rfl
  | [], _ :: _, h, _ => by simp [Op.bytesLess] at h
  | _ :: _, [], _, h => by simp [Op.bytesLess] at h
  | x :: a, y :: b, h1, h2 => by
    have h1' : ¬ ltB (x :: a) (y :: b) = true := by rw [h1]; simp
    have h2' : ¬ ltB (y :: b) (x :: a) = true := by rw [h2]; simp
    rw [ltB_cons] at h1' h2'
    have e : x.toNat = y.toNat := by omega
    have ha : ltB a b = false := by cases h : ltB a b with
      | false => rfl
      | true => exact absurd (Or.inr ⟨e, h⟩) h1'
    have hb : ltB b a = false := by cases h : ltB b a with
      | false => rfl
      | true => exact absurd (Or.inr ⟨e.symm, h⟩) h2'
    rw [(u8_eq_iff x y).2 e, ltB_tri a b ha hb]
theorem ltB_asymm (a b : List UInt8) (h : ltB a b = true) : ltB b a = false := by
  cases h' : ltB b a with
  | false => rfl
  | true => have := ltB_trans a b a h h'; rw [ltB_irrefl] at this; cases this
end Go.Proofs.YtkokmnaicfdjaaaGreatDoor
