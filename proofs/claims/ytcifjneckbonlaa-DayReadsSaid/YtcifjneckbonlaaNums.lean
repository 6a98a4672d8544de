/- The walks of number and the document's number. -/
import Derived.Test.YtcifjneckbonlaaText
namespace Go.Proofs.Ytcifjneckbonlaa
open Go.RowKit

def digB (c : UInt8) : Bool := decide (48 ≤ (c.toNat : Int) ∧ (c.toNat : Int) ≤ 57)
def allDig (l : List UInt8) : Bool := l.all digB
def numOf (l : List UInt8) : Int := l.foldl (fun n c => n * 10 + ((c.toNat : Int) - 48)) 0
theorem numOf_snoc (l : List UInt8) (c : UInt8) : numOf (l ++ [c]) = numOf l * 10 + ((c.toNat : Int) - 48) := by simp [numOf]
theorem allDig_snoc (l : List UInt8) (c : UInt8) : allDig (l ++ [c]) = (allDig l && digB c) := by simp [allDig]
theorem take_snoc (s : ByteArray) (k : Nat) (h : k < s.size) : s.data.toList.take (k + 1) = s.data.toList.take k ++ [s[k]] := by
  rw [List.take_succ_eq_append_getElem (by simpa using h)]; rfl
theorem ret_nb {a b : Int} {c : Bool} (h : a = b) : Ending.returned (.tuple #[.int .i64 a, .bool c]) = .returned (.tuple #[.int .i64 b, .bool c]) := by rw [h]
theorem fold_bd : ∀ (l : List UInt8) (acc : Int), 0 ≤ acc → allDig l = true →
    0 ≤ l.foldl (fun n c => n * 10 + ((c.toNat : Int) - 48)) acc ∧ l.foldl (fun n c => n * 10 + ((c.toNat : Int) - 48)) acc + 1 ≤ (acc + 1) * 10 ^ l.length
  | [], acc, h, _ => by simp; omega
  | c :: l, acc, h, hd => by
    simp only [allDig, List.all_cons, Bool.and_eq_true] at hd
    have hc : 48 ≤ (c.toNat : Int) ∧ (c.toNat : Int) ≤ 57 := by have := hd.1; simpa [digB] using this
    obtain ⟨a, b⟩ := fold_bd l (acc * 10 + ((c.toNat : Int) - 48)) (by omega) hd.2
    refine ⟨a, Int.le_trans b ?_⟩
    rw [List.length_cons, Int.pow_succ, Int.mul_comm (10 ^ l.length) 10, ← Int.mul_assoc]
    exact Int.mul_le_mul_of_nonneg_right (by omega) (Int.pow_nonneg (by omega))
theorem numOf_bd (l : List UInt8) (h : allDig l = true) (hl : l.length ≤ 4) : 0 ≤ numOf l ∧ numOf l ≤ 9999 := by
  obtain ⟨a, b⟩ := fold_bd l 0 (by omega) h
  refine ⟨a, ?_⟩
  show numOf l ≤ 9999
  change numOf l + 1 ≤ _ at b
  rcases (show l.length = 0 ∨ l.length = 1 ∨ l.length = 2 ∨ l.length = 3 ∨ l.length = 4 by omega) with e | e | e | e | e <;> rw [e] at b <;> simp at b <;> omega
theorem numOf_bd2 (l : List UInt8) (h : allDig l = true) (hl : l.length ≤ 2) : 0 ≤ numOf l ∧ numOf l ≤ 99 := by
  obtain ⟨a, b⟩ := fold_bd l 0 (by omega) h
  refine ⟨a, ?_⟩
  show numOf l ≤ 99
  change numOf l + 1 ≤ _ at b
  rcases (show l.length = 0 ∨ l.length = 1 ∨ l.length = 2 by omega) with e | e | e <;> rw [e] at b <;> simp at b <;> omega
theorem allDig_take (l : List UInt8) (k : Nat) (h : allDig l = true) : allDig (l.take k) = true := by
  unfold allDig at *; rw [List.all_eq_true] at *; exact fun x hx => h x (List.mem_of_mem_take hx)
theorem numOf_take' (s : ByteArray) (k : Nat) (hs : s.size ≤ 4) (h : allDig (s.data.toList.take k) = true) : 0 ≤ numOf (s.data.toList.take k) ∧ numOf (s.data.toList.take k) ≤ 9999 :=
  numOf_bd _ h (by have := List.length_take_le k s.data.toList; have : (s.data.toList.take k).length ≤ s.data.toList.length := List.length_take_le' _ _; simp at this ⊢; omega)
theorem numOf_take (s : ByteArray) (k : Nat) (hs : s.size ≤ 4) (h : allDig s.data.toList = true) : 0 ≤ numOf (s.data.toList.take k) ∧ numOf (s.data.toList.take k) ≤ 9999 :=
  numOf_take' s k hs (allDig_take _ _ h)
theorem dig_at (s : ByteArray) (k : Nat) (hk : k < s.size) (h : allDig s.data.toList = true) : 48 ≤ (s[k].toNat : Int) ∧ (s[k].toNat : Int) ≤ 57 := by
  unfold allDig at h; rw [List.all_eq_true] at h
  have := h s[k] (by have : s[k] = s.data.toList[k]'(by simpa using hk) := rfl
                     rw [this]; exact List.getElem_mem _)
  simpa [digB] using this

set_option maxHeartbeats 400000 in
theorem number_yes (s : ByteArray) (w : World) (hs : s.size ≤ 4) (hd : allDig s.data.toList = true) :
    Calls Try.prog 28 #[.string s] w fun e w' => e = .returned (.tuple #[.int .i64 (numOf s.data.toList), .bool true]) ∧ w = w' := by
  have HD := Lib.hid hd
  clear hd
  go_enter Try.func28, Try.ntmps28
  go_wp2
  go_loop [4, 8] (fun n i => ∃ k : Nat, k ≤ s.size ∧ i = .int .i64 k ∧ n = .int .i64 (numOf (s.data.toList.take k))) (fun _ i => s.size - (intOf i).toNat)
  case atStart => exact ⟨0, Nat.zero_le _, rfl, rfl⟩
  case round =>
    obtain ⟨k, hk, rfl, rfl⟩ := hrel
    have hnb := numOf_take s k hs HD.out
    by_cases hlt : k < s.size
    · have HS := Lib.hid (show numOf (s.data.toList.take (k + 1)) = numOf (s.data.toList.take k) * 10 + ((s[k].toNat : Int) - 48) from by rw [take_snoc s k hlt, numOf_snoc])
      have hdk := dig_at s k hlt HD.out
      go_wp2
      go_round
      case rel => exact ⟨k + 1, by omega, by go_num, by first | (rw [HS.out]; done) | (rw [HS.out]; go_num)⟩
      case measure => simp [intOf]; omega
    · go_wp2
      go_ret2
      exact ⟨ret_nb (show numOf (s.data.toList.take k) = numOf s.data.toList from by rw [List.take_of_length_le (by simp; omega)]), rfl⟩
set_option maxHeartbeats 400000 in
theorem number_no (s : ByteArray) (w : World) (hs : s.size ≤ 4) (hd : allDig s.data.toList = false) :
    Calls Try.prog 28 #[.string s] w fun e w' => e = .returned (.tuple #[.int .i64 0, .bool false]) ∧ w = w' := by
  have HD := Lib.hid hd
  clear hd
  go_enter Try.func28, Try.ntmps28
  go_wp2
  go_loop [4, 8] (fun n i => ∃ k : Nat, k ≤ s.size ∧ i = .int .i64 k ∧ n = .int .i64 (numOf (s.data.toList.take k)) ∧ allDig (s.data.toList.take k) = true) (fun _ i => s.size - (intOf i).toNat)
  case atStart => exact ⟨0, Nat.zero_le _, rfl, rfl, rfl⟩
  case round =>
    obtain ⟨k, hk, rfl, rfl, ha⟩ := hrel
    have HA := Lib.hid ha
    have hnb := numOf_take' s k hs ha
    clear ha
    by_cases hlt : k < s.size
    · by_cases hdk : 48 ≤ (s[k].toNat : Int) ∧ (s[k].toNat : Int) ≤ 57
      · have HS := Lib.hid (show numOf (s.data.toList.take (k + 1)) = numOf (s.data.toList.take k) * 10 + ((s[k].toNat : Int) - 48) from by rw [take_snoc s k hlt, numOf_snoc])
        go_wp2
        go_round
        case rel => exact ⟨k + 1, by omega, by go_num, by first | (rw [HS.out]; done) | (rw [HS.out]; go_num), by rw [take_snoc s k hlt, allDig_snoc, HA.out]; simp [digB]; omega⟩
        case measure => simp [intOf]; omega
      · rcases (show (s[k].toNat : Int) < 48 ∨ 57 < (s[k].toNat : Int) by omega) with hd1 | hd1
        all_goals
          clear hdk
          go_wp2
          go_ret2
          exact ⟨rfl, rfl⟩
    · exfalso
      have := HA.out
      rw [List.take_of_length_le (by simp; omega), HD.out] at this
      cases this

set_option maxHeartbeats 400000 in
theorem rnumber_yes (s : ByteArray) (w : World) (hs : s.size ≤ 4) (hd : allDig s.data.toList = true) :
    Calls Try.prog 31 #[.string s] w fun e w' => e = .returned (.int .i64 (numOf s.data.toList)) ∧ w = w' := by
  have HD := Lib.hid hd
  clear hd
  go_enter Try.func31, Try.ntmps31
  go_wp2
  go_loop [3, 4] (fun n i => ∃ k : Nat, k ≤ s.size ∧ i = .int .i64 k ∧ n = .int .i64 (numOf (s.data.toList.take k))) (fun _ i => s.size - (intOf i).toNat)
  case atStart => exact ⟨0, Nat.zero_le _, rfl, rfl⟩
  case round =>
    obtain ⟨k, hk, rfl, rfl⟩ := hrel
    have hnb := numOf_take s k hs HD.out
    by_cases hlt : k < s.size
    · have HS := Lib.hid (show numOf (s.data.toList.take (k + 1)) = numOf (s.data.toList.take k) * 10 + ((s[k].toNat : Int) - 48) from by rw [take_snoc s k hlt, numOf_snoc])
      have hdk := dig_at s k hlt HD.out
      go_wp2
      go_round
      case rel => exact ⟨k + 1, by omega, by go_num, by first | (rw [HS.out]; done) | (rw [HS.out]; go_num)⟩
      case measure => simp [intOf]; omega
    · go_wp2
      go_ret
      exact ⟨ret_int (show numOf (s.data.toList.take k) = numOf s.data.toList from by rw [List.take_of_length_le (by simp; omega)]), rfl⟩
set_option maxHeartbeats 400000 in
theorem rnumber_no (s : ByteArray) (w : World) (hs : s.size ≤ 4) (hd : allDig s.data.toList = false) :
    Calls Try.prog 31 #[.string s] w fun e w' => e = .returned (.int .i64 (-1)) ∧ w = w' := by
  have HD := Lib.hid hd
  clear hd
  go_enter Try.func31, Try.ntmps31
  go_wp2
  go_loop [3, 4] (fun n i => ∃ k : Nat, k ≤ s.size ∧ i = .int .i64 k ∧ n = .int .i64 (numOf (s.data.toList.take k)) ∧ allDig (s.data.toList.take k) = true) (fun _ i => s.size - (intOf i).toNat)
  case atStart => exact ⟨0, Nat.zero_le _, rfl, rfl, rfl⟩
  case round =>
    obtain ⟨k, hk, rfl, rfl, ha⟩ := hrel
    have HA := Lib.hid ha
    have hnb := numOf_take' s k hs ha
    clear ha
    by_cases hlt : k < s.size
    · by_cases hdk : 48 ≤ (s[k].toNat : Int) ∧ (s[k].toNat : Int) ≤ 57
      · have HS := Lib.hid (show numOf (s.data.toList.take (k + 1)) = numOf (s.data.toList.take k) * 10 + ((s[k].toNat : Int) - 48) from by rw [take_snoc s k hlt, numOf_snoc])
        go_wp2
        go_round
        case rel => exact ⟨k + 1, by omega, by go_num, by first | (rw [HS.out]; done) | (rw [HS.out]; go_num), by rw [take_snoc s k hlt, allDig_snoc, HA.out]; simp [digB]; omega⟩
        case measure => simp [intOf]; omega
      · rcases (show (s[k].toNat : Int) < 48 ∨ 57 < (s[k].toNat : Int) by omega) with hd1 | hd1
        all_goals
          clear hdk
          go_wp2
          go_ret
          exact ⟨rfl, rfl⟩
    · exfalso
      have := HA.out
      rw [List.take_of_length_le (by simp; omega), HD.out] at this
      cases this
end Go.Proofs.Ytcifjneckbonlaa
