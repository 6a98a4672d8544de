/- The walks of digits, number, Text, Of. -/
import Derived.Test.YtcifjneckbonlaaMonths
namespace Go.Proofs.Ytcifjneckbonlaa
open Go.RowKit

theorem make2 (w : World) : (Instr.makeSlice 39 (.int .i64 2) (.int .i64 2)).run Try.prog w = .ok (.slice (some ⟨w.heap.size, 0, none⟩) 2 2) (w.alloc (.cells #[.int .u8 0, .int .u8 0] 5)) := by kernel_rfl
theorem make4 (w : World) : (Instr.makeSlice 39 (.int .i64 4) (.int .i64 4)).run Try.prog w = .ok (.slice (some ⟨w.heap.size, 0, none⟩) 4 4) (w.alloc (.cells #[.int .u8 0, .int .u8 0, .int .u8 0, .int .u8 0] 5)) := by kernel_rfl

theorem conv2 (w : World) (a b : Int) : (convert 39 9 (.slice (some ⟨w.heap.size, 0, none⟩) 2 2)).run Try.prog (w.alloc (.cells #[.int .u8 a, .int .u8 b] 5)) = .ok (.string (strOfNums [a, b])) (w.alloc (.cells #[.int .u8 a, .int .u8 b] 5)) := by
  refine run_convert_bytes_arg (P := Try.prog) _ 39 5 Try.underlying39 Try.underlying5 _ _ 2 2 [a, b] rfl (fun i hi => ?_) 9 Try.underlying9
  rcases (show i = 0 ∨ i = 1 by omega) with rfl | rfl <;> simp [go_sem]
theorem conv4 (w : World) (a b c d : Int) : (convert 39 9 (.slice (some ⟨w.heap.size, 0, none⟩) 4 4)).run Try.prog (w.alloc (.cells #[.int .u8 a, .int .u8 b, .int .u8 c, .int .u8 d] 5)) = .ok (.string (strOfNums [a, b, c, d])) (w.alloc (.cells #[.int .u8 a, .int .u8 b, .int .u8 c, .int .u8 d] 5)) := by
  refine run_convert_bytes_arg (P := Try.prog) _ 39 5 Try.underlying39 Try.underlying5 _ _ 4 4 [a, b, c, d] rfl (fun i hi => ?_) 9 Try.underlying9
  rcases (show i = 0 ∨ i = 1 ∨ i = 2 ∨ i = 3 by omega) with rfl | rfl | rfl | rfl <;> simp [go_sem]
theorem conv1 (w : World) (a : Int) : (convert 39 9 (.slice (some ⟨w.heap.size, 0, none⟩) 1 1)).run Try.prog (w.alloc (.cells #[.int .u8 a] 5)) = .ok (.string (strOfNums [a])) (w.alloc (.cells #[.int .u8 a] 5)) := by
  refine run_convert_bytes_arg (P := Try.prog) _ 39 5 Try.underlying39 Try.underlying5 _ _ 1 1 [a] rfl (fun i hi => ?_) 9 Try.underlying9
  rcases (show i = 0 by omega) with rfl; simp [go_sem]

def d2 (x : Int) : List Int := [48 + x / 10 % 10, 48 + x % 10]
def d4 (x : Int) : List Int := [48 + x / 1000 % 10, 48 + x / 100 % 10, 48 + x / 10 % 10, 48 + x % 10]

set_option maxHeartbeats 400000 in
theorem digits2 (x : Int) (w : World) (h0 : 0 ≤ x) (h1 : x ≤ 99) :
    Calls Try.prog 25 #[.int .i64 x, .int .i64 2] w fun e w' => e = .returned (.string (strOfNums (d2 x))) ∧ Grown w w' := by
  have hm := make2
  have hc := conv2
  have hd : 0 ≤ x / 10 ∧ x / 10 ≤ 9 := by omega
  have hr : 0 ≤ x % 10 ∧ x % 10 ≤ 9 := by omega
  go_enter Try.func25, Try.ntmps25
  go_wp2_with fail
  refine wp_loop_rounds 3 ?_
  rw [rounds_succ]
  go_wp2_with fail
  rw [rounds_succ]
  go_wp2_with fail
  rw [rounds_succ]
  go_wp2_with fail
  go_ret
  exact ⟨rfl, (Grown.refl _).alloc _ _⟩
set_option maxHeartbeats 400000 in
theorem digits4 (x : Int) (w : World) (h0 : 0 ≤ x) (h1 : x ≤ 9999) :
    Calls Try.prog 25 #[.int .i64 x, .int .i64 4] w fun e w' => e = .returned (.string (strOfNums (d4 x))) ∧ Grown w w' := by
  have hm := make4
  have hc := conv4
  have e1 := Lib.hid (show [48 + x / 10 / 10 / 10 % 10, 48 + x / 10 / 10 % 10, 48 + x / 10 % 10, 48 + x % 10] = d4 x from by
    unfold d4; rw [show x / 10 / 10 / 10 = x / 1000 from by omega, show x / 10 / 10 = x / 100 from by omega])
  go_enter Try.func25, Try.ntmps25
  go_wp2_with fail
  refine wp_loop_rounds 5 ?_
  rw [rounds_succ]
  go_wp2_with fail
  rw [rounds_succ]
  go_wp2_with fail
  rw [rounds_succ]
  go_wp2_with fail
  rw [rounds_succ]
  go_wp2_with fail
  rw [rounds_succ]
  go_wp2_with fail
  go_ret
  rw [← e1.out]
  exact ⟨rfl, (Grown.refl _).alloc _ _⟩
theorem str_app (a b : List Int) : strOfNums a ++ strOfNums b = strOfNums (a ++ b) := by
  apply ByteArray.ext
  simp [strOfNums]
def dg : Nat → Int → List Int
  | 0, _ => []
  | n + 1, x => dg n (x / 10) ++ [48 + x % 10]
theorem dg_d2 (x : Int) : dg 2 x = d2 x := rfl
theorem dg_d4 (x : Int) : dg 4 x = d4 x := by
  simp only [dg, d4]; rw [show x / 10 / 10 / 10 = x / 1000 from by omega, show x / 10 / 10 = x / 100 from by omega]; rfl
theorem ret_str {a b : ByteArray} (h : a = b) : Ending.returned (.string a) = .returned (.string b) := by rw [h]
set_option maxHeartbeats 400000 in
theorem rdigits_any (n : Nat) (hn : n ≤ 4) (x : Int) (w : World) (h0 : 0 ≤ x) (h1 : x ≤ 9999) :
    Calls Try.prog 27 #[.int .i64 x, .int .i64 n] w fun e w' => e = .returned (.string (strOfNums (dg n x))) ∧ Grown w w' := by
  go_enter Try.func27, Try.ntmps27
  go_wp2_with fail
  go_loopw [0, 5, 6] (fun a o i wr => ∃ (k : Nat) (X : Int) (L : List Int), k ≤ n ∧ i = .int .i64 k ∧ 0 ≤ X ∧ X ≤ 9999 ∧ a = .int .i64 X ∧ o = .string (strOfNums L) ∧ L.length = k ∧ dg n x = dg (n - k) X ++ L ∧ Grown w wr) (fun _ _ i _ => n - (intOf i).toNat)
  case atStart => exact ⟨0, x, [], by omega, rfl, h0, h1, rfl, rfl, rfl, by simp, Grown.refl _⟩
  case round =>
    obtain ⟨k, X, L, hk, rfl, hX0, hX1, rfl, rfl, hl, he, hg⟩ := hrel
    have HE := Lib.hid he
    have HL := Lib.hid hl
    clear he hl
    by_cases hlt : k < n
    · have hc := conv1 wr
      have hz := strOfNums_size
      have hl4 : L.length ≤ 4 := by rw [HL.out]; omega
      have hap := str_app
      have hr : 0 ≤ X % 10 ∧ X % 10 ≤ 9 := by omega
      go_wp2_with fail
      go_roundw
      case rel => exact ⟨k + 1, X / 10, (48 + X % 10) :: L, by omega, by go_num, by omega, by omega, rfl, rfl, by simp [HL.out], by rw [HE.out, show n - k = (n - (k + 1)) + 1 from by omega]; simp [dg], hg.alloc _ _⟩
      case measure => simp [intOf]; omega
    · obtain rfl : k = n := by omega
      go_wp2_with fail
      go_ret
      exact ⟨ret_str (by rw [HE.out]; simp [dg]), hg⟩
end Go.Proofs.Ytcifjneckbonlaa
