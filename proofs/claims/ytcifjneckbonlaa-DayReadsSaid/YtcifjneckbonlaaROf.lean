/- The walk of the document's Of. -/
import Derived.Test.YtcifjneckbonlaaFields
import Derived.Deep.RegionWith
namespace Go.Proofs.Ytcifjneckbonlaa
open Go.RowKit

def rnum (l : List UInt8) : Int := if allDig l then numOf l else -1
theorem rnumber_eq (s : ByteArray) (n : Int) (w : World) (hs : s.size ≤ 4) (hn : rnum s.data.toList = n) :
    Calls Try.prog 31 #[.string s] w fun e w' => e = .returned (.int .i64 n) ∧ w' = w := by
  unfold rnum at hn
  cases hd : allDig s.data.toList
  · rw [hd] at hn; simp at hn; subst hn
    exact (rnumber_no s w hs hd).mono fun e w' ⟨he, hw⟩ => ⟨he, hw.symm⟩
  · rw [hd] at hn; simp at hn; subst hn
    exact (rnumber_yes s w hs hd).mono fun e w' ⟨he, hw⟩ => ⟨he, hw.symm⟩
theorem rof_short (s : ByteArray) (w : World) (hs : s.size ≠ 16) (hm : s.size ≤ maxLen) :
    Calls Try.prog 14 #[.string s] w fun e w' => e = .returned (.tuple #[.int .i64 0, .bool false]) ∧ Grown w w' := by
  unfold maxLen at hm
  have h1 : ((s.size : Int) != 16) = true := by rw [bne_iff_ne]; omega
  clear hs
  go_enter Try.func14, Try.ntmps14
  go_wp2_with fail
  go_quiet (fail)
  go_wp2_with fail
  go_ret2
  exact ⟨rfl, Grown.refl _⟩
theorem slice_at (s : ByteArray) (a b : Nat) (hab : a ≤ b) (hb : b ≤ 16) (hs : s.size = 16) (w : World) :
    (Instr.slice 9 (.string s) (some (.int .i64 (a : Int))) (some (.int .i64 (b : Int))) none).run Try.prog w = .ok (.string (s.extract a b)) w := by
  go_simp
  intro h
  omega
def sep (s : ByteArray) : ByteArray := s.extract 4 5 ++ s.extract 7 8 ++ s.extract 10 11 ++ s.extract 13 14
/-- what the first test needs of a text of 16 bytes -/
theorem sep_parts (s : ByteArray) (hs : s.size = 16) : ∃ A B C D : ByteArray, A.size = 1 ∧ B.size = 1 ∧ C.size = 1 ∧ D.size = 1 ∧ A ++ B ++ C ++ D = sep s ∧
    (∀ w, (Instr.slice 9 (.string s) (some (.int .i64 4)) (some (.int .i64 5)) none).run Try.prog w = .ok (.string A) w) ∧
    (∀ w, (Instr.slice 9 (.string s) (some (.int .i64 7)) (some (.int .i64 8)) none).run Try.prog w = .ok (.string B) w) ∧
    (∀ w, (Instr.slice 9 (.string s) (some (.int .i64 10)) (some (.int .i64 11)) none).run Try.prog w = .ok (.string C) w) ∧
    (∀ w, (Instr.slice 9 (.string s) (some (.int .i64 13)) (some (.int .i64 14)) none).run Try.prog w = .ok (.string D) w) :=
  ⟨_, _, _, _, ext_size s 4 5 (by omega), ext_size s 7 8 (by omega), ext_size s 10 11 (by omega), ext_size s 13 14 (by omega), rfl,
    slice_at s 4 5 (by omega) (by omega) hs, slice_at s 7 8 (by omega) (by omega) hs, slice_at s 10 11 (by omega) (by omega) hs, slice_at s 13 14 (by omega) (by omega) hs⟩
theorem rof_sep (s : ByteArray) (w : World) (hs : s.size = 16) (hp : ¬ sep s = ⟨#[45, 45, 32, 58]⟩) :
    Calls Try.prog 14 #[.string s] w fun e w' => e = .returned (.tuple #[.int .i64 0, .bool false]) ∧ Grown w w' := by
  have h1 : ((s.size : Int) != 16) = false := by simp; omega
  obtain ⟨A, B, C, D, zA, zB, zC, zD, e, sA, sB, sC, sD⟩ := sep_parts s hs
  have hp2 := neq_str hp
  rw [← e, show ({ data := #[45, 45, 32, 58] } : ByteArray).toList = [45, 45, 32, 58] from ByteArray.toList_eq _] at hp2
  clear hs hp e
  go_enter Try.func14, Try.ntmps14
  go_wp2_with fail
  go_quiet (fail)
  go_wp2_with fail
  go_ret2
  exact ⟨rfl, Grown.refl _⟩

theorem slice_to4 (s : ByteArray) (hs : s.size = 16) (w : World) :
    (Instr.slice 9 (.string s) none (some (.int .i64 4)) none).run Try.prog w = .ok (.string (s.extract 0 4)) w := by
  go_simp
theorem slice_from14 (s : ByteArray) (hs : s.size = 16) (w : World) :
    (Instr.slice 9 (.string s) (some (.int .i64 14)) none none).run Try.prog w = .ok (.string (s.extract 14 16)) w := by
  go_simp
/-- what the five numbers need: each slice under one name, with its number -/
theorem num_parts (s : ByteArray) (hs : s.size = 16) : ∃ A B C D E : ByteArray, A.size ≤ 4 ∧ B.size ≤ 4 ∧ C.size ≤ 4 ∧ D.size ≤ 4 ∧ E.size ≤ 4 ∧
    rnum A.data.toList = rnum (fld s 0 4) ∧ rnum B.data.toList = rnum (fld s 5 7) ∧ rnum C.data.toList = rnum (fld s 8 10) ∧ rnum D.data.toList = rnum (fld s 11 13) ∧ rnum E.data.toList = rnum (fld s 14 16) ∧
    (∀ w, (Instr.slice 9 (.string s) none (some (.int .i64 4)) none).run Try.prog w = .ok (.string A) w) ∧
    (∀ w, (Instr.slice 9 (.string s) (some (.int .i64 5)) (some (.int .i64 7)) none).run Try.prog w = .ok (.string B) w) ∧
    (∀ w, (Instr.slice 9 (.string s) (some (.int .i64 8)) (some (.int .i64 10)) none).run Try.prog w = .ok (.string C) w) ∧
    (∀ w, (Instr.slice 9 (.string s) (some (.int .i64 11)) (some (.int .i64 13)) none).run Try.prog w = .ok (.string D) w) ∧
    (∀ w, (Instr.slice 9 (.string s) (some (.int .i64 14)) none none).run Try.prog w = .ok (.string E) w) :=
  ⟨_, _, _, _, _, by rw [ext_size s 0 4 (by omega)]; omega, by rw [ext_size s 5 7 (by omega)]; omega, by rw [ext_size s 8 10 (by omega)]; omega, by rw [ext_size s 11 13 (by omega)]; omega, by rw [ext_size s 14 16 (by omega)]; omega,
    rfl, rfl, rfl, rfl, rfl, slice_to4 s hs, slice_at s 5 7 (by omega) (by omega) hs, slice_at s 8 10 (by omega) (by omega) hs, slice_at s 11 13 (by omega) (by omega) hs, slice_from14 s hs⟩
set_option maxHeartbeats 1000000 in
set_option maxRecDepth 100000 in
theorem rof_no (s : ByteArray) (w : World) (hs : s.size = 16) (hp : sep s = ⟨#[45, 45, 32, 58]⟩) (Y M D H I : Int) (nY : rnum (fld s 0 4) = Y) (nM : rnum (fld s 5 7) = M) (nD : rnum (fld s 8 10) = D) (nH : rnum (fld s 11 13) = H) (nI : rnum (fld s 14 16) = I)
    (hc : Y < 0 ∨ (0 ≤ Y ∧ M < 1) ∨ (0 ≤ Y ∧ 12 < M) ∨ (0 ≤ Y ∧ 1 ≤ M ∧ M ≤ 12 ∧ D < 1) ∨ (0 ≤ Y ∧ 1 ≤ M ∧ M ≤ 12 ∧ 1 ≤ D ∧ Cal.mlen Y (M - 1) < D)
      ∨ (0 ≤ Y ∧ 1 ≤ M ∧ M ≤ 12 ∧ 1 ≤ D ∧ D ≤ Cal.mlen Y (M - 1) ∧ H < 0) ∨ (0 ≤ Y ∧ 1 ≤ M ∧ M ≤ 12 ∧ 1 ≤ D ∧ D ≤ Cal.mlen Y (M - 1) ∧ 23 < H)
      ∨ (0 ≤ Y ∧ 1 ≤ M ∧ M ≤ 12 ∧ 1 ≤ D ∧ D ≤ Cal.mlen Y (M - 1) ∧ 0 ≤ H ∧ H ≤ 23 ∧ I < 0) ∨ (0 ≤ Y ∧ 1 ≤ M ∧ M ≤ 12 ∧ 1 ≤ D ∧ D ≤ Cal.mlen Y (M - 1) ∧ 0 ≤ H ∧ H ≤ 23 ∧ 59 < I)) :
    Calls Try.prog 14 #[.string s] w fun e w' => e = .returned (.tuple #[.int .i64 0, .bool false]) ∧ Grown w w' := by
  have h1 : ((s.size : Int) != 16) = false := by simp; omega
  obtain ⟨A, B, C, E, zA, zB, zC, zE, e, sA, sB, sC, sE⟩ := sep_parts s hs
  obtain ⟨F0, F1, F2, F3, F4, z0, z1, z2, z3, z4, q0, q1, q2, q3, q4, t0, t1, t2, t3, t4⟩ := num_parts s hs
  have hp2 : ((A ++ B ++ C ++ E).toList == [45, 45, 32, 58]) = true := by rw [e, hp, beq_iff_eq]; exact ByteArray.toList_eq _
  have Q0 := Lib.hid (q0.trans nY)
  have Q1 := Lib.hid (q1.trans nM)
  have Q2 := Lib.hid (q2.trans nD)
  have Q3 := Lib.hid (q3.trans nH)
  have Q4 := Lib.hid (q4.trans nI)
  clear hs hp e q0 q1 q2 q3 q4 nY nM nD nH nI
  rcases hc with hc | hc | hc | hc | hc | hc | hc | hc | hc
  all_goals
    go_enter Try.func14, Try.ntmps14
    go_wp2_with fail
    go_quiet (fail)
    have hgn : Grown w (w.drewN nq) := Grown.refl _
    generalize w.drewN nq = w1 at hgn ⊢
    clear hp2 sA sB sC sE
    go_wp2_with fail
    go_quiet (first
      | (go_at_call_of 31 (Value.string F0); exact Calls.quiet_of_same (rnumber_eq F0 Y _ z0 Q0.out))
      | (go_at_call_of 31 (Value.string F1); exact Calls.quiet_of_same (rnumber_eq F1 M _ z1 Q1.out))
      | (go_at_call_of 31 (Value.string F2); exact Calls.quiet_of_same (rnumber_eq F2 D _ z2 Q2.out))
      | (go_at_call_of 31 (Value.string F3); exact Calls.quiet_of_same (rnumber_eq F3 H _ z3 Q3.out))
      | (go_at_call_of 31 (Value.string F4); exact Calls.quiet_of_same (rnumber_eq F4 I _ z4 Q4.out)))
    go_wp2_with (go_at_call 32; refine (days_any _ _ _).mono ?_; rintro e w' ⟨rfl, rfl⟩)
    go_ret2
    exact ⟨rfl, hgn⟩
end Go.Proofs.Ytcifjneckbonlaa
