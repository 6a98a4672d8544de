/- The walks of Of. -/
import Derived.Test.YtcifjneckbonlaaNums
namespace Go.Proofs.Ytcifjneckbonlaa
open Go.RowKit

theorem number_any (s : ByteArray) (w : World) (hs : s.size ≤ 4) :
    Calls Try.prog 28 #[.string s] w fun e w' => (∃ n b, e = .returned (.tuple #[.int .i64 n, .bool b])) ∧ w = w' := by
  cases hd : allDig s.data.toList
  · exact (number_no s w hs hd).mono fun e w' ⟨he, hw⟩ => ⟨⟨_, _, he⟩, hw⟩
  · exact (number_yes s w hs hd).mono fun e w' ⟨he, hw⟩ => ⟨⟨_, _, he⟩, hw⟩

/-- the bytes from a up to b -/
def fld (s : ByteArray) (a b : Nat) : List UInt8 := (s.extract a b).data.toList
theorem fld_len (s : ByteArray) (a b : Nat) (h : b ≤ s.size) : (fld s a b).length = b - a := by
  simp [fld]; omega
theorem ext_size (s : ByteArray) (a b : Nat) (h : b ≤ s.size) : (s.extract a b).size = b - a := by
  simp; omega

theorem of_short (s : ByteArray) (w : World) (hs : s.size ≠ 16) (hm : s.size ≤ maxLen) :
    Calls Try.prog 12 #[.string s] w fun e w' => e = .returned (.tuple #[.int .i64 0, .bool false]) ∧ w = w' := by
  unfold maxLen at hm
  have h1 : ((s.size : Int) != 16) = true := by rw [bne_iff_ne]; omega
  clear hs
  go_enter Try.func12, Try.ntmps12
  go_wp2_with fail
  go_ret2
  exact ⟨rfl, rfl⟩

theorem number_eq (s : ByteArray) (n : Int) (w : World) (hs : s.size ≤ 4) (hd : allDig s.data.toList = true) (hn : numOf s.data.toList = n) :
    Calls Try.prog 28 #[.string s] w fun e w' => e = .returned (.tuple #[.int .i64 n, .bool true]) ∧ w = w' := by
  subst hn; exact number_yes s w hs hd
theorem ofd0 (s : ByteArray) (w : World) (hs : s.size = 16)  (hd0 : allDig (fld s 0 4) = false) :
    Calls Try.prog 12 #[.string s] w fun e w' => e = .returned (.tuple #[.int .i64 0, .bool false]) ∧ w = w' := by
  have h1 : ((s.size : Int) != 16) = false := by simp; omega
  have h2 : 16 ≤ s.size := by omega
  clear hs
  have H0 := Lib.hid hd0
  clear hd0
  go_enter Try.func12, Try.ntmps12
  go_wp2_with fail
  refine (number_no _ _ (by simp; omega) H0.out).mono ?_
  rintro e w1 ⟨rfl, rfl⟩
  go_wp2_with fail
  refine (number_any _ _ (by simp; omega)).mono ?_
  rintro e w1 ⟨⟨n1, b1, rfl⟩, rfl⟩
  go_wp2_with fail
  refine (number_any _ _ (by simp; omega)).mono ?_
  rintro e w1 ⟨⟨n2, b2, rfl⟩, rfl⟩
  go_wp2_with fail
  refine (number_any _ _ (by simp; omega)).mono ?_
  rintro e w1 ⟨⟨n3, b3, rfl⟩, rfl⟩
  go_wp2_with fail
  refine (number_any _ _ (by simp; omega)).mono ?_
  rintro e w1 ⟨⟨n4, b4, rfl⟩, rfl⟩
  go_wp2_with fail
  go_ret2
  exact ⟨rfl, rfl⟩
theorem ofd1 (s : ByteArray) (w : World) (hs : s.size = 16) (hd0 : allDig (fld s 0 4) = true) (hd1 : allDig (fld s 5 7) = false) :
    Calls Try.prog 12 #[.string s] w fun e w' => e = .returned (.tuple #[.int .i64 0, .bool false]) ∧ w = w' := by
  have h1 : ((s.size : Int) != 16) = false := by simp; omega
  have h2 : 16 ≤ s.size := by omega
  clear hs
  have H0 := Lib.hid hd0
  clear hd0
  have H1 := Lib.hid hd1
  clear hd1
  go_enter Try.func12, Try.ntmps12
  go_wp2_with fail
  refine (number_yes _ _ (by simp; omega) H0.out).mono ?_
  rintro e w1 ⟨rfl, rfl⟩
  go_wp2_with fail
  refine (number_no _ _ (by simp; omega) H1.out).mono ?_
  rintro e w1 ⟨rfl, rfl⟩
  go_wp2_with fail
  refine (number_any _ _ (by simp; omega)).mono ?_
  rintro e w1 ⟨⟨n2, b2, rfl⟩, rfl⟩
  go_wp2_with fail
  refine (number_any _ _ (by simp; omega)).mono ?_
  rintro e w1 ⟨⟨n3, b3, rfl⟩, rfl⟩
  go_wp2_with fail
  refine (number_any _ _ (by simp; omega)).mono ?_
  rintro e w1 ⟨⟨n4, b4, rfl⟩, rfl⟩
  go_wp2_with fail
  go_ret2
  exact ⟨rfl, rfl⟩
theorem ofd2 (s : ByteArray) (w : World) (hs : s.size = 16) (hd0 : allDig (fld s 0 4) = true) (hd1 : allDig (fld s 5 7) = true) (hd2 : allDig (fld s 8 10) = false) :
    Calls Try.prog 12 #[.string s] w fun e w' => e = .returned (.tuple #[.int .i64 0, .bool false]) ∧ w = w' := by
  have h1 : ((s.size : Int) != 16) = false := by simp; omega
  have h2 : 16 ≤ s.size := by omega
  clear hs
  have H0 := Lib.hid hd0
  clear hd0
  have H1 := Lib.hid hd1
  clear hd1
  have H2 := Lib.hid hd2
  clear hd2
  go_enter Try.func12, Try.ntmps12
  go_wp2_with fail
  refine (number_yes _ _ (by simp; omega) H0.out).mono ?_
  rintro e w1 ⟨rfl, rfl⟩
  go_wp2_with fail
  refine (number_yes _ _ (by simp; omega) H1.out).mono ?_
  rintro e w1 ⟨rfl, rfl⟩
  go_wp2_with fail
  refine (number_no _ _ (by simp; omega) H2.out).mono ?_
  rintro e w1 ⟨rfl, rfl⟩
  go_wp2_with fail
  refine (number_any _ _ (by simp; omega)).mono ?_
  rintro e w1 ⟨⟨n3, b3, rfl⟩, rfl⟩
  go_wp2_with fail
  refine (number_any _ _ (by simp; omega)).mono ?_
  rintro e w1 ⟨⟨n4, b4, rfl⟩, rfl⟩
  go_wp2_with fail
  go_ret2
  exact ⟨rfl, rfl⟩
theorem ofd3 (s : ByteArray) (w : World) (hs : s.size = 16) (hd0 : allDig (fld s 0 4) = true) (hd1 : allDig (fld s 5 7) = true) (hd2 : allDig (fld s 8 10) = true) (hd3 : allDig (fld s 11 13) = false) :
    Calls Try.prog 12 #[.string s] w fun e w' => e = .returned (.tuple #[.int .i64 0, .bool false]) ∧ w = w' := by
  have h1 : ((s.size : Int) != 16) = false := by simp; omega
  have h2 : 16 ≤ s.size := by omega
  clear hs
  have H0 := Lib.hid hd0
  clear hd0
  have H1 := Lib.hid hd1
  clear hd1
  have H2 := Lib.hid hd2
  clear hd2
  have H3 := Lib.hid hd3
  clear hd3
  go_enter Try.func12, Try.ntmps12
  go_wp2_with fail
  refine (number_yes _ _ (by simp; omega) H0.out).mono ?_
  rintro e w1 ⟨rfl, rfl⟩
  go_wp2_with fail
  refine (number_yes _ _ (by simp; omega) H1.out).mono ?_
  rintro e w1 ⟨rfl, rfl⟩
  go_wp2_with fail
  refine (number_yes _ _ (by simp; omega) H2.out).mono ?_
  rintro e w1 ⟨rfl, rfl⟩
  go_wp2_with fail
  refine (number_no _ _ (by simp; omega) H3.out).mono ?_
  rintro e w1 ⟨rfl, rfl⟩
  go_wp2_with fail
  refine (number_any _ _ (by simp; omega)).mono ?_
  rintro e w1 ⟨⟨n4, b4, rfl⟩, rfl⟩
  go_wp2_with fail
  go_ret2
  exact ⟨rfl, rfl⟩
theorem ofd4 (s : ByteArray) (w : World) (hs : s.size = 16) (hd0 : allDig (fld s 0 4) = true) (hd1 : allDig (fld s 5 7) = true) (hd2 : allDig (fld s 8 10) = true) (hd3 : allDig (fld s 11 13) = true) (hd4 : allDig (fld s 14 16) = false) :
    Calls Try.prog 12 #[.string s] w fun e w' => e = .returned (.tuple #[.int .i64 0, .bool false]) ∧ w = w' := by
  have h1 : ((s.size : Int) != 16) = false := by simp; omega
  have h2 : 16 ≤ s.size := by omega
  clear hs
  have H0 := Lib.hid hd0
  clear hd0
  have H1 := Lib.hid hd1
  clear hd1
  have H2 := Lib.hid hd2
  clear hd2
  have H3 := Lib.hid hd3
  clear hd3
  have H4 := Lib.hid hd4
  clear hd4
  go_enter Try.func12, Try.ntmps12
  go_wp2_with fail
  refine (number_yes _ _ (by simp; omega) H0.out).mono ?_
  rintro e w1 ⟨rfl, rfl⟩
  go_wp2_with fail
  refine (number_yes _ _ (by simp; omega) H1.out).mono ?_
  rintro e w1 ⟨rfl, rfl⟩
  go_wp2_with fail
  refine (number_yes _ _ (by simp; omega) H2.out).mono ?_
  rintro e w1 ⟨rfl, rfl⟩
  go_wp2_with fail
  refine (number_yes _ _ (by simp; omega) H3.out).mono ?_
  rintro e w1 ⟨rfl, rfl⟩
  go_wp2_with fail
  refine (number_no _ _ (by simp; omega) H4.out).mono ?_
  rintro e w1 ⟨rfl, rfl⟩
  go_wp2_with fail
  go_ret2
  exact ⟨rfl, rfl⟩
theorem ofmlo (s : ByteArray) (Y M D H I : Int) (w : World) (hs : s.size = 16) (hd0 : allDig (fld s 0 4) = true) (hd1 : allDig (fld s 5 7) = true) (hd2 : allDig (fld s 8 10) = true) (hd3 : allDig (fld s 11 13) = true) (hd4 : allDig (fld s 14 16) = true) (hn0 : numOf (fld s 0 4) = Y) (hn1 : numOf (fld s 5 7) = M) (hn2 : numOf (fld s 8 10) = D) (hn3 : numOf (fld s 11 13) = H) (hn4 : numOf (fld s 14 16) = I) (hm : M < 1) :
    Calls Try.prog 12 #[.string s] w fun e w' => e = .returned (.tuple #[.int .i64 0, .bool false]) ∧ w = w' := by
  have h1 : ((s.size : Int) != 16) = false := by simp; omega
  have h2 : 16 ≤ s.size := by omega
  clear hs
  have H0 := Lib.hid hd0
  clear hd0
  have N0 := Lib.hid hn0
  clear hn0
  have H1 := Lib.hid hd1
  clear hd1
  have N1 := Lib.hid hn1
  clear hn1
  have H2 := Lib.hid hd2
  clear hd2
  have N2 := Lib.hid hn2
  clear hn2
  have H3 := Lib.hid hd3
  clear hd3
  have N3 := Lib.hid hn3
  clear hn3
  have H4 := Lib.hid hd4
  clear hd4
  have N4 := Lib.hid hn4
  clear hn4
  go_enter Try.func12, Try.ntmps12
  go_wp2_with fail
  refine (number_eq _ Y _ (by simp; omega) H0.out N0.out).mono ?_
  rintro e w1 ⟨rfl, rfl⟩
  go_wp2_with fail
  refine (number_eq _ M _ (by simp; omega) H1.out N1.out).mono ?_
  rintro e w1 ⟨rfl, rfl⟩
  go_wp2_with fail
  refine (number_eq _ D _ (by simp; omega) H2.out N2.out).mono ?_
  rintro e w1 ⟨rfl, rfl⟩
  go_wp2_with fail
  refine (number_eq _ H _ (by simp; omega) H3.out N3.out).mono ?_
  rintro e w1 ⟨rfl, rfl⟩
  go_wp2_with fail
  refine (number_eq _ I _ (by simp; omega) H4.out N4.out).mono ?_
  rintro e w1 ⟨rfl, rfl⟩
  go_wp2_with fail
  go_ret2
  exact ⟨rfl, rfl⟩
theorem ofmhi (s : ByteArray) (Y M D H I : Int) (w : World) (hs : s.size = 16) (hd0 : allDig (fld s 0 4) = true) (hd1 : allDig (fld s 5 7) = true) (hd2 : allDig (fld s 8 10) = true) (hd3 : allDig (fld s 11 13) = true) (hd4 : allDig (fld s 14 16) = true) (hn0 : numOf (fld s 0 4) = Y) (hn1 : numOf (fld s 5 7) = M) (hn2 : numOf (fld s 8 10) = D) (hn3 : numOf (fld s 11 13) = H) (hn4 : numOf (fld s 14 16) = I) (hm : 12 < M) :
    Calls Try.prog 12 #[.string s] w fun e w' => e = .returned (.tuple #[.int .i64 0, .bool false]) ∧ w = w' := by
  have h1 : ((s.size : Int) != 16) = false := by simp; omega
  have h2 : 16 ≤ s.size := by omega
  clear hs
  have H0 := Lib.hid hd0
  clear hd0
  have N0 := Lib.hid hn0
  clear hn0
  have H1 := Lib.hid hd1
  clear hd1
  have N1 := Lib.hid hn1
  clear hn1
  have H2 := Lib.hid hd2
  clear hd2
  have N2 := Lib.hid hn2
  clear hn2
  have H3 := Lib.hid hd3
  clear hd3
  have N3 := Lib.hid hn3
  clear hn3
  have H4 := Lib.hid hd4
  clear hd4
  have N4 := Lib.hid hn4
  clear hn4
  go_enter Try.func12, Try.ntmps12
  go_wp2_with fail
  refine (number_eq _ Y _ (by simp; omega) H0.out N0.out).mono ?_
  rintro e w1 ⟨rfl, rfl⟩
  go_wp2_with fail
  refine (number_eq _ M _ (by simp; omega) H1.out N1.out).mono ?_
  rintro e w1 ⟨rfl, rfl⟩
  go_wp2_with fail
  refine (number_eq _ D _ (by simp; omega) H2.out N2.out).mono ?_
  rintro e w1 ⟨rfl, rfl⟩
  go_wp2_with fail
  refine (number_eq _ H _ (by simp; omega) H3.out N3.out).mono ?_
  rintro e w1 ⟨rfl, rfl⟩
  go_wp2_with fail
  refine (number_eq _ I _ (by simp; omega) H4.out N4.out).mono ?_
  rintro e w1 ⟨rfl, rfl⟩
  go_wp2_with fail
  go_ret2
  exact ⟨rfl, rfl⟩

/-- the minute that a text's five numbers tell, however great the last three -/
def minuteOf (Y M D H I : Int) : Int := (Cal.dby Y + D - 1 + Cal.cum Y (M - 1)) * 1440 + H * 60 + I
def Told (s : ByteArray) (x : Int) (w : World) (e : Ending) (w' : World) : Prop :=
  ∃ y m i : Int, Cal.IsDate (x / 1440) y m i ∧ Grown w w' ∧ ((0 ≤ y ∧ y ≤ 9999 ∧ strOfNums (txt y m i (x % 1440)) = s ∧ e = .returned (.tuple #[.int .i64 x, .bool true]))
    ∨ (¬ (0 ≤ y ∧ y ≤ 9999 ∧ strOfNums (txt y m i (x % 1440)) = s) ∧ e = .returned (.tuple #[.int .i64 0, .bool false])))
theorem neq_str {a b : ByteArray} (h : ¬ a = b) : (a.toList == b.toList) = false := by
  rw [beq_eq_false_iff_ne, ByteArray.toList_eq, ByteArray.toList_eq]
  exact fun e => h (ByteArray.ext (Array.toList_inj.1 e))
theorem notEmpty (s : ByteArray) (h : 1 ≤ s.size) : s.toList.isEmpty = false := by
  rw [ByteArray.toList_eq, List.isEmpty_eq_false_iff, ← List.length_pos_iff]
  simp; omega
theorem dby_bd (y : Int) (h0 : 0 ≤ y) (h1 : y ≤ 9999) : -1000000 ≤ Cal.dby y ∧ Cal.dby y ≤ 3000000 := by unfold Cal.dby; omega
set_option maxHeartbeats 1000000 in
set_option maxRecDepth 100000 in
theorem of_told (s : ByteArray) (Y M D H I : Int) (w : World) (hs : s.size = 16) (hd0 : allDig (fld s 0 4) = true) (hd1 : allDig (fld s 5 7) = true) (hd2 : allDig (fld s 8 10) = true) (hd3 : allDig (fld s 11 13) = true) (hd4 : allDig (fld s 14 16) = true) (hn0 : numOf (fld s 0 4) = Y) (hn1 : numOf (fld s 5 7) = M) (hn2 : numOf (fld s 8 10) = D) (hn3 : numOf (fld s 11 13) = H) (hn4 : numOf (fld s 14 16) = I) (hm0 : 1 ≤ M) (hm1 : M ≤ 12) :
    Calls Try.prog 12 #[.string s] w (Told s (minuteOf Y M D H I) w) := by
  have by0 := numOf_bd (fld s 0 4) hd0 (by rw [fld_len s 0 4 (by omega)]; omega)
  have by2 := numOf_bd2 (fld s 8 10) hd2 (by rw [fld_len s 8 10 (by omega)]; omega)
  have by3 := numOf_bd2 (fld s 11 13) hd3 (by rw [fld_len s 11 13 (by omega)]; omega)
  have by4 := numOf_bd2 (fld s 14 16) hd4 (by rw [fld_len s 14 16 (by omega)]; omega)
  rw [hn0] at by0
  rw [hn2] at by2
  rw [hn3] at by3
  rw [hn4] at by4
  have bdb := dby_bd Y by0.1 by0.2
  have byl : Cal.ylen Y ≤ 366 := by have := Cal.lp_01 Y; unfold Cal.ylen; omega
  have h1 : ((s.size : Int) != 16) = false := by simp; omega
  have h2 : 16 ≤ s.size := by omega
  clear hs
  have H0 := Lib.hid hd0
  clear hd0
  have N0 := Lib.hid hn0
  clear hn0
  have H1 := Lib.hid hd1
  clear hd1
  have N1 := Lib.hid hn1
  clear hn1
  have H2 := Lib.hid hd2
  clear hd2
  have N2 := Lib.hid hn2
  clear hn2
  have H3 := Lib.hid hd3
  clear hd3
  have N3 := Lib.hid hn3
  clear hn3
  have H4 := Lib.hid hd4
  clear hd4
  have N4 := Lib.hid hn4
  clear hn4
  go_enter Try.func12, Try.ntmps12
  go_wp2_with fail
  refine (number_eq _ Y _ (by simp; omega) H0.out N0.out).mono ?_
  rintro e w1 ⟨rfl, rfl⟩
  go_wp2_with fail
  refine (number_eq _ M _ (by simp; omega) H1.out N1.out).mono ?_
  rintro e w1 ⟨rfl, rfl⟩
  go_wp2_with fail
  refine (number_eq _ D _ (by simp; omega) H2.out N2.out).mono ?_
  rintro e w1 ⟨rfl, rfl⟩
  go_wp2_with fail
  refine (number_eq _ H _ (by simp; omega) H3.out N3.out).mono ?_
  rintro e w1 ⟨rfl, rfl⟩
  go_wp2_with fail
  refine (number_eq _ I _ (by simp; omega) H4.out N4.out).mono ?_
  rintro e w1 ⟨rfl, rfl⟩
  go_wp2_with fail
  refine (begin_any _ _ (by omega) (by omega)).mono ?_
  rintro e w2 ⟨rfl, hg2⟩
  go_wp2_with fail
  refine (lengths_any _ _).mono ?_
  rintro e w3 ⟨rfl, hg3⟩
  go_wp2_with fail
  go_loop [14, 84] (fun d u => ∃ k : Nat, k ≤ 12 ∧ u = .int .i64 k ∧ d = .int .i64 (Cal.dby Y + D - 1 + Cal.cum Y (min (k : Int) (M - 1)))) (fun _ u => 12 - (intOf u).toNat)
  case atStart => exact ⟨0, by omega, rfl, by rw [show min ((0 : Nat) : Int) (M - 1) = 0 from by omega, Cal.cum_0]; simp⟩
  case round =>
    obtain ⟨k, hk, rfl, rfl⟩ := hrel
    by_cases hlt : k < 12
    · have hi := fun w => idx Y k hlt w
      have hml := Cal.mlen_bd Y k
      by_cases hkm : (k : Int) < M - 1
      · have hcb := Cal.cum_bd Y k (by omega) (by omega)
        rw [show min (k : Int) (M - 1) = k from by omega]
        have HC := Lib.hid (Cal.cum_succ Y k (by omega) (by omega))
        go_wp2_with fail
        go_round
        case rel => exact ⟨k + 1, by omega, by go_num, by rw [show min ((k + 1 : Nat) : Int) (M - 1) = k + 1 from by omega, HC.out]; go_num⟩
        case measure => simp [intOf]; omega
      · have hcb := Cal.cum_bd Y (M - 1) (by omega) (by omega)
        rw [show min (k : Int) (M - 1) = M - 1 from by omega]
        go_wp2_with fail
        go_round
        case rel => exact ⟨k + 1, by omega, by go_num, by rw [show min ((k + 1 : Nat) : Int) (M - 1) = M - 1 from by omega]⟩
        case measure => simp [intOf]; omega
    · have hcb := Cal.cum_bd Y (M - 1) (by omega) (by omega)
      rw [show min (k : Int) (M - 1) = M - 1 from by omega]
      go_wp2_with fail
      have hX : ∃ X, X = minuteOf Y M D H I ∧ X = (Cal.dby Y + D - 1 + Cal.cum Y (M - 1)) * 1440 + H * 60 + I := ⟨_, rfl, rfl⟩
      obtain ⟨X, hX1, hX2⟩ := hX
      rw [← hX2]
      have hX3 : -10000000000 ≤ X ∧ X ≤ 10000000000 := by omega
      have HX1 := Lib.hid hX1
      clear hX1 hX2
      obtain ⟨y, m, i, hdt⟩ := Cal.date_exists (X / 1440)
      by_cases hy : 0 ≤ y ∧ y ≤ 9999
      · refine (text_any X y m i _ (by omega) (by omega) hdt hy.1 hy.2).mono ?_
        rintro e w4 ⟨rfl, hg4⟩
        by_cases ht : strOfNums (txt y m i (X % 1440)) = s
        · rw [ht]
          have HT := Lib.hid ht
          clear ht
          go_wp2_with fail
          go_ret2
          refine ⟨y, m, i, by rw [← HX1.out]; exact hdt, gtrans hg2 (gtrans hg3 hg4), Or.inl ⟨hy.1, hy.2, by rw [← HX1.out]; exact HT.out, by rw [← HX1.out]; rfl⟩⟩
        · have HT := Lib.hid ht
          have ht2 : ((strOfNums (txt y m i (X % 1440))).toList == s.toList) = false := neq_str ht
          clear ht
          generalize strOfNums (txt y m i (X % 1440)) = T at ht2 ⊢
          go_wp2_with fail
          go_ret2
          refine ⟨y, m, i, by rw [← HX1.out]; exact hdt, gtrans hg2 (gtrans hg3 hg4), Or.inr ⟨fun h => HT.out (by rw [HX1.out]; exact h.2.2), rfl⟩⟩
      · refine (text_none X y m i _ (by omega) (by omega) hdt (by omega)).mono ?_
        rintro e w4 ⟨rfl, hg4⟩
        have HH := Lib.hid hy
        clear hy
        have hne : s.toList.isEmpty = false := notEmpty s (by omega)
        go_wp2_with fail
        go_ret2
        refine ⟨y, m, i, by rw [← HX1.out]; exact hdt, gtrans hg2 (gtrans hg3 hg4), Or.inr ⟨fun h => HH.out ⟨h.1, h.2.1⟩, rfl⟩⟩
end Go.Proofs.Ytcifjneckbonlaa
