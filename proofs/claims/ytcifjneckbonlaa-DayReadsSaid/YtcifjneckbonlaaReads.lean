/- The plain law and the walk of DayReads. -/
import Derived.Test.YtcifjneckbonlaaROf2
import Derived.Test.YtcifjneckbonlaaRises
namespace Go.Proofs.Ytcifjneckbonlaa
open Go.RowKit

theorem list16 (l : List UInt8) (h : l.length = 16) : ∃ c0 c1 c2 c3 c4 c5 c6 c7 c8 c9 c10 c11 c12 c13 c14 c15, l = [c0, c1, c2, c3, c4, c5, c6, c7, c8, c9, c10, c11, c12, c13, c14, c15] := by
  match l, h with
  | [c0, c1, c2, c3, c4, c5, c6, c7, c8, c9, c10, c11, c12, c13, c14, c15], _ => exact ⟨c0, c1, c2, c3, c4, c5, c6, c7, c8, c9, c10, c11, c12, c13, c14, c15, rfl⟩
theorem b8_back (c : UInt8) : b8 (c.toNat : Int) = c := by unfold b8; simp
theorem dig_of {c : UInt8} (h : digB c = true) : 48 ≤ (c.toNat : Int) ∧ (c.toNat : Int) ≤ 57 := by simpa [digB] using h
theorem d2_num (a b : UInt8) (h : allDig [a, b] = true) : (d2 (numOf [a, b])).map b8 = [a, b] := by
  simp only [allDig, List.all_cons, List.all_nil, Bool.and_eq_true, Bool.and_true] at h
  have ha := dig_of h.1; have hb := dig_of h.2
  have e : numOf [a, b] = (0 * 10 + ((a.toNat : Int) - 48)) * 10 + ((b.toNat : Int) - 48) := rfl
  rw [e]
  simp only [d2, List.map]
  rw [show 48 + ((0 * 10 + ((a.toNat : Int) - 48)) * 10 + ((b.toNat : Int) - 48)) / 10 % 10 = a.toNat from by omega,
    show 48 + ((0 * 10 + ((a.toNat : Int) - 48)) * 10 + ((b.toNat : Int) - 48)) % 10 = b.toNat from by omega, b8_back, b8_back]
theorem d4_num (a b c d : UInt8) (h : allDig [a, b, c, d] = true) : (d4 (numOf [a, b, c, d])).map b8 = [a, b, c, d] := by
  simp only [allDig, List.all_cons, List.all_nil, Bool.and_eq_true, Bool.and_true] at h
  have ha := dig_of h.1; have hb := dig_of h.2.1; have hc := dig_of h.2.2.1; have hd := dig_of h.2.2.2
  have e : numOf [a, b, c, d] = (((a.toNat : Int) - 48) * 10 + ((b.toNat : Int) - 48)) * 100 + ((c.toNat : Int) - 48) * 10 + ((d.toNat : Int) - 48) := by
    simp only [numOf, List.foldl]; omega
  rw [e]
  simp only [d4, List.map]
  rw [show 48 + ((((a.toNat : Int) - 48) * 10 + ((b.toNat : Int) - 48)) * 100 + ((c.toNat : Int) - 48) * 10 + ((d.toNat : Int) - 48)) / 1000 % 10 = a.toNat from by omega,
    show 48 + ((((a.toNat : Int) - 48) * 10 + ((b.toNat : Int) - 48)) * 100 + ((c.toNat : Int) - 48) * 10 + ((d.toNat : Int) - 48)) / 100 % 10 = b.toNat from by omega,
    show 48 + ((((a.toNat : Int) - 48) * 10 + ((b.toNat : Int) - 48)) * 100 + ((c.toNat : Int) - 48) * 10 + ((d.toNat : Int) - 48)) / 10 % 10 = c.toNat from by omega,
    show 48 + ((((a.toNat : Int) - 48) * 10 + ((b.toNat : Int) - 48)) * 100 + ((c.toNat : Int) - 48) * 10 + ((d.toNat : Int) - 48)) % 10 = d.toNat from by omega, b8_back, b8_back, b8_back, b8_back]
theorem fld_data (s : ByteArray) (a b : Nat) : fld s a b = (s.data.toList.drop a).take (b - a) := by unfold fld; rw [Lib.extract_data]
theorem sep_data (s : ByteArray) : (sep s).data.toList = (fld s 4 5 ++ fld s 7 8) ++ fld s 10 11 ++ fld s 13 14 := by
  unfold sep fld; simp
/-- a text whose parts are digits and whose signs stand where they must is the text of its numbers -/
theorem txt_of_parts (s : ByteArray) (hs : s.size = 16) (hp : sep s = ⟨#[45, 45, 32, 58]⟩) (hd0 : allDig (fld s 0 4) = true) (hd1 : allDig (fld s 5 7) = true) (hd2 : allDig (fld s 8 10) = true) (hd3 : allDig (fld s 11 13) = true) (hd4 : allDig (fld s 14 16) = true)
    (r : Int) (hr1 : r / 60 = numOf (fld s 11 13)) (hr2 : r % 60 = numOf (fld s 14 16)) :
    strOfNums (txt (numOf (fld s 0 4)) (numOf (fld s 5 7) - 1) (numOf (fld s 8 10) - 1) r) = s := by
  have hl : s.data.toList.length = 16 := by simpa using hs
  have hq := sep_data s
  rw [hp] at hq
  apply ByteArray.ext
  apply Array.toList_inj.1
  have ht : (strOfNums (txt (numOf (fld s 0 4)) (numOf (fld s 5 7) - 1) (numOf (fld s 8 10) - 1) r)).data.toList = _ := (ByteArray.toList_eq _).symm.trans (txt_map _ _ _ _)
  rw [ht, hr1, hr2, show numOf (fld s 5 7) - 1 + 1 = numOf (fld s 5 7) from by omega, show numOf (fld s 8 10) - 1 + 1 = numOf (fld s 8 10) from by omega]
  rw [fld_data] at hd0 hd1 hd2 hd3 hd4
  simp only [fld_data] at hq ⊢
  obtain ⟨c0, c1, c2, c3, c4, c5, c6, c7, c8, c9, c10, c11, c12, c13, c14, c15, e⟩ := list16 _ hl
  rw [e] at hd0 hd1 hd2 hd3 hd4 hq ⊢
  have f0 : (d4 (numOf [c0, c1, c2, c3])).map b8 = [c0, c1, c2, c3] := d4_num _ _ _ _ hd0
  have f1 : (d2 (numOf [c5, c6])).map b8 = [c5, c6] := d2_num _ _ hd1
  have f2 : (d2 (numOf [c8, c9])).map b8 = [c8, c9] := d2_num _ _ hd2
  have f3 : (d2 (numOf [c11, c12])).map b8 = [c11, c12] := d2_num _ _ hd3
  have f4 : (d2 (numOf [c14, c15])).map b8 = [c14, c15] := d2_num _ _ hd4
  have hq' : [45, 45, 32, 58] = [c4, c7, c10, c13] := hq
  simp only [List.cons.injEq, and_true] at hq'
  obtain ⟨rfl, rfl, rfl, rfl⟩ := hq'
  show (d4 (numOf [c0, c1, c2, c3])).map b8 ++ ([b8 45] ++ ((d2 (numOf [c5, c6])).map b8 ++ ([b8 45] ++ ((d2 (numOf [c8, c9])).map b8 ++ ([b8 32] ++ ((d2 (numOf [c11, c12])).map b8 ++ ([b8 58] ++ ((d2 (numOf [c14, c15])).map b8 ++ [])))))))) = _
  rw [f0, f1, f2, f3, f4]; rfl
theorem sep_txt (y m i r : Int) : sep (strOfNums (txt y m i r)) = ⟨#[45, 45, 32, 58]⟩ := by
  apply ByteArray.ext
  apply Array.toList_inj.1
  rw [sep_data, fld_str, fld_str, fld_str, fld_str]; rfl
theorem rnum_yes {l : List UInt8} (h : allDig l = true) : rnum l = numOf l := by unfold rnum; rw [if_pos h]
theorem rnum_neg {l : List UInt8} (h : allDig l = false) : rnum l = -1 := by unfold rnum; rw [if_neg (by rw [h]; exact Bool.false_ne_true)]
theorem dig_of_rnum {l : List UInt8} (h : 0 ≤ rnum l) : allDig l = true := by
  cases hd : allDig l
  · rw [rnum_neg hd] at h; omega
  · rfl

/-- the document's conditions on the five numbers -/
def Good (Y M D H I : Int) : Prop := 0 ≤ Y ∧ 1 ≤ M ∧ M ≤ 12 ∧ 1 ≤ D ∧ D ≤ Cal.mlen Y (M - 1) ∧ 0 ≤ H ∧ H ≤ 23 ∧ 0 ≤ I ∧ I ≤ 59
def No (f : FuncId) (s : ByteArray) : Prop := ∀ w : World, Calls Try.prog f #[.string s] w fun e w' => e = .returned (.tuple #[.int .i64 0, .bool false]) ∧ Grown w w'
def Yes (f : FuncId) (s : ByteArray) (n : Int) : Prop := ∀ w : World, Calls Try.prog f #[.string s] w fun e w' => e = .returned (.tuple #[.int .i64 n, .bool true]) ∧ Grown w w'

theorem rof_not (s : ByteArray) (hs : s.size = 16) (h : ¬ (sep s = ⟨#[45, 45, 32, 58]⟩ ∧ Good (rnum (fld s 0 4)) (rnum (fld s 5 7)) (rnum (fld s 8 10)) (rnum (fld s 11 13)) (rnum (fld s 14 16)))) : No 14 s := by
  intro w
  by_cases hp : sep s = ⟨#[45, 45, 32, 58]⟩
  · refine rof_no s w hs hp _ _ _ _ _ rfl rfl rfl rfl rfl ?_
    have hg : ¬ Good (rnum (fld s 0 4)) (rnum (fld s 5 7)) (rnum (fld s 8 10)) (rnum (fld s 11 13)) (rnum (fld s 14 16)) := fun g => h ⟨hp, g⟩
    unfold Good at hg
    omega
  · exact rof_sep s w hs hp
theorem rof_good (s : ByteArray) (hs : s.size = 16) (hp : sep s = ⟨#[45, 45, 32, 58]⟩) (g : Good (rnum (fld s 0 4)) (rnum (fld s 5 7)) (rnum (fld s 8 10)) (rnum (fld s 11 13)) (rnum (fld s 14 16))) :
    Yes 14 s (minuteOf (rnum (fld s 0 4)) (rnum (fld s 5 7)) (rnum (fld s 8 10)) (rnum (fld s 11 13)) (rnum (fld s 14 16))) := by
  intro w
  obtain ⟨g1, g2, g3, g4, g5, g6, g7, g8, g9⟩ := g
  have hb := numOf_bd (fld s 0 4) (dig_of_rnum g1) (by rw [fld_len s 0 4 (by omega)]; omega)
  exact rof_yes s w hs hp _ _ _ _ _ rfl rfl rfl rfl rfl g1 (by rw [rnum_yes (dig_of_rnum g1)]; exact hb.2) g2 g3 g4 g5 g6 g7 g8 g9

theorem minuteOf_day (Y M D H I : Int) (h : Good Y M D H I) : minuteOf Y M D H I / 1440 = Cal.dby Y + Cal.cum Y (M - 1) + (D - 1) ∧ minuteOf Y M D H I % 1440 = H * 60 + I := by
  obtain ⟨g1, g2, g3, g4, g5, g6, g7, g8, g9⟩ := h
  unfold minuteOf; omega

/-- either both refuse the text, or both tell one minute, and that has this text -/
theorem of_both (s : ByteArray) (hm : s.size ≤ maxLen) :
    (No 12 s ∧ No 14 s) ∨ ∃ n : Int, Yes 12 s n ∧ Yes 14 s n ∧ ∀ w : World, Calls Try.prog 10 #[.int .i64 n] w fun e w' => e = .returned (.string s) ∧ Grown w w' := by
  by_cases hs : s.size = 16
  · by_cases hdig : (allDig (fld s 0 4) = true ∧ allDig (fld s 5 7) = true ∧ allDig (fld s 8 10) = true ∧ allDig (fld s 11 13) = true ∧ allDig (fld s 14 16) = true) ∧ 1 ≤ numOf (fld s 5 7) ∧ numOf (fld s 5 7) ≤ 12
    · obtain ⟨⟨hd0, hd1, hd2, hd3, hd4⟩, hm0, hm1⟩ := hdig
      have r0 := rnum_yes hd0; have r1 := rnum_yes hd1; have r2 := rnum_yes hd2; have r3 := rnum_yes hd3; have r4 := rnum_yes hd4
      have T := fun w => of_told s _ _ _ _ _ w hs hd0 hd1 hd2 hd3 hd4 rfl rfl rfl rfl rfl hm0 hm1
      have b0 := numOf_bd (fld s 0 4) hd0 (by rw [fld_len s 0 4 (by omega)]; omega)
      by_cases hg : sep s = ⟨#[45, 45, 32, 58]⟩ ∧ Good (rnum (fld s 0 4)) (rnum (fld s 5 7)) (rnum (fld s 8 10)) (rnum (fld s 11 13)) (rnum (fld s 14 16))
      · obtain ⟨hp, g⟩ := hg
        have R := rof_good s hs hp g
        rw [r0, r1, r2, r3, r4] at R g
        have e := minuteOf_day _ _ _ _ _ g
        have hb2 := numOf_bd2 (fld s 14 16) hd4 (by rw [fld_len s 14 16 (by omega)]; omega)
        have ht := txt_of_parts s hs hp hd0 hd1 hd2 hd3 hd4 (minuteOf (numOf (fld s 0 4)) (numOf (fld s 5 7)) (numOf (fld s 8 10)) (numOf (fld s 11 13)) (numOf (fld s 14 16)) % 1440)
          (by rw [e.2]; have := g.2.2.2.2.2.2.2; omega) (by rw [e.2]; have := g.2.2.2.2.2.2.2; omega)
        have hD : Cal.IsDate (minuteOf (numOf (fld s 0 4)) (numOf (fld s 5 7)) (numOf (fld s 8 10)) (numOf (fld s 11 13)) (numOf (fld s 14 16)) / 1440) (numOf (fld s 0 4)) (numOf (fld s 5 7) - 1) (numOf (fld s 8 10) - 1) :=
          ⟨by omega, by omega, by have := g.2.2.2.1; omega, by have := g.2.2.2.2.1; omega, e.1⟩
        have hsm := small_of_year hD b0.1 b0.2
        generalize minuteOf (numOf (fld s 0 4)) (numOf (fld s 5 7)) (numOf (fld s 8 10)) (numOf (fld s 11 13)) (numOf (fld s 14 16)) = X at *
        refine Or.inr ⟨X, fun w => ?_, R, fun w => ?_⟩
        · refine (T w).mono ?_
          rintro e w' ⟨y, m, i, hd, hgr, hc⟩
          obtain ⟨rfl, rfl, rfl⟩ := Cal.date_unique hD hd
          rcases hc with ⟨_, _, _, he⟩ | ⟨hn, _⟩
          · exact ⟨he, hgr⟩
          · exact absurd ⟨b0.1, b0.2, ht⟩ hn
        · have := text_any X _ _ _ w (by omega) (by omega) hD b0.1 b0.2
          rw [ht] at this; exact this
      · have R := rof_not s hs hg
        refine Or.inl ⟨fun w => ?_, R⟩
        refine (T w).mono ?_
        rintro e w' ⟨y, m, i, hd, hgr, hc⟩
        rcases hc with ⟨hy0, hy1, ht, he⟩ | ⟨_, he⟩
        · exfalso
          apply hg
          have a1 := hd.m0; have a2 := hd.m1; have a3 := hd.i0
          have a4 : i < 31 := by have := hd.i1; have := Cal.mlen_bd y m; omega
          generalize minuteOf (numOf (fld s 0 4)) (numOf (fld s 5 7)) (numOf (fld s 8 10)) (numOf (fld s 11 13)) (numOf (fld s 14 16)) = X at *
          rw [r0, r1, r2, r3, r4, ← ht, fld0, fld1, fld2, fld3, fld4, sep_txt, (num4 y hy0 hy1).2, (num2 (m + 1) (by omega) (by omega)).2, (num2 (i + 1) (by omega) (by omega)).2, (num2 (X % 1440 / 60) (by omega) (by omega)).2, (num2 (X % 1440 % 60) (by omega) (by omega)).2]
          have a5 := hd.i1
          refine ⟨rfl, hy0, by omega, by omega, by omega, by rw [show m + 1 - 1 = m from by omega]; omega, by omega, by omega, by omega, by omega⟩
        · exact ⟨he, hgr⟩
    · have R : No 14 s := rof_not s hs (by
        rintro ⟨_, g1, g2, g3, g4, g5, g6, g7, g8, g9⟩
        apply hdig
        have k0 := dig_of_rnum g1; have k1 := dig_of_rnum (show 0 ≤ rnum (fld s 5 7) by omega); have k2 := dig_of_rnum (show 0 ≤ rnum (fld s 8 10) by omega)
        have k3 := dig_of_rnum g6; have k4 := dig_of_rnum g8
        rw [rnum_yes k1] at g2 g3
        exact ⟨⟨k0, k1, k2, k3, k4⟩, g2, g3⟩)
      refine Or.inl ⟨fun w => ?_, R⟩
      have same : ∀ {e : Ending} {w w' : World}, (e = .returned (.tuple #[.int .i64 0, .bool false]) ∧ w = w') → (e = .returned (.tuple #[.int .i64 0, .bool false]) ∧ Grown w w') := fun ⟨a, b⟩ => ⟨a, b ▸ Grown.refl _⟩
      cases hd0 : allDig (fld s 0 4)
      · exact (ofd0 s w hs hd0).mono fun _ _ => same
      cases hd1 : allDig (fld s 5 7)
      · exact (ofd1 s w hs hd0 hd1).mono fun _ _ => same
      cases hd2 : allDig (fld s 8 10)
      · exact (ofd2 s w hs hd0 hd1 hd2).mono fun _ _ => same
      cases hd3 : allDig (fld s 11 13)
      · exact (ofd3 s w hs hd0 hd1 hd2 hd3).mono fun _ _ => same
      cases hd4 : allDig (fld s 14 16)
      · exact (ofd4 s w hs hd0 hd1 hd2 hd3 hd4).mono fun _ _ => same
      by_cases hm0 : numOf (fld s 5 7) < 1
      · exact (ofmlo s _ _ _ _ _ w hs hd0 hd1 hd2 hd3 hd4 rfl rfl rfl rfl rfl hm0).mono fun _ _ => same
      · by_cases hm1 : 12 < numOf (fld s 5 7)
        · exact (ofmhi s _ _ _ _ _ w hs hd0 hd1 hd2 hd3 hd4 rfl rfl rfl rfl rfl hm1).mono fun _ _ => same
        · exact absurd ⟨⟨hd0, hd1, hd2, hd3, hd4⟩, by omega, by omega⟩ hdig
  · exact Or.inl ⟨fun w => (of_short s w hs hm).mono fun _ _ ⟨a, b⟩ => ⟨a, b ▸ Grown.refl _⟩, fun w => rof_short s w hs hm⟩
end Go.Proofs.Ytcifjneckbonlaa
