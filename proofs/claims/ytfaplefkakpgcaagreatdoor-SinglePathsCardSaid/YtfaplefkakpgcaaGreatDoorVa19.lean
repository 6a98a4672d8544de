/- image's cursor: more, text, fixed, bytes, dec, flag; where a text isn't as it should be they panic. -/
import Derived.Test.YtfaplefkakpgcaaGreatDoorVa1
import Derived.Test.YtfaplefkakpgcaaGreatDoorVa17
import Derived.Test.YtfaplefkakpgcaaGreatDoorVa2
import Derived.Test.YtfaplefkakpgcaaGreatDoorVa15
import Derived.Test.YtfaplefkakpgcaaGreatDoorVa4
namespace Go.Proofs.YtfaplefkakpgcaaGreatDoor
set_option linter.unusedVariables false
set_option linter.unusedSimpArgs false
open Go.RowKit
/-- what is thrown -/
abbrev bentV : Value := .iface 183 (.agg #[])
abbrev Bent : Ending := .panicked [{ v := .iface 183 (.agg #[]), recovered := false }]
/-- block b is a cursor on these texts -/
def CurIn (w : World) (b : Nat) (L : List (List UInt8)) : Prop := ∃ A n c, Box w b 253 #[.slice A n c] ∧ TRow w A n L ∧ n ≤ c
theorem CurIn.ext {w w' : World} {b : Nat} {L : List (List UInt8)} (h : CurIn w b L) (x : Ext w w') : CurIn w' b L := by
  obtain ⟨A, n, c, h1, h2, h3⟩ := h
  exact ⟨A, n, c, h1.ext x, h2.ext x, h3⟩
set_option maxRecDepth 100000 in
theorem more_any (b : Nat) (L : List (List UInt8)) (w : World) (h : CurIn w b L) :
    Calls Tryz.prog 131 #[.pointer (some ⟨b, 0, none⟩)] w fun e w' => e = .returned (.bool (decide (0 < L.length))) ∧ w = w' := by
  obtain ⟨A, n, c, h1, h2, h3⟩ := h
  have c0 := h1.cell 0
  have hl' := h2.1
  have hl : Hid (n = L.length) := hl'
  clear hl'
  clear h1 h2 h3
  go_enter Tryz.func131, Tryz.ntmps131
  go_wp2_with fail
  go_ret
  refine ⟨?_, rfl⟩
  rw [← hl.out]; rfl
/-- the next text, read so -/
def NextR {α : Type} (f : List UInt8 → Option α) (g : α → Value) (w : World) (b : Nat) : List (List UInt8) → Ending → World → Prop
  | [], e, w' => e = Bent ∧ CurIn w' b [] ∧ But b w w'
  | s :: L, e, w' => e = (match f s with | some x => .returned (g x) | none => Bent) ∧ CurIn w' b L ∧ But b w w'
theorem next_some {α : Type} {f : List UInt8 → Option α} {g : α → Value} {w w' : World} {b : Nat} {s : List UInt8} {L : List (List UInt8)} {x : α} {e : Ending} (hx : f s = some x) (h1 : e = .returned (g x)) (h2 : CurIn w' b L) (h3 : But b w w') : NextR f g w b (s :: L) e w' :=
  ⟨h1.trans (by rw [hx]), h2, h3⟩
theorem next_none {α : Type} {f : List UInt8 → Option α} {g : α → Value} {w w' : World} {b : Nat} {s : List UInt8} {L : List (List UInt8)} {e : Ending} (hx : f s = none) (h1 : e = Bent) (h2 : CurIn w' b L) (h3 : But b w w') : NextR f g w b (s :: L) e w' :=
  ⟨h1.trans (by rw [hx]), h2, h3⟩
abbrev strV (s : List UInt8) : Value := .string (str s)
set_option maxRecDepth 100000 in
theorem text_any (b : Nat) (L : List (List UInt8)) (w : World) (h : CurIn w b L) :
    Calls Tryz.prog 126 #[.pointer (some ⟨b, 0, none⟩)] w (NextR some strV w b L) := by
  have HM := Lib.hid (more_any b L w h)
  have HC := Lib.hid h
  obtain ⟨A, n, c, h1, h2, h3⟩ := h
  have c0 := h1.cell 0
  have f0 := h1.frozen 0
  cases L with
  | nil =>
    clear h1 h2 h3 c0 f0
    go_enter Tryz.func126, Tryz.ntmps126
    go_wp2_with (go_at_call 131; refine HM.out.mono ?_; rintro e w1 ⟨rfl, rfl⟩)
    exact ⟨rfl, rfl, HC.out, But.refl _ _⟩
  | cons s L =>
    obtain ⟨g, o, cur, fz, rfl, h4, h5⟩ := h2.2 (by rw [h2.1]; simp)
    have c1 := h5 0 (by simp)
    simp only [Nat.add_zero, List.getElem_cons_zero] at c1
    have ht := h2.tail
    have hn : n = L.length + 1 := h2.1
    subst hn
    have HK : Hid (∀ A' n' c' w', w' = w.setCell ⟨b, 0, none⟩ (.slice A' n' c') → TRow w A' n' L → n' ≤ c' → CurIn w' b L ∧ But b w w') := Lib.hid (fun A' n' c' w' e ht hc => by
      have hk : But b w w' := by rw [e]; exact (But.refl b w).setCell 0 _
      refine ⟨⟨A', n', c', ?_, ht.but hk h1 (by decide), hc⟩, hk⟩
      rw [e]
      exact h1.set 0 _)
    have HT := Lib.hid ht
    clear h1 h2 ht h4 h5 HC
    by_cases hc : c = 1
    · subst hc
      have hL : L = [] := List.eq_nil_of_length_eq_zero (by omega)
      subst hL
      go_enter Tryz.func126, Tryz.ntmps126
      go_wp2_with (go_at_call 131; refine HM.out.mono ?_; rintro e w1 ⟨rfl, rfl⟩)
      go_ret
      exact ⟨rfl, HK.out _ _ _ _ rfl ⟨rfl, fun h => absurd h (by decide)⟩ (Nat.le_refl _)⟩
    · have hc1 : ¬ (c : Int) - 1 = 0 := by omega
      have hc2 : ¬ c - 1 = 0 := by omega
      go_enter Tryz.func126, Tryz.ntmps126
      go_wp2_with (go_at_call 131; refine HM.out.mono ?_; rintro e w1 ⟨rfl, rfl⟩)
      go_ret
      exact ⟨rfl, HK.out _ _ _ _ rfl HT.out (by omega)⟩
set_option maxRecDepth 100000 in
theorem fixed_any (z : Nat) (b : Nat) (L : List (List UInt8)) (w : World) (h : CurIn w b L) (hz : z ≤ 1000) :
    Calls Tryz.prog 190 #[.pointer (some ⟨b, 0, none⟩), .int .i64 z] w (NextR (fixP z) strV w b L) := by
  have HT := Lib.hid (text_any b L w h)
  have hs := str_size
  clear h
  cases L with
  | nil =>
    go_enter Tryz.func190, Tryz.ntmps190
    go_wp2_with (go_at_call 126; refine HT.out.mono ?_; rintro e w1 ⟨he, h1, h2⟩; simp only [Bent] at he; subst he)
    exact ⟨rfl, rfl, h1, h2⟩
  | cons s L =>
    have HT2 := Lib.hid (HT.out.mono (fun e w' h => (⟨h.1, h.2.1, h.2.2⟩ : e = .returned (.string (str s)) ∧ CurIn w' b L ∧ But b w w')))
    clear HT
    by_cases hl : s.length = z
    · have hq : fixP z s = some s := if_pos hl
      have hN : Hid (∀ e w', e = .returned (strV s) → CurIn w' b L → But b w w' → NextR (fixP z) strV w b (s :: L) e w') := Lib.hid (fun e w' h1 h2 h3 => next_some hq h1 h2 h3)
      have hb : ((s.length : Int) != (z : Int)) = false := by rw [hl]; simp
      clear hq hl
      go_enter Tryz.func190, Tryz.ntmps190
      go_wp2_with (go_at_call 126; refine HT2.out.mono ?_; rintro e w1 ⟨rfl, h1, h2⟩)
      go_ret
      exact hN.out _ _ rfl h1 h2
    · have hq : fixP z s = none := if_neg hl
      have hN : Hid (∀ e w', e = Bent → CurIn w' b L → But b w w' → NextR (fixP z) strV w b (s :: L) e w') := Lib.hid (fun e w' h1 h2 h3 => next_none hq h1 h2 h3)
      have hb : ((s.length : Int) != (z : Int)) = true := by simp; omega
      clear hq hl
      go_enter Tryz.func190, Tryz.ntmps190
      go_wp2_with (go_at_call 126; refine HT2.out.mono ?_; rintro e w1 ⟨rfl, h1, h2⟩)
      exact ⟨rfl, hN.out _ _ rfl h1 h2⟩
set_option maxRecDepth 100000 in
theorem bytes_any (z : Nat) (b : Nat) (L : List (List UInt8)) (w : World) (h : CurIn w b L) (hz : z = 4 ∨ z = 8) :
    Calls Tryz.prog 127 #[.pointer (some ⟨b, 0, none⟩), .int .i64 z] w (NextR (numP z) (fun n => .int .u64 n) w b L) := by
  have HF := Lib.hid (fixed_any z b L w h (by omega))
  clear h
  cases L with
  | nil =>
    go_enter Tryz.func127, Tryz.ntmps127
    go_wp2_with (go_at_call 190; refine HF.out.mono ?_; rintro e w1 ⟨he, h1, h2⟩; simp only [Bent] at he; subst he)
    exact ⟨rfl, rfl, h1, h2⟩
  | cons s L =>
    by_cases hl : s.length = z
    · have hq : fixP z s = some s := if_pos hl
      have hn : numP z s = some (numL s : Int) := if_pos hl
      have HG := Lib.hid (fun w => get_48 s w (by omega))
      have hN : Hid (∀ e w', e = .returned (.int .u64 (numL s : Int)) → CurIn w' b L → But b w w' → NextR (numP z) (fun n => .int .u64 n) w b (s :: L) e w') := Lib.hid (fun e w' h1 h2 h3 => next_some hn h1 h2 h3)
      have HF2 := Lib.hid (HF.out.mono (fun e w' h => (⟨h.1.trans (by rw [hq]), h.2.1, h.2.2⟩ : e = .returned (.string (str s)) ∧ CurIn w' b L ∧ But b w w')))
      clear hq hl hn HF
      go_enter Tryz.func127, Tryz.ntmps127
      go_wp2_with (first
        | (go_at_call 190; refine HF2.out.mono ?_; rintro e w1 ⟨rfl, h1, h2⟩)
        | (go_at_call 164; refine (HG.out _).mono ?_; rintro e w2 ⟨rfl, rfl⟩))
      go_ret
      exact hN.out _ _ rfl h1 h2
    · have hq : fixP z s = none := if_neg hl
      have hn : numP z s = none := if_neg hl
      have hN : Hid (∀ e w', e = Bent → CurIn w' b L → But b w w' → NextR (numP z) (fun n => .int .u64 n) w b (s :: L) e w') := Lib.hid (fun e w' h1 h2 h3 => next_none hn h1 h2 h3)
      have HF2 := Lib.hid (HF.out.mono (fun e w' h => (⟨h.1.trans (by rw [hq]), h.2.1, h.2.2⟩ : e = Bent ∧ CurIn w' b L ∧ But b w w')))
      clear hq hl hn HF
      go_enter Tryz.func127, Tryz.ntmps127
      go_wp2_with (go_at_call 190; refine HF2.out.mono ?_; rintro e w1 ⟨he, h1, h2⟩; simp only [Bent] at he; subst he)
      exact ⟨rfl, hN.out _ _ rfl h1 h2⟩
set_option maxRecDepth 100000 in
theorem cflag_any (b : Nat) (L : List (List UInt8)) (w : World) (h : CurIn w b L) :
    Calls Tryz.prog 129 #[.pointer (some ⟨b, 0, none⟩)] w (NextR flagP (fun n => .bool n) w b L) := by
  have HT := Lib.hid (text_any b L w h)
  clear h
  cases L with
  | nil =>
    go_enter Tryz.func129, Tryz.ntmps129
    go_wp2_with (go_at_call 126; refine HT.out.mono ?_; rintro e w1 ⟨he, h1, h2⟩; simp only [Bent] at he; subst he)
    exact ⟨rfl, rfl, h1, h2⟩
  | cons s L =>
    have HT2 := Lib.hid (HT.out.mono (fun e w' h => (⟨h.1, h.2.1, h.2.2⟩ : e = .returned (.string (str s)) ∧ CurIn w' b L ∧ But b w w')))
    clear HT
    by_cases h1 : s = [49]
    · have hN : Hid (∀ e w', e = .returned (.bool true) → CurIn w' b L → But b w w' → NextR flagP (fun n => .bool n) w b (s :: L) e w') := Lib.hid (fun e w' k1 k2 k3 => next_some (x := true) (if_pos h1) k1 k2 k3)
      have hq : ((str s).toList == [49]) = true := by rw [str_toList, h1]; rfl
      clear h1
      go_enter Tryz.func129, Tryz.ntmps129
      go_wp2_with (go_at_call 126; refine HT2.out.mono ?_; rintro e w1 ⟨rfl, k1, k2⟩)
      go_ret
      exact hN.out _ _ rfl k1 k2
    · by_cases h2 : s = [48]
      · have hN : Hid (∀ e w', e = .returned (.bool false) → CurIn w' b L → But b w w' → NextR flagP (fun n => .bool n) w b (s :: L) e w') := Lib.hid (fun e w' k1 k2 k3 => next_some (x := false) (by unfold flagP; rw [if_neg h1, if_pos h2]) k1 k2 k3)
        have hq : ((str s).toList == [49]) = false := by rw [str_toList, h2]; rfl
        have hq2 : ((str s).toList == [48]) = true := by rw [str_toList, h2]; rfl
        clear h1 h2
        go_enter Tryz.func129, Tryz.ntmps129
        go_wp2_with (go_at_call 126; refine HT2.out.mono ?_; rintro e w1 ⟨rfl, k1, k2⟩)
        go_ret
        exact hN.out _ _ rfl k1 k2
      · have hN : Hid (∀ e w', e = Bent → CurIn w' b L → But b w w' → NextR flagP (fun n => .bool n) w b (s :: L) e w') := Lib.hid (fun e w' k1 k2 k3 => next_none (by unfold flagP; rw [if_neg h1, if_neg h2]) k1 k2 k3)
        have hq : ((str s).toList == [49]) = false := by rw [str_toList]; simpa using h1
        have hq2 : ((str s).toList == [48]) = false := by rw [str_toList]; simpa using h2
        clear h1 h2
        go_enter Tryz.func129, Tryz.ntmps129
        go_wp2_with (go_at_call 126; refine HT2.out.mono ?_; rintro e w1 ⟨rfl, k1, k2⟩)
        exact ⟨rfl, hN.out _ _ rfl k1 k2⟩
set_option maxRecDepth 100000 in
theorem cdec_any (b : Nat) (L : List (List UInt8)) (w : World) (h : CurIn w b L) (hD : ∀ w', But b w w' → Dec10 w') (hL : ∀ s ∈ L, s.length ≤ 281474976710656) :
    Calls Tryz.prog 128 #[.pointer (some ⟨b, 0, none⟩)] w (NextR intP (fun n => .int .i64 n) w b L) := by
  have HT := Lib.hid (text_any b L w h)
  clear h
  cases L with
  | nil =>
    clear hD hL
    go_enter Tryz.func128, Tryz.ntmps128
    go_wp2_with (go_at_call 126; refine HT.out.mono ?_; rintro e w1 ⟨he, h1, h2⟩; simp only [Bent] at he; subst he)
    exact ⟨rfl, rfl, h1, h2⟩
  | cons s L =>
    have HT2 := Lib.hid (HT.out.mono (fun e w' h => (⟨h.1, h.2.1, h.2.2⟩ : e = .returned (.string (str s)) ∧ CurIn w' b L ∧ But b w w')))
    have HI := Lib.hid (fun w' (k : But b w w') => int_any s w' (hL s List.mem_cons_self) (hD w' k))
    clear HT hD hL
    cases hp : intP s with
    | none =>
      have hN : Hid (∀ e w', e = Bent → CurIn w' b L → But b w w' → NextR intP (fun n => .int .i64 n) w b (s :: L) e w') := Lib.hid (fun e w' k1 k2 k3 => next_none hp k1 k2 k3)
      have HI2 := Lib.hid (fun w' k => (HI.out w' k).mono (fun e w2 h => (⟨h.1.trans (by unfold intR; rw [hp]; rfl), h.2⟩ : e = .returned (.tuple #[.int .i64 0, .bool false]) ∧ Ext w' w2)))
      clear hp HI
      go_enter Tryz.func128, Tryz.ntmps128
      go_wp2_with (first
        | (go_at_call 126; refine HT2.out.mono ?_; rintro e w1 ⟨rfl, k1, k2⟩)
        | (go_at_call 191; refine (HI2.out _ k2).mono ?_; rintro e w2 ⟨rfl, x2⟩))
      exact ⟨rfl, hN.out _ _ rfl (k1.ext x2) (k2.then' x2)⟩
    | some n =>
      have hN : Hid (∀ e w', e = .returned (.int .i64 n) → CurIn w' b L → But b w w' → NextR intP (fun n => .int .i64 n) w b (s :: L) e w') := Lib.hid (fun e w' k1 k2 k3 => next_some hp k1 k2 k3)
      have HI2 := Lib.hid (fun w' k => (HI.out w' k).mono (fun e w2 h => (⟨h.1.trans (by unfold intR; rw [hp]; rfl), h.2⟩ : e = .returned (.tuple #[.int .i64 n, .bool true]) ∧ Ext w' w2)))
      clear hp HI
      go_enter Tryz.func128, Tryz.ntmps128
      go_wp2_with (first
        | (go_at_call 126; refine HT2.out.mono ?_; rintro e w1 ⟨rfl, k1, k2⟩)
        | (go_at_call 191; refine (HI2.out _ k2).mono ?_; rintro e w2 ⟨rfl, x2⟩))
      go_ret
      exact hN.out _ _ rfl (k1.ext x2) (k2.then' x2)
end Go.Proofs.YtfaplefkakpgcaaGreatDoor
/- Bytes filled up with zeros. -/
namespace Go.Proofs.YtfaplefkakpgcaaGreatDoor
set_option linter.unusedVariables false
set_option linter.unusedSimpArgs false
/-- a number in two bytes -/
def two2 (n : Int) : List UInt8 := [b8 (n % 256), b8 (n / 256)]
def fillP (s : List UInt8) (n : Nat) : List UInt8 := s ++ zs (n - s.length)
end Go.Proofs.YtfaplefkakpgcaaGreatDoor
