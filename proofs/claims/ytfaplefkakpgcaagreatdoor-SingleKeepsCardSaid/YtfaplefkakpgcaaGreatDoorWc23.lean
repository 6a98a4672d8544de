/- image's cursor: more, text, fixed, bytes, dec, flag; where a text isn't as it should be they panic. -/
import Derived.Test.YtfaplefkakpgcaaGreatDoorWc1
import Derived.Test.YtfaplefkakpgcaaGreatDoorWc21
import Derived.Test.YtfaplefkakpgcaaGreatDoorWc4
import Derived.Test.YtfaplefkakpgcaaGreatDoorWc19
import Derived.Test.YtfaplefkakpgcaaGreatDoorWc6
import Derived.Test.YtfaplefkakpgcaaGreatDoorWc15
namespace Go.Proofs.YtfaplefkakpgcaaGreatDoor
set_option linter.unusedVariables false
set_option linter.unusedSimpArgs false
open Go.RowKit
abbrev bentV : Value := .iface 183 (.agg #[])
abbrev Bent : Ending := .panicked [{ v := .iface 183 (.agg #[]), recovered := false }]
def CurIn (w : World) (b : Nat) (L : List (List UInt8)) : Prop := ∃ A n c, Box w b 253 #[.slice A n c] ∧ TRow w A n L ∧ n ≤ c
theorem CurIn.ext {w w' : World} {b : Nat} {L : List (List UInt8)} (h : CurIn w b L) (x : Ext w w') : CurIn w' b L := by
 obtain ⟨A, n, c, h1, h2, h3⟩ := h
 exact ⟨A, n, c, h1.ext x, h2.ext x, h3⟩
set_option maxRecDepth 100000 in
theorem more_any (b : Nat) (L : List (List UInt8)) (w : World) (h : CurIn w b L) :
  Calls Tryz.prog 131 #[.pointer (some ⟨b, 0, none⟩)] w fun e w' => e = .returned (.bool (decide (0 < L.length))) ∧ w = w' := by
 obtain ⟨A, n, c, h1, h2, h3⟩ := h
 have c0 := h1.cell 0
 have hl' := h2.1
 have hl : Hid (n = L.length) := hl'
 clear hl'
 clear h1 h2 h3
 go_enter Tryz.func131, Tryz.ntmps131
 go_wp2_with fail
 go_ret
 refine ⟨?_, rfl⟩
 rw [← hl.out]; rfl
def NextR {α : Type} (f : List UInt8 → Option α) (g : α → Value) (w : World) (b : Nat) : List (List UInt8) → Ending → World → Prop
 | [], e, w' => e = Bent ∧ CurIn w' b [] ∧ But b w w'
 | s :: L, e, w' => e = (match f s with | some x => .returned (g x) | none => Bent) ∧ CurIn w' b L ∧ But b w w'
theorem next_some {α : Type} {f : List UInt8 → Option α} {g : α → Value} {w w' : World} {b : Nat} {s : List UInt8} {L : List (List UInt8)} {x : α} {e : Ending} (hx : f s = some x) (h1 : e = .returned (g x)) (h2 : CurIn w' b L) (h3 : But b w w') : NextR f g w b (s :: L) e w' :=
 ⟨h1.trans (by rw [hx]), h2, h3⟩
theorem next_none {α : Type} {f : List UInt8 → Option α} {g : α → Value} {w w' : World} {b : Nat} {s : List UInt8} {L : List (List UInt8)} {e : Ending} (hx : f s = none) (h1 : e = Bent) (h2 : CurIn w' b L) (h3 : But b w w') : NextR f g w b (s :: L) e w' :=
 ⟨h1.trans (by rw [hx]), h2, h3⟩
abbrev strV (s : List UInt8) : Value := .string (str s)
set_option maxRecDepth 100000 in
theorem text_any (b : Nat) (L : List (List UInt8)) (w : World) (h : CurIn w b L) :
  Calls Tryz.prog 126 #[.pointer (some ⟨b, 0, none⟩)] w (NextR some strV w b L) := by
 have HM := Lib.hid (more_any b L w h)
 have HC := Lib.hid h
 obtain ⟨A, n, c, h1, h2, h3⟩ := h
 have c0 := h1.cell 0
 have f0 := h1.frozen 0
 cases L with
 | nil =>
  clear h1 h2 h3 c0 f0
  go_enter Tryz.func126, Tryz.ntmps126
  go_wp2_with (go_at_call 131; refine HM.out.mono ?_; rintro e w1 ⟨rfl, rfl⟩)
  exact ⟨rfl, rfl, HC.out, But.refl _ _⟩
 | cons s L =>
  obtain ⟨g, o, cur, fz, rfl, h4, h5⟩ := h2.2 (by rw [h2.1]; simp)
  have c1 := h5 0 (by simp)
  simp only [Nat.add_zero, List.getElem_cons_zero] at c1
  have ht := h2.tail
  have hn : n = L.length + 1 := h2.1
  subst hn
  have HK : Hid (∀ A' n' c' w', w' = w.setCell ⟨b, 0, none⟩ (.slice A' n' c') → TRow w A' n' L → n' ≤ c' → CurIn w' b L ∧ But b w w') := Lib.hid (fun A' n' c' w' e ht hc => by
   have hk : But b w w' := by rw [e]; exact (But.refl b w).setCell 0 _
   refine ⟨⟨A', n', c', ?_, ht.but hk h1 (by decide), hc⟩, hk⟩
   rw [e]
   exact h1.set 0 _)
  have HT := Lib.hid ht
  clear h1 h2 ht h4 h5 HC
  by_cases hc : c = 1
  ·subst hc
   have hL : L = [] := List.eq_nil_of_length_eq_zero (by omega)
   subst hL
   go_enter Tryz.func126, Tryz.ntmps126
   go_wp2_with (go_at_call 131; refine HM.out.mono ?_; rintro e w1 ⟨rfl, rfl⟩)
   go_ret
   exact ⟨rfl, HK.out _ _ _ _ rfl ⟨rfl, fun h => absurd h (by decide)⟩ (Nat.le_refl _)⟩
  ·have hc1 : ¬ (c : Int) - 1 = 0 := by omega
   have hc2 : ¬ c - 1 = 0 := by omega
   go_enter Tryz.func126, Tryz.ntmps126
   go_wp2_with (go_at_call 131; refine HM.out.mono ?_; rintro e w1 ⟨rfl, rfl⟩)
   go_ret
   exact ⟨rfl, HK.out _ _ _ _ rfl HT.out (by omega)⟩
set_option maxRecDepth 100000 in
theorem fixed_any (z : Nat) (b : Nat) (L : List (List UInt8)) (w : World) (h : CurIn w b L) (hz : z ≤ 1000) :
  Calls Tryz.prog 190 #[.pointer (some ⟨b, 0, none⟩), .int .i64 z] w (NextR (fixP z) strV w b L) := by
 have HT := Lib.hid (text_any b L w h)
 have hs := str_size
 clear h
 cases L with
 | nil =>
  go_enter Tryz.func190, Tryz.ntmps190
  go_wp2_with (go_at_call 126; refine HT.out.mono ?_; rintro e w1 ⟨he, h1, h2⟩; simp only [Bent] at he; subst he)
  exact ⟨rfl, rfl, h1, h2⟩
 | cons s L =>
  have HT2 := Lib.hid (HT.out.mono (fun e w' h => (⟨h.1, h.2.1, h.2.2⟩ : e = .returned (.string (str s)) ∧ CurIn w' b L ∧ But b w w')))
  clear HT
  by_cases hl : s.length = z
  ·have hq : fixP z s = some s := if_pos hl
   have hN : Hid (∀ e w', e = .returned (strV s) → CurIn w' b L → But b w w' → NextR (fixP z) strV w b (s :: L) e w') := Lib.hid (fun e w' h1 h2 h3 => next_some hq h1 h2 h3)
   have hb : ((s.length : Int) != (z : Int)) = false := by rw [hl]; simp
   clear hq hl
   go_enter Tryz.func190, Tryz.ntmps190
   go_wp2_with (go_at_call 126; refine HT2.out.mono ?_; rintro e w1 ⟨rfl, h1, h2⟩)
   go_ret
   exact hN.out _ _ rfl h1 h2
  ·have hq : fixP z s = none := if_neg hl
   have hN : Hid (∀ e w', e = Bent → CurIn w' b L → But b w w' → NextR (fixP z) strV w b (s :: L) e w') := Lib.hid (fun e w' h1 h2 h3 => next_none hq h1 h2 h3)
   have hb : ((s.length : Int) != (z : Int)) = true := by simp; omega
   clear hq hl
   go_enter Tryz.func190, Tryz.ntmps190
   go_wp2_with (go_at_call 126; refine HT2.out.mono ?_; rintro e w1 ⟨rfl, h1, h2⟩)
   exact ⟨rfl, hN.out _ _ rfl h1 h2⟩
set_option maxRecDepth 100000 in
theorem bytes_any (z : Nat) (b : Nat) (L : List (List UInt8)) (w : World) (h : CurIn w b L) (hz : z = 4 ∨ z = 8) :
  Calls Tryz.prog 127 #[.pointer (some ⟨b, 0, none⟩), .int .i64 z] w (NextR (numP z) (fun n => .int .u64 n) w b L) := by
 have HF := Lib.hid (fixed_any z b L w h (by omega))
 clear h
 cases L with
 | nil =>
  go_enter Tryz.func127, Tryz.ntmps127
  go_wp2_with (go_at_call 190; refine HF.out.mono ?_; rintro e w1 ⟨he, h1, h2⟩; simp only [Bent] at he; subst he)
  exact ⟨rfl, rfl, h1, h2⟩
 | cons s L =>
  by_cases hl : s.length = z
  ·have hq : fixP z s = some s := if_pos hl
   have hn : numP z s = some (numL s : Int) := if_pos hl
   have HG := Lib.hid (fun w => get_48 s w (by omega))
   have hN : Hid (∀ e w', e = .returned (.int .u64 (numL s : Int)) → CurIn w' b L → But b w w' → NextR (numP z) (fun n => .int .u64 n) w b (s :: L) e w') := Lib.hid (fun e w' h1 h2 h3 => next_some hn h1 h2 h3)
   have HF2 := Lib.hid (HF.out.mono (fun e w' h => (⟨h.1.trans (by rw [hq]), h.2.1, h.2.2⟩ : e = .returned (.string (str s)) ∧ CurIn w' b L ∧ But b w w')))
   clear hq hl hn HF
   go_enter Tryz.func127, Tryz.ntmps127
   go_wp2_with (first
    | (go_at_call 190; refine HF2.out.mono ?_; rintro e w1 ⟨rfl, h1, h2⟩)
    | (go_at_call 164; refine (HG.out _).mono ?_; rintro e w2 ⟨rfl, rfl⟩))
   go_ret
   exact hN.out _ _ rfl h1 h2
  ·have hq : fixP z s = none := if_neg hl
   have hn : numP z s = none := if_neg hl
   have hN : Hid (∀ e w', e = Bent → CurIn w' b L → But b w w' → NextR (numP z) (fun n => .int .u64 n) w b (s :: L) e w') := Lib.hid (fun e w' h1 h2 h3 => next_none hn h1 h2 h3)
   have HF2 := Lib.hid (HF.out.mono (fun e w' h => (⟨h.1.trans (by rw [hq]), h.2.1, h.2.2⟩ : e = Bent ∧ CurIn w' b L ∧ But b w w')))
   clear hq hl hn HF
   go_enter Tryz.func127, Tryz.ntmps127
   go_wp2_with (go_at_call 190; refine HF2.out.mono ?_; rintro e w1 ⟨he, h1, h2⟩; simp only [Bent] at he; subst he)
   exact ⟨rfl, hN.out _ _ rfl h1 h2⟩
set_option maxRecDepth 100000 in
theorem cflag_any (b : Nat) (L : List (List UInt8)) (w : World) (h : CurIn w b L) :
  Calls Tryz.prog 129 #[.pointer (some ⟨b, 0, none⟩)] w (NextR flagP (fun n => .bool n) w b L) := by
 have HT := Lib.hid (text_any b L w h)
 clear h
 cases L with
 | nil =>
  go_enter Tryz.func129, Tryz.ntmps129
  go_wp2_with (go_at_call 126; refine HT.out.mono ?_; rintro e w1 ⟨he, h1, h2⟩; simp only [Bent] at he; subst he)
  exact ⟨rfl, rfl, h1, h2⟩
 | cons s L =>
  have HT2 := Lib.hid (HT.out.mono (fun e w' h => (⟨h.1, h.2.1, h.2.2⟩ : e = .returned (.string (str s)) ∧ CurIn w' b L ∧ But b w w')))
  clear HT
  by_cases h1 : s = [49]
  ·have hN : Hid (∀ e w', e = .returned (.bool true) → CurIn w' b L → But b w w' → NextR flagP (fun n => .bool n) w b (s :: L) e w') := Lib.hid (fun e w' k1 k2 k3 => next_some (x := true) (if_pos h1) k1 k2 k3)
   have hq : ((str s).toList == [49]) = true := by rw [str_toList, h1]; rfl
   clear h1
   go_enter Tryz.func129, Tryz.ntmps129
   go_wp2_with (go_at_call 126; refine HT2.out.mono ?_; rintro e w1 ⟨rfl, k1, k2⟩)
   go_ret
   exact hN.out _ _ rfl k1 k2
  ·by_cases h2 : s = [48]
   ·have hN : Hid (∀ e w', e = .returned (.bool false) → CurIn w' b L → But b w w' → NextR flagP (fun n => .bool n) w b (s :: L) e w') := Lib.hid (fun e w' k1 k2 k3 => next_some (x := false) (by unfold flagP; rw [if_neg h1, if_pos h2]) k1 k2 k3)
    have hq : ((str s).toList == [49]) = false := by rw [str_toList, h2]; rfl
    have hq2 : ((str s).toList == [48]) = true := by rw [str_toList, h2]; rfl
    clear h1 h2
    go_enter Tryz.func129, Tryz.ntmps129
    go_wp2_with (go_at_call 126; refine HT2.out.mono ?_; rintro e w1 ⟨rfl, k1, k2⟩)
    go_ret
    exact hN.out _ _ rfl k1 k2
   ·have hN : Hid (∀ e w', e = Bent → CurIn w' b L → But b w w' → NextR flagP (fun n => .bool n) w b (s :: L) e w') := Lib.hid (fun e w' k1 k2 k3 => next_none (by unfold flagP; rw [if_neg h1, if_neg h2]) k1 k2 k3)
    have hq : ((str s).toList == [49]) = false := by rw [str_toList]; simpa using h1
    have hq2 : ((str s).toList == [48]) = false := by rw [str_toList]; simpa using h2
    clear h1 h2
    go_enter Tryz.func129, Tryz.ntmps129
    go_wp2_with (go_at_call 126; refine HT2.out.mono ?_; rintro e w1 ⟨rfl, k1, k2⟩)
    exact ⟨rfl, hN.out _ _ rfl k1 k2⟩
set_option maxRecDepth 100000 in
theorem cdec_any (b : Nat) (L : List (List UInt8)) (w : World) (h : CurIn w b L) (hD : ∀ w', But b w w' → Dec10 w') (hL : ∀ s ∈ L, s.length ≤ 281474976710656) :
  Calls Tryz.prog 128 #[.pointer (some ⟨b, 0, none⟩)] w (NextR intP (fun n => .int .i64 n) w b L) := by
 have HT := Lib.hid (text_any b L w h)
 clear h
 cases L with
 | nil =>
  clear hD hL
  go_enter Tryz.func128, Tryz.ntmps128
  go_wp2_with (go_at_call 126; refine HT.out.mono ?_; rintro e w1 ⟨he, h1, h2⟩; simp only [Bent] at he; subst he)
  exact ⟨rfl, rfl, h1, h2⟩
 | cons s L =>
  have HT2 := Lib.hid (HT.out.mono (fun e w' h => (⟨h.1, h.2.1, h.2.2⟩ : e = .returned (.string (str s)) ∧ CurIn w' b L ∧ But b w w')))
  have HI := Lib.hid (fun w' (k : But b w w') => int_any s w' (hL s List.mem_cons_self) (hD w' k))
  clear HT hD hL
  cases hp : intP s with
  | none =>
   have hN : Hid (∀ e w', e = Bent → CurIn w' b L → But b w w' → NextR intP (fun n => .int .i64 n) w b (s :: L) e w') := Lib.hid (fun e w' k1 k2 k3 => next_none hp k1 k2 k3)
   have HI2 := Lib.hid (fun w' k => (HI.out w' k).mono (fun e w2 h => (⟨h.1.trans (by unfold intR; rw [hp]; rfl), h.2⟩ : e = .returned (.tuple #[.int .i64 0, .bool false]) ∧ Ext w' w2)))
   clear hp HI
   go_enter Tryz.func128, Tryz.ntmps128
   go_wp2_with (first
    | (go_at_call 126; refine HT2.out.mono ?_; rintro e w1 ⟨rfl, k1, k2⟩)
    | (go_at_call 191; refine (HI2.out _ k2).mono ?_; rintro e w2 ⟨rfl, x2⟩))
   exact ⟨rfl, hN.out _ _ rfl (k1.ext x2) (k2.then' x2)⟩
  | some n =>
   have hN : Hid (∀ e w', e = .returned (.int .i64 n) → CurIn w' b L → But b w w' → NextR intP (fun n => .int .i64 n) w b (s :: L) e w') := Lib.hid (fun e w' k1 k2 k3 => next_some hp k1 k2 k3)
   have HI2 := Lib.hid (fun w' k => (HI.out w' k).mono (fun e w2 h => (⟨h.1.trans (by unfold intR; rw [hp]; rfl), h.2⟩ : e = .returned (.tuple #[.int .i64 n, .bool true]) ∧ Ext w' w2)))
   clear hp HI
   go_enter Tryz.func128, Tryz.ntmps128
   go_wp2_with (first
    | (go_at_call 126; refine HT2.out.mono ?_; rintro e w1 ⟨rfl, k1, k2⟩)
    | (go_at_call 191; refine (HI2.out _ k2).mono ?_; rintro e w2 ⟨rfl, x2⟩))
   go_ret
   exact hN.out _ _ rfl (k1.ext x2) (k2.then' x2)
end Go.Proofs.YtfaplefkakpgcaaGreatDoor
/- Bytes filled up with zeros. -/
namespace Go.Proofs.YtfaplefkakpgcaaGreatDoor
set_option linter.unusedVariables false
set_option linter.unusedSimpArgs false
def two2 (n : Int) : List UInt8 := [b8 (n % 256), b8 (n / 256)]
def fillP (s : List UInt8) (n : Nat) : List UInt8 := s ++ zs (n - s.length)
end Go.Proofs.YtfaplefkakpgcaaGreatDoor
/- A directory's bytes and names: plain. -/
namespace Go.Proofs.YtfaplefkakpgcaaGreatDoor
set_option linter.unusedVariables false
set_option linter.unusedSimpArgs false
def okD (c : UInt8) : Bool := decide (97 ≤ c.toNat ∧ c.toNat ≤ 122 ∨ 65 ≤ c.toNat ∧ c.toNat ≤ 90 ∨ 48 ≤ c.toNat ∧ c.toNat ≤ 57 ∨ c.toNat = 45 ∨ c.toNat = 95 ∨ c.toNat = 46)
def mayD (s : List UInt8) : Bool := decide (s ≠ []) && decide (s.length ≤ 24) && decide (s ≠ [46]) && decide (s ≠ [46, 46]) && s.all okD
theorem mayD_bad {s : List UInt8} {k : Nat} (hk : k < s.length) (h : okD s[k] = false) : mayD s = false := by
 unfold mayD
 rw [show s.all okD = false from List.all_eq_false.2 ⟨s[k], List.getElem_mem hk, by rw [h]; simp⟩]; simp
theorem mayD_len {s : List UInt8} (h : mayD s = true) : 1 ≤ s.length ∧ s.length ≤ 24 := by
 unfold mayD at h
 simp only [Bool.and_eq_true, decide_eq_true_eq] at h
 exact ⟨Nat.pos_of_ne_zero fun e => h.1.1.1.1 (List.eq_nil_of_length_eq_zero e), h.1.1.1.2⟩
abbrev Ent := List UInt8 × Int
def entP (x : Ent) : List UInt8 := fillP (two2 x.2 ++ [b8 x.1.length] ++ [0] ++ x.1) 32
def entOf (o : List UInt8) : Ent := ((o.drop 4).take (o.getD 2 0).toNat, (numL (o.take 2) : Int))
def okE (o : List UInt8) : Bool := decide ((o.getD 2 0).toNat ≤ 24) && decide (1 ≤ (entOf o).2) && decide ((entOf o).2 ≤ 64) && mayD (entOf o).1 && decide (entP (entOf o) = o)
def lessE (l : List Ent) (x : Ent) : Bool := match l.getLast? with
 | none => true
 | some y => ltB y.1 x.1
def pieceE (b : List UInt8) (k : Nat) : List UInt8 := (b.drop (32 * k)).take 32
def entsP (b : List UInt8) : Nat → Option (List Ent)
 | 0 => some []
 | k + 1 => match entsP b k with
  | none => none
  | some l => if okE (pieceE b k) && lessE l (entOf (pieceE b k)) then some (l ++ [entOf (pieceE b k)]) else none
def entriesP (b : List UInt8) : Option (List Ent) := if b.length % 32 = 0 then entsP b (b.length / 32) else none
theorem entsP_yes {b : List UInt8} {k : Nat} {l : List Ent} (h : entsP b k = some l) (h1 : okE (pieceE b k) = true) (h2 : lessE l (entOf (pieceE b k)) = true) : entsP b (k + 1) = some (l ++ [entOf (pieceE b k)]) := by
 simp only [entsP, h, h1, h2, Bool.and_self, if_true]
theorem entsP_no {b : List UInt8} {k : Nat} {l : List Ent} (h : entsP b k = some l) (h1 : okE (pieceE b k) = false ∨ lessE l (entOf (pieceE b k)) = false) : entsP b (k + 1) = none := by
 simp only [entsP, h]
 rcases h1 with h1 | h1 <;> simp [h1]
theorem entsP_none {b : List UInt8} {k : Nat} (h : entsP b k = none) : ∀ m, k ≤ m → entsP b m = none := by
 intro m hm
 induction m with
 | zero => obtain rfl : k = 0 := by omega
           exact h
 | succ m ih =>
  by_cases e : k = m + 1
  ·subst e; exact h
  ·simp only [entsP, ih (by omega)]
theorem entsP_len {b : List UInt8} : ∀ {k : Nat} {l : List Ent}, entsP b k = some l → l.length = k
 | 0, l, h => by cases h; rfl
 | k + 1, l, h => by
  simp only [entsP] at h
  cases h1 : entsP b k with
  | none => rw [h1] at h; cases h
  | some l1 =>
   rw [h1] at h
   simp only at h
   split at h
   ·cases h
    rw [List.length_append, entsP_len h1]; rfl
   ·cases h
def EntsOk (l : List Ent) : Prop := (∀ x ∈ l, mayD x.1 = true ∧ 1 ≤ x.2 ∧ x.2 ≤ 64) ∧ l.Pairwise fun a b => ltB a.1 b.1 = true
theorem entsP_ok {b : List UInt8} : ∀ {k : Nat} {l : List Ent}, entsP b k = some l → EntsOk l
 | 0, l, h => by cases h; exact ⟨fun x hx => absurd hx List.not_mem_nil, List.Pairwise.nil⟩
 | k + 1, l, h => by
  simp only [entsP] at h
  cases h1 : entsP b k with
  | none => rw [h1] at h; cases h
  | some l1 =>
   rw [h1] at h
   simp only at h
   split at h
   ·rename_i hc
    cases h
    have ih := entsP_ok h1
    simp only [Bool.and_eq_true] at hc
    have ho := hc.1
    unfold okE at ho
    simp only [Bool.and_eq_true, decide_eq_true_eq] at ho
    refine ⟨fun x hx => ?_, ?_⟩
    ·rcases List.mem_append.1 hx with hx | hx
     ·exact ih.1 x hx
     ·obtain rfl := List.mem_singleton.1 hx
      exact ⟨ho.1.2, ho.1.1.1.2, ho.1.1.2⟩
    ·refine List.pairwise_append.2 ⟨ih.2, List.pairwise_singleton _ _, fun a ha c hcc => ?_⟩
     obtain rfl := List.mem_singleton.1 hcc
     have hl := hc.2
     unfold lessE at hl
     cases hq : l1.getLast? with
     | none => rw [List.getLast?_eq_none_iff] at hq; subst hq; exact absurd ha List.not_mem_nil
     | some y =>
      rw [hq] at hl
      simp only at hl
      obtain ⟨ys, rfl⟩ := List.getLast?_eq_some_iff.1 hq
      rcases List.mem_append.1 ha with ha | ha
      ·exact ltB_trans _ _ _ ((List.pairwise_append.1 ih.2).2.2 a ha y List.mem_cons_self) hl
      ·obtain rfl := List.mem_singleton.1 ha
       exact hl
   ·cases h
theorem entriesP_ok {b : List UInt8} {l : List Ent} (h : entriesP b = some l) : EntsOk l ∧ 32 * l.length = b.length := by
 unfold entriesP at h
 split at h
 ·exact ⟨entsP_ok h, by rw [entsP_len h]; omega⟩
 ·cases h
def posE (l : List Ent) (name : List UInt8) : Nat := (l.takeWhile fun x => ltB x.1 name).length
def hasE (l : List Ent) (name : List UInt8) : Bool := decide (posE l name < l.length) && decide ((l.getD (posE l name) ([], 0)).1 = name)
theorem posE_le (l : List Ent) (name : List UInt8) : posE l name ≤ l.length := by
 unfold posE
 have := congrArg List.length (List.takeWhile_append_dropWhile (p := fun x : Ent => ltB x.1 name) (l := l))
 rw [List.length_append] at this
 omega
theorem posE_lt {l : List Ent} {name : List UInt8} {j : Nat} (hj : j < posE l name) (hl : j < l.length) : ltB l[j].1 name = true := by
 unfold posE at hj
 have h1 : (l.takeWhile fun x => ltB x.1 name)[j] = l[j] := List.IsPrefix.getElem (List.takeWhile_prefix _) hj
 have h2 := List.all_takeWhile (p := fun x : Ent => ltB x.1 name) (l := l)
 rw [List.all_eq_true] at h2
 rw [← h1]
 exact h2 _ (List.getElem_mem hj)
theorem posE_ge {l : List Ent} (hl : l.Pairwise fun a b => ltB a.1 b.1 = true) {name : List UInt8} {j : Nat} (hj : posE l name ≤ j) (h : j < l.length) : ltB l[j].1 name = false := by
 induction l generalizing j with
 | nil => simp at h
 | cons x l ih =>
  rw [List.pairwise_cons] at hl
  unfold posE at hj
  rw [List.takeWhile_cons] at hj
  by_cases hx : ltB x.1 name = true
  ·rw [if_pos hx] at hj
   simp only [List.length_cons] at hj
   obtain ⟨i, rfl⟩ : ∃ i, j = i + 1 := ⟨j - 1, by omega⟩
   simp only [List.getElem_cons_succ]
   exact ih hl.2 (by unfold posE; omega) (by simpa using h)
  ·rw [Bool.not_eq_true] at hx
   cases j with
   | zero => exact hx
   | succ i =>
    have hil : i < l.length := by simpa using h
    simp only [List.getElem_cons_succ]
    have := hl.1 l[i] (List.getElem_mem hil)
    cases hc : ltB l[i].1 name with
    | false => rfl
    | true => rw [ltB_trans _ _ _ this hc] at hx; cases hx
end Go.Proofs.YtfaplefkakpgcaaGreatDoor
/- The walk of dir.entry. -/
namespace Go.Proofs.YtfaplefkakpgcaaGreatDoor
set_option linter.unusedVariables false
set_option linter.unusedSimpArgs false
open Go.RowKit
set_option maxHeartbeats 1000000 in
set_option maxRecDepth 100000 in
theorem dentry_any (x : Ent) (w : World) (h1 : x.1.length ≤ 24) (h2 : 0 ≤ x.2) (h3 : x.2 < 65536) :
  Calls Tryz.prog 212 #[.agg #[.string (str x.1), .int .i64 x.2]] w fun e w' => e = .returned (.string (str (entP x))) ∧ Ext w w' := by
 have hz := str_size
 have hap := str_app
 obtain ⟨name, ino⟩ := x
 simp only at h1 h2 h3
 obtain ⟨hd, hhd⟩ : ∃ hd : List UInt8, hd = b8 (ino % 256) :: b8 (ino / 256) :: b8 name.length :: 0 :: name := ⟨_, rfl⟩
 have hL : hd.length = 4 + name.length := by rw [hhd]; simp; omega
 have HE := Lib.hid (show entP (name, ino) = hd ++ zs (28 - name.length) from by
  unfold entP fillP
  rw [show two2 ino ++ [b8 name.length] ++ [0] ++ name = hd from by rw [hhd]; rfl, hL]
  congr 2; omega)
 have b1 := Box.new w 154 #[.string (str name), .int .i64 ino]
 have x1 : Ext w (w.alloc (.cells #[.string (str name), .int .i64 ino] 154)) := (Ext.refl w).alloc _
 have u1 : IntKind.u64.wrap ino = ino := by rw [IntKind.wrap_u64]; omega
 have u2 : IntKind.u64.wrap (name.length : Int) = name.length := by rw [IntKind.wrap_u64]; omega
 have HP2 := Lib.hid (fun w => put2 ino w h2 (by omega))
 have HP1 := Lib.hid (fun w => put1 (name.length : Int) w (by omega) (by omega))
 have c0 : ∀ y : Later (w.alloc (.cells #[.string (str name), .int .i64 ino] 154)), y.now.cell? ⟨w.heap.size, 0, none⟩ = some (.string (str name)) := fun y => y.ext.keep (b1.cell 0)
 have c1 : ∀ y : Later (w.alloc (.cells #[.string (str name), .int .i64 ino] 154)), y.now.cell? ⟨w.heap.size, 1, none⟩ = some (.int .i64 ino) := fun y => y.ext.keep (b1.cell 1)
 have hk : (⟨#[0]⟩ : ByteArray) = str [0] := rfl
 go_enter Tryz.func212, Tryz.ntmps212
 go_upto_region 1 with fail
 refine wp_region_later (by kernel_rfl) (by kernel_rfl) ?_
 repeat (go_big_quiet_step ((first | (with_reducible exact later_of (HP2.out _)) | (with_reducible exact later_of (HP1.out _)))))
 refine wpQuiet_nil ?_
 rintro w2 ⟨y, rfl⟩
 have hg2 := x1.trans y.ext
 clear c0 c1 b1
 generalize y.now = w2 at *
 rw [← hhd]
 clear hhd
 have hi : (32 : Int) - (hd.length : Int) = ((28 - name.length : Nat) : Int) := by omega
 have hi2 : (32 : Int) - (4 + (name.length : Int)) = ((28 - name.length : Nat) : Int) := by omega
 have HR := Lib.hid (fun w => repeat_any (28 - name.length) w (by omega))
 go_wp2_with (go_at_call 119; refine (HR.out _).mono ?_; rintro e w3 ⟨rfl, x3⟩)
 go_ret
 exact ⟨by rw [HE.out]; rfl, hg2.trans x3⟩
end Go.Proofs.YtfaplefkakpgcaaGreatDoor
/- The walk of dir.May. -/
namespace Go.Proofs.YtfaplefkakpgcaaGreatDoor
set_option linter.unusedVariables false
set_option linter.unusedSimpArgs false
open Go.RowKit
set_option maxHeartbeats 4000000 in
set_option maxRecDepth 100000 in
theorem dmay_any (s : List UInt8) (w : World) (hs : s.length ≤ 1000000000) :
  Calls Tryz.prog 110 #[.string (str s)] w fun e w' => e = .returned (.bool (mayD s)) ∧ Ext w w' := by
 have hz := str_size
 have HT := Lib.hid (fun t => str_toList t)
 by_cases h0 : s = []
 ·subst h0
  have d1 : (str []).toList = [] := str_toList []
  go_enter Tryz.func110, Tryz.ntmps110
  go_wp2_with fail
  go_ret
  exact ⟨rfl, Ext.refl _⟩
 have d1 : (str s).toList.isEmpty = false := by rw [str_toList]; cases s with
  | nil => exact absurd rfl h0
  | cons a l => rfl
 by_cases h1 : 24 < s.length
 ·have HM := Lib.hid (show mayD s = false by unfold mayD; rw [show decide (s.length ≤ 24) = false by simp; omega]; simp)
  go_enter Tryz.func110, Tryz.ntmps110
  go_wp2_with fail
  go_ret
  rw [HM.out]
  exact ⟨rfl, Ext.refl _⟩
 by_cases h2 : s = [46]
 ·subst h2
  have d2 : (str [46]).toList = [46] := str_toList _
  go_enter Tryz.func110, Tryz.ntmps110
  go_wp2_with fail
  go_ret
  exact ⟨rfl, Ext.refl _⟩
 by_cases h3 : s = [46, 46]
 ·subst h3
  have d2 : (str [46, 46]).toList = [46, 46] := str_toList _
  go_enter Tryz.func110, Tryz.ntmps110
  go_wp2_with fail
  go_ret
  exact ⟨rfl, Ext.refl _⟩
 have d2 : ((str s).toList == [46]) = false := by rw [str_toList]; simpa using h2
 have d3 : ((str s).toList == [46, 46]) = false := by rw [str_toList]; simpa using h3
 have d4 : ¬ (str s).toList = [46] := by rw [str_toList]; exact h2
 have d5 : ¬ (str s).toList = [46, 46] := by rw [str_toList]; exact h3
 have HYes := Lib.hid (show s.all okD = true → mayD s = true from fun h => by unfold mayD; simp only [h, Bool.and_true, Bool.and_eq_true, decide_eq_true_eq]; exact ⟨⟨⟨h0, by omega⟩, h2⟩, h3⟩)
 clear h2 h3
 go_enter Tryz.func110, Tryz.ntmps110
 go_wp2_with (refine wp_conv_bytes (.tmp 20) rfl rfl rfl ?_; intro cap w1 hc1 x1; have HC := Lib.hid hc1; clear hc1)
 clear d1 d2 d3 d4 d5
 go_loop [4, 23, 27, 46] (fun _ i _ _ => ∃ k : Nat, k ≤ s.length ∧ i = .int .i64 k ∧ ∀ (j : Nat) (h : j < s.length), j < k → okD s[j] = true) (fun _ i _ _ => s.length - (intOf i).toNat)
 case atStart => exact ⟨0, by omega, rfl, fun j _ h => by omega⟩
 case round =>
  obtain ⟨k, hk, rfl, hok⟩ := hrel
  have HO := Lib.hid hok
  clear hok
  by_cases hlt : k < s.length
  ·have hck := HC.out k hlt
   have HB := Lib.hid (@mayD_bad s k hlt)
   have HN := Lib.hid (show okD s[k] = true → ∀ (j : Nat) (h : j < s.length), j < k + 1 → okD s[j] = true from fun h j hj hlt2 => by
    by_cases e : j < k
    ·exact HO.out j hj e
    ·obtain rfl : j = k := by omega
     exact h)
   have hcb := s[k].toNat_lt
   have HE : Hid (okD s[k] = decide (97 ≤ s[k].toNat ∧ s[k].toNat ≤ 122 ∨ 65 ≤ s[k].toNat ∧ s[k].toNat ≤ 90 ∨ 48 ≤ s[k].toNat ∧ s[k].toNat ≤ 57 ∨ s[k].toNat = 45 ∨ s[k].toNat = 95 ∨ s[k].toNat = 46)) := rfl
   generalize s[k] = ch at *
   rcases (by omega : (97 ≤ ch.toNat ∧ ch.toNat ≤ 122) ∨ (65 ≤ ch.toNat ∧ ch.toNat ≤ 90) ∨ (48 ≤ ch.toNat ∧ ch.toNat ≤ 57) ∨ (ch.toNat = 45) ∨ (ch.toNat = 95) ∨ (ch.toNat = 46) ∨ (123 ≤ ch.toNat) ∨ (91 ≤ ch.toNat ∧ ch.toNat ≤ 96 ∧ ch.toNat ≠ 95) ∨ (58 ≤ ch.toNat ∧ ch.toNat ≤ 64) ∨ (ch.toNat ≤ 47 ∧ ch.toNat ≠ 46 ∧ ch.toNat ≠ 45)) with hc | hc | hc | hc | hc | hc | hc | hc | hc | hc
   iterate 6
    ·have hyes : okD ch = true := by rw [HE.out]; simp; omega
     have e45 : ((ch.toNat : Int) == 45) = decide (ch.toNat = 45) := by rw [Bool.eq_iff_iff]; simp; omega
     have e95 : ((ch.toNat : Int) == 95) = decide (ch.toNat = 95) := by rw [Bool.eq_iff_iff]; simp; omega
     have e46 : ((ch.toNat : Int) == 46) = decide (ch.toNat = 46) := by rw [Bool.eq_iff_iff]; simp; omega
     have q97 : decide ((97 : Int) ≤ (ch.toNat : Int)) = decide (97 ≤ ch.toNat) := by simp; omega
     have q122 : decide ((ch.toNat : Int) ≤ 122) = decide (ch.toNat ≤ 122) := by simp; omega
     have q65 : decide ((65 : Int) ≤ (ch.toNat : Int)) = decide (65 ≤ ch.toNat) := by simp; omega
     have q90 : decide ((ch.toNat : Int) ≤ 90) = decide (ch.toNat ≤ 90) := by simp; omega
     have q48 : decide ((48 : Int) ≤ (ch.toNat : Int)) = decide (48 ≤ ch.toNat) := by simp; omega
     have q57 : decide ((ch.toNat : Int) ≤ 57) = decide (ch.toNat ≤ 57) := by simp; omega
     clear HE
     go_wp2_with fail
     go_round
     case rel => exact ⟨k + 1, by omega, by go_num, HN.out hyes⟩
     case measure => simp [intOf]; omega
   all_goals
    have hno : okD ch = false := by rw [HE.out]; simp; omega
    have e46 : ((ch.toNat : Int) == 46) = false := by simp; omega
    have e95 : ((ch.toNat : Int) == 95) = false := by simp; omega
    have e45 : ((ch.toNat : Int) == 45) = false := by simp; omega
    clear HE
    go_wp2_with fail
    go_ret
    rw [HB.out hno]
    exact ⟨rfl, x1⟩
  ·obtain rfl : k = s.length := by omega
   have HT := Lib.hid (HYes.out (by rw [List.all_eq_true]; intro c hc; obtain ⟨j, hj, rfl⟩ := List.getElem_of_mem hc; exact HO.out j hj hj))
   go_wp2_with fail
   go_ret
   rw [HT.out]
   exact ⟨rfl, x1⟩
end Go.Proofs.YtfaplefkakpgcaaGreatDoor
