/- The walks of a drive: drive.has, drive.Check, wal.journaled. -/
import Derived.Test.YtkokmnaicfdjaaaGreatDoorVd10
import Derived.Test.YtkokmnaicfdjaaaGreatDoorVd12
import Derived.Deep.MidRow
import Derived.Test.YtkokmnaicfdjaaaGreatDoorVd8
namespace Go.Proofs.YtkokmnaicfdjaaaGreatDoor
set_option linter.unusedVariables false
set_option linter.unusedSimpArgs false
open Go.RowKit

/-- the slice with the address A and n places holds these writes -/
def Wrs (w : World) (A : Option Addr) (n : Nat) (l : List WrT) : Prop :=
  n = l.length ∧ (0 < n → ∃ b o, A = some ⟨b, o, none⟩ ∧ ∀ (j : Nat) (h : j < l.length), w.cell? ⟨b, o + j * 2, none⟩ = some (.int .i64 l[j].1) ∧ w.cell? ⟨b, o + j * 2 + 1, none⟩ = some (.string (str l[j].2)))
theorem Wrs.ext {w w' : World} {A : Option Addr} {n : Nat} {l : List WrT} (h : Wrs w A n l) (k : Ext w w') : Wrs w' A n l :=
  ⟨h.1, fun hn => by obtain ⟨b, o, e, hc⟩ := h.2 hn; exact ⟨b, o, e, fun j hj => ⟨k.keep (hc j hj).1, k.keep (hc j hj).2⟩⟩⟩
theorem RowOf.wrs {w : World} {A : Option Addr} {n : Nat} {l : List WrT} (h : RowOf wrL w A n l) : Wrs w A n l := by
  refine ⟨h.1, fun hn => ?_⟩
  obtain ⟨b, o, e, hc⟩ := h.2 hn
  exact ⟨b, o, e, fun j hj => ⟨RowOf.cell (n := n) hc (z := 2) (fun x _ => rfl) hj (i := 0) (by omega) rfl, RowOf.cell (n := n) hc (z := 2) (fun x _ => rfl) hj (i := 1) (by omega) rfl⟩⟩
theorem RowOf.strs {w : World} {A : Option Addr} {n : Nat} {l : List (List UInt8)} (h : RowOf stL w A n l) : Strs w A n l := by
  refine ⟨h.1, fun hn => ?_⟩
  obtain ⟨b, o, e, hc⟩ := h.2 hn
  refine ⟨b, o, e, fun j hj => ?_⟩
  have := RowOf.cell (n := n) hc (z := 1) (fun x _ => rfl) hj (i := 0) (by omega) rfl
  rw [Nat.mul_one, Nat.add_zero] at this
  exact this
theorem drvSize : (Tryz.prog.info? 28).map (·.size) = some 3 := by kernel_rfl
theorem macSize : (Tryz.prog.info? 30).map (·.size) = some 17 := by kernel_rfl
section
variable {ops : Array Oper} {rest : List Oper} {o : Oper} {a : Act} {w : World} {Q : Exit → Act → World → Prop}
theorem wp_ld_drv (x : Operand) (hgd : o.guard = none) (ho : o.op = .load 28 x) (g : Nat) (l : Array Value) (t : TypeId) (hx : a.eval x = .pointer (some ⟨g, 0, none⟩))
    (hb : Box w g t l) (hl : l.size = 3) (hK : wpList Tryz.prog ops Q rest (a.put o.dst (.agg l)) w) : wpList Tryz.prog ops Q (o :: rest) a w :=
  wp_ld _ x hgd ho g _ t _ hx hb Tryz.underlying28 rfl (by rw [hl]; exact drvSize) hK
theorem wp_ld_mac (x : Operand) (hgd : o.guard = none) (ho : o.op = .load 30 x) (g : Nat) (l : Array Value) (t : TypeId) (hx : a.eval x = .pointer (some ⟨g, 0, none⟩))
    (hb : Box w g t l) (hl : l.size = 17) (hK : wpList Tryz.prog ops Q rest (a.put o.dst (.agg l)) w) : wpList Tryz.prog ops Q (o :: rest) a w :=
  wp_ld _ x hgd ho g _ t _ hx hb Tryz.underlying30 rfl (by rw [hl]; exact macSize) hK
end
set_option maxHeartbeats 400000 in
theorem has_any (bA pA : Option Addr) (bn bc pn pc : Nat) (left i : Int) (w : World) :
    Calls Tryz.prog 124 #[.agg #[.slice bA bn bc, .slice pA pn pc, .int .i64 left], .int .i64 i] w fun e w' => e = .returned (.bool (decide (0 ≤ i ∧ i < (bn : Int)))) ∧ Ext w w' := by
  by_cases h0 : 0 ≤ i
  · by_cases h1 : i < (bn : Int)
    · go_enter Tryz.func124, Tryz.ntmps124
      go_wp2_with fail
      go_ret
      exact ⟨ret_bool (by simp [h0, h1]), (Ext.refl w).alloc _⟩
    · have d1 : decide (i < (bn : Int)) = false := by simpa using h1
      go_enter Tryz.func124, Tryz.ntmps124
      go_wp2_with fail
      go_ret
      exact ⟨ret_bool (by simp [h0, h1]), (Ext.refl w).alloc _⟩
  · have d1 : decide (0 ≤ i) = false := by simpa using h0
    go_enter Tryz.func124, Tryz.ntmps124
    go_wp2_with fail
    go_ret
    exact ⟨ret_bool (by simp [h0]), (Ext.refl w).alloc _⟩
theorem formE_take {B : List (List UInt8)} {k : Nat} (hk : k < B.length) (h : formE (B.take k) = 0) (hl : B[k].length = 128) : formE (B.take (k + 1)) = 0 := by
  rw [List.take_succ_eq_append_getElem hk, formE_app, if_neg (by simpa using h)]; simp [formE, hl]
theorem formE_bad {B : List (List UInt8)} {k : Nat} (hk : k < B.length) (h : formE (B.take k) = 0) (hl : B[k].length ≠ 128) : formE B = 3 := by
  have e : B = B.take k ++ (B[k] :: B.drop (k + 1)) := by rw [List.getElem_cons_drop, List.take_append_drop]
  rw [e, formE_app, if_neg (by simpa using h), formE, if_pos hl]
theorem pendE_take {n : Nat} {p : List WrT} {k : Nat} (hk : k < p.length) (h : pendE n (p.take k) = 0) (h0 : 0 ≤ p[k].1) (h1 : p[k].1 < n) (hl : p[k].2.length = 128) : pendE n (p.take (k + 1)) = 0 := by
  rw [List.take_succ_eq_append_getElem hk, pendE_app, if_neg (by simpa using h), pendE, if_neg (by omega), if_neg (by simpa using hl)]; rfl
theorem pendE_at {n : Nat} {p : List WrT} {k : Nat} (hk : k < p.length) (h : pendE n (p.take k) = 0) : pendE n p = pendE n (p[k] :: p.drop (k + 1)) := by
  have e : p = p.take k ++ (p[k] :: p.drop (k + 1)) := by rw [List.getElem_cons_drop, List.take_append_drop]
  conv => lhs; rw [e]
  rw [pendE_app, if_neg (by simpa using h)]
set_option maxHeartbeats 1000000 in
set_option maxRecDepth 100000 in
theorem dcheck_any (bA pA : Option Addr) (bn bc pn pc : Nat) (left : Int) (B : List (List UInt8)) (p : List WrT) (w : World) (hb : Strs w bA bn B) (hp : Wrs w pA pn p) (hpn : pn ≤ 9223372036854775807) :
    Calls Tryz.prog 85 #[.agg #[.slice bA bn bc, .slice pA pn pc, .int .i64 left]] w fun e w' => e = .returned (.int .i64 (drvE B p)) ∧ Ext w w' := by
  obtain ⟨rfl, hb2⟩ := hb
  obtain ⟨rfl, hp2⟩ := hp
  have hz := str_size
  by_cases h256 : 256 < B.length
  · go_enter Tryz.func85, Tryz.ntmps85
    go_wp2_with fail
    go_ret
    exact ⟨ret_int (by unfold drvE; rw [if_pos h256]), (Ext.refl w).alloc _⟩
  have HD := Lib.hid (show drvE B p = if formE B ≠ 0 then 3 else pendE B.length p by unfold drvE; rw [if_neg h256])
  go_enter Tryz.func85, Tryz.ntmps85
  go_wp2_with fail
  generalize hw1 : w.alloc _ = w1
  have x1 : Ext w w1 := by rw [← hw1]; exact (Ext.refl _).alloc _
  have b1 : Box w1 w.heap.size 28 #[.slice bA B.length bc, .slice pA p.length pc, .int .i64 left] := by rw [← hw1]; exact Box.new _ _ _
  clear hw1
  have q1 := b1.cell 1
  go_loop [4, 14] (fun _ i => ∃ k : Nat, k ≤ B.length ∧ i = .int .i64 k ∧ formE (B.take k) = 0) (fun _ i => B.length - (intOf i).toNat)
  case atStart => exact ⟨0, by omega, rfl, rfl⟩
  case round =>
    obtain ⟨k, hk, rfl, hf⟩ := hrel
    have HF := Lib.hid hf
    clear hf
    by_cases hlt : k < B.length
    · obtain ⟨b, o, rfl, hcell⟩ := hb2 (by omega)
      have c1 := x1.keep (hcell k hlt)
      clear hcell
      by_cases hl : B[k].length = 128
      · have HN := Lib.hid (formE_take hlt HF.out hl)
        have hl' : ((B[k].length : Int) != 128) = false := by rw [hl]; rfl
        generalize B[k] = s at *
        go_wp2_with fail
        go_round
        case rel => exact ⟨k + 1, by omega, by go_num, HN.out⟩
        case measure => simp [intOf]; omega
      · have HN := Lib.hid (formE_bad hlt HF.out hl)
        have hl' : ((B[k].length : Int) != 128) = true := by simp; omega
        generalize B[k] = s at *
        go_wp2_with fail
        go_ret
        exact ⟨ret_int (by rw [HD.out, HN.out]; rfl), x1⟩
    · obtain rfl : k = B.length := by omega
      have HF2 := Lib.hid (show drvE B p = pendE B.length p by rw [HD.out]; have := HF.out; rw [List.take_length] at this; rw [if_neg (by simpa using this)])
      clear HF HD
      go_wp2_with fail
      go_loopw [6, 25] (fun _ i wx => ∃ k : Nat, k ≤ p.length ∧ i = .int .i64 k ∧ pendE B.length (p.take k) = 0 ∧ Ext w1 wx) (fun _ i _ => p.length - (intOf i).toNat)
      case atStart => exact ⟨0, by omega, rfl, rfl, Ext.refl _⟩
      case round =>
        obtain ⟨k, hk, rfl, hf, hx⟩ := hrel
        have HF := Lib.hid hf
        clear hf
        have bx := b1.ext hx
        by_cases hlt : k < p.length
        · obtain ⟨b, o, rfl, hcell⟩ := hp2 (by omega)
          have c1 := (x1.trans hx).keep (hcell k hlt).1
          have c2 := (x1.trans hx).keep (hcell k hlt).2
          clear hcell
          have HA := Lib.hid (pendE_at (n := B.length) hlt HF.out)
          have HT := Lib.hid (pendE_take (n := B.length) hlt HF.out)
          clear HF
          generalize p[k] = s at *
          by_cases hin : 0 ≤ s.1 ∧ s.1 < (B.length : Int)
          · have din : decide (0 ≤ s.1 ∧ s.1 < (B.length : Int)) = true := decide_eq_true hin
            by_cases hl : s.2.length = 128
            · have HN := Lib.hid (HT.out hin.1 hin.2 hl)
              have hl' : ((s.2.length : Int) != 128) = false := by rw [hl]; rfl
              clear hin
              go_wp2_with (first
                | (refine wp_ld_drv (.tmp 1) rfl rfl w.heap.size _ 28 rfl (bx.ext ((Ext.refl _).alloc _)) rfl ?_)
                | (go_at_call 124; refine (has_any _ _ _ _ _ _ _ _ _).mono ?_; rintro e w2 ⟨rfl, x2⟩; rw [din]; have y2 := (Box.new wr 57 #[.int .i64 s.1, .string (str s.2)]).ext x2; have y20 := y2.cell 1))
              go_roundw
              case rel => exact ⟨k + 1, by omega, by go_num, HN.out, hx.trans (((Ext.refl _).alloc _).trans x2)⟩
              case measure => simp [intOf]; omega
            · have HN := Lib.hid (show drvE B p = 3 by rw [HF2.out, HA.out, pendE, if_neg (by omega), if_pos hl])
              have hl' : ((s.2.length : Int) != 128) = true := by simp; omega
              clear hin
              go_wp2_with (first
                | (refine wp_ld_drv (.tmp 1) rfl rfl w.heap.size _ 28 rfl (bx.ext ((Ext.refl _).alloc _)) rfl ?_)
                | (go_at_call 124; refine (has_any _ _ _ _ _ _ _ _ _).mono ?_; rintro e w2 ⟨rfl, x2⟩; rw [din]; have y2 := (Box.new wr 57 #[.int .i64 s.1, .string (str s.2)]).ext x2; have y20 := y2.cell 1))
              go_ret
              exact ⟨ret_int HN.out.symm, x1.trans (hx.trans (((Ext.refl _).alloc _).trans x2))⟩
          · have din : decide (0 ≤ s.1 ∧ s.1 < (B.length : Int)) = false := decide_eq_false hin
            have HN := Lib.hid (show drvE B p = 2 by rw [HF2.out, HA.out, pendE, if_pos (by omega)])
            clear hin
            go_wp2_with (first
              | (refine wp_ld_drv (.tmp 1) rfl rfl w.heap.size _ 28 rfl (bx.ext ((Ext.refl _).alloc _)) rfl ?_)
              | (go_at_call 124; refine (has_any _ _ _ _ _ _ _ _ _).mono ?_; rintro e w2 ⟨rfl, x2⟩; rw [din]; have y2 := (Box.new wr 57 #[.int .i64 s.1, .string (str s.2)]).ext x2; have y20 := y2.cell 1))
            go_ret
            exact ⟨ret_int HN.out.symm, x1.trans (hx.trans (((Ext.refl _).alloc _).trans x2))⟩
        · obtain rfl : k = p.length := by omega
          have HN := Lib.hid (show drvE B p = 0 by rw [HF2.out]; have := HF.out; rw [List.take_length] at this; exact this)
          clear HF
          go_wp2_with fail
          go_ret
          exact ⟨ret_int HN.out.symm, x1.trans hx⟩
set_option maxHeartbeats 1000000 in
set_option maxRecDepth 100000 in
theorem jrn_any (bA pA : Option Addr) (bn bc pn pc : Nat) (left : Int) (B : List (List UInt8)) (p : List WrT) (w : World) (hb : Strs w bA bn B) (hp : Wrs w pA pn p) (hpn : pn ≤ 9223372036854775807) :
    Calls Tryz.prog 38 #[.agg #[.slice bA bn bc, .slice pA pn pc, .int .i64 left]] w fun e w' => e = .returned (.int .i64 (jrnE B p)) ∧ Ext w w' := by
  have HC := Lib.hid (fun w h1 h2 => dcheck_any bA pA bn bc pn pc left B p w h1 h2 hpn)
  obtain rfl := hb.1
  have xa := (Ext.refl w).alloc (.cells #[.slice bA B.length bc, .slice pA pn pc, .int .i64 left] 28)
  have hs := hb.ext xa
  have hw := hp.ext xa
  by_cases hd : drvE B p = 0
  · rw [hd] at HC
    by_cases h33 : B.length ≤ 33
    · have HN := Lib.hid (show jrnE B p = 2 by unfold jrnE; rw [if_neg (by simpa using hd), if_pos h33])
      go_enter Tryz.func38, Tryz.ntmps38
      go_wp2_with (go_at_call 85; refine (HC.out _ hs hw).mono ?_; rintro e w1 ⟨rfl, x1⟩; have q0 := ((Box.new w 28 #[.slice bA B.length bc, .slice pA pn pc, .int .i64 left]).ext x1).cell 0)
      go_ret
      exact ⟨ret_int HN.out.symm, xa.trans x1⟩
    · have HN := Lib.hid (show jrnE B p = 0 by unfold jrnE; rw [if_neg (by simpa using hd), if_neg h33])
      go_enter Tryz.func38, Tryz.ntmps38
      go_wp2_with (go_at_call 85; refine (HC.out _ hs hw).mono ?_; rintro e w1 ⟨rfl, x1⟩; have q0 := ((Box.new w 28 #[.slice bA B.length bc, .slice pA pn pc, .int .i64 left]).ext x1).cell 0)
      go_ret
      exact ⟨ret_int HN.out.symm, xa.trans x1⟩
  · have HN := Lib.hid (show jrnE B p = drvE B p by unfold jrnE; rw [if_pos hd])
    have d1 : (drvE B p != 0) = true := by simpa using hd
    clear hd
    generalize drvE B p = dd at *
    go_enter Tryz.func38, Tryz.ntmps38
    go_wp2_with (go_at_call 85; refine (HC.out _ hs hw).mono ?_; rintro e w1 ⟨rfl, x1⟩)
    go_ret
    exact ⟨ret_int HN.out.symm, xa.trans x1⟩
end Go.Proofs.YtkokmnaicfdjaaaGreatDoor
/- The document's drives: Check, bad, Get, Home. -/
namespace Go.Proofs.YtkokmnaicfdjaaaGreatDoor
set_option linter.unusedVariables false
set_option linter.unusedSimpArgs false
open Go.RowKit

set_option maxHeartbeats 2000000 in
set_option maxRecDepth 100000 in
theorem rdcheck_any (bA pA : Option Addr) (bn bc pn pc : Nat) (left : Int) (B : List (List UInt8)) (p : List WrT) (w : World) (hb : Strs w bA bn B) (hp : Wrs w pA pn p) (hpn : pn ≤ 9223372036854775807) :
    Calls Tryz.prog 55 #[.agg #[.slice bA bn bc, .slice pA pn pc, .int .i64 left]] w fun e w' => e = .returned (.int .i64 (drvE B p)) ∧ Ext w w' := by
  obtain ⟨rfl, hb2⟩ := hb
  obtain ⟨rfl, hp2⟩ := hp
  have hz := str_size
  by_cases h256 : 256 < B.length
  · go_enter Tryz.func55, Tryz.ntmps55
    go_wp2_with fail
    go_ret
    exact ⟨ret_int (by unfold drvE; rw [if_pos h256]), (Ext.refl w).alloc _⟩
  have HD := Lib.hid (show drvE B p = if formE B ≠ 0 then 3 else pendE B.length p by unfold drvE; rw [if_neg h256])
  go_enter Tryz.func55, Tryz.ntmps55
  go_wp2_with fail
  generalize hw1 : w.alloc _ = w1
  have x1 : Ext w w1 := by rw [← hw1]; exact (Ext.refl _).alloc _
  have b1 : Box w1 w.heap.size 28 #[.slice bA B.length bc, .slice pA p.length pc, .int .i64 left] := by rw [← hw1]; exact Box.new _ _ _
  clear hw1
  go_loop [3] (fun i => ∃ k : Nat, k ≤ B.length ∧ i = .int .i64 k ∧ formE (B.take k) = 0) (fun i => B.length - (intOf i).toNat)
  case atStart => exact ⟨0, by omega, rfl, rfl⟩
  case round =>
    obtain ⟨k, hk, rfl, hf⟩ := hrel
    have HF := Lib.hid hf
    clear hf
    have q0 := b1.cell 0
    have q1 := b1.cell 1
    by_cases hlt : k < B.length
    · obtain ⟨b, o, rfl, hcell⟩ := hb2 (by omega)
      have c1 := x1.keep (hcell k hlt)
      clear hcell
      by_cases hl : B[k].length = 128
      · have HN := Lib.hid (formE_take hlt HF.out hl)
        have hl' : ((B[k].length : Int) != 128) = false := by rw [hl]; rfl
        generalize B[k] = s at *
        go_wp2_with fail
        go_round
        case rel => exact ⟨k + 1, by omega, by go_num, HN.out⟩
        case measure => simp [intOf]; omega
      · have HN := Lib.hid (formE_bad hlt HF.out hl)
        have hl' : ((B[k].length : Int) != 128) = true := by simp; omega
        generalize B[k] = s at *
        go_wp2_with fail
        go_ret
        exact ⟨ret_int (by rw [HD.out, HN.out]; rfl), x1⟩
    · obtain rfl : k = B.length := by omega
      have HF2 := Lib.hid (show drvE B p = pendE B.length p by rw [HD.out]; have := HF.out; rw [List.take_length] at this; rw [if_neg (by simpa using this)])
      clear HF HD
      go_wp2_with fail
      go_loopw [4] (fun i wx => ∃ k : Nat, k ≤ p.length ∧ i = .int .i64 k ∧ pendE B.length (p.take k) = 0 ∧ Ext w1 wx) (fun i _ => p.length - (intOf i).toNat)
      case atStart => exact ⟨0, by omega, rfl, rfl, Ext.refl _⟩
      case round =>
        obtain ⟨k, hk, rfl, hf, hx⟩ := hrel
        have HF := Lib.hid hf
        clear hf
        have bx := b1.ext hx
        have r0 := bx.cell 0
        have r1 := bx.cell 1
        clear q0 q1 bx
        by_cases hlt : k < p.length
        · obtain ⟨b, o, rfl, hcell⟩ := hp2 (by omega)
          have c1 := (x1.trans hx).keep (hcell k hlt).1
          have c2 := (x1.trans hx).keep (hcell k hlt).2
          clear hcell
          have HA := Lib.hid (pendE_at (n := B.length) hlt HF.out)
          have HT := Lib.hid (pendE_take (n := B.length) hlt HF.out)
          clear HF
          have hki : (k : Int) < (p.length : Int) := by omega
          generalize p[k] = s at *
          by_cases h0 : s.1 < 0
          · have d0 : decide (s.1 < 0) = true := decide_eq_true h0
            have HN := Lib.hid (show drvE B p = 2 by rw [HF2.out, HA.out, pendE, if_pos (by omega)])
            go_wp2_with fail
            go_quiet (fail)
            go_wp2_with fail
            go_ret
            exact ⟨ret_int HN.out.symm, x1.trans (hx.drewN _)⟩
          · have d0 : decide (s.1 < 0) = false := decide_eq_false h0
            by_cases h1 : (B.length : Int) ≤ s.1
            · have d1 : decide ((B.length : Int) ≤ s.1) = true := decide_eq_true h1
              have HN := Lib.hid (show drvE B p = 2 by rw [HF2.out, HA.out, pendE, if_pos (by omega)])
              go_wp2_with fail
              go_quiet (fail)
              go_wp2_with fail
              go_ret
              exact ⟨ret_int HN.out.symm, x1.trans (hx.drewN _)⟩
            · have d1 : decide ((B.length : Int) ≤ s.1) = false := decide_eq_false h1
              by_cases hl : s.2.length = 128
              · have HN := Lib.hid (HT.out (by omega) (by omega) hl)
                have hl' : ((s.2.length : Int) != 128) = false := by rw [hl]; rfl
                go_wp2_with fail
                go_quiet (fail)
                go_wp2_with fail
                go_roundw
                case rel => exact ⟨k + 1, by omega, by go_num, HN.out, hx.drewN _⟩
                case measure => simp [intOf]; omega
              · have HN := Lib.hid (show drvE B p = 3 by rw [HF2.out, HA.out, pendE, if_neg (by omega), if_pos hl])
                have hl' : ((s.2.length : Int) != 128) = true := by simp; omega
                go_wp2_with fail
                go_quiet (fail)
                go_wp2_with fail
                go_ret
                exact ⟨ret_int HN.out.symm, x1.trans (hx.drewN _)⟩
        · obtain rfl : k = p.length := by omega
          have HN := Lib.hid (show drvE B p = 0 by rw [HF2.out]; have := HF.out; rw [List.take_length] at this; exact this)
          clear HF
          go_wp2_with fail
          go_ret
          exact ⟨ret_int HN.out.symm, x1.trans hx⟩
set_option maxHeartbeats 1000000 in
set_option maxRecDepth 100000 in
theorem rbad_any (bA pA : Option Addr) (bn bc pn pc : Nat) (left : Int) (B : List (List UInt8)) (p : List WrT) (w : World) (hb : Strs w bA bn B) (hp : Wrs w pA pn p) (hpn : pn ≤ 9223372036854775807) :
    Calls Tryz.prog 60 #[.agg #[.slice bA bn bc, .slice pA pn pc, .int .i64 left]] w fun e w' => e = .returned (.int .i64 (jrnE B p)) ∧ Ext w w' := by
  have HC := Lib.hid (fun w h1 h2 => rdcheck_any bA pA bn bc pn pc left B p w h1 h2 hpn)
  obtain rfl := hb.1
  have xa := (Ext.refl w).alloc (.cells #[.slice bA B.length bc, .slice pA pn pc, .int .i64 left] 28)
  have hs := hb.ext xa
  have hw := hp.ext xa
  by_cases hd : drvE B p = 0
  · rw [hd] at HC
    by_cases h33 : B.length ≤ 33
    · have HN := Lib.hid (show jrnE B p = 2 by unfold jrnE; rw [if_neg (by simpa using hd), if_pos h33])
      go_enter Tryz.func60, Tryz.ntmps60
      go_wp2_with (go_at_call 55; refine (HC.out _ hs hw).mono ?_; rintro e w1 ⟨rfl, x1⟩; have q0 := ((Box.new w 28 #[.slice bA B.length bc, .slice pA pn pc, .int .i64 left]).ext x1).cell 0)
      go_ret
      exact ⟨ret_int HN.out.symm, xa.trans x1⟩
    · have HN := Lib.hid (show jrnE B p = 0 by unfold jrnE; rw [if_neg (by simpa using hd), if_neg h33])
      go_enter Tryz.func60, Tryz.ntmps60
      go_wp2_with (go_at_call 55; refine (HC.out _ hs hw).mono ?_; rintro e w1 ⟨rfl, x1⟩; have q0 := ((Box.new w 28 #[.slice bA B.length bc, .slice pA pn pc, .int .i64 left]).ext x1).cell 0)
      go_ret
      exact ⟨ret_int HN.out.symm, xa.trans x1⟩
  · have HN := Lib.hid (show jrnE B p = drvE B p by unfold jrnE; rw [if_pos hd])
    have d1 : (drvE B p != 0) = true := by simpa using hd
    clear hd
    generalize drvE B p = dd at *
    go_enter Tryz.func60, Tryz.ntmps60
    go_wp2_with (go_at_call 55; refine (HC.out _ hs hw).mono ?_; rintro e w1 ⟨rfl, x1⟩)
    go_ret
    exact ⟨ret_int HN.out.symm, xa.trans x1⟩
end Go.Proofs.YtkokmnaicfdjaaaGreatDoor
/- The document's drives: Get, Home. -/
namespace Go.Proofs.YtkokmnaicfdjaaaGreatDoor
set_option linter.unusedVariables false
set_option linter.unusedSimpArgs false
open Go.RowKit

theorem getP_take {p : List WrT} {k : Nat} (hk : k < p.length) (i : Int) (s : List UInt8) : getP (p.take (k + 1)) i s = if p[k].1 = i then p[k].2 else getP (p.take k) i s := by
  unfold getP
  rw [List.take_succ_eq_append_getElem hk, List.foldl_append]; rfl
set_option maxHeartbeats 1000000 in
set_option maxRecDepth 100000 in
theorem rget15_any (bA pA : Option Addr) (bn bc pn pc j : Nat) (left : Int) (B : List (List UInt8)) (p : List WrT) (w : World) (hb : Strs w bA bn B) (hp : Wrs w pA pn p) (hpn : pn ≤ 9223372036854775807) (hj : j < B.length) :
    Calls Tryz.prog 61 #[.agg #[.slice bA bn bc, .slice pA pn pc, .int .i64 left], .int .i64 (j : Int)] w fun e w' => e = .returned (.tuple #[.string (str (getP p j (B.getD j []))), .int .i64 0]) ∧ Ext w w' := by
  obtain ⟨rfl, hb2⟩ := hb
  obtain ⟨rfl, hp2⟩ := hp
  obtain ⟨b, o, rfl, hcell⟩ := hb2 (by omega)
  have c1 := ((Ext.refl w).alloc (.cells #[.slice (some ⟨b, o, none⟩) B.length bc, .slice pA p.length pc, .int .i64 left] 28)).keep (hcell j hj)
  rw [show B[j] = B.getD j [] by rw [List.getD_eq_getElem?_getD, List.getElem?_eq_getElem hj]; rfl] at c1
  clear hcell hb2
  have hji : (j : Int) < (B.length : Int) := by omega
  have d1 : decide ((j : Int) < 0) = false := by simp
  have d2 : decide ((B.length : Int) ≤ (j : Int)) = false := by simp; omega
  generalize B.getD j [] = s at *
  go_enter Tryz.func61, Tryz.ntmps61
  go_wp2_with fail
  generalize hw1 : w.alloc _ = w1 at *
  have x1 : Ext w w1 := by rw [← hw1]; exact (Ext.refl _).alloc _
  have b1 : Box w1 w.heap.size 28 #[.slice (some ⟨b, o, none⟩) B.length bc, .slice pA p.length pc, .int .i64 left] := by rw [← hw1]; exact Box.new _ _ _
  clear hw1 c1
  go_loop [6, 7] (fun t i => ∃ k : Nat, k ≤ p.length ∧ i = .int .i64 k ∧ t = .string (str (getP (p.take k) j s))) (fun _ i => p.length - (intOf i).toNat)
  case atStart => exact ⟨0, by omega, rfl, rfl⟩
  case round =>
    obtain ⟨k, hk, rfl, rfl⟩ := hrel
    have q1 := b1.cell 1
    by_cases hlt : k < p.length
    · obtain ⟨b, o, rfl, hcell⟩ := hp2 (by omega)
      have c1 := x1.keep (hcell k hlt).1
      have c2 := x1.keep (hcell k hlt).2
      have HT := Lib.hid (getP_take hlt (j : Int) s)
      clear hcell
      have hki : (k : Int) < (p.length : Int) := by omega
      generalize p[k] = y at *
      generalize getP (p.take k) (↑j) s = s1 at *
      by_cases he : y.1 = (j : Int)
      · have de : (y.1 == (j : Int)) = true := by simpa using he
        have HN := Lib.hid (HT.out.trans (if_pos he))
        clear HT he
        go_wp2_with fail
        go_round
        case rel => exact ⟨k + 1, by omega, by go_num, by rw [HN.out]⟩
        case measure => simp [intOf]; omega
      · have de : (y.1 == (j : Int)) = false := by simpa using he
        have HN := Lib.hid (HT.out.trans (if_neg he))
        clear HT he
        go_wp2_with fail
        go_round
        case rel => exact ⟨k + 1, by omega, by go_num, by rw [HN.out]⟩
        case measure => simp [intOf]; omega
    · obtain rfl : k = p.length := by omega
      rw [List.take_length]
      obtain ⟨s1, hs1⟩ : ∃ s1, s1 = getP p (↑j) s := ⟨_, rfl⟩
      rw [← hs1]
      have HS := Lib.hid hs1
      clear hs1
      go_wp2_with fail
      go_ret2
      rw [HS.out]
      exact ⟨rfl, x1⟩
theorem homeP_at {B : List (List UInt8)} {p : List WrT} (h : jrnE B p = 0) {k : Nat} (hk : k < B.length - 33) : (homeP B p).take (k + 1) = (homeP B p).take k ++ [getP p (33 + k : Nat) (B.getD (33 + k) [])] := by
  have hl := homeP_len h
  rw [List.take_succ_eq_append_getElem (by omega)]
  congr 2
  have : (homeP B p)[k]? = some (getP p (33 + k : Nat) (B.getD (33 + k) [])) := by rw [homeP_get h, List.getElem?_map, List.getElem?_range hk]; rfl
  rw [List.getElem?_eq_getElem (by omega)] at this
  exact Option.some.inj this
theorem strs_one (w : World) (s : List UInt8) : Strs (w.alloc (.cells #[.string (str s)] 9)) (some ⟨w.heap.size, 0, none⟩) 1 [s] := by
  refine ⟨rfl, fun _ => ⟨_, _, rfl, fun j hj => ?_⟩⟩
  have hj' : j < 1 := hj
  obtain rfl : j = 0 := by omega
  exact (Box.new w 9 #[.string (str s)]).cell 0
set_option maxHeartbeats 2000000 in
set_option maxRecDepth 100000 in
theorem rhome_any (bA pA : Option Addr) (bn bc pn pc : Nat) (left : Int) (B : List (List UInt8)) (p : List WrT) (w : World) (hb : Strs w bA bn B) (hp : Wrs w pA pn p) (hpn : pn ≤ 9223372036854775807) :
    Calls Tryz.prog 31 #[.agg #[.slice bA bn bc, .slice pA pn pc, .int .i64 left]] w fun e w' => ∃ A c, e = .returned (.slice A (homeP B p).length c) ∧ Ext w w' ∧ w'.ownsRow w.heap.size 9 1 (.slice A (homeP B p).length c) (homeP B p).length (strL (homeP B p)) := by
  have HC := Lib.hid (fun w h1 h2 => rbad_any bA pA bn bc pn pc left B p w h1 h2 hpn)
  have HG := Lib.hid (fun w j h1 h2 h3 => rget15_any bA pA bn bc pn pc j left B p w h1 h2 hpn h3)
  obtain rfl := hb.1
  have xa := ((Ext.refl w).alloc (.cells #[.slice bA B.length bc, .slice pA pn pc, .int .i64 left] 28)).alloc (.cells #[] 9)
  have oa : ((w.alloc (.cells #[.slice bA B.length bc, .slice pA pn pc, .int .i64 left] 28)).alloc (.cells #[] 9)).ownsRow w.heap.size 9 1 (.slice (some ⟨w.heap.size + 1, 0, none⟩) 0 0) 0 (strL []) := by
    have := World.ownsRow_lit (base := w.heap.size) (e := 9) (size := 1) (w.alloc (.cells #[.slice bA B.length bc, .slice pA pn pc, .int .i64 left] 28)) #[] 0 (by simp) (by decide) rfl
    rw [World.size_alloc] at this
    exact this
  have ba := (Box.new w 28 #[.slice bA B.length bc, .slice pA pn pc, .int .i64 left]).ext ((Ext.refl _).alloc (.cells #[] 9))
  have hs := hb.ext xa
  have hw := hp.ext xa
  by_cases hd : jrnE B p = 0
  · rw [hd] at HC
    have hl := Lib.hid (homeP_len hd)
    have hok := drvOk_of hd
    have HT := Lib.hid (fun k hk => homeP_at hd (k := k) hk)
    have h33 := hok.least
    have h256 := hok.most
    clear hok hd
    go_enter Tryz.func31, Tryz.ntmps31
    go_wp2_with (go_at_call 60; refine (HC.out _ hs hw).mono ?_; rintro e w1 ⟨rfl, x1⟩)
    have o1 := own_ext oa x1
    have b1 := ba.ext x1
    have xw1 := xa.trans x1
    clear oa ba hs hw xa x1
    go_loopw [3, 4, 5, 6] (fun u i _ _ wx => ∃ k : Nat, k ≤ B.length - 33 ∧ i = .int .i64 ((33 + k : Nat) : Int) ∧ Ext w wx ∧ wx.ownsRow w.heap.size 9 1 u k (strL ((homeP B p).take k)) ∧ Box wx w.heap.size 28 #[.slice bA B.length bc, .slice pA pn pc, .int .i64 left]) (fun _ i _ _ _ => B.length - (intOf i).toNat)
    case atStart => exact ⟨0, by omega, rfl, xw1, o1, b1⟩
    case round =>
      obtain ⟨k, hk, rfl, xk, ok, bk⟩ := hrel
      have q0 := bk.cell 0
      have hxs := xk.size
      by_cases hlt : k < B.length - 33
      · have hlt2 : ((33 + k : Nat) : Int) < (B.length : Int) := by omega
        have HN := Lib.hid (HT.out k hlt)
        have nk := own_ne ok bk (by decide)
        go_wp2_with (first
          | (refine wp_ld_drv (.tmp 1) rfl rfl w.heap.size _ 28 rfl bk rfl ?_)
          | (go_at_call 61; refine (HG.out _ (33 + k) (hb.ext xk) (hp.ext xk) (by omega)).mono ?_; rintro e w2 ⟨rfl, x2⟩; generalize getP p (((33 + k : Nat)) : Int) (B.getD (33 + k) []) = s at *; have hok := own_ext (own_ext ok x2) ((Ext.refl w2).alloc (.cells #[.string (str s)] 9)); have hst := strs_one w2 s; have hsz : w.heap.size ≤ (w2.alloc (.cells #[.string (str s)] 9)).heap.size := by (have := x2.size; simp; omega))
          | (at_builtin; refine wp_app_strs w.heap.size rfl _ _ rfl rfl rfl hok hst (by omega) hsz (by omega) ?_; intro u' w4 own4 g4))
        have x4 : Ext w w4 := ((xk.trans x2).alloc _).grown g4 (fun j e => own_low ok e)
        go_roundw
        case rel => exact ⟨k + 1, by omega, by go_num, x4, by rw [HN.out]; exact own4, ((bk.ext x2).ext ((Ext.refl w2).alloc _)).grown g4 nk⟩
        case measure => simp [intOf]; omega
      · obtain rfl : k = B.length - 33 := by omega
        obtain ⟨g, cap, rfl, hgW, _⟩ := Strs.own' ok (by omega)
        rw [← hl.out, List.take_length] at ok
        have hl2 : ¬ (((33 + (B.length - 33) : Nat) : Int) < (B.length : Int)) := by omega
        rw [← hl.out]
        rw [← hl.out] at hl2
        obtain ⟨h, hh⟩ : ∃ h, h = homeP B p := ⟨_, rfl⟩
        rw [← hh] at hl2 ok ⊢
        have HH := Lib.hid hh
        clear hh
        have hl2' : decide ((((33 + h.length : Nat)) : Int) < (B.length : Int)) = false := by simpa using hl2
        go_wp2_with fail
        go_ret
        rw [← HH.out]
        exact ⟨_, _, rfl, xk, ok⟩
  · have HE := Lib.hid (show homeP B p = [] by unfold homeP; rw [if_pos hd])
    have d1 : (jrnE B p != 0) = true := by simpa using hd
    clear hd
    generalize jrnE B p = dd at *
    go_enter Tryz.func31, Tryz.ntmps31
    go_wp2_with (go_at_call 60; refine (HC.out _ hs hw).mono ?_; rintro e w1 ⟨rfl, x1⟩)
    go_ret
    rw [HE.out]
    exact ⟨_, _, rfl, xa.trans x1, own_ext oa x1⟩
end Go.Proofs.YtkokmnaicfdjaaaGreatDoor
/- The volume: wal.Home, cache.View. -/
namespace Go.Proofs.YtkokmnaicfdjaaaGreatDoor
set_option linter.unusedVariables false
set_option linter.unusedSimpArgs false
open Go.RowKit

theorem strs_drop {w : World} {b o n m : Nat} {B : List (List UInt8)} (h : Strs w (some ⟨b, o, none⟩) n B) (hm : m < n) : Strs w (some ⟨b, o + m, none⟩) (n - m) (B.drop m) := by
  obtain ⟨rfl, h2⟩ := h
  obtain ⟨b', o', e, hc⟩ := h2 (by omega)
  injection e with e
  injection e with e1 e2
  subst e1; subst e2
  refine ⟨by simp, fun _ => ⟨_, _, rfl, fun j hj => ?_⟩⟩
  rw [List.length_drop] at hj
  rw [List.getElem_drop, Nat.add_assoc]
  exact hc (m + j) (by omega)
theorem own_set {w : World} {base n g cap i : Nat} {v : List (List UInt8)} (h : w.ownsRow base 9 1 (.slice (some ⟨g, 0, none⟩) n cap) n (strL v)) (r : List UInt8) : (w.setCell ⟨g, i, none⟩ (.string (str r))).ownsRow base 9 1 (.slice (some ⟨g, 0, none⟩) n cap) n (strL (v.set i r)) := by
  rw [show strL (v.set i r) = (strL v).set i (.string (str r)) by simp [strL, List.map_set]]
  exact (h.stored i (.string (str r))).1
theorem own_slice {w : World} {base n : Nat} {t : TypeId} {u : Value} {ss : List (List UInt8)} (h : w.ownsRow base t 1 u n (strL ss)) : ∃ A cap, u = .slice A n cap ∧ n = ss.length := by
  have hl : n = ss.length := by have := h.1; simpa [strL] using this.symm
  rcases h.2 with ⟨rfl, h0⟩ | ⟨g, cap, cur, rfl, hb, _⟩
  · exact ⟨none, 0, by rw [h0], hl⟩
  · exact ⟨_, _, rfl, hl⟩
set_option maxHeartbeats 2000000 in
set_option maxRecDepth 100000 in
theorem home_any (bA pA : Option Addr) (bn bc pn pc : Nat) (left : Int) (B : List (List UInt8)) (p : List WrT) (w : World) (hb : Strs w bA bn B) (hp : Wrs w pA pn p) (hpn : pn ≤ 9223372036854775807) (hbc : bn ≤ bc) :
    Calls Tryz.prog 22 #[.agg #[.slice bA bn bc, .slice pA pn pc, .int .i64 left]] w fun e w' => ∃ A c, e = .returned (.slice A (homeP B p).length c) ∧ Ext w w' ∧ w'.ownsRow w.heap.size 9 1 (.slice A (homeP B p).length c) (homeP B p).length (strL (homeP B p)) := by
  have HC := Lib.hid (fun w h1 h2 => jrn_any bA pA bn bc pn pc left B p w h1 h2 hpn)
  obtain rfl := hb.1
  have xa := (Ext.refl w).alloc (.cells #[.slice bA B.length bc, .slice pA pn pc, .int .i64 left] 28)
  have ba := Box.new w 28 #[.slice bA B.length bc, .slice pA pn pc, .int .i64 left]
  have hs := hb.ext xa
  have hw := hp.ext xa
  by_cases hd : jrnE B p = 0
  · rw [hd] at HC
    have hl := homeP_len hd
    have hok := drvOk_of hd
    have HE := Lib.hid (show homeP B p = p.foldl putP (B.drop 33) by unfold homeP; rw [if_neg (by simpa using hd)])
    have h33 := hok.least
    have h256 := hok.most
    have HP := Lib.hid hok.pend
    clear hok hd
    obtain ⟨b, o, rfl, _⟩ := hb.2 (by omega)
    have hd33 := strs_drop (m := 33) hs (by omega)
    obtain ⟨rfl, hp2⟩ := hp
    go_enter Tryz.func22, Tryz.ntmps22
    go_wp2_with (first
      | (go_at_call 38; refine (HC.out _ hs hw).mono ?_; rintro e w1 ⟨rfl, x1⟩; have b1 := ba.ext x1; have q0 := b1.cell 0; have q1 := b1.cell 1; have s1 := hd33.ext x1; have hsz : w.heap.size ≤ w1.heap.size := (xa.trans x1).size)
      | (at_builtin; refine wp_app_nil w.heap.size rfl _ _ rfl rfl rfl s1 (by omega) hsz (by omega) ?_; intro u' w2 own2 x2; have q2 := (b1.ext x2).cell 1; obtain ⟨g, cap, rfl, hg, _⟩ := Strs.own' own2 (by omega)))
    have xw2 := xa.trans (x1.trans x2)
    clear q0 q1 q2 s1 hd33 hs hw x1 x2 b1 ba xa
    rw [← hl]
    rw [← hl] at own2
    have hb' : 0 < (homeP B p).length := by omega
    have hL := Lib.hid hl
    generalize hN : (homeP B p).length = N at *
    have HNN := Lib.hid hN
    clear hl hN
    go_loopw [5, 16] (fun _ i wx => ∃ k : Nat, k ≤ p.length ∧ i = .int .i64 k ∧ Ext w wx ∧ wx.ownsRow w.heap.size 9 1 (.slice (some ⟨g, 0, none⟩) N cap) N (strL ((p.take k).foldl putP (B.drop 33)))) (fun _ i _ => p.length - (intOf i).toNat)
    case atStart => exact ⟨0, by omega, rfl, xw2, own2⟩
    case round =>
      obtain ⟨k, hk, rfl, xk, ok⟩ := hrel
      by_cases hlt : k < p.length
      · obtain ⟨b2, o2, rfl, hcell⟩ := hp2 (by omega)
        have c1 := xk.keep (hcell k hlt).1
        have c2 := xk.keep (hcell k hlt).2
        have HT := Lib.hid (show (p.take (k + 1)).foldl putP (B.drop 33) = putP ((p.take k).foldl putP (B.drop 33)) p[k] by rw [List.take_succ_eq_append_getElem hlt, List.foldl_append]; rfl)
        have hy := HP.out p[k] (List.getElem_mem _)
        clear hcell
        have hki : (k : Int) < (p.length : Int) := by omega
        generalize p[k] = y at *
        generalize (p.take k).foldl putP (B.drop 33) = V at *
        have okA := own_ext ok ((Ext.refl wr).alloc (.cells #[.int .i64 y.1, .string (str y.2)] 57))
        have hV : V.length = N := by have := ok.1; simpa [strL] using this
        by_cases h3 : 33 ≤ y.1
        · obtain ⟨q, hq⟩ : ∃ q : Nat, y.1 - 33 = q := ⟨(y.1 - 33).toNat, by omega⟩
          have hL2 := hL.out
          have HY := Lib.hid (show putP V y = V.set q y.2 by unfold putP; rw [if_pos h3, hq]; rfl)
          have hqN : q < N := by omega
          have kc : (wr.alloc (.cells #[.int .i64 y.1, .string (str y.2)] 57)).cell? ⟨g, q, none⟩ = some (.string (str (V.getD q []))) := (okA.cellAt q (by omega)).trans (by simp [strL, hV, hqN, List.getD_eq_getElem?_getD])
          have kf := okA.frozenAt q
          have wq : IntKind.i64.wrap (y.1 - 33) = (q : Int) := by rw [IntKind.wrap_i64]; omega
          have d3 : decide (33 ≤ y.1) = true := decide_eq_true h3
          have hqi : (q : Int) < (N : Int) := by omega
          clear hq hL2 h3 hy
          go_wp2_with fail
          go_roundw
          case rel => exact ⟨k + 1, by omega, by go_num, (xk.alloc _).setCell hg _, by rw [HT.out, HY.out]; exact own_set okA _⟩
          case measure => simp [intOf]; omega
        · have HY := Lib.hid (show putP V y = V by unfold putP; rw [if_neg h3])
          have d3 : decide (33 ≤ y.1) = false := decide_eq_false h3
          go_wp2_with fail
          go_roundw
          case rel => exact ⟨k + 1, by omega, by go_num, xk.alloc _, by rw [HT.out, HY.out]; exact okA⟩
          case measure => simp [intOf]; omega
      · obtain rfl : k = p.length := by omega
        rw [List.take_length, ← HE.out] at ok
        go_wp2_with fail
        go_ret
        rw [HNN.out]
        exact ⟨_, _, rfl, xk, ok⟩
  · have HE := Lib.hid (show homeP B p = [] by unfold homeP; rw [if_pos hd])
    have d1 : (jrnE B p != 0) = true := by simpa using hd
    clear hd
    generalize jrnE B p = dd at *
    go_enter Tryz.func22, Tryz.ntmps22
    go_wp2_with (go_at_call 38; refine (HC.out _ hs hw).mono ?_; rintro e w1 ⟨rfl, x1⟩)
    go_ret
    rw [HE.out]
    exact ⟨_, _, rfl, xa.trans x1, World.ownsRow_nil _ _ _ _⟩
end Go.Proofs.YtkokmnaicfdjaaaGreatDoor
/- The kernel's volume: cache.View, and the document's. -/
namespace Go.Proofs.YtkokmnaicfdjaaaGreatDoor
set_option linter.unusedVariables false
set_option linter.unusedSimpArgs false
open Go.RowKit

theorem foldl_lay_take {p : List WrT} {k : Nat} (hk : k < p.length) (v : List (List UInt8)) : (p.take (k + 1)).foldl layP v = layP ((p.take k).foldl layP v) p[k] := by
  rw [List.take_succ_eq_append_getElem hk, List.foldl_append]; rfl
theorem maxLen_le {n : Nat} (h : n ≤ maxLen) : n ≤ 9223372036854775807 := by unfold maxLen at h; omega
/-- what a walk of a machine needs of it -/
theorem MacIn.drv {w : World} {m : Mac} {d : MacD} (h : MacIn w m d) : Strs w m.bl.A m.bl.n d.bl ∧ Wrs w m.pe.A m.pe.n d.pe ∧ Wrs w m.di.A m.di.n d.di ∧ m.pe.n ≤ 9223372036854775807 ∧ m.di.n ≤ 9223372036854775807 ∧ m.bl.n ≤ m.bl.c :=
  ⟨h.bl.strs, h.pe.wrs, h.di.wrs, maxLen_le h.pek.2.1, maxLen_le h.dik.2.1, h.blk.2.2⟩
set_option maxHeartbeats 2000000 in
set_option maxRecDepth 100000 in
theorem view_any (m : Mac) (d : MacD) (w : World) (h : MacIn w m d) :
    Calls Tryz.prog 11 #[.agg m.cells] w fun e w' => ∃ A c, e = .returned (.slice A (viewP d.bl d.pe d.di).length c) ∧ Ext w w' ∧ w'.ownsRow w.heap.size 9 1 (.slice A (viewP d.bl d.pe d.di).length c) (viewP d.bl d.pe d.di).length (strL (viewP d.bl d.pe d.di)) := by
  obtain ⟨hb, hp, hd, hpn, hdn, hbc⟩ := h.drv
  clear h
  obtain ⟨clock, quantum, cur, left, ⟨fA, fn, fc⟩, ⟨rA, rn, rc⟩, next, init, ⟨iA, inn, ic⟩, newPipe, inp, fin, told, ⟨bA, bn, bc⟩, ⟨pA, pn, pc⟩, dleft, ⟨dA, dn, dc⟩⟩ := m
  obtain ⟨dfr, dpr, dpi, B, p, l⟩ := d
  unfold Mac.cells
  simp only at hb hp hd hpn hdn hbc ⊢
  have HH := Lib.hid (fun w h1 h2 => home_any bA pA bn bc pn pc dleft B p w h1 h2 hpn hbc)
  obtain ⟨rfl, hd2⟩ := hd
  obtain ⟨wb, hwb⟩ : ∃ wb, wb = w.alloc (.cells #[.int .u64 clock, .int .i64 quantum, .int .i64 cur, .int .i64 left, .slice fA fn fc, .slice rA rn rc, .int .i64 next, .string (str init), .slice iA inn ic, .int .i64 newPipe, .string (str inp), .bool fin, .int .u64 told, .slice bA bn bc, .slice pA pn pc, .int .i64 dleft, .slice dA l.length dc] 30) := ⟨_, rfl⟩
  have xa : Ext w wb := by rw [hwb]; exact (Ext.refl _).alloc _
  have ba : Box wb w.heap.size 30 #[.int .u64 clock, .int .i64 quantum, .int .i64 cur, .int .i64 left, .slice fA fn fc, .slice rA rn rc, .int .i64 next, .string (str init), .slice iA inn ic, .int .i64 newPipe, .string (str inp), .bool fin, .int .u64 told, .slice bA bn bc, .slice pA pn pc, .int .i64 dleft, .slice dA l.length dc] := by rw [hwb]; exact Box.new _ _ _
  have hs := hb.ext xa
  have hw := hp.ext xa
  have HB := Lib.hid hwb
  have q13 : wb.cell? ⟨w.heap.size, 13, none⟩ = some (.slice bA bn bc) := ba.cell 13
  have q14 : wb.cell? ⟨w.heap.size, 14, none⟩ = some (.slice pA pn pc) := ba.cell 14
  have q15 : wb.cell? ⟨w.heap.size, 15, none⟩ = some (.int .i64 dleft) := ba.cell 15
  clear hwb
  go_enter Tryz.func11, Tryz.ntmps11
  go_upto_region 1 with fail
  rw [← HB.out]
  go_wp2_with (go_at_call 22; refine (HH.out _ hs hw).mono ?_; rintro e w1 ⟨A1, c1, rfl, x1, own1⟩; have q16 := (ba.ext x1).cell 16)
  have xw1 := xa.trans x1
  have own1 := own_base own1 xa.size
  clear q13 q14 q15 q16 hs hw ba xa x1 HH HB
  have HV := Lib.hid (show viewP B p l = l.foldl layP (homeP B p) from rfl)
  have HL := Lib.hid (show (viewP B p l).length = (homeP B p).length by unfold viewP; exact foldl_lay_len _ _)
  obtain ⟨h, hh⟩ : ∃ h, h = homeP B p := ⟨_, rfl⟩
  rw [← hh] at own1 ⊢
  have HHH := Lib.hid hh
  clear hh
  go_loopw [5, 12] (fun _ i wx => ∃ k : Nat, k ≤ l.length ∧ i = .int .i64 k ∧ Ext w wx ∧ wx.ownsRow w.heap.size 9 1 (.slice A1 h.length c1) h.length (strL ((l.take k).foldl layP h))) (fun _ i _ => l.length - (intOf i).toNat)
  case atStart => exact ⟨0, by omega, rfl, xw1, own1⟩
  case round =>
    obtain ⟨k, hk, rfl, xk, ok⟩ := hrel
    by_cases hlt : k < l.length
    · obtain ⟨b2, o2, rfl, hcell⟩ := hd2 (by omega)
      have e1 := xk.keep (hcell k hlt).1
      have e2 := xk.keep (hcell k hlt).2
      have HT := Lib.hid (foldl_lay_take hlt h)
      have HVl := Lib.hid (foldl_lay_len (l.take k) h)
      clear hcell
      have hki : (k : Int) < (l.length : Int) := by omega
      generalize l[k] = y at *
      generalize (l.take k).foldl layP h = V at *
      have okA := own_ext ok ((Ext.refl wr).alloc (.cells #[.int .i64 y.1, .string (str y.2)] 57))
      by_cases h0 : 0 ≤ y.1
      · have d0 : decide (0 ≤ y.1) = true := decide_eq_true h0
        by_cases h1 : y.1 < (h.length : Int)
        · have d1 : decide (y.1 < (h.length : Int)) = true := decide_eq_true h1
          obtain ⟨y1, y2⟩ := y
          simp only at h0 h1 d0 d1 e1 e2 okA
          obtain ⟨q, rfl⟩ : ∃ q : Nat, y1 = q := ⟨y1.toNat, by omega⟩
          have hqN : q < h.length := by omega
          have HY := Lib.hid (show layP V ((q : Int), y2) = V.set q y2 by unfold layP; simp only; rw [if_pos (by have := HVl.out; omega)]; rfl)
          obtain ⟨g, cap, hgc, hg, _⟩ := Strs.own' ok (by omega)
          injection hgc with hgA _ hgc
          subst hgA; subst hgc
          have kc : (wr.alloc (.cells #[.int .i64 (q : Int), .string (str y2)] 57)).cell? ⟨g, q, none⟩ = some (.string (str (V.getD q []))) := (okA.cellAt q (by omega)).trans (by have := HVl.out; simp [strL, this, hqN, List.getD_eq_getElem?_getD])
          have kf := okA.frozenAt q
          go_wp2_with fail
          go_roundw
          case rel => exact ⟨k + 1, by omega, by go_num, (xk.alloc _).setCell hg _, by rw [HT.out, HY.out]; exact own_set okA _⟩
          case measure => simp [intOf]; omega
        · have d1 : decide (y.1 < (h.length : Int)) = false := decide_eq_false h1
          have HY := Lib.hid (show layP V y = V by unfold layP; rw [if_neg (by have := HVl.out; omega)])
          go_wp2_with fail
          go_roundw
          case rel => exact ⟨k + 1, by omega, by go_num, xk.alloc _, by rw [HT.out, HY.out]; exact okA⟩
          case measure => simp [intOf]; omega
      · have d0 : decide (0 ≤ y.1) = false := decide_eq_false h0
        have HY := Lib.hid (show layP V y = V by unfold layP; rw [if_neg (by omega)])
        go_wp2_with fail
        go_roundw
        case rel => exact ⟨k + 1, by omega, by go_num, xk.alloc _, by rw [HT.out, HY.out]; exact okA⟩
        case measure => simp [intOf]; omega
    · obtain rfl : k = l.length := by omega
      rw [List.take_length] at ok
      go_wp2_with fail
      go_ret
      rw [HL.out, HV.out, ← HHH.out]
      exact ⟨_, _, rfl, xk, ok⟩
end Go.Proofs.YtkokmnaicfdjaaaGreatDoor
/- The document's kernel's volume: hibernacleref25.Volume, hibernacleref28.View. -/
namespace Go.Proofs.YtkokmnaicfdjaaaGreatDoor
set_option linter.unusedVariables false
set_option linter.unusedSimpArgs false
open Go.RowKit

theorem Box.setOther {w : World} {g g' i : Nat} {t : TypeId} {cs : Array Value} (h : Box w g t cs) (hne : g ≠ g') (u : Value) : Box (w.setCell ⟨g', i, none⟩ u) g t cs := by
  have k : w.heap[g]? = some (.cells cs t (0, 0)) := h
  show (w.setCell ⟨g', i, none⟩ u).heap[g]? = _
  simp [World.setCell, Array.getElem?_modify, k, Ne.symm hne]
theorem Mac.size (m : Mac) : m.cells.size = 17 := rfl
theorem own_empty (w : World) (t : TypeId) (cs : Array Value) : ((w.alloc (.cells cs t)).alloc (.cells #[] 9)).ownsRow w.heap.size 9 1 (.slice (some ⟨w.heap.size + 1, 0, none⟩) 0 0) 0 (strL []) := by
  have := World.ownsRow_lit (base := w.heap.size) (e := 9) (size := 1) (w.alloc (.cells cs t)) #[] 0 (by simp) (by decide) rfl
  rw [World.size_alloc] at this
  exact this
set_option maxHeartbeats 2000000 in
set_option maxRecDepth 100000 in
theorem rvolume_any (m : Mac) (d : MacD) (w : World) (h : MacIn w m d) (hj : jrnE d.bl d.pe = 0) :
    Calls Tryz.prog 57 #[.agg m.cells] w fun e w' => ∃ A c, e = .returned (.slice A (viewP d.bl d.pe d.di).length c) ∧ Ext w w' ∧ w'.ownsRow w.heap.size 9 1 (.slice A (viewP d.bl d.pe d.di).length c) (viewP d.bl d.pe d.di).length (strL (viewP d.bl d.pe d.di)) := by
  obtain ⟨hb, hp, hd, hpn, hdn, hbc⟩ := h.drv
  clear h
  have HH := Lib.hid (fun w h1 h2 => rhome_any m.bl.A m.pe.A m.bl.n m.bl.c m.pe.n m.pe.c m.dleft d.bl d.pe w h1 h2 hpn)
  have xa : Ext w (w.alloc (.cells m.cells 30)) := (Ext.refl _).alloc _
  have xa2 := xa.alloc (.cells #[] 9)
  have ba := Box.new w 30 m.cells
  have oa := own_empty w 30 m.cells
  have hs := hb.ext xa2
  have hw := hp.ext xa2
  have ba2 := ba.ext ((Ext.refl _).alloc (.cells #[] 9))
  have q13 : ((w.alloc (.cells m.cells 30)).alloc (.cells #[] 9)).cell? ⟨w.heap.size, 13, none⟩ = some (.slice m.bl.A m.bl.n m.bl.c) := ba2.cell 13
  have q14 : ((w.alloc (.cells m.cells 30)).alloc (.cells #[] 9)).cell? ⟨w.heap.size, 14, none⟩ = some (.slice m.pe.A m.pe.n m.pe.c) := ba2.cell 14
  have q15 : ((w.alloc (.cells m.cells 30)).alloc (.cells #[] 9)).cell? ⟨w.heap.size, 15, none⟩ = some (.int .i64 m.dleft) := ba2.cell 15
  have hlen := homeP_len hj
  have hlst := (drvOk_of hj).least
  have hmost := (drvOk_of hj).most
  have hN : 0 < (homeP d.bl d.pe).length := by omega
  have hN2 : (homeP d.bl d.pe).length ≤ 1000000 := by omega
  have HN0 := Lib.hid hN
  have HN2 := Lib.hid hN2
  clear hlen hlst hmost hN hN2
  go_enter Tryz.func57, Tryz.ntmps57
  go_wp2_with (first
    | (go_at_call 31; refine (HH.out _ hs hw).mono ?_; rintro e w1 ⟨A1, c1, rfl, x1, own1⟩; have s1 := Strs.own own1; have o1 := own_ext oa x1; have b1 := ba2.ext x1; have hN := HN0.out; have hN2 := HN2.out; have hsz : w.heap.size ≤ w1.heap.size := (xa2.trans x1).size)
    | (at_builtin; refine wp_app_strs w.heap.size rfl _ _ rfl rfl rfl o1 s1 (by omega) hsz (by omega) ?_; intro u' w2 own2 g2; rw [Nat.zero_add, List.nil_append] at own2; obtain ⟨g, cap, rfl, hg, _⟩ := Strs.own' own2 (by omega); have b2 := b1.grown g2 (own_ne o1 b1 (by decide)); have q16 : w2.cell? ⟨w.heap.size, 16, none⟩ = some (.slice m.di.A m.di.n m.di.c) := b2.cell 16; have x2 : Ext w w2 := (xa2.trans x1).grown g2 (fun j e => own_low o1 e)))
  clear q13 q14 q15 hs hw ba ba2 xa xa2 x1 HH oa o1 s1 own1 b1 g2 hsz
  have HV := Lib.hid (show viewP d.bl d.pe d.di = d.di.foldl layP (homeP d.bl d.pe) from rfl)
  have HL := Lib.hid (show (viewP d.bl d.pe d.di).length = (homeP d.bl d.pe).length by unfold viewP; exact foldl_lay_len _ _)
  obtain ⟨h, hh⟩ : ∃ h, h = homeP d.bl d.pe := ⟨_, rfl⟩
  rw [← hh] at own2 hN hN2 ⊢
  have HHH := Lib.hid hh
  clear hh
  obtain ⟨hd1, hd2⟩ := hd
  rw [hd1]
  rw [hd1] at q16 hdn
  have HD1 := Lib.hid hd1
  have HD2 := Lib.hid hd2
  clear hd1 hd2
  generalize hdi : d.di = l at *
  have HDI := Lib.hid hdi
  clear hdi
  go_loopw [5, 14] (fun _ i wx => ∃ k : Nat, k ≤ l.length ∧ i = .int .i64 k ∧ Ext w wx ∧ wx.ownsRow w.heap.size 9 1 (.slice (some ⟨g, 0, none⟩) h.length cap) h.length (strL ((l.take k).foldl layP h))) (fun _ i _ => l.length - (intOf i).toNat)
  case atStart => exact ⟨0, by omega, rfl, x2, own2⟩
  case round =>
    obtain ⟨k, hk, rfl, xk, ok⟩ := hrel
    by_cases hlt : k < l.length
    · obtain ⟨b2, o2, hA, hcell⟩ := HD2.out (by rw [HD1.out]; omega)
      have e1 := xk.keep (hcell k hlt).1
      have e2 := xk.keep (hcell k hlt).2
      have HT := Lib.hid (foldl_lay_take hlt h)
      have HVl := Lib.hid (foldl_lay_len (l.take k) h)
      clear hcell
      have hki : (k : Int) < (l.length : Int) := by omega
      generalize l[k] = y at *
      generalize (l.take k).foldl layP h = V at *
      have okA := own_ext ok ((Ext.refl wr).alloc (.cells #[.int .i64 y.1, .string (str y.2)] 57))
      by_cases h0 : 0 ≤ y.1
      · have d0 : decide (0 ≤ y.1) = true := decide_eq_true h0
        by_cases h1 : y.1 < (h.length : Int)
        · have d1 : decide (y.1 < (h.length : Int)) = true := decide_eq_true h1
          obtain ⟨y1, y2⟩ := y
          simp only at h0 h1 d0 d1 e1 e2 okA
          obtain ⟨q, rfl⟩ : ∃ q : Nat, y1 = q := ⟨y1.toNat, by omega⟩
          have hqN : q < h.length := by omega
          have HY := Lib.hid (show layP V ((q : Int), y2) = V.set q y2 by unfold layP; simp only; rw [if_pos (by have := HVl.out; omega)]; rfl)
          have kc : (wr.alloc (.cells #[.int .i64 (q : Int), .string (str y2)] 57)).cell? ⟨g, q, none⟩ = some (.string (str (V.getD q []))) := (okA.cellAt q (by omega)).trans (by have := HVl.out; simp [strL, this, hqN, List.getD_eq_getElem?_getD])
          have kf := okA.frozenAt q
          go_wp2_with fail
          go_roundw
          case rel => exact ⟨k + 1, by omega, by go_num, (xk.alloc _).setCell hg _, by rw [HT.out, HY.out]; exact own_set okA _⟩
          case measure => simp [intOf]; omega
        · have d1 : decide (y.1 < (h.length : Int)) = false := decide_eq_false h1
          have HY := Lib.hid (show layP V y = V by unfold layP; rw [if_neg (by have := HVl.out; omega)])
          go_wp2_with fail
          go_roundw
          case rel => exact ⟨k + 1, by omega, by go_num, xk.alloc _, by rw [HT.out, HY.out]; exact okA⟩
          case measure => simp [intOf]; omega
      · have d0 : decide (0 ≤ y.1) = false := decide_eq_false h0
        have HY := Lib.hid (show layP V y = V by unfold layP; rw [if_neg (by omega)])
        go_wp2_with fail
        go_roundw
        case rel => exact ⟨k + 1, by omega, by go_num, xk.alloc _, by rw [HT.out, HY.out]; exact okA⟩
        case measure => simp [intOf]; omega
    · obtain rfl : k = l.length := by omega
      rw [List.take_length] at ok
      go_wp2_with fail
      go_ret
      rw [HDI.out, HL.out, HV.out, ← HHH.out]
      exact ⟨_, _, rfl, xk, ok⟩
set_option maxHeartbeats 2000000 in
set_option maxRecDepth 100000 in
theorem rview_any (m : Mac) (d : MacD) (w : World) (h : MacIn w m d) (hj : jrnE d.bl d.pe = 0) :
    Calls Tryz.prog 13 #[.agg m.cells] w fun e w' => ∃ A c, e = .returned (.slice A (viewP d.bl d.pe d.di).length c) ∧ Ext w w' ∧ w'.ownsRow w.heap.size 9 1 (.slice A (viewP d.bl d.pe d.di).length c) (viewP d.bl d.pe d.di).length (strL (viewP d.bl d.pe d.di)) := by
  obtain ⟨hb, hp, hd, hpn, hdn, hbc⟩ := h.drv
  clear h
  have HH := Lib.hid (fun w h1 h2 => rhome_any m.bl.A m.pe.A m.bl.n m.bl.c m.pe.n m.pe.c m.dleft d.bl d.pe w h1 h2 hpn)
  have xa : Ext w (w.alloc (.cells m.cells 30)) := (Ext.refl _).alloc _
  have xa2 := xa.alloc (.cells #[] 9)
  have ba := Box.new w 30 m.cells
  have oa := own_empty w 30 m.cells
  have hs := hb.ext xa2
  have hw := hp.ext xa2
  have ba2 := ba.ext ((Ext.refl _).alloc (.cells #[] 9))
  have q13 : ((w.alloc (.cells m.cells 30)).alloc (.cells #[] 9)).cell? ⟨w.heap.size, 13, none⟩ = some (.slice m.bl.A m.bl.n m.bl.c) := ba2.cell 13
  have q14 : ((w.alloc (.cells m.cells 30)).alloc (.cells #[] 9)).cell? ⟨w.heap.size, 14, none⟩ = some (.slice m.pe.A m.pe.n m.pe.c) := ba2.cell 14
  have q15 : ((w.alloc (.cells m.cells 30)).alloc (.cells #[] 9)).cell? ⟨w.heap.size, 15, none⟩ = some (.int .i64 m.dleft) := ba2.cell 15
  have hlen := homeP_len hj
  have hlst := (drvOk_of hj).least
  have hmost := (drvOk_of hj).most
  have hN : 0 < (homeP d.bl d.pe).length := by omega
  have hN2 : (homeP d.bl d.pe).length ≤ 1000000 := by omega
  have HN0 := Lib.hid hN
  have HN2 := Lib.hid hN2
  clear hlen hlst hmost hN hN2
  go_enter Tryz.func13, Tryz.ntmps13
  go_wp2_with (first
    | (go_at_call 31; refine (HH.out _ hs hw).mono ?_; rintro e w1 ⟨A1, c1, rfl, x1, own1⟩; have s1 := Strs.own own1; have o1 := own_ext oa x1; have b1 := ba2.ext x1; have hN := HN0.out; have hN2 := HN2.out; have hsz : w.heap.size ≤ w1.heap.size := (xa2.trans x1).size)
    | (at_builtin; refine wp_app_strs w.heap.size rfl _ _ rfl rfl rfl o1 s1 (by omega) hsz (by omega) ?_; intro u' w2 own2 g2; rw [Nat.zero_add, List.nil_append] at own2; obtain ⟨g, cap, rfl, hg, _⟩ := Strs.own' own2 (by omega); have b2 := b1.grown g2 (own_ne o1 b1 (by decide)); have q16 : w2.cell? ⟨w.heap.size, 16, none⟩ = some (.slice m.di.A m.di.n m.di.c) := b2.cell 16; have x2 : Ext w w2 := (xa2.trans x1).grown g2 (fun j e => own_low o1 e)))
  clear q13 q14 q15 hs hw ba ba2 xa xa2 x1 HH oa o1 s1 own1 b1 g2 hsz
  have HV := Lib.hid (show viewP d.bl d.pe d.di = d.di.foldl layP (homeP d.bl d.pe) from rfl)
  have HL := Lib.hid (show (viewP d.bl d.pe d.di).length = (homeP d.bl d.pe).length by unfold viewP; exact foldl_lay_len _ _)
  obtain ⟨h, hh⟩ : ∃ h, h = homeP d.bl d.pe := ⟨_, rfl⟩
  rw [← hh] at own2 hN hN2 ⊢
  have HHH := Lib.hid hh
  clear hh
  obtain ⟨hd1, hd2⟩ := hd
  rw [hd1]
  rw [hd1] at q16 hdn
  have HD1 := Lib.hid hd1
  have HD2 := Lib.hid hd2
  clear hd1 hd2
  generalize hdi : d.di = l at *
  have HDI := Lib.hid hdi
  clear hdi
  go_loopw [4, 5, 14] (fun _ _ i wx => ∃ k : Nat, k ≤ l.length ∧ i = .int .i64 k ∧ Ext w wx ∧ wx.ownsRow w.heap.size 9 1 (.slice (some ⟨g, 0, none⟩) h.length cap) h.length (strL ((l.take k).foldl layP h)) ∧ Box wx w.heap.size 30 m.cells) (fun _ _ i _ => l.length - (intOf i).toNat)
  case atStart => exact ⟨0, by omega, rfl, x2, own2, b2⟩
  case round =>
    obtain ⟨k, hk, rfl, xk, ok, bk⟩ := hrel
    have r16 : wr.cell? ⟨w.heap.size, 16, none⟩ = some (.slice m.di.A m.di.n m.di.c) := bk.cell 16
    rw [HD1.out] at r16
    by_cases hlt : k < l.length
    · obtain ⟨b2, o2, hA, hcell⟩ := HD2.out (by rw [HD1.out]; omega)
      have e1 := xk.keep (hcell k hlt).1
      have e2 := xk.keep (hcell k hlt).2
      have HT := Lib.hid (foldl_lay_take hlt h)
      have HVl := Lib.hid (foldl_lay_len (l.take k) h)
      clear hcell
      have hki : (k : Int) < (l.length : Int) := by omega
      generalize l[k] = y at *
      generalize (l.take k).foldl layP h = V at *
      have okA := ok
      by_cases h0 : 0 ≤ y.1
      · have d0 : decide (0 ≤ y.1) = true := decide_eq_true h0
        by_cases h1 : y.1 < (h.length : Int)
        · have d1 : decide (y.1 < (h.length : Int)) = true := decide_eq_true h1
          obtain ⟨y1, y2⟩ := y
          simp only at h0 h1 d0 d1 e1 e2 okA
          obtain ⟨q, rfl⟩ : ∃ q : Nat, y1 = q := ⟨y1.toNat, by omega⟩
          have hqN : q < h.length := by omega
          have HY := Lib.hid (show layP V ((q : Int), y2) = V.set q y2 by unfold layP; simp only; rw [if_pos (by have := HVl.out; omega)]; rfl)
          have kc : wr.cell? ⟨g, q, none⟩ = some (.string (str (V.getD q []))) := (okA.cellAt q (by omega)).trans (by have := HVl.out; simp [strL, this, hqN, List.getD_eq_getElem?_getD])
          have kf := okA.frozenAt q
          go_wp2_with fail
          go_roundw
          case rel => exact ⟨k + 1, by omega, by go_num, xk.setCell hg _, by rw [HT.out, HY.out]; exact own_set okA _, bk.setOther (fun e => own_ne ok bk (by decide) (by rw [e]; rfl)) _⟩
          case measure => simp [intOf]; omega
        · have d1 : decide (y.1 < (h.length : Int)) = false := decide_eq_false h1
          have HY := Lib.hid (show layP V y = V by unfold layP; rw [if_neg (by have := HVl.out; omega)])
          go_wp2_with fail
          go_roundw
          case rel => exact ⟨k + 1, by omega, by go_num, xk, by rw [HT.out, HY.out]; exact okA, bk⟩
          case measure => simp [intOf]; omega
      · have d0 : decide (0 ≤ y.1) = false := decide_eq_false h0
        have HY := Lib.hid (show layP V y = V by unfold layP; rw [if_neg (by omega)])
        go_wp2_with fail
        go_roundw
        case rel => exact ⟨k + 1, by omega, by go_num, xk, by rw [HT.out, HY.out]; exact okA, bk⟩
        case measure => simp [intOf]; omega
    · obtain rfl : k = l.length := by omega
      rw [List.take_length] at ok
      go_wp2_with fail
      go_ret
      rw [HDI.out, HL.out, HV.out, ← HHH.out]
      exact ⟨_, _, rfl, xk, ok⟩
end Go.Proofs.YtkokmnaicfdjaaaGreatDoor
/- The document's machines: lives, users, Pipe, fd. -/
namespace Go.Proofs.YtkokmnaicfdjaaaGreatDoor
set_option linter.unusedVariables false
set_option linter.unusedSimpArgs false
open Go.RowKit

def SomeB (e : Ending) : Prop := ∃ b, e = .returned (.bool b)
def SomeI (e : Ending) : Prop := ∃ n, e = .returned (.int .i64 n)
theorem pr_range {w : World} {b o : Nat} {l : List PrT} (hc : ∀ j v, (l.flatMap prL)[j]? = some v → w.cell? ⟨b, o + j, none⟩ = some v) {k : Nat} (hk : k < l.length) : w.rangeAt b (o + k * 96) (prL l[k]) := fun j v hv => by
  have hj : j < 96 := by have := (List.getElem?_eq_some_iff.1 hv).1; rw [prL_len] at this; exact this
  have := hc (k * 96 + j) v ((flat_at prL 96 l (fun x _ => prL_len x) k hk j hj).trans hv)
  rw [Nat.add_assoc]; exact this
theorem range_ext {w w' : World} {b o : Nat} {cs : List Value} (h : w.rangeAt b o cs) (k : Ext w w') : w'.rangeAt b o cs := fun j v hv => k.keep (h j v hv)
theorem box_range {w : World} {g : Nat} {t : TypeId} {cs : Array Value} (h : Box w g t cs) {o : Nat} {l : List Value} (hl : ∀ j v, l[j]? = some v → cs[o + j]? = some v) : w.rangeAt g o l := fun j v hv => (h.cell (o + j)).trans (hl j v hv)
theorem pr_all (p : PrT) : (prL p).toArray.all (·.oneCell') = true := all_oneCell_toArray (prL_one p)
section
variable {ops : Array Oper} {rest : List Oper} {o : Oper} {a : Act} {w : World} {Q : Exit → Act → World → Prop}
theorem wp_ld_pr (x : Operand) (hgd : o.guard = none) (ho : o.op = .load 72 x) (g i : Nat) (p : PrT) (hx : a.eval x = .pointer (some ⟨g, i, none⟩))
    (hb : w.rangeAt g i (prL p)) (hK : wpList Tryz.prog ops Q rest (a.put o.dst (.agg (prL p).toArray)) w) : wpList Tryz.prog ops Q (o :: rest) a w :=
  wpList_load_mid hgd _ x ho g i hx _ _ hb Tryz.underlying72 rfl (by rw [prL_len]; exact prSize) hK
theorem wp_st_pr (x y : Operand) (hgd : o.guard = none) (ho : o.op = .store 72 x y) (g : Nat) (p : PrT) (old : Array Value) (t : TypeId) (hx : a.eval x = .pointer (some ⟨g, 0, none⟩)) (hy : a.eval y = .agg (prL p).toArray)
    (hb : Box w g t old) (hold : old.size = 96) (hK : ∀ w', Box w' g t (prL p).toArray → w.grownBy w' (some g) → wpList Tryz.prog ops Q rest (a.put o.dst undef) w') : wpList Tryz.prog ops Q (o :: rest) a w :=
  wp_st _ x y hgd ho g _ _ t hx hy hb (by rw [List.size_toArray, prL_len]; exact prSize) (hold.trans (by rw [List.size_toArray, prL_len])) (pr_all p) hK
end
theorem mac_cells {w : World} {g : Nat} {t : TypeId} {m : Mac} (h : Box w g t m.cells) : w.cell? ⟨g, 0, none⟩ = some (.int .u64 m.clock) ∧ w.cell? ⟨g, 1, none⟩ = some (.int .i64 m.quantum) ∧ w.cell? ⟨g, 2, none⟩ = some (.int .i64 m.cur) ∧ w.cell? ⟨g, 3, none⟩ = some (.int .i64 m.left) ∧ w.cell? ⟨g, 4, none⟩ = some (.slice m.fr.A m.fr.n m.fr.c) ∧ w.cell? ⟨g, 5, none⟩ = some (.slice m.pr.A m.pr.n m.pr.c) ∧ w.cell? ⟨g, 6, none⟩ = some (.int .i64 m.next) ∧ w.cell? ⟨g, 7, none⟩ = some (.string (str m.init)) ∧ w.cell? ⟨g, 8, none⟩ = some (.slice m.pi.A m.pi.n m.pi.c) ∧ w.cell? ⟨g, 9, none⟩ = some (.int .i64 m.newPipe) ∧ w.cell? ⟨g, 10, none⟩ = some (.string (str m.inn)) ∧ w.cell? ⟨g, 11, none⟩ = some (.bool m.fin) ∧ w.cell? ⟨g, 12, none⟩ = some (.int .u64 m.told) ∧ w.cell? ⟨g, 13, none⟩ = some (.slice m.bl.A m.bl.n m.bl.c) ∧ w.cell? ⟨g, 14, none⟩ = some (.slice m.pe.A m.pe.n m.pe.c) ∧ w.cell? ⟨g, 15, none⟩ = some (.int .i64 m.dleft) ∧ w.cell? ⟨g, 16, none⟩ = some (.slice m.di.A m.di.n m.di.c) :=
  ⟨h.cell 0, h.cell 1, h.cell 2, h.cell 3, h.cell 4, h.cell 5, h.cell 6, h.cell 7, h.cell 8, h.cell 9, h.cell 10, h.cell 11, h.cell 12, h.cell 13, h.cell 14, h.cell 15, h.cell 16⟩
def spaceL (p : PrT) : List Value := (List.range 16).flatMap (pteL p)
def fdsL (p : PrT) : List Value := (List.range 8).flatMap (fdL p)
theorem pr_space (p : PrT) : ∀ j v, (spaceL p)[j]? = some v → (prL p).toArray[20 + j]? = some v := fun j v hv => by
  have hj : j < 48 := by have := (List.getElem?_eq_some_iff.1 hv).1; exact this
  rw [List.getElem?_toArray]
  have e : (prL p).drop 20 = spaceL p ++ (fdsL p ++ [.bool p.mask, .int .u32 p.code, .int .i64 p.why, .int .u64 p.num]) := rfl
  rw [← List.getElem?_drop, e, List.getElem?_append_left (by exact hj)]; exact hv
theorem pr_fds (p : PrT) : ∀ j v, (fdsL p)[j]? = some v → (prL p).toArray[68 + j]? = some v := fun j v hv => by
  have hj : j < 24 := by have := (List.getElem?_eq_some_iff.1 hv).1; exact this
  rw [List.getElem?_toArray]
  have e : (prL p).drop 68 = fdsL p ++ [.bool p.mask, .int .u32 p.code, .int .i64 p.why, .int .u64 p.num] := rfl
  rw [← List.getElem?_drop, e, List.getElem?_append_left (by exact hj)]; exact hv
theorem part_of (f : Nat → List Value) (n z i : Nat) (hz : ∀ j, (f j).length = z) (hi : i < n) : ((List.range n).flatMap f).toArray.extract (i * z) (i * z + z) = (f i).toArray := by
  apply Array.toList_inj.1
  apply List.ext_getElem?
  intro j
  rw [Array.toList_extract]
  simp only [List.extract_eq_take_drop, List.getElem?_take, List.getElem?_drop]
  have hr : (List.range n).length = n := List.length_range
  by_cases hj : j < z
  · rw [if_pos (by omega)]
    have := flat_at f z (List.range n) (fun x _ => hz x) i (by omega) j hj
    rw [List.getElem_range] at this
    exact this
  · rw [if_neg (by omega), List.getElem?_eq_none (by have := hz i; simp; omega)]
theorem run_index_row {P : Program} {t e n z : Nat} {cs : Array Value} {i : Nat} {d : TypeDesc} (w : World) (hu : P.underlying t = some (.array n e)) (he : P.underlying e = some d) (hd : d.isRow = true) (hs : (P.info? e).map (·.size) = some z) (hin : i < n) :
    (Instr.index t (.agg cs) (.int .i64 (i : Int))).run P w = .ok (.agg (cs.extract (i * z) (i * z + z))) w := by
  cases hq : P.info? e with
  | none => simp [hq] at hs
  | some j =>
    have hz : j.size = z := by simpa [hq] using hs
    have hagg : (isAgg e).run P w = .ok true w := by
      unfold isAgg
      rw [Sem.run_bind, run_underlying he w]
      cases d <;> simp_all
    have h1 : (i : Int) < (n : Int) := by omega
    simp [Instr.index, asIntOf, run_underlying hu, h1, sizeOf, typeInfo, hq, part, Sem.run_bind, hagg, hz]
    intro hc; exact absurd hc (by omega)
theorem pteSize : (Tryz.prog.info? 65).map (·.size) = some 3 := by kernel_rfl
theorem fdSize : (Tryz.prog.info? 69).map (·.size) = some 3 := by kernel_rfl
theorem pipeSize : (Tryz.prog.info? 59).map (·.size) = some 2 := by kernel_rfl
theorem spaceSize : (Tryz.prog.info? 67).map (·.size) = some 48 := by kernel_rfl
theorem fdsSize : (Tryz.prog.info? 70).map (·.size) = some 24 := by kernel_rfl
section
variable {ops : Array Oper} {rest : List Oper} {o : Oper} {a : Act} {w : World} {Q : Exit → Act → World → Prop}
theorem wp_st_pipe (x y : Operand) (hgd : o.guard = none) (ho : o.op = .store 59 x y) (g : Nat) (i : Int) (s : ByteArray) (old : Array Value) (t : TypeId) (hx : a.eval x = .pointer (some ⟨g, 0, none⟩)) (hy : a.eval y = .agg #[.int .i64 i, .string s])
    (hb : Box w g t old) (hold : old.size = 2) (hK : ∀ w', Box w' g t #[.int .i64 i, .string s] → w.grownBy w' (some g) → wpList Tryz.prog ops Q rest (a.put o.dst undef) w') : wpList Tryz.prog ops Q (o :: rest) a w :=
  wp_st _ x y hgd ho g _ _ t hx hy hb pipeSize hold (all_oneCell_toArray (cs := [.int .i64 i, .string s]) (fun v hv => by simp only [List.mem_cons, List.not_mem_nil, or_false] at hv; rcases hv with rfl | rfl <;> rfl)) hK
theorem wp_ld_space (x : Operand) (hgd : o.guard = none) (ho : o.op = .load 67 x) (g : Nat) (t : TypeId) (p : PrT) (hx : a.eval x = .pointer (some ⟨g, 20, none⟩))
    (hb : Box w g t (prL p).toArray) (hK : wpList Tryz.prog ops Q rest (a.put o.dst (.agg (spaceL p).toArray)) w) : wpList Tryz.prog ops Q (o :: rest) a w :=
  wpList_load_mid hgd _ x ho g 20 hx _ _ (box_range hb (pr_space p)) Tryz.underlying67 rfl (by exact spaceSize) hK
theorem wp_ld_fds (x : Operand) (hgd : o.guard = none) (ho : o.op = .load 70 x) (g : Nat) (t : TypeId) (p : PrT) (hx : a.eval x = .pointer (some ⟨g, 68, none⟩))
    (hb : Box w g t (prL p).toArray) (hK : wpList Tryz.prog ops Q rest (a.put o.dst (.agg (fdsL p).toArray)) w) : wpList Tryz.prog ops Q (o :: rest) a w :=
  wpList_load_mid hgd _ x ho g 68 hx _ _ (box_range hb (pr_fds p)) Tryz.underlying70 rfl (by exact fdsSize) hK
theorem wp_idx_pte (x y : Operand) (hgd : o.guard = none) (ho : o.op = .index 67 x y) (p : PrT) (i : Nat) (hx : a.eval x = .agg (spaceL p).toArray) (hy : a.eval y = .int .i64 (i : Int)) (hi : i < 16)
    (hK : wpList Tryz.prog ops Q rest (a.put o.dst (.agg #[.bool (p.pis i), .bool (p.pwr i), .int .i64 (p.pfr i)])) w) : wpList Tryz.prog ops Q (o :: rest) a w := by
  refine wpList_plain hgd fun K hK' => ?_
  unfold Oper.wp execOp
  have := run_index_row (P := Tryz.prog) (cs := (spaceL p).toArray) (i := i) w Tryz.underlying67 Tryz.underlying65 rfl pteSize hi
  rw [show (spaceL p).toArray.extract (i * 3) (i * 3 + 3) = _ from part_of (pteL p) 16 3 i (fun _ => rfl) hi] at this
  simp only [ho, hx, hy, this, Sem.run_bind, Sem.run_pure, Result.andThen_ok]
  exact hK' _ _ hK
theorem wp_idx_fd (x y : Operand) (hgd : o.guard = none) (ho : o.op = .index 70 x y) (p : PrT) (i : Nat) (hx : a.eval x = .agg (fdsL p).toArray) (hy : a.eval y = .int .i64 (i : Int)) (hi : i < 8)
    (hK : wpList Tryz.prog ops Q rest (a.put o.dst (.agg #[.int .i64 (p.fk i), .int .i64 (p.fn i), .int .i64 (p.fp i)])) w) : wpList Tryz.prog ops Q (o :: rest) a w := by
  refine wpList_plain hgd fun K hK' => ?_
  unfold Oper.wp execOp
  have := run_index_row (P := Tryz.prog) (cs := (fdsL p).toArray) (i := i) w Tryz.underlying70 Tryz.underlying69 rfl fdSize hi
  rw [show (fdsL p).toArray.extract (i * 3) (i * 3 + 3) = _ from part_of (fdL p) 8 3 i (fun _ => rfl) hi] at this
  simp only [ho, hx, hy, this, Sem.run_bind, Sem.run_pure, Result.andThen_ok]
  exact hK' _ _ hK
end
set_option maxHeartbeats 2000000 in
set_option maxRecDepth 100000 in
theorem lives_any (m : Mac) (d : MacD) (pid : Int) (w : World) (h : MacIn w m d) :
    Calls Tryz.prog 52 #[.agg m.cells, .int .i64 pid] w fun e w' => SomeB e ∧ Ext w w' := by
  obtain ⟨hp1, hp2⟩ := h.pr
  have hpk := h.prk.2.1
  unfold maxLen at hpk
  clear h
  have xa : Ext w (w.alloc (.cells m.cells 30)) := (Ext.refl _).alloc _
  have ba := Box.new w 30 m.cells
  have q5 : (w.alloc (.cells m.cells 30)).cell? ⟨w.heap.size, 5, none⟩ = some (.slice m.pr.A m.pr.n m.pr.c) := ba.cell 5
  go_enter Tryz.func52, Tryz.ntmps52
  go_wp2_with fail
  clear q5 ba
  generalize w.alloc (.cells m.cells 30) = w1 at *
  try rw [hp1]
  rw [hp1] at hpk
  have HP1 := Lib.hid hp1
  clear hp1
  generalize d.pr = l at *
  generalize m.pr.A = A at *
  go_loopw [6, 10] (fun _ i wx => ∃ k : Nat, k ≤ l.length ∧ i = .int .i64 k ∧ Ext w wx) (fun _ i _ => l.length - (intOf i).toNat)
  case atStart => exact ⟨0, by omega, rfl, xa⟩
  case round =>
    obtain ⟨k, hk, rfl, xk⟩ := hrel
    by_cases hlt : k < l.length
    · obtain ⟨b, o, rfl, hcell⟩ := hp2 (by rw [HP1.out]; omega)
      have r1 := range_ext (pr_range hcell hlt) xk
      clear hcell
      have hki : (k : Int) < (l.length : Int) := by omega
      generalize l[k] = y at *
      go_wp2_with (first
        | (refine wp_ld_pr (.tmp 12) rfl rfl b (o + k * 96) y rfl r1 ?_)
        | (refine wp_st_pr (.tmp 6) (.tmp 13) rfl rfl wr.heap.size y _ 72 rfl rfl (Box.new _ _ _) rfl ?_; intro w2 b2 g2; have x2 : Ext w w2 := (xk.alloc _).grown g2 (fun j e => by cases e; exact xk.size); have c0 : w2.cell? ⟨wr.heap.size, 0, none⟩ = some (.int .i64 y.pid) := b2.cell 0; have c2 : w2.cell? ⟨wr.heap.size, 2, none⟩ = some (.int .i64 y.state) := b2.cell 2))
      all_goals first
        | (go_ret; exact ⟨⟨_, rfl⟩, x2⟩)
        | (go_roundw
           case rel => exact ⟨k + 1, by omega, by go_num, x2⟩
           case measure => simp [intOf]; omega)
    · obtain rfl : k = l.length := by omega
      go_wp2_with fail
      go_ret
      exact ⟨⟨_, rfl⟩, xk⟩
set_option maxHeartbeats 2000000 in
set_option maxRecDepth 100000 in
theorem users_any (m : Mac) (d : MacD) (fr : Int) (w : World) (h : MacIn w m d) :
    Calls Tryz.prog 53 #[.agg m.cells, .int .i64 fr] w fun e w' => SomeI e ∧ Ext w w' := by
  obtain ⟨hp1, hp2⟩ := h.pr
  have hpk := h.prk.2.1
  unfold maxLen at hpk
  clear h
  have xa : Ext w (w.alloc (.cells m.cells 30)) := (Ext.refl _).alloc _
  have ba := Box.new w 30 m.cells
  have q5 : (w.alloc (.cells m.cells 30)).cell? ⟨w.heap.size, 5, none⟩ = some (.slice m.pr.A m.pr.n m.pr.c) := ba.cell 5
  go_enter Tryz.func53, Tryz.ntmps53
  go_wp2_with fail
  clear q5 ba
  generalize w.alloc (.cells m.cells 30) = w1 at *
  try rw [hp1]
  rw [hp1] at hpk
  have HP1 := Lib.hid hp1
  clear hp1
  generalize d.pr = l at *
  generalize m.pr.A = A at *
  go_loopw [5, 13] (fun t i wx => ∃ (k : Nat) (z : Int), k ≤ l.length ∧ i = .int .i64 k ∧ t = .int .i64 z ∧ Ext w wx) (fun _ i _ => l.length - (intOf i).toNat)
  case atStart => exact ⟨0, 0, by omega, rfl, rfl, xa⟩
  case round =>
    obtain ⟨k, z, hk, rfl, rfl, xk⟩ := hrel
    by_cases hlt : k < l.length
    · obtain ⟨b, o, rfl, hcell⟩ := hp2 (by rw [HP1.out]; omega)
      have r1 := range_ext (pr_range hcell hlt) xk
      clear hcell
      have hki : (k : Int) < (l.length : Int) := by omega
      generalize l[k] = y at *
      go_wp2_with (first
        | (refine wp_ld_pr (.tmp 15) rfl rfl b (o + k * 96) y rfl r1 ?_)
        | (refine wp_st_pr (.tmp 7) (.tmp 16) rfl rfl wr.heap.size y _ 72 rfl rfl (Box.new _ _ _) rfl ?_; intro w2 b2 g2; have x2 : Ext w w2 := (xk.alloc _).grown g2 (fun j e => by cases e; exact xk.size))
        | (refine wp_ld_space (.tmp 17) rfl rfl wr.heap.size 72 y rfl b2 ?_))
      go_loopw [5, 19] (fun t i wx => ∃ (j : Nat) (z : Int), j ≤ 16 ∧ i = .int .i64 j ∧ t = .int .i64 z ∧ Ext w wx) (fun _ i _ => 16 - (intOf i).toNat)
      case atStart => exact ⟨0, z, by omega, rfl, rfl, x2⟩
      case round =>
        clear r1 b2 g2 xk x2
        obtain ⟨j, z2, hj, rfl, rfl, xj⟩ := hrel
        by_cases hj2 : j < 16
        · have hji : (j : Int) < 16 := by omega
          go_wp2_with (first
            | (refine wp_idx_pte (.tmp 18) (.tmp 19) rfl rfl y j rfl rfl hj2 ?_))
          all_goals
            go_roundw
            case rel => exact ⟨j + 1, _, by omega, by go_num, rfl, xj.alloc _⟩
            case measure => simp [intOf]; omega
        · obtain rfl : j = 16 := by omega
          go_wp2_with fail
          go_roundw
          case rel => exact ⟨k + 1, z2, by omega, by go_num, rfl, xj⟩
          case measure => simp [intOf]; omega
    · obtain rfl : k = l.length := by omega
      go_wp2_with fail
      go_ret
      exact ⟨⟨_, rfl⟩, xk⟩
/-- a pipe, and whether it is there -/
def SomeP (e : Ending) : Prop := ∃ (y : WrT) (b : Bool), e = .returned (.tuple #[.agg #[.int .i64 y.1, .string (str y.2)], .bool b])
set_option maxHeartbeats 2000000 in
set_option maxRecDepth 100000 in
theorem rpipe_any (m : Mac) (d : MacD) (id : Int) (w : World) (h : MacIn w m d) :
    Calls Tryz.prog 108 #[.agg m.cells, .int .i64 id] w fun e w' => SomeP e ∧ Ext w w' := by
  obtain ⟨hp1, hp2⟩ := h.pi.wrs
  have hpk := h.pik.2.1
  unfold maxLen at hpk
  clear h
  have xa : Ext w (w.alloc (.cells m.cells 30)) := (Ext.refl _).alloc _
  have ba := (Box.new w 30 m.cells).ext ((Ext.refl _).alloc (.cells #[.int .i64 0, .string ⟨#[]⟩] 59))
  have q8 : ((w.alloc (.cells m.cells 30)).alloc (.cells #[.int .i64 0, .string ⟨#[]⟩] 59)).cell? ⟨w.heap.size, 8, none⟩ = some (.slice m.pi.A m.pi.n m.pi.c) := ba.cell 8
  have b4 : Box ((w.alloc (.cells m.cells 30)).alloc (.cells #[.int .i64 0, .string ⟨#[]⟩] 59)) (w.heap.size + 1) 59 #[.int .i64 0, .string ⟨#[]⟩] := by
    have := Box.new (w.alloc (.cells m.cells 30)) 59 #[.int .i64 0, .string ⟨#[]⟩]
    rw [World.size_alloc] at this; exact this
  have xa2 := xa.alloc (.cells #[.int .i64 0, .string ⟨#[]⟩] 59)
  go_enter Tryz.func108, Tryz.ntmps108
  go_wp2_with fail
  clear q8 ba xa
  generalize ((w.alloc (.cells m.cells 30)).alloc (.cells #[.int .i64 0, .string ⟨#[]⟩] 59)) = w1 at *
  try rw [hp1]
  rw [hp1] at hpk
  have HP1 := Lib.hid hp1
  clear hp1
  generalize d.pi = l at *
  generalize m.pi.A = A at *
  go_loopw [7, 11] (fun _ i wx => ∃ (k : Nat), k ≤ l.length ∧ i = .int .i64 k ∧ Ext w wx ∧ Box wx (w.heap.size + 1) 59 #[.int .i64 0, .string ⟨#[]⟩]) (fun _ i _ => l.length - (intOf i).toNat)
  case atStart => exact ⟨0, by omega, rfl, xa2, b4⟩
  case round =>
    obtain ⟨k, hk, rfl, xk, bk⟩ := hrel
    by_cases hlt : k < l.length
    · obtain ⟨b, o, rfl, hcell⟩ := hp2 (by rw [HP1.out]; omega)
      have e1 := xk.keep (hcell k hlt).1
      have e2 := xk.keep (hcell k hlt).2
      clear hcell
      have hki : (k : Int) < (l.length : Int) := by omega
      generalize l[k] = y at *
      have bk2 := bk.ext ((Ext.refl wr).alloc (.cells #[.int .i64 y.1, .string (str y.2)] 59))
      go_wp2_with (first
        | (refine wp_st_pipe (.tmp 4) (.tmp 19) rfl rfl (w.heap.size + 1) y.1 (str y.2) _ 59 rfl rfl bk2 rfl ?_; intro w2 b2 g2; have x2 : Ext w w2 := (xk.alloc _).grown g2 (fun j e => by cases e; omega)))
      all_goals first
        | (exact bodyPost_ret (v := .tuple #[.agg #[.int .i64 y.1, .string (str y.2)], .bool true]) (results_cell2 Tryz.results108 _ _ _ _ _ _ _ rfl rfl b2 Tryz.underlying59 rfl pipeSize) rfl ⟨⟨_, _, rfl⟩, x2⟩)
        | (go_roundw
           case rel => exact ⟨k + 1, by omega, by go_num, xk.alloc _, bk2⟩
           case measure => simp [intOf]; omega)
    · obtain rfl : k = l.length := by omega
      go_wp2_with (first
        | (refine wp_st_pipe (.tmp 4) (.tmp 21) rfl rfl (w.heap.size + 1) 0 ⟨#[]⟩ _ 59 rfl rfl bk rfl ?_; intro w2 b2 g2; have x2 : Ext w w2 := xk.grown g2 (fun j e => by cases e; omega)))
      exact bodyPost_ret (v := .tuple #[.agg #[.int .i64 0, .string ⟨#[]⟩], .bool false]) (results_cell2 Tryz.results108 _ _ _ _ _ _ _ rfl rfl b2 Tryz.underlying59 rfl pipeSize) rfl ⟨⟨(0, []), _, rfl⟩, x2⟩
set_option maxHeartbeats 2000000 in
set_option maxRecDepth 100000 in
theorem rfd_any (m : Mac) (d : MacD) (k n p : Int) (w : World) (h : MacIn w m d) :
    Calls Tryz.prog 54 #[.agg m.cells, .agg #[.int .i64 k, .int .i64 n, .int .i64 p]] w fun e w' => SomeB e ∧ Ext w w' := by
  have xa : Ext w ((w.alloc (.cells m.cells 30)).alloc (.cells #[.int .i64 k, .int .i64 n, .int .i64 p] 69)) := ((Ext.refl _).alloc _).alloc _
  have ba := (Box.new w 30 m.cells).ext ((Ext.refl _).alloc (.cells #[.int .i64 k, .int .i64 n, .int .i64 p] 69))
  have HP := Lib.hid (fun id w h => rpipe_any m d id w h)
  have h2 := h.ext xa
  have bf := Box.new (w.alloc (.cells m.cells 30)) 69 #[.int .i64 k, .int .i64 n, .int .i64 p]
  rw [World.size_alloc] at bf
  clear h
  go_enter Tryz.func54, Tryz.ntmps54
  go_wp2_with (first
    | (refine wp_ld_mac (.tmp 2) rfl rfl w.heap.size _ 30 rfl ba rfl ?_)
    | (go_at_call 108; refine (HP.out _ _ h2).mono ?_; rintro e w1 ⟨⟨y, b1, rfl⟩, x1⟩; have bf1 := (bf.ext x1).ext ((Ext.refl w1).alloc (.cells #[.int .i64 y.1, .string (str y.2)] 59)); have f0 := bf1.cell 0; have f1 := bf1.cell 1; have f2 := bf1.cell 2; have xw := (xa.trans x1).alloc (.cells #[.int .i64 y.1, .string (str y.2)] 59)))
  all_goals
    go_ret
    exact ⟨⟨_, rfl⟩, xw⟩
end Go.Proofs.YtkokmnaicfdjaaaGreatDoor
/- Package own: rows and machines copied. -/
namespace Go.Proofs.YtkokmnaicfdjaaaGreatDoor
set_option linter.unusedVariables false
set_option linter.unusedSimpArgs false
open Go.RowKit

theorem own_sl {w : World} {base size n : Nat} {e : TypeId} {v : Value} {xs : List Value} (h : w.ownsRow base e size v n xs) : ∃ s : Sl, v = .slice s.A s.n s.c ∧ s.n = n ∧ s.ok := by
  rcases h.2 with ⟨rfl, h0⟩ | ⟨g, cap, cur, rfl, _, _, hc, hm, _⟩
  · exact ⟨⟨none, 0, 0⟩, rfl, h0.symm, fun _ => ⟨rfl, rfl⟩, Nat.zero_le _, Nat.le_refl _⟩
  · exact ⟨⟨some ⟨g, 0, none⟩, n, cap⟩, rfl, rfl, fun h => (by cases h), Nat.le_trans hc hm, hc⟩
theorem own_row {α : Type} {f : α → List Value} {w : World} {base z n : Nat} {e : TypeId} {s : Sl} {l : List α} (h : w.ownsRow base e z (.slice s.A s.n s.c) n (l.flatMap f)) (hz : ∀ x ∈ l, (f x).length = z) (hn : n = l.length) (hs : s.n = n) : RowOf f w s.A s.n l := by
  refine ⟨hs.trans hn, fun hp => ?_⟩
  have h' := h
  rcases h.2 with ⟨e1, h0⟩ | ⟨g, cap, cur, e1, _⟩
  · omega
  · injection e1 with e1 e2 e3
    refine ⟨g, 0, e1, fun j v hj => ?_⟩
    rw [e1, hs] at h'
    rw [Nat.zero_add, h'.cellAt j (by have := (List.getElem?_eq_some_iff.1 hj).1; rw [flat_len f z l hz] at this; rw [hn]; exact this)]
    exact hj
/-- append([]T(nil), l...) -/
theorem wp_app_copy {α : Type} (f : α → List Value) (T E : TypeId) (z bytes : Nat) (zv : Value) (base : Nat) {ops : Array Oper} {rest : List Oper} {o : Oper} {a : Act} {Q : Exit → Act → World → Prop} {w : World} {l : List α} (s : Sl)
    (hT : Tryz.prog.underlying T = some (.slice E)) (hi : (Tryz.prog.info? E).map (fun i => (i.zero, i.size, i.bytes)) = some (some zv, z, bytes)) (hz0 : 0 < z) (hzc : zv.cells.size = z) (hgd : o.guard = none) (sl x : Operand)
    (ho : o.op = .call { callee := .builtin .append, args := #[sl, x], argTypes := #[T, T] }) (hs : a.eval sl = .slice none 0 0) (hx : a.eval x = .slice s.A s.n s.c) (h : RowOf f w s.A s.n l) (hk : s.ok) (hlen : ∀ x ∈ l, (f x).length = z) (hone : ∀ x ∈ l, ∀ v ∈ f x, v.oneCell' = true)
    (hby : s.n * bytes ≤ 140737488355328) (hb : base ≤ w.heap.size)
    (hK : ∀ (s' : Sl) (w' : World), s'.n = s.n → s'.ok → RowOf f w' s'.A s'.n l → w'.ownsRow base E z (.slice s'.A s'.n s'.c) s'.n (l.flatMap f) → Ext w w' → wpList Tryz.prog ops Q rest (a.put o.dst (.slice s'.A s'.n s'.c)) w') : wpList Tryz.prog ops Q (o :: rest) a w := by
  obtain ⟨i, hi, hz, h1, h2⟩ := info_parts hi
  obtain ⟨A, n, c⟩ := s
  simp only at hx h hk hby hK
  cases A with
  | none =>
    obtain ⟨rfl, rfl⟩ := hk.1 rfl
    have hl : l = [] := List.eq_nil_of_length_eq_zero h.1.symm
    subst hl
    refine wpList_plain hgd fun K hK' => ?_
    have hr := run_append_owned_none (P := Tryz.prog) (w := w) base T o.type E i z hT hi (.slice none 0 0) 0 [] (World.ownsRow_nil w base E z)
    have hK2 := hK ⟨none, 0, 0⟩ w rfl hk h (World.ownsRow_nil w base E z) (Ext.refl w)
    unfold Oper.wp execOp
    simp only [ho, resolve, invoke, builtin, Sem.run_bind, Sem.run_pure, Result.andThen_ok, List.map_toArray, List.map_cons, List.map_nil, hs, hx, hr]
    exact hK' _ _ hK2
  | some p =>
    have hp : ∀ j u, (l.flatMap f)[j]? = some u → w.cell? (p.add j) = some u := fun j u hj => by
      have hn : 0 < n := by
        rw [h.1]
        cases l with
        | nil => cases hj
        | cons x l => simp
      obtain ⟨b, o, e, hc⟩ := h.2 hn
      have ep : p = ⟨b, o, none⟩ := Option.some.inj e
      have ha : (⟨b, o, none⟩ : Addr).add j = ⟨b, o + j, none⟩ := by unfold Addr.add; split <;> simp_all
      rw [ep, ha]; exact hc j u hj
    refine wpList_plain hgd fun K hK' => ?_
    obtain ⟨v', w', hr, ho', hg, _⟩ := run_append_own_at (P := Tryz.prog) w base T o.type E i zv z bytes hT hi hz h1 h2 hzc hz0 (.slice none 0 0) 0 [] (World.ownsRow_nil w base E z) p n c (l.flatMap f) (by rw [flat_len f z l hlen, h.1]) hp (fun u hu => by
      obtain ⟨x, hx, hu⟩ := List.mem_flatMap.1 hu
      exact hone x hx u hu) (by rw [Nat.zero_add]; exact hk.2.1) (by rw [Nat.zero_add]; exact hby) hb
    rw [Nat.zero_add, List.nil_append] at ho'
    obtain ⟨s', rfl, hs', hk'⟩ := own_sl ho'
    have hR := own_row ho' hlen h.1 hs'
    have hK2 := hK s' w' hs' hk' hR (by rw [hs']; rw [← hs'] at ho'; rw [hs'] at ho'; exact ho') ((Ext.refl w).grown hg (fun _ e => by cases e))
    unfold Oper.wp execOp
    simp only [ho, resolve, invoke, builtin, Sem.run_bind, Sem.run_pure, Result.andThen_ok, List.map_toArray, List.map_cons, List.map_nil, hs, hx, hr]
    exact hK' _ _ hK2
def zeroPr : PrT := ⟨0, 0, 0, fun _ => 0, 0, fun _ => false, fun _ => false, fun _ => 0, fun _ => 0, fun _ => 0, fun _ => 0, false, 0, 0, 0⟩
theorem prInfo : (Tryz.prog.info? 72).map (fun i => (i.zero, i.size, i.bytes)) = some (some (.agg (prL zeroPr).toArray), 96, 568) := by kernel_rfl
theorem wrInfo : (Tryz.prog.info? 57).map (fun i => (i.zero, i.size, i.bytes)) = some (some (.agg #[.int .i64 0, .string ⟨#[]⟩]), 2, 24) := by kernel_rfl
theorem piInfo : (Tryz.prog.info? 59).map (fun i => (i.zero, i.size, i.bytes)) = some (some (.agg #[.int .i64 0, .string ⟨#[]⟩]), 2, 24) := by kernel_rfl
theorem stL_one (x : List UInt8) : ∀ v ∈ stL x, v.oneCell' = true := fun v hv => by
  simp only [stL, List.mem_cons, List.not_mem_nil, or_false] at hv; subst hv; rfl
theorem wrL_one (x : WrT) : ∀ v ∈ wrL x, v.oneCell' = true := fun v hv => by
  simp only [wrL, List.mem_cons, List.not_mem_nil, or_false] at hv; rcases hv with rfl | rfl <;> rfl
set_option maxRecDepth 100000 in
theorem ostrs_any (s : Sl) (l : List (List UInt8)) (w : World) (h : RowOf stL w s.A s.n l) (hk : s.ok) (hby : s.n ≤ 100000) :
    Calls Tryz.prog 62 #[.slice s.A s.n s.c] w fun e w' => ∃ s' : Sl, e = .returned (.slice s'.A s'.n s'.c) ∧ s'.n = s.n ∧ s'.ok ∧ RowOf stL w' s'.A s'.n l ∧ Ext w w' ∧ w'.ownsRow w.heap.size 9 1 (.slice s'.A s'.n s'.c) s'.n (l.flatMap stL) := by
  go_enter Tryz.func62, Tryz.ntmps62
  go_wp2_with (at_builtin; refine wp_app_copy stL 23 9 1 16 (.string ⟨#[]⟩) w.heap.size s Tryz.underlying23 strInfo (by omega) rfl rfl _ _ rfl rfl rfl h hk (fun _ _ => rfl) (fun x _ => stL_one x) (by omega) (Nat.le_refl _) ?_; intro s' w' hn' hk' hr' ho' x'; have HN := Lib.hid hn'; clear hn')
  go_ret
  exact ⟨s', rfl, HN.out, hk', hr', x', by have := ho'; simp only [HN.out] at this ⊢; exact this⟩
set_option maxRecDepth 100000 in
theorem oprs_any (s : Sl) (l : List PrT) (w : World) (h : RowOf prL w s.A s.n l) (hk : s.ok) (hby : s.n ≤ 100000) :
    Calls Tryz.prog 63 #[.slice s.A s.n s.c] w fun e w' => ∃ s' : Sl, e = .returned (.slice s'.A s'.n s'.c) ∧ s'.n = s.n ∧ s'.ok ∧ RowOf prL w' s'.A s'.n l ∧ Ext w w' ∧ w'.ownsRow w.heap.size 72 96 (.slice s'.A s'.n s'.c) s'.n (l.flatMap prL) := by
  go_enter Tryz.func63, Tryz.ntmps63
  go_wp2_with (at_builtin; refine wp_app_copy prL 24 72 96 568 (.agg (prL zeroPr).toArray) w.heap.size s Tryz.underlying24 prInfo (by omega) rfl rfl _ _ rfl rfl rfl h hk (fun _ _ => prL_len _) (fun x _ => prL_one x) (by omega) (Nat.le_refl _) ?_; intro s' w' hn' hk' hr' ho' x'; have HN := Lib.hid hn'; clear hn')
  go_ret
  exact ⟨s', rfl, HN.out, hk', hr', x', by have := ho'; simp only [HN.out] at this ⊢; exact this⟩
set_option maxRecDepth 100000 in
theorem opis_any (s : Sl) (l : List WrT) (w : World) (h : RowOf wrL w s.A s.n l) (hk : s.ok) (hby : s.n ≤ 100000) :
    Calls Tryz.prog 64 #[.slice s.A s.n s.c] w fun e w' => ∃ s' : Sl, e = .returned (.slice s'.A s'.n s'.c) ∧ s'.n = s.n ∧ s'.ok ∧ RowOf wrL w' s'.A s'.n l ∧ Ext w w' ∧ w'.ownsRow w.heap.size 59 2 (.slice s'.A s'.n s'.c) s'.n (l.flatMap wrL) := by
  go_enter Tryz.func64, Tryz.ntmps64
  go_wp2_with (at_builtin; refine wp_app_copy wrL 25 59 2 24 (.agg #[.int .i64 0, .string ⟨#[]⟩]) w.heap.size s Tryz.underlying25 piInfo (by omega) rfl rfl _ _ rfl rfl rfl h hk (fun _ _ => rfl) (fun x _ => wrL_one x) (by omega) (Nat.le_refl _) ?_; intro s' w' hn' hk' hr' ho' x'; have HN := Lib.hid hn'; clear hn')
  go_ret
  exact ⟨s', rfl, HN.out, hk', hr', x', by have := ho'; simp only [HN.out] at this ⊢; exact this⟩
set_option maxRecDepth 100000 in
theorem owrs_any (s : Sl) (l : List WrT) (w : World) (h : RowOf wrL w s.A s.n l) (hk : s.ok) (hby : s.n ≤ 100000) :
    Calls Tryz.prog 66 #[.slice s.A s.n s.c] w fun e w' => ∃ s' : Sl, e = .returned (.slice s'.A s'.n s'.c) ∧ s'.n = s.n ∧ s'.ok ∧ RowOf wrL w' s'.A s'.n l ∧ Ext w w' ∧ w'.ownsRow w.heap.size 57 2 (.slice s'.A s'.n s'.c) s'.n (l.flatMap wrL) := by
  go_enter Tryz.func66, Tryz.ntmps66
  go_wp2_with (at_builtin; refine wp_app_copy wrL 26 57 2 24 (.agg #[.int .i64 0, .string ⟨#[]⟩]) w.heap.size s Tryz.underlying26 wrInfo (by omega) rfl rfl _ _ rfl rfl rfl h hk (fun _ _ => rfl) (fun x _ => wrL_one x) (by omega) (Nat.le_refl _) ?_; intro s' w' hn' hk' hr' ho' x'; have HN := Lib.hid hn'; clear hn')
  go_ret
  exact ⟨s', rfl, HN.out, hk', hr', x', by have := ho'; simp only [HN.out] at this ⊢; exact this⟩
theorem drvC_one (bl pe : Sl) (left : Int) : (drvC bl pe left).all (·.oneCell') = true := all_oneCell_toArray (cs := [.slice bl.A bl.n bl.c, .slice pe.A pe.n pe.c, .int .i64 left]) (fun v hv => by
  simp only [List.mem_cons, List.not_mem_nil, or_false] at hv
  rcases hv with rfl | rfl | rfl <;> rfl)
theorem macC_one (m : Mac) : m.cells.all (·.oneCell') = true := all_oneCell_toArray (cs := m.cells.toList) (fun v hv => by
  simp only [Mac.cells, List.mem_cons, List.not_mem_nil, or_false] at hv
  rcases hv with rfl | rfl | rfl | rfl | rfl | rfl | rfl | rfl | rfl | rfl | rfl | rfl | rfl | rfl | rfl | rfl | rfl <;> rfl)
section
variable {ops : Array Oper} {rest : List Oper} {o : Oper} {a : Act} {w : World} {Q : Exit → Act → World → Prop}
theorem wp_st_drv (x y : Operand) (hgd : o.guard = none) (ho : o.op = .store 28 x y) (g : Nat) (bl pe : Sl) (left : Int) (old : Array Value) (t : TypeId) (hx : a.eval x = .pointer (some ⟨g, 0, none⟩)) (hy : a.eval y = .agg #[.slice bl.A bl.n bl.c, .slice pe.A pe.n pe.c, .int .i64 left])
    (hb : Box w g t old) (hold : old.size = 3) (hK : ∀ w', Box w' g t (drvC bl pe left) → w.grownBy w' (some g) → wpList Tryz.prog ops Q rest (a.put o.dst undef) w') : wpList Tryz.prog ops Q (o :: rest) a w :=
  wp_st _ x y hgd ho g (drvC bl pe left) old t hx hy hb drvSize hold (drvC_one bl pe left) hK
theorem wp_st_mac (x y : Operand) (hgd : o.guard = none) (ho : o.op = .store 30 x y) (g : Nat) (m : Mac) (old : Array Value) (t : TypeId) (hx : a.eval x = .pointer (some ⟨g, 0, none⟩)) (hy : a.eval y = .agg m.cells)
    (hb : Box w g t old) (hold : old.size = 17) (hK : ∀ w', Box w' g t m.cells → w.grownBy w' (some g) → wpList Tryz.prog ops Q rest (a.put o.dst undef) w') : wpList Tryz.prog ops Q (o :: rest) a w :=
  wp_st _ x y hgd ho g m.cells old t hx hy hb macSize hold (macC_one m) hK
end
theorem own_setBox {w : World} {base n g i size : Nat} {e t : TypeId} {v : Value} {xs : List Value} {cs : Array Value} (h : w.ownsRow base e size v n xs) (hb : Box w g t cs) (hne : e ≠ t) (u : Value) : (w.setCell ⟨g, i, none⟩ u).ownsRow base e size v n xs := by
  have hn := own_ne h hb hne
  refine ⟨h.1, ?_⟩
  rcases h.2 with c | ⟨g1, cap1, cur, e1, hbb, hh, r⟩
  · exact Or.inl c
  · have : g1 ≠ g := fun e2 => hn (by rw [e1, e2]; rfl)
    exact Or.inr ⟨g1, cap1, cur, e1, hbb, Box.setOther (show Box w g1 e cur from hh) this u, r⟩
theorem results_cell1 {fn : Func} {p : Tmp} {ty : TypeId} (h : fn.results = #[.cell p ty]) (tmps : Array Value) (w : World) (g : Nat) (t : TypeId) (cs : Array Value) (d : TypeDesc)
    (hp : tmps.getD p undef = .pointer (some ⟨g, 0, none⟩)) (hg : Box w g t cs)
    (hu : Tryz.prog.underlying ty = some d) (hd : isAggD d = true) (hi : (Tryz.prog.info? ty).map (·.size) = some cs.size) :
    (results fn tmps).run Tryz.prog w = .ok (.agg cs) w := by
  have hp' : tmps[p]?.getD undef = .pointer (some ⟨g, 0, none⟩) := by simpa using hp
  simp [results, h, hp', asAddr, run_loadVar_row w g t ty cs (0, 0) d hg hu (by cases d <;> first | rfl | cases hd) hi]
def zeroMacC : Array Value := #[.int .u64 0, .int .i64 0, .int .i64 0, .int .i64 0, .slice none 0 0, .slice none 0 0, .int .i64 0, .string ⟨#[]⟩, .slice none 0 0, .int .i64 0, .string ⟨#[]⟩, .bool false, .int .u64 0, .slice none 0 0, .slice none 0 0, .int .i64 0, .slice none 0 0]
end Go.Proofs.YtkokmnaicfdjaaaGreatDoor
/- strings.Builder: more of it. -/
namespace Go.Proofs.YtkokmnaicfdjaaaGreatDoor
set_option linter.unusedVariables false
set_option linter.unusedSimpArgs false
open Go.RowKit

theorem Bld.ext {B b : Nat} {l : List UInt8} {w w' : World} (h : Bld B b l w) (x : Ext w w') : Bld B b l w' := by
  obtain ⟨hB, v, hb, hown, hne⟩ := h
  exact ⟨hB, v, Box.ext hb x, own_ext hown x, hne⟩
theorem Bld.more {B b base z n : Nat} {l : List UInt8} {w w' : World} {u : Value} {xs : List Value} {t : TypeId} (h : Bld B b l w) (o : w.ownsRow base t z u n xs) (h1 : t ≠ 148) (h2 : t ≠ 5) (hg : w.grownBy w' u.ownBlock) : Bld B b l w' := by
  obtain ⟨hB, v, hb, hown, hne⟩ := h
  refine ⟨hB, v, Box.grown hb hg (own_ne o hb h1), hown.kept hg ?_, hne⟩
  rcases hown.2 with ⟨e, _⟩ | ⟨g, cap, cur, e, _, hh, _⟩
  · exact .inl (by rw [e]; rfl)
  · exact .inr (by rw [e]; exact own_ne o (show Box w g 5 cur from hh) h2)
theorem Bld.box {B b : Nat} {l : List UInt8} {w : World} (h : Bld B b l w) : ∃ cs, Box w b 148 cs := by
  obtain ⟨hB, v, hb, hown, hne⟩ := h
  exact ⟨_, hb⟩
theorem own_kept8 {w w' : World} {b base z n : Nat} {u : Value} {xs : List Value} {t : TypeId} {cs : Array Value} (o : w.ownsRow base t z u n xs) (hk : Lib.OthersKept 5 (some b) w w') (hb : Box w b 148 cs) (h1 : t ≠ 148) (h2 : t ≠ 5) : w'.ownsRow base t z u n xs := by
  refine ⟨o.1, ?_⟩
  rcases o.2 with c | ⟨g, cap, cur, e, hB, hh, r⟩
  · exact .inl c
  · refine .inr ⟨g, cap, cur, e, hB, box_kept (show Box w g t cur from hh) hk (fun e2 => own_ne o hb h1 (by rw [e, e2]; rfl)) h2, r⟩
theorem Ext.below {a w w' : World} {B : Nat} (x : Ext a w) (q : Below B w w') (h : a.heap.size = B) : Ext a w' := by
  subst h
  exact Below.trans x q
theorem strs_box1 (w : World) (s : List UInt8) : Strs (w.alloc (.cells #[.string (str s)] 9)) (some ⟨w.heap.size, 0, none⟩) 1 [s] :=
  ⟨rfl, fun _ => ⟨w.heap.size, 0, rfl, fun j hj => by
    obtain rfl : j = 0 := by simp at hj; omega
    exact (Box.new w 9 #[.string (str s)]).cell 0⟩⟩
theorem bld_fresh (w : World) : Bld0 w.heap.size w.heap.size (w.alloc (.cells #[.pointer none, .slice none 0 0] 148)) := by
  rcases Lib.fresh_isBuilder 148 5 w with h | h
  · exact h
  · exact absurd h.cell0 (by rw [Box.cell (Box.new w _ _) 0]; simp)
end Go.Proofs.YtkokmnaicfdjaaaGreatDoor
