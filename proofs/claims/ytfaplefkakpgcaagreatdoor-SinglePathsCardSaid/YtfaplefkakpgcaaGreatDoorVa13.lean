/- The walks of a drive: drive.has, drive.Check, wal.journaled. -/
import Derived.Test.YtfaplefkakpgcaaGreatDoorVa10
import Derived.Test.YtfaplefkakpgcaaGreatDoorVa12
namespace Go.Proofs.YtfaplefkakpgcaaGreatDoor
set_option linter.unusedVariables false
set_option linter.unusedSimpArgs false
open Go.RowKit
/-- the slice with the address A and n places holds these writes -/
def Wrs (w : World) (A : Option Addr) (n : Nat) (l : List WrT) : Prop :=
  n = l.length ∧ (0 < n → ∃ b o, A = some ⟨b, o, none⟩ ∧ ∀ (j : Nat) (h : j < l.length), w.cell? ⟨b, o + j * 2, none⟩ = some (.int .i64 l[j].1) ∧ w.cell? ⟨b, o + j * 2 + 1, none⟩ = some (.string (str l[j].2)))
theorem Wrs.ext {w w' : World} {A : Option Addr} {n : Nat} {l : List WrT} (h : Wrs w A n l) (k : Ext w w') : Wrs w' A n l :=
  ⟨h.1, fun hn => by obtain ⟨b, o, e, hc⟩ := h.2 hn; exact ⟨b, o, e, fun j hj => ⟨k.keep (hc j hj).1, k.keep (hc j hj).2⟩⟩⟩
theorem RowOf.wrs {w : World} {A : Option Addr} {n : Nat} {l : List WrT} (h : RowOf wrL w A n l) : Wrs w A n l := by
  refine ⟨h.1, fun hn => ?_⟩
  obtain ⟨b, o, e, hc⟩ := h.2 hn
  exact ⟨b, o, e, fun j hj => ⟨RowOf.cell (n := n) hc (z := 2) (fun x _ => rfl) hj (i := 0) (by omega) rfl, RowOf.cell (n := n) hc (z := 2) (fun x _ => rfl) hj (i := 1) (by omega) rfl⟩⟩
theorem RowOf.strs {w : World} {A : Option Addr} {n : Nat} {l : List (List UInt8)} (h : RowOf stL w A n l) : Strs w A n l := by
  refine ⟨h.1, fun hn => ?_⟩
  obtain ⟨b, o, e, hc⟩ := h.2 hn
  refine ⟨b, o, e, fun j hj => ?_⟩
  have := RowOf.cell (n := n) hc (z := 1) (fun x _ => rfl) hj (i := 0) (by omega) rfl
  rw [Nat.mul_one, Nat.add_zero] at this
  exact this
theorem drvSize : (Tryz.prog.info? 36).map (·.size) = some 3 := by kernel_rfl
theorem macSize : (Tryz.prog.info? 38).map (·.size) = some 17 := by kernel_rfl
section
variable {ops : Array Oper} {rest : List Oper} {o : Oper} {a : Act} {w : World} {Q : Exit → Act → World → Prop}
theorem wp_ld_drv (x : Operand) (hgd : o.guard = none) (ho : o.op = .load 36 x) (g : Nat) (l : Array Value) (t : TypeId) (hx : a.eval x = .pointer (some ⟨g, 0, none⟩))
    (hb : Box w g t l) (hl : l.size = 3) (hK : wpList Tryz.prog ops Q rest (a.put o.dst (.agg l)) w) : wpList Tryz.prog ops Q (o :: rest) a w :=
  wp_ld _ x hgd ho g _ t _ hx hb Tryz.underlying36 rfl (by rw [hl]; exact drvSize) hK
theorem wp_ld_mac (x : Operand) (hgd : o.guard = none) (ho : o.op = .load 38 x) (g : Nat) (l : Array Value) (t : TypeId) (hx : a.eval x = .pointer (some ⟨g, 0, none⟩))
    (hb : Box w g t l) (hl : l.size = 17) (hK : wpList Tryz.prog ops Q rest (a.put o.dst (.agg l)) w) : wpList Tryz.prog ops Q (o :: rest) a w :=
  wp_ld _ x hgd ho g _ t _ hx hb Tryz.underlying38 rfl (by rw [hl]; exact macSize) hK
end
set_option maxHeartbeats 400000 in
theorem has_any (bA pA : Option Addr) (bn bc pn pc : Nat) (left i : Int) (w : World) :
    Calls Tryz.prog 162 #[.agg #[.slice bA bn bc, .slice pA pn pc, .int .i64 left], .int .i64 i] w fun e w' => e = .returned (.bool (decide (0 ≤ i ∧ i < (bn : Int)))) ∧ Ext w w' := by
  by_cases h0 : 0 ≤ i
  · by_cases h1 : i < (bn : Int)
    · go_enter Tryz.func162, Tryz.ntmps162
      go_wp2_with fail
      go_ret
      exact ⟨ret_bool (by simp [h0, h1]), (Ext.refl w).alloc _⟩
    · have d1 : decide (i < (bn : Int)) = false := by simpa using h1
      go_enter Tryz.func162, Tryz.ntmps162
      go_wp2_with fail
      go_ret
      exact ⟨ret_bool (by simp [h0, h1]), (Ext.refl w).alloc _⟩
  · have d1 : decide (0 ≤ i) = false := by simpa using h0
    go_enter Tryz.func162, Tryz.ntmps162
    go_wp2_with fail
    go_ret
    exact ⟨ret_bool (by simp [h0]), (Ext.refl w).alloc _⟩
theorem formE_take {B : List (List UInt8)} {k : Nat} (hk : k < B.length) (h : formE (B.take k) = 0) (hl : B[k].length = 128) : formE (B.take (k + 1)) = 0 := by
  rw [List.take_succ_eq_append_getElem hk, formE_app, if_neg (by simpa using h)]; simp [formE, hl]
theorem formE_bad {B : List (List UInt8)} {k : Nat} (hk : k < B.length) (h : formE (B.take k) = 0) (hl : B[k].length ≠ 128) : formE B = 3 := by
  have e : B = B.take k ++ (B[k] :: B.drop (k + 1)) := by rw [List.getElem_cons_drop, List.take_append_drop]
  rw [e, formE_app, if_neg (by simpa using h), formE, if_pos hl]
theorem pendE_take {n : Nat} {p : List WrT} {k : Nat} (hk : k < p.length) (h : pendE n (p.take k) = 0) (h0 : 0 ≤ p[k].1) (h1 : p[k].1 < n) (hl : p[k].2.length = 128) : pendE n (p.take (k + 1)) = 0 := by
  rw [List.take_succ_eq_append_getElem hk, pendE_app, if_neg (by simpa using h), pendE, if_neg (by omega), if_neg (by simpa using hl)]; rfl
theorem pendE_at {n : Nat} {p : List WrT} {k : Nat} (hk : k < p.length) (h : pendE n (p.take k) = 0) : pendE n p = pendE n (p[k] :: p.drop (k + 1)) := by
  have e : p = p.take k ++ (p[k] :: p.drop (k + 1)) := by rw [List.getElem_cons_drop, List.take_append_drop]
  conv => lhs; rw [e]
  rw [pendE_app, if_neg (by simpa using h)]
set_option maxHeartbeats 1000000 in
set_option maxRecDepth 100000 in
theorem dcheck_any (bA pA : Option Addr) (bn bc pn pc : Nat) (left : Int) (B : List (List UInt8)) (p : List WrT) (w : World) (hb : Strs w bA bn B) (hp : Wrs w pA pn p) (hpn : pn ≤ 9223372036854775807) :
    Calls Tryz.prog 93 #[.agg #[.slice bA bn bc, .slice pA pn pc, .int .i64 left]] w fun e w' => e = .returned (.int .i64 (drvE B p)) ∧ Ext w w' := by
  obtain ⟨rfl, hb2⟩ := hb
  obtain ⟨rfl, hp2⟩ := hp
  have hz := str_size
  by_cases h256 : 256 < B.length
  · go_enter Tryz.func93, Tryz.ntmps93
    go_wp2_with fail
    go_ret
    exact ⟨ret_int (by unfold drvE; rw [if_pos h256]), (Ext.refl w).alloc _⟩
  have HD := Lib.hid (show drvE B p = if formE B ≠ 0 then 3 else pendE B.length p by unfold drvE; rw [if_neg h256])
  go_enter Tryz.func93, Tryz.ntmps93
  go_wp2_with fail
  generalize hw1 : w.alloc _ = w1
  have x1 : Ext w w1 := by rw [← hw1]; exact (Ext.refl _).alloc _
  have b1 : Box w1 w.heap.size 36 #[.slice bA B.length bc, .slice pA p.length pc, .int .i64 left] := by rw [← hw1]; exact Box.new _ _ _
  clear hw1
  have q1 := b1.cell 1
  go_loop [4, 14] (fun _ i => ∃ k : Nat, k ≤ B.length ∧ i = .int .i64 k ∧ formE (B.take k) = 0) (fun _ i => B.length - (intOf i).toNat)
  case atStart => exact ⟨0, by omega, rfl, rfl⟩
  case round =>
    obtain ⟨k, hk, rfl, hf⟩ := hrel
    have HF := Lib.hid hf
    clear hf
    by_cases hlt : k < B.length
    · obtain ⟨b, o, rfl, hcell⟩ := hb2 (by omega)
      have c1 := x1.keep (hcell k hlt)
      clear hcell
      by_cases hl : B[k].length = 128
      · have HN := Lib.hid (formE_take hlt HF.out hl)
        have hl' : ((B[k].length : Int) != 128) = false := by rw [hl]; rfl
        generalize B[k] = s at *
        go_wp2_with fail
        go_round
        case rel => exact ⟨k + 1, by omega, by go_num, HN.out⟩
        case measure => simp [intOf]; omega
      · have HN := Lib.hid (formE_bad hlt HF.out hl)
        have hl' : ((B[k].length : Int) != 128) = true := by simp; omega
        generalize B[k] = s at *
        go_wp2_with fail
        go_ret
        exact ⟨ret_int (by rw [HD.out, HN.out]; rfl), x1⟩
    · obtain rfl : k = B.length := by omega
      have HF2 := Lib.hid (show drvE B p = pendE B.length p by rw [HD.out]; have := HF.out; rw [List.take_length] at this; rw [if_neg (by simpa using this)])
      clear HF HD
      go_wp2_with fail
      go_loopw [6, 25] (fun _ i wx => ∃ k : Nat, k ≤ p.length ∧ i = .int .i64 k ∧ pendE B.length (p.take k) = 0 ∧ Ext w1 wx) (fun _ i _ => p.length - (intOf i).toNat)
      case atStart => exact ⟨0, by omega, rfl, rfl, Ext.refl _⟩
      case round =>
        obtain ⟨k, hk, rfl, hf, hx⟩ := hrel
        have HF := Lib.hid hf
        clear hf
        have bx := b1.ext hx
        by_cases hlt : k < p.length
        · obtain ⟨b, o, rfl, hcell⟩ := hp2 (by omega)
          have c1 := (x1.trans hx).keep (hcell k hlt).1
          have c2 := (x1.trans hx).keep (hcell k hlt).2
          clear hcell
          have HA := Lib.hid (pendE_at (n := B.length) hlt HF.out)
          have HT := Lib.hid (pendE_take (n := B.length) hlt HF.out)
          clear HF
          generalize p[k] = s at *
          by_cases hin : 0 ≤ s.1 ∧ s.1 < (B.length : Int)
          · have din : decide (0 ≤ s.1 ∧ s.1 < (B.length : Int)) = true := decide_eq_true hin
            by_cases hl : s.2.length = 128
            · have HN := Lib.hid (HT.out hin.1 hin.2 hl)
              have hl' : ((s.2.length : Int) != 128) = false := by rw [hl]; rfl
              clear hin
              go_wp2_with (first
                | (refine wp_ld_drv (.tmp 1) rfl rfl w.heap.size _ 36 rfl (bx.ext ((Ext.refl _).alloc _)) rfl ?_)
                | (go_at_call 162; refine (has_any _ _ _ _ _ _ _ _ _).mono ?_; rintro e w2 ⟨rfl, x2⟩; rw [din]; have y2 := (Box.new wr 92 #[.int .i64 s.1, .string (str s.2)]).ext x2; have y20 := y2.cell 1))
              go_roundw
              case rel => exact ⟨k + 1, by omega, by go_num, HN.out, hx.trans (((Ext.refl _).alloc _).trans x2)⟩
              case measure => simp [intOf]; omega
            · have HN := Lib.hid (show drvE B p = 3 by rw [HF2.out, HA.out, pendE, if_neg (by omega), if_pos hl])
              have hl' : ((s.2.length : Int) != 128) = true := by simp; omega
              clear hin
              go_wp2_with (first
                | (refine wp_ld_drv (.tmp 1) rfl rfl w.heap.size _ 36 rfl (bx.ext ((Ext.refl _).alloc _)) rfl ?_)
                | (go_at_call 162; refine (has_any _ _ _ _ _ _ _ _ _).mono ?_; rintro e w2 ⟨rfl, x2⟩; rw [din]; have y2 := (Box.new wr 92 #[.int .i64 s.1, .string (str s.2)]).ext x2; have y20 := y2.cell 1))
              go_ret
              exact ⟨ret_int HN.out.symm, x1.trans (hx.trans (((Ext.refl _).alloc _).trans x2))⟩
          · have din : decide (0 ≤ s.1 ∧ s.1 < (B.length : Int)) = false := decide_eq_false hin
            have HN := Lib.hid (show drvE B p = 2 by rw [HF2.out, HA.out, pendE, if_pos (by omega)])
            clear hin
            go_wp2_with (first
              | (refine wp_ld_drv (.tmp 1) rfl rfl w.heap.size _ 36 rfl (bx.ext ((Ext.refl _).alloc _)) rfl ?_)
              | (go_at_call 162; refine (has_any _ _ _ _ _ _ _ _ _).mono ?_; rintro e w2 ⟨rfl, x2⟩; rw [din]; have y2 := (Box.new wr 92 #[.int .i64 s.1, .string (str s.2)]).ext x2; have y20 := y2.cell 1))
            go_ret
            exact ⟨ret_int HN.out.symm, x1.trans (hx.trans (((Ext.refl _).alloc _).trans x2))⟩
        · obtain rfl : k = p.length := by omega
          have HN := Lib.hid (show drvE B p = 0 by rw [HF2.out]; have := HF.out; rw [List.take_length] at this; exact this)
          clear HF
          go_wp2_with fail
          go_ret
          exact ⟨ret_int HN.out.symm, x1.trans hx⟩
set_option maxHeartbeats 1000000 in
set_option maxRecDepth 100000 in
theorem jrn_any (bA pA : Option Addr) (bn bc pn pc : Nat) (left : Int) (B : List (List UInt8)) (p : List WrT) (w : World) (hb : Strs w bA bn B) (hp : Wrs w pA pn p) (hpn : pn ≤ 9223372036854775807) :
    Calls Tryz.prog 95 #[.agg #[.slice bA bn bc, .slice pA pn pc, .int .i64 left]] w fun e w' => e = .returned (.int .i64 (jrnE B p)) ∧ Ext w w' := by
  have HC := Lib.hid (fun w h1 h2 => dcheck_any bA pA bn bc pn pc left B p w h1 h2 hpn)
  obtain rfl := hb.1
  have xa := (Ext.refl w).alloc (.cells #[.slice bA B.length bc, .slice pA pn pc, .int .i64 left] 36)
  have hs := hb.ext xa
  have hw := hp.ext xa
  by_cases hd : drvE B p = 0
  · rw [hd] at HC
    by_cases h33 : B.length ≤ 33
    · have HN := Lib.hid (show jrnE B p = 2 by unfold jrnE; rw [if_neg (by simpa using hd), if_pos h33])
      go_enter Tryz.func95, Tryz.ntmps95
      go_wp2_with (go_at_call 93; refine (HC.out _ hs hw).mono ?_; rintro e w1 ⟨rfl, x1⟩; have q0 := ((Box.new w 36 #[.slice bA B.length bc, .slice pA pn pc, .int .i64 left]).ext x1).cell 0)
      go_ret
      exact ⟨ret_int HN.out.symm, xa.trans x1⟩
    · have HN := Lib.hid (show jrnE B p = 0 by unfold jrnE; rw [if_neg (by simpa using hd), if_neg h33])
      go_enter Tryz.func95, Tryz.ntmps95
      go_wp2_with (go_at_call 93; refine (HC.out _ hs hw).mono ?_; rintro e w1 ⟨rfl, x1⟩; have q0 := ((Box.new w 36 #[.slice bA B.length bc, .slice pA pn pc, .int .i64 left]).ext x1).cell 0)
      go_ret
      exact ⟨ret_int HN.out.symm, xa.trans x1⟩
  · have HN := Lib.hid (show jrnE B p = drvE B p by unfold jrnE; rw [if_pos hd])
    have d1 : (drvE B p != 0) = true := by simpa using hd
    clear hd
    generalize drvE B p = dd at *
    go_enter Tryz.func95, Tryz.ntmps95
    go_wp2_with (go_at_call 93; refine (HC.out _ hs hw).mono ?_; rintro e w1 ⟨rfl, x1⟩)
    go_ret
    exact ⟨ret_int HN.out.symm, xa.trans x1⟩
end Go.Proofs.YtfaplefkakpgcaaGreatDoor
/- The document's drives: Check, bad, Get, Home. -/
namespace Go.Proofs.YtfaplefkakpgcaaGreatDoor
set_option linter.unusedVariables false
set_option linter.unusedSimpArgs false
open Go.RowKit
set_option maxHeartbeats 2000000 in
set_option maxRecDepth 100000 in
theorem rdcheck_any (bA pA : Option Addr) (bn bc pn pc : Nat) (left : Int) (B : List (List UInt8)) (p : List WrT) (w : World) (hb : Strs w bA bn B) (hp : Wrs w pA pn p) (hpn : pn ≤ 9223372036854775807) :
    Calls Tryz.prog 98 #[.agg #[.slice bA bn bc, .slice pA pn pc, .int .i64 left]] w fun e w' => e = .returned (.int .i64 (drvE B p)) ∧ Ext w w' := by
  obtain ⟨rfl, hb2⟩ := hb
  obtain ⟨rfl, hp2⟩ := hp
  have hz := str_size
  by_cases h256 : 256 < B.length
  · go_enter Tryz.func98, Tryz.ntmps98
    go_wp2_with fail
    go_ret
    exact ⟨ret_int (by unfold drvE; rw [if_pos h256]), (Ext.refl w).alloc _⟩
  have HD := Lib.hid (show drvE B p = if formE B ≠ 0 then 3 else pendE B.length p by unfold drvE; rw [if_neg h256])
  go_enter Tryz.func98, Tryz.ntmps98
  go_wp2_with fail
  generalize hw1 : w.alloc _ = w1
  have x1 : Ext w w1 := by rw [← hw1]; exact (Ext.refl _).alloc _
  have b1 : Box w1 w.heap.size 36 #[.slice bA B.length bc, .slice pA p.length pc, .int .i64 left] := by rw [← hw1]; exact Box.new _ _ _
  clear hw1
  go_loop [3] (fun i => ∃ k : Nat, k ≤ B.length ∧ i = .int .i64 k ∧ formE (B.take k) = 0) (fun i => B.length - (intOf i).toNat)
  case atStart => exact ⟨0, by omega, rfl, rfl⟩
  case round =>
    obtain ⟨k, hk, rfl, hf⟩ := hrel
    have HF := Lib.hid hf
    clear hf
    have q0 := b1.cell 0
    have q1 := b1.cell 1
    by_cases hlt : k < B.length
    · obtain ⟨b, o, rfl, hcell⟩ := hb2 (by omega)
      have c1 := x1.keep (hcell k hlt)
      clear hcell
      by_cases hl : B[k].length = 128
      · have HN := Lib.hid (formE_take hlt HF.out hl)
        have hl' : ((B[k].length : Int) != 128) = false := by rw [hl]; rfl
        generalize B[k] = s at *
        go_wp2_with fail
        go_round
        case rel => exact ⟨k + 1, by omega, by go_num, HN.out⟩
        case measure => simp [intOf]; omega
      · have HN := Lib.hid (formE_bad hlt HF.out hl)
        have hl' : ((B[k].length : Int) != 128) = true := by simp; omega
        generalize B[k] = s at *
        go_wp2_with fail
        go_ret
        exact ⟨ret_int (by rw [HD.out, HN.out]; rfl), x1⟩
    · obtain rfl : k = B.length := by omega
      have HF2 := Lib.hid (show drvE B p = pendE B.length p by rw [HD.out]; have := HF.out; rw [List.take_length] at this; rw [if_neg (by simpa using this)])
      clear HF HD
      go_wp2_with fail
      go_loopw [4] (fun i wx => ∃ k : Nat, k ≤ p.length ∧ i = .int .i64 k ∧ pendE B.length (p.take k) = 0 ∧ Ext w1 wx) (fun i _ => p.length - (intOf i).toNat)
      case atStart => exact ⟨0, by omega, rfl, rfl, Ext.refl _⟩
      case round =>
        obtain ⟨k, hk, rfl, hf, hx⟩ := hrel
        have HF := Lib.hid hf
        clear hf
        have bx := b1.ext hx
        have r0 := bx.cell 0
        have r1 := bx.cell 1
        clear q0 q1 bx
        by_cases hlt : k < p.length
        · obtain ⟨b, o, rfl, hcell⟩ := hp2 (by omega)
          have c1 := (x1.trans hx).keep (hcell k hlt).1
          have c2 := (x1.trans hx).keep (hcell k hlt).2
          clear hcell
          have HA := Lib.hid (pendE_at (n := B.length) hlt HF.out)
          have HT := Lib.hid (pendE_take (n := B.length) hlt HF.out)
          clear HF
          have hki : (k : Int) < (p.length : Int) := by omega
          generalize p[k] = s at *
          by_cases h0 : s.1 < 0
          · have d0 : decide (s.1 < 0) = true := decide_eq_true h0
            have HN := Lib.hid (show drvE B p = 2 by rw [HF2.out, HA.out, pendE, if_pos (by omega)])
            go_wp2_with fail
            go_quiet (fail)
            go_wp2_with fail
            go_ret
            exact ⟨ret_int HN.out.symm, x1.trans (hx.drewN _)⟩
          · have d0 : decide (s.1 < 0) = false := decide_eq_false h0
            by_cases h1 : (B.length : Int) ≤ s.1
            · have d1 : decide ((B.length : Int) ≤ s.1) = true := decide_eq_true h1
              have HN := Lib.hid (show drvE B p = 2 by rw [HF2.out, HA.out, pendE, if_pos (by omega)])
              go_wp2_with fail
              go_quiet (fail)
              go_wp2_with fail
              go_ret
              exact ⟨ret_int HN.out.symm, x1.trans (hx.drewN _)⟩
            · have d1 : decide ((B.length : Int) ≤ s.1) = false := decide_eq_false h1
              by_cases hl : s.2.length = 128
              · have HN := Lib.hid (HT.out (by omega) (by omega) hl)
                have hl' : ((s.2.length : Int) != 128) = false := by rw [hl]; rfl
                go_wp2_with fail
                go_quiet (fail)
                go_wp2_with fail
                go_roundw
                case rel => exact ⟨k + 1, by omega, by go_num, HN.out, hx.drewN _⟩
                case measure => simp [intOf]; omega
              · have HN := Lib.hid (show drvE B p = 3 by rw [HF2.out, HA.out, pendE, if_neg (by omega), if_pos hl])
                have hl' : ((s.2.length : Int) != 128) = true := by simp; omega
                go_wp2_with fail
                go_quiet (fail)
                go_wp2_with fail
                go_ret
                exact ⟨ret_int HN.out.symm, x1.trans (hx.drewN _)⟩
        · obtain rfl : k = p.length := by omega
          have HN := Lib.hid (show drvE B p = 0 by rw [HF2.out]; have := HF.out; rw [List.take_length] at this; exact this)
          clear HF
          go_wp2_with fail
          go_ret
          exact ⟨ret_int HN.out.symm, x1.trans hx⟩
set_option maxHeartbeats 1000000 in
set_option maxRecDepth 100000 in
theorem rbad_any (bA pA : Option Addr) (bn bc pn pc : Nat) (left : Int) (B : List (List UInt8)) (p : List WrT) (w : World) (hb : Strs w bA bn B) (hp : Wrs w pA pn p) (hpn : pn ≤ 9223372036854775807) :
    Calls Tryz.prog 143 #[.agg #[.slice bA bn bc, .slice pA pn pc, .int .i64 left]] w fun e w' => e = .returned (.int .i64 (jrnE B p)) ∧ Ext w w' := by
  have HC := Lib.hid (fun w h1 h2 => rdcheck_any bA pA bn bc pn pc left B p w h1 h2 hpn)
  obtain rfl := hb.1
  have xa := (Ext.refl w).alloc (.cells #[.slice bA B.length bc, .slice pA pn pc, .int .i64 left] 36)
  have hs := hb.ext xa
  have hw := hp.ext xa
  by_cases hd : drvE B p = 0
  · rw [hd] at HC
    by_cases h33 : B.length ≤ 33
    · have HN := Lib.hid (show jrnE B p = 2 by unfold jrnE; rw [if_neg (by simpa using hd), if_pos h33])
      go_enter Tryz.func143, Tryz.ntmps143
      go_wp2_with (go_at_call 98; refine (HC.out _ hs hw).mono ?_; rintro e w1 ⟨rfl, x1⟩; have q0 := ((Box.new w 36 #[.slice bA B.length bc, .slice pA pn pc, .int .i64 left]).ext x1).cell 0)
      go_ret
      exact ⟨ret_int HN.out.symm, xa.trans x1⟩
    · have HN := Lib.hid (show jrnE B p = 0 by unfold jrnE; rw [if_neg (by simpa using hd), if_neg h33])
      go_enter Tryz.func143, Tryz.ntmps143
      go_wp2_with (go_at_call 98; refine (HC.out _ hs hw).mono ?_; rintro e w1 ⟨rfl, x1⟩; have q0 := ((Box.new w 36 #[.slice bA B.length bc, .slice pA pn pc, .int .i64 left]).ext x1).cell 0)
      go_ret
      exact ⟨ret_int HN.out.symm, xa.trans x1⟩
  · have HN := Lib.hid (show jrnE B p = drvE B p by unfold jrnE; rw [if_pos hd])
    have d1 : (drvE B p != 0) = true := by simpa using hd
    clear hd
    generalize drvE B p = dd at *
    go_enter Tryz.func143, Tryz.ntmps143
    go_wp2_with (go_at_call 98; refine (HC.out _ hs hw).mono ?_; rintro e w1 ⟨rfl, x1⟩)
    go_ret
    exact ⟨ret_int HN.out.symm, xa.trans x1⟩
end Go.Proofs.YtfaplefkakpgcaaGreatDoor
/- The document's drives: Get, Home. -/
namespace Go.Proofs.YtfaplefkakpgcaaGreatDoor
set_option linter.unusedVariables false
set_option linter.unusedSimpArgs false
open Go.RowKit
theorem getP_take {p : List WrT} {k : Nat} (hk : k < p.length) (i : Int) (s : List UInt8) : getP (p.take (k + 1)) i s = if p[k].1 = i then p[k].2 else getP (p.take k) i s := by
  unfold getP
  rw [List.take_succ_eq_append_getElem hk, List.foldl_append]; rfl
set_option maxHeartbeats 1000000 in
set_option maxRecDepth 100000 in
theorem rget15_any (bA pA : Option Addr) (bn bc pn pc j : Nat) (left : Int) (B : List (List UInt8)) (p : List WrT) (w : World) (hb : Strs w bA bn B) (hp : Wrs w pA pn p) (hpn : pn ≤ 9223372036854775807) (hj : j < B.length) :
    Calls Tryz.prog 144 #[.agg #[.slice bA bn bc, .slice pA pn pc, .int .i64 left], .int .i64 (j : Int)] w fun e w' => e = .returned (.tuple #[.string (str (getP p j (B.getD j []))), .int .i64 0]) ∧ Ext w w' := by
  obtain ⟨rfl, hb2⟩ := hb
  obtain ⟨rfl, hp2⟩ := hp
  obtain ⟨b, o, rfl, hcell⟩ := hb2 (by omega)
  have c1 := ((Ext.refl w).alloc (.cells #[.slice (some ⟨b, o, none⟩) B.length bc, .slice pA p.length pc, .int .i64 left] 36)).keep (hcell j hj)
  rw [show B[j] = B.getD j [] by rw [List.getD_eq_getElem?_getD, List.getElem?_eq_getElem hj]; rfl] at c1
  clear hcell hb2
  have hji : (j : Int) < (B.length : Int) := by omega
  have d1 : decide ((j : Int) < 0) = false := by simp
  have d2 : decide ((B.length : Int) ≤ (j : Int)) = false := by simp; omega
  generalize B.getD j [] = s at *
  go_enter Tryz.func144, Tryz.ntmps144
  go_wp2_with fail
  generalize hw1 : w.alloc _ = w1 at *
  have x1 : Ext w w1 := by rw [← hw1]; exact (Ext.refl _).alloc _
  have b1 : Box w1 w.heap.size 36 #[.slice (some ⟨b, o, none⟩) B.length bc, .slice pA p.length pc, .int .i64 left] := by rw [← hw1]; exact Box.new _ _ _
  clear hw1 c1
  go_loop [6, 7] (fun t i => ∃ k : Nat, k ≤ p.length ∧ i = .int .i64 k ∧ t = .string (str (getP (p.take k) j s))) (fun _ i => p.length - (intOf i).toNat)
  case atStart => exact ⟨0, by omega, rfl, rfl⟩
  case round =>
    obtain ⟨k, hk, rfl, rfl⟩ := hrel
    have q1 := b1.cell 1
    by_cases hlt : k < p.length
    · obtain ⟨b, o, rfl, hcell⟩ := hp2 (by omega)
      have c1 := x1.keep (hcell k hlt).1
      have c2 := x1.keep (hcell k hlt).2
      have HT := Lib.hid (getP_take hlt (j : Int) s)
      clear hcell
      have hki : (k : Int) < (p.length : Int) := by omega
      generalize p[k] = y at *
      generalize getP (p.take k) (↑j) s = s1 at *
      by_cases he : y.1 = (j : Int)
      · have de : (y.1 == (j : Int)) = true := by simpa using he
        have HN := Lib.hid (HT.out.trans (if_pos he))
        clear HT he
        go_wp2_with fail
        go_round
        case rel => exact ⟨k + 1, by omega, by go_num, by rw [HN.out]⟩
        case measure => simp [intOf]; omega
      · have de : (y.1 == (j : Int)) = false := by simpa using he
        have HN := Lib.hid (HT.out.trans (if_neg he))
        clear HT he
        go_wp2_with fail
        go_round
        case rel => exact ⟨k + 1, by omega, by go_num, by rw [HN.out]⟩
        case measure => simp [intOf]; omega
    · obtain rfl : k = p.length := by omega
      rw [List.take_length]
      obtain ⟨s1, hs1⟩ : ∃ s1, s1 = getP p (↑j) s := ⟨_, rfl⟩
      rw [← hs1]
      have HS := Lib.hid hs1
      clear hs1
      go_wp2_with fail
      go_ret2
      rw [HS.out]
      exact ⟨rfl, x1⟩
theorem homeP_at {B : List (List UInt8)} {p : List WrT} (h : jrnE B p = 0) {k : Nat} (hk : k < B.length - 33) : (homeP B p).take (k + 1) = (homeP B p).take k ++ [getP p (33 + k : Nat) (B.getD (33 + k) [])] := by
  have hl := homeP_len h
  rw [List.take_succ_eq_append_getElem (by omega)]
  congr 2
  have : (homeP B p)[k]? = some (getP p (33 + k : Nat) (B.getD (33 + k) [])) := by rw [homeP_get h, List.getElem?_map, List.getElem?_range hk]; rfl
  rw [List.getElem?_eq_getElem (by omega)] at this
  exact Option.some.inj this
theorem strs_one (w : World) (s : List UInt8) : Strs (w.alloc (.cells #[.string (str s)] 9)) (some ⟨w.heap.size, 0, none⟩) 1 [s] := by
  refine ⟨rfl, fun _ => ⟨_, _, rfl, fun j hj => ?_⟩⟩
  have hj' : j < 1 := hj
  obtain rfl : j = 0 := by omega
  exact (Box.new w 9 #[.string (str s)]).cell 0
set_option maxHeartbeats 2000000 in
set_option maxRecDepth 100000 in
theorem rhome_any (bA pA : Option Addr) (bn bc pn pc : Nat) (left : Int) (B : List (List UInt8)) (p : List WrT) (w : World) (hb : Strs w bA bn B) (hp : Wrs w pA pn p) (hpn : pn ≤ 9223372036854775807) :
    Calls Tryz.prog 72 #[.agg #[.slice bA bn bc, .slice pA pn pc, .int .i64 left]] w fun e w' => ∃ A c, e = .returned (.slice A (homeP B p).length c) ∧ Ext w w' ∧ w'.ownsRow w.heap.size 9 1 (.slice A (homeP B p).length c) (homeP B p).length (strL (homeP B p)) := by
  have HC := Lib.hid (fun w h1 h2 => rbad_any bA pA bn bc pn pc left B p w h1 h2 hpn)
  have HG := Lib.hid (fun w j h1 h2 h3 => rget15_any bA pA bn bc pn pc j left B p w h1 h2 hpn h3)
  obtain rfl := hb.1
  have xa := ((Ext.refl w).alloc (.cells #[.slice bA B.length bc, .slice pA pn pc, .int .i64 left] 36)).alloc (.cells #[] 9)
  have oa : ((w.alloc (.cells #[.slice bA B.length bc, .slice pA pn pc, .int .i64 left] 36)).alloc (.cells #[] 9)).ownsRow w.heap.size 9 1 (.slice (some ⟨w.heap.size + 1, 0, none⟩) 0 0) 0 (strL []) := by
    have := World.ownsRow_lit (base := w.heap.size) (e := 9) (size := 1) (w.alloc (.cells #[.slice bA B.length bc, .slice pA pn pc, .int .i64 left] 36)) #[] 0 (by simp) (by decide) rfl
    rw [World.size_alloc] at this
    exact this
  have ba := (Box.new w 36 #[.slice bA B.length bc, .slice pA pn pc, .int .i64 left]).ext ((Ext.refl _).alloc (.cells #[] 9))
  have hs := hb.ext xa
  have hw := hp.ext xa
  by_cases hd : jrnE B p = 0
  · rw [hd] at HC
    have hl := Lib.hid (homeP_len hd)
    have hok := drvOk_of hd
    have HT := Lib.hid (fun k hk => homeP_at hd (k := k) hk)
    have h33 := hok.least
    have h256 := hok.most
    clear hok hd
    go_enter Tryz.func72, Tryz.ntmps72
    go_wp2_with (go_at_call 143; refine (HC.out _ hs hw).mono ?_; rintro e w1 ⟨rfl, x1⟩)
    have o1 := own_ext oa x1
    have b1 := ba.ext x1
    have xw1 := xa.trans x1
    clear oa ba hs hw xa x1
    go_loopw [3, 4, 5, 6] (fun u i _ _ wx => ∃ k : Nat, k ≤ B.length - 33 ∧ i = .int .i64 ((33 + k : Nat) : Int) ∧ Ext w wx ∧ wx.ownsRow w.heap.size 9 1 u k (strL ((homeP B p).take k)) ∧ Box wx w.heap.size 36 #[.slice bA B.length bc, .slice pA pn pc, .int .i64 left]) (fun _ i _ _ _ => B.length - (intOf i).toNat)
    case atStart => exact ⟨0, by omega, rfl, xw1, o1, b1⟩
    case round =>
      obtain ⟨k, hk, rfl, xk, ok, bk⟩ := hrel
      have q0 := bk.cell 0
      have hxs := xk.size
      by_cases hlt : k < B.length - 33
      · have hlt2 : ((33 + k : Nat) : Int) < (B.length : Int) := by omega
        have HN := Lib.hid (HT.out k hlt)
        have nk := own_ne ok bk (by decide)
        go_wp2_with (first
          | (refine wp_ld_drv (.tmp 1) rfl rfl w.heap.size _ 36 rfl bk rfl ?_)
          | (go_at_call 144; refine (HG.out _ (33 + k) (hb.ext xk) (hp.ext xk) (by omega)).mono ?_; rintro e w2 ⟨rfl, x2⟩; generalize getP p (((33 + k : Nat)) : Int) (B.getD (33 + k) []) = s at *; have hok := own_ext (own_ext ok x2) ((Ext.refl w2).alloc (.cells #[.string (str s)] 9)); have hst := strs_one w2 s; have hsz : w.heap.size ≤ (w2.alloc (.cells #[.string (str s)] 9)).heap.size := by (have := x2.size; simp; omega))
          | (at_builtin; refine wp_app_strs w.heap.size rfl _ _ rfl rfl rfl hok hst (by omega) hsz (by omega) ?_; intro u' w4 own4 g4))
        have x4 : Ext w w4 := ((xk.trans x2).alloc _).grown g4 (fun j e => own_low ok e)
        go_roundw
        case rel => exact ⟨k + 1, by omega, by go_num, x4, by rw [HN.out]; exact own4, ((bk.ext x2).ext ((Ext.refl w2).alloc _)).grown g4 nk⟩
        case measure => simp [intOf]; omega
      · obtain rfl : k = B.length - 33 := by omega
        obtain ⟨g, cap, rfl, hgW, _⟩ := Strs.own' ok (by omega)
        rw [← hl.out, List.take_length] at ok
        have hl2 : ¬ (((33 + (B.length - 33) : Nat) : Int) < (B.length : Int)) := by omega
        rw [← hl.out]
        rw [← hl.out] at hl2
        obtain ⟨h, hh⟩ : ∃ h, h = homeP B p := ⟨_, rfl⟩
        rw [← hh] at hl2 ok ⊢
        have HH := Lib.hid hh
        clear hh
        have hl2' : decide ((((33 + h.length : Nat)) : Int) < (B.length : Int)) = false := by simpa using hl2
        go_wp2_with fail
        go_ret
        rw [← HH.out]
        exact ⟨_, _, rfl, xk, ok⟩
  · have HE := Lib.hid (show homeP B p = [] by unfold homeP; rw [if_pos hd])
    have d1 : (jrnE B p != 0) = true := by simpa using hd
    clear hd
    generalize jrnE B p = dd at *
    go_enter Tryz.func72, Tryz.ntmps72
    go_wp2_with (go_at_call 143; refine (HC.out _ hs hw).mono ?_; rintro e w1 ⟨rfl, x1⟩)
    go_ret
    rw [HE.out]
    exact ⟨_, _, rfl, xa.trans x1, own_ext oa x1⟩
end Go.Proofs.YtfaplefkakpgcaaGreatDoor
/- The volume: wal.Home, cache.View. -/
namespace Go.Proofs.YtfaplefkakpgcaaGreatDoor
set_option linter.unusedVariables false
set_option linter.unusedSimpArgs false
open Go.RowKit
theorem strs_drop {w : World} {b o n m : Nat} {B : List (List UInt8)} (h : Strs w (some ⟨b, o, none⟩) n B) (hm : m < n) : Strs w (some ⟨b, o + m, none⟩) (n - m) (B.drop m) := by
  obtain ⟨rfl, h2⟩ := h
  obtain ⟨b', o', e, hc⟩ := h2 (by omega)
  injection e with e
  injection e with e1 e2
  subst e1; subst e2
  refine ⟨by simp, fun _ => ⟨_, _, rfl, fun j hj => ?_⟩⟩
  rw [List.length_drop] at hj
  rw [List.getElem_drop, Nat.add_assoc]
  exact hc (m + j) (by omega)
theorem own_set {w : World} {base n g cap i : Nat} {v : List (List UInt8)} (h : w.ownsRow base 9 1 (.slice (some ⟨g, 0, none⟩) n cap) n (strL v)) (r : List UInt8) : (w.setCell ⟨g, i, none⟩ (.string (str r))).ownsRow base 9 1 (.slice (some ⟨g, 0, none⟩) n cap) n (strL (v.set i r)) := by
  rw [show strL (v.set i r) = (strL v).set i (.string (str r)) by simp [strL, List.map_set]]
  exact (h.stored i (.string (str r))).1
set_option maxHeartbeats 2000000 in
set_option maxRecDepth 100000 in
theorem home_any (bA pA : Option Addr) (bn bc pn pc : Nat) (left : Int) (B : List (List UInt8)) (p : List WrT) (w : World) (hb : Strs w bA bn B) (hp : Wrs w pA pn p) (hpn : pn ≤ 9223372036854775807) (hbc : bn ≤ bc) :
    Calls Tryz.prog 50 #[.agg #[.slice bA bn bc, .slice pA pn pc, .int .i64 left]] w fun e w' => ∃ A c, e = .returned (.slice A (homeP B p).length c) ∧ Ext w w' ∧ w'.ownsRow w.heap.size 9 1 (.slice A (homeP B p).length c) (homeP B p).length (strL (homeP B p)) := by
  have HC := Lib.hid (fun w h1 h2 => jrn_any bA pA bn bc pn pc left B p w h1 h2 hpn)
  obtain rfl := hb.1
  have xa := (Ext.refl w).alloc (.cells #[.slice bA B.length bc, .slice pA pn pc, .int .i64 left] 36)
  have ba := Box.new w 36 #[.slice bA B.length bc, .slice pA pn pc, .int .i64 left]
  have hs := hb.ext xa
  have hw := hp.ext xa
  by_cases hd : jrnE B p = 0
  · rw [hd] at HC
    have hl := homeP_len hd
    have hok := drvOk_of hd
    have HE := Lib.hid (show homeP B p = p.foldl putP (B.drop 33) by unfold homeP; rw [if_neg (by simpa using hd)])
    have h33 := hok.least
    have h256 := hok.most
    have HP := Lib.hid hok.pend
    clear hok hd
    obtain ⟨b, o, rfl, _⟩ := hb.2 (by omega)
    have hd33 := strs_drop (m := 33) hs (by omega)
    obtain ⟨rfl, hp2⟩ := hp
    go_enter Tryz.func50, Tryz.ntmps50
    go_wp2_with (first
      | (go_at_call 95; refine (HC.out _ hs hw).mono ?_; rintro e w1 ⟨rfl, x1⟩; have b1 := ba.ext x1; have q0 := b1.cell 0; have q1 := b1.cell 1; have s1 := hd33.ext x1; have hsz : w.heap.size ≤ w1.heap.size := (xa.trans x1).size)
      | (at_builtin; refine wp_app_nil w.heap.size rfl _ _ rfl rfl rfl s1 (by omega) hsz (by omega) ?_; intro u' w2 own2 x2; have q2 := (b1.ext x2).cell 1; obtain ⟨g, cap, rfl, hg, _⟩ := Strs.own' own2 (by omega)))
    have xw2 := xa.trans (x1.trans x2)
    clear q0 q1 q2 s1 hd33 hs hw x1 x2 b1 ba xa
    rw [← hl]
    rw [← hl] at own2
    have hb' : 0 < (homeP B p).length := by omega
    have hL := Lib.hid hl
    generalize hN : (homeP B p).length = N at *
    have HNN := Lib.hid hN
    clear hl hN
    go_loopw [5, 16] (fun _ i wx => ∃ k : Nat, k ≤ p.length ∧ i = .int .i64 k ∧ Ext w wx ∧ wx.ownsRow w.heap.size 9 1 (.slice (some ⟨g, 0, none⟩) N cap) N (strL ((p.take k).foldl putP (B.drop 33)))) (fun _ i _ => p.length - (intOf i).toNat)
    case atStart => exact ⟨0, by omega, rfl, xw2, own2⟩
    case round =>
      obtain ⟨k, hk, rfl, xk, ok⟩ := hrel
      by_cases hlt : k < p.length
      · obtain ⟨b2, o2, rfl, hcell⟩ := hp2 (by omega)
        have c1 := xk.keep (hcell k hlt).1
        have c2 := xk.keep (hcell k hlt).2
        have HT := Lib.hid (show (p.take (k + 1)).foldl putP (B.drop 33) = putP ((p.take k).foldl putP (B.drop 33)) p[k] by rw [List.take_succ_eq_append_getElem hlt, List.foldl_append]; rfl)
        have hy := HP.out p[k] (List.getElem_mem _)
        clear hcell
        have hki : (k : Int) < (p.length : Int) := by omega
        generalize p[k] = y at *
        generalize (p.take k).foldl putP (B.drop 33) = V at *
        have okA := own_ext ok ((Ext.refl wr).alloc (.cells #[.int .i64 y.1, .string (str y.2)] 92))
        have hV : V.length = N := by have := ok.1; simpa [strL] using this
        by_cases h3 : 33 ≤ y.1
        · obtain ⟨q, hq⟩ : ∃ q : Nat, y.1 - 33 = q := ⟨(y.1 - 33).toNat, by omega⟩
          have hL2 := hL.out
          have HY := Lib.hid (show putP V y = V.set q y.2 by unfold putP; rw [if_pos h3, hq]; rfl)
          have hqN : q < N := by omega
          have kc : (wr.alloc (.cells #[.int .i64 y.1, .string (str y.2)] 92)).cell? ⟨g, q, none⟩ = some (.string (str (V.getD q []))) := (okA.cellAt q (by omega)).trans (by simp [strL, hV, hqN, List.getD_eq_getElem?_getD])
          have kf := okA.frozenAt q
          have wq : IntKind.i64.wrap (y.1 - 33) = (q : Int) := by rw [IntKind.wrap_i64]; omega
          have d3 : decide (33 ≤ y.1) = true := decide_eq_true h3
          have hqi : (q : Int) < (N : Int) := by omega
          clear hq hL2 h3 hy
          go_wp2_with fail
          go_roundw
          case rel => exact ⟨k + 1, by omega, by go_num, (xk.alloc _).setCell hg _, by rw [HT.out, HY.out]; exact own_set okA _⟩
          case measure => simp [intOf]; omega
        · have HY := Lib.hid (show putP V y = V by unfold putP; rw [if_neg h3])
          have d3 : decide (33 ≤ y.1) = false := decide_eq_false h3
          go_wp2_with fail
          go_roundw
          case rel => exact ⟨k + 1, by omega, by go_num, xk.alloc _, by rw [HT.out, HY.out]; exact okA⟩
          case measure => simp [intOf]; omega
      · obtain rfl : k = p.length := by omega
        rw [List.take_length, ← HE.out] at ok
        go_wp2_with fail
        go_ret
        rw [HNN.out]
        exact ⟨_, _, rfl, xk, ok⟩
  · have HE := Lib.hid (show homeP B p = [] by unfold homeP; rw [if_pos hd])
    have d1 : (jrnE B p != 0) = true := by simpa using hd
    clear hd
    generalize jrnE B p = dd at *
    go_enter Tryz.func50, Tryz.ntmps50
    go_wp2_with (go_at_call 95; refine (HC.out _ hs hw).mono ?_; rintro e w1 ⟨rfl, x1⟩)
    go_ret
    rw [HE.out]
    exact ⟨_, _, rfl, xa.trans x1, World.ownsRow_nil _ _ _ _⟩
end Go.Proofs.YtfaplefkakpgcaaGreatDoor
/- The kernel's volume: cache.View, and the document's. -/
namespace Go.Proofs.YtfaplefkakpgcaaGreatDoor
set_option linter.unusedVariables false
set_option linter.unusedSimpArgs false
open Go.RowKit
theorem foldl_lay_take {p : List WrT} {k : Nat} (hk : k < p.length) (v : List (List UInt8)) : (p.take (k + 1)).foldl layP v = layP ((p.take k).foldl layP v) p[k] := by
  rw [List.take_succ_eq_append_getElem hk, List.foldl_append]; rfl
theorem maxLen_le {n : Nat} (h : n ≤ maxLen) : n ≤ 9223372036854775807 := by unfold maxLen at h; omega
/-- what a walk of a machine needs of it -/
theorem MacIn.drv {w : World} {m : Mac} {d : MacD} (h : MacIn w m d) : Strs w m.bl.A m.bl.n d.bl ∧ Wrs w m.pe.A m.pe.n d.pe ∧ Wrs w m.di.A m.di.n d.di ∧ m.pe.n ≤ 9223372036854775807 ∧ m.di.n ≤ 9223372036854775807 ∧ m.bl.n ≤ m.bl.c :=
  ⟨h.bl.strs, h.pe.wrs, h.di.wrs, maxLen_le h.pek.2.1, maxLen_le h.dik.2.1, h.blk.2.2⟩
set_option maxHeartbeats 2000000 in
set_option maxRecDepth 100000 in
theorem view_any (m : Mac) (d : MacD) (w : World) (h : MacIn w m d) :
    Calls Tryz.prog 18 #[.agg m.cells] w fun e w' => ∃ A c, e = .returned (.slice A (viewP d.bl d.pe d.di).length c) ∧ Ext w w' ∧ w'.ownsRow w.heap.size 9 1 (.slice A (viewP d.bl d.pe d.di).length c) (viewP d.bl d.pe d.di).length (strL (viewP d.bl d.pe d.di)) := by
  obtain ⟨hb, hp, hd, hpn, hdn, hbc⟩ := h.drv
  clear h
  obtain ⟨clock, quantum, cur, left, ⟨fA, fn, fc⟩, ⟨rA, rn, rc⟩, next, init, ⟨iA, inn, ic⟩, newPipe, inp, fin, told, ⟨bA, bn, bc⟩, ⟨pA, pn, pc⟩, dleft, ⟨dA, dn, dc⟩⟩ := m
  obtain ⟨dfr, dpr, dpi, B, p, l⟩ := d
  unfold Mac.cells
  simp only at hb hp hd hpn hdn hbc ⊢
  have HH := Lib.hid (fun w h1 h2 => home_any bA pA bn bc pn pc dleft B p w h1 h2 hpn hbc)
  obtain ⟨rfl, hd2⟩ := hd
  obtain ⟨wb, hwb⟩ : ∃ wb, wb = w.alloc (.cells #[.int .u64 clock, .int .i64 quantum, .int .i64 cur, .int .i64 left, .slice fA fn fc, .slice rA rn rc, .int .i64 next, .string (str init), .slice iA inn ic, .int .i64 newPipe, .string (str inp), .bool fin, .int .u64 told, .slice bA bn bc, .slice pA pn pc, .int .i64 dleft, .slice dA l.length dc] 38) := ⟨_, rfl⟩
  have xa : Ext w wb := by rw [hwb]; exact (Ext.refl _).alloc _
  have ba : Box wb w.heap.size 38 #[.int .u64 clock, .int .i64 quantum, .int .i64 cur, .int .i64 left, .slice fA fn fc, .slice rA rn rc, .int .i64 next, .string (str init), .slice iA inn ic, .int .i64 newPipe, .string (str inp), .bool fin, .int .u64 told, .slice bA bn bc, .slice pA pn pc, .int .i64 dleft, .slice dA l.length dc] := by rw [hwb]; exact Box.new _ _ _
  have hs := hb.ext xa
  have hw := hp.ext xa
  have HB := Lib.hid hwb
  have q13 : wb.cell? ⟨w.heap.size, 13, none⟩ = some (.slice bA bn bc) := ba.cell 13
  have q14 : wb.cell? ⟨w.heap.size, 14, none⟩ = some (.slice pA pn pc) := ba.cell 14
  have q15 : wb.cell? ⟨w.heap.size, 15, none⟩ = some (.int .i64 dleft) := ba.cell 15
  clear hwb
  go_enter Tryz.func18, Tryz.ntmps18
  go_upto_region 1 with fail
  rw [← HB.out]
  go_wp2_with (go_at_call 50; refine (HH.out _ hs hw).mono ?_; rintro e w1 ⟨A1, c1, rfl, x1, own1⟩; have q16 := (ba.ext x1).cell 16)
  have xw1 := xa.trans x1
  have own1 := own_base own1 xa.size
  clear q13 q14 q15 q16 hs hw ba xa x1 HH HB
  have HV := Lib.hid (show viewP B p l = l.foldl layP (homeP B p) from rfl)
  have HL := Lib.hid (show (viewP B p l).length = (homeP B p).length by unfold viewP; exact foldl_lay_len _ _)
  obtain ⟨h, hh⟩ : ∃ h, h = homeP B p := ⟨_, rfl⟩
  rw [← hh] at own1 ⊢
  have HHH := Lib.hid hh
  clear hh
  go_loopw [5, 12] (fun _ i wx => ∃ k : Nat, k ≤ l.length ∧ i = .int .i64 k ∧ Ext w wx ∧ wx.ownsRow w.heap.size 9 1 (.slice A1 h.length c1) h.length (strL ((l.take k).foldl layP h))) (fun _ i _ => l.length - (intOf i).toNat)
  case atStart => exact ⟨0, by omega, rfl, xw1, own1⟩
  case round =>
    obtain ⟨k, hk, rfl, xk, ok⟩ := hrel
    by_cases hlt : k < l.length
    · obtain ⟨b2, o2, rfl, hcell⟩ := hd2 (by omega)
      have e1 := xk.keep (hcell k hlt).1
      have e2 := xk.keep (hcell k hlt).2
      have HT := Lib.hid (foldl_lay_take hlt h)
      have HVl := Lib.hid (foldl_lay_len (l.take k) h)
      clear hcell
      have hki : (k : Int) < (l.length : Int) := by omega
      generalize l[k] = y at *
      generalize (l.take k).foldl layP h = V at *
      have okA := own_ext ok ((Ext.refl wr).alloc (.cells #[.int .i64 y.1, .string (str y.2)] 92))
      by_cases h0 : 0 ≤ y.1
      · have d0 : decide (0 ≤ y.1) = true := decide_eq_true h0
        by_cases h1 : y.1 < (h.length : Int)
        · have d1 : decide (y.1 < (h.length : Int)) = true := decide_eq_true h1
          obtain ⟨y1, y2⟩ := y
          simp only at h0 h1 d0 d1 e1 e2 okA
          obtain ⟨q, rfl⟩ : ∃ q : Nat, y1 = q := ⟨y1.toNat, by omega⟩
          have hqN : q < h.length := by omega
          have HY := Lib.hid (show layP V ((q : Int), y2) = V.set q y2 by unfold layP; simp only; rw [if_pos (by have := HVl.out; omega)]; rfl)
          obtain ⟨g, cap, hgc, hg, _⟩ := Strs.own' ok (by omega)
          injection hgc with hgA _ hgc
          subst hgA; subst hgc
          have kc : (wr.alloc (.cells #[.int .i64 (q : Int), .string (str y2)] 92)).cell? ⟨g, q, none⟩ = some (.string (str (V.getD q []))) := (okA.cellAt q (by omega)).trans (by have := HVl.out; simp [strL, this, hqN, List.getD_eq_getElem?_getD])
          have kf := okA.frozenAt q
          go_wp2_with fail
          go_roundw
          case rel => exact ⟨k + 1, by omega, by go_num, (xk.alloc _).setCell hg _, by rw [HT.out, HY.out]; exact own_set okA _⟩
          case measure => simp [intOf]; omega
        · have d1 : decide (y.1 < (h.length : Int)) = false := decide_eq_false h1
          have HY := Lib.hid (show layP V y = V by unfold layP; rw [if_neg (by have := HVl.out; omega)])
          go_wp2_with fail
          go_roundw
          case rel => exact ⟨k + 1, by omega, by go_num, xk.alloc _, by rw [HT.out, HY.out]; exact okA⟩
          case measure => simp [intOf]; omega
      · have d0 : decide (0 ≤ y.1) = false := decide_eq_false h0
        have HY := Lib.hid (show layP V y = V by unfold layP; rw [if_neg (by omega)])
        go_wp2_with fail
        go_roundw
        case rel => exact ⟨k + 1, by omega, by go_num, xk.alloc _, by rw [HT.out, HY.out]; exact okA⟩
        case measure => simp [intOf]; omega
    · obtain rfl : k = l.length := by omega
      rw [List.take_length] at ok
      go_wp2_with fail
      go_ret
      rw [HL.out, HV.out, ← HHH.out]
      exact ⟨_, _, rfl, xk, ok⟩
end Go.Proofs.YtfaplefkakpgcaaGreatDoor
/- The document's kernel's volume: hibernacleref25.Volume, hibernacleref28.View. -/
namespace Go.Proofs.YtfaplefkakpgcaaGreatDoor
set_option linter.unusedVariables false
set_option linter.unusedSimpArgs false
open Go.RowKit
theorem Box.setOther {w : World} {g g' i : Nat} {t : TypeId} {cs : Array Value} (h : Box w g t cs) (hne : g ≠ g') (u : Value) : Box (w.setCell ⟨g', i, none⟩ u) g t cs := by
  have k : w.heap[g]? = some (.cells cs t (0, 0)) := h
  show (w.setCell ⟨g', i, none⟩ u).heap[g]? = _
  simp [World.setCell, Array.getElem?_modify, k, Ne.symm hne]
theorem Mac.size (m : Mac) : m.cells.size = 17 := rfl
theorem own_empty (w : World) (t : TypeId) (cs : Array Value) : ((w.alloc (.cells cs t)).alloc (.cells #[] 9)).ownsRow w.heap.size 9 1 (.slice (some ⟨w.heap.size + 1, 0, none⟩) 0 0) 0 (strL []) := by
  have := World.ownsRow_lit (base := w.heap.size) (e := 9) (size := 1) (w.alloc (.cells cs t)) #[] 0 (by simp) (by decide) rfl
  rw [World.size_alloc] at this
  exact this
set_option maxHeartbeats 2000000 in
set_option maxRecDepth 100000 in
theorem rvolume_any (m : Mac) (d : MacD) (w : World) (h : MacIn w m d) (hj : jrnE d.bl d.pe = 0) :
    Calls Tryz.prog 100 #[.agg m.cells] w fun e w' => ∃ A c, e = .returned (.slice A (viewP d.bl d.pe d.di).length c) ∧ Ext w w' ∧ w'.ownsRow w.heap.size 9 1 (.slice A (viewP d.bl d.pe d.di).length c) (viewP d.bl d.pe d.di).length (strL (viewP d.bl d.pe d.di)) := by
  obtain ⟨hb, hp, hd, hpn, hdn, hbc⟩ := h.drv
  clear h
  have HH := Lib.hid (fun w h1 h2 => rhome_any m.bl.A m.pe.A m.bl.n m.bl.c m.pe.n m.pe.c m.dleft d.bl d.pe w h1 h2 hpn)
  have xa : Ext w (w.alloc (.cells m.cells 38)) := (Ext.refl _).alloc _
  have xa2 := xa.alloc (.cells #[] 9)
  have ba := Box.new w 38 m.cells
  have oa := own_empty w 38 m.cells
  have hs := hb.ext xa2
  have hw := hp.ext xa2
  have ba2 := ba.ext ((Ext.refl _).alloc (.cells #[] 9))
  have q13 : ((w.alloc (.cells m.cells 38)).alloc (.cells #[] 9)).cell? ⟨w.heap.size, 13, none⟩ = some (.slice m.bl.A m.bl.n m.bl.c) := ba2.cell 13
  have q14 : ((w.alloc (.cells m.cells 38)).alloc (.cells #[] 9)).cell? ⟨w.heap.size, 14, none⟩ = some (.slice m.pe.A m.pe.n m.pe.c) := ba2.cell 14
  have q15 : ((w.alloc (.cells m.cells 38)).alloc (.cells #[] 9)).cell? ⟨w.heap.size, 15, none⟩ = some (.int .i64 m.dleft) := ba2.cell 15
  have hlen := homeP_len hj
  have hlst := (drvOk_of hj).least
  have hmost := (drvOk_of hj).most
  have hN : 0 < (homeP d.bl d.pe).length := by omega
  have hN2 : (homeP d.bl d.pe).length ≤ 1000000 := by omega
  have HN0 := Lib.hid hN
  have HN2 := Lib.hid hN2
  clear hlen hlst hmost hN hN2
  go_enter Tryz.func100, Tryz.ntmps100
  go_wp2_with (first
    | (go_at_call 72; refine (HH.out _ hs hw).mono ?_; rintro e w1 ⟨A1, c1, rfl, x1, own1⟩; have s1 := Strs.own own1; have o1 := own_ext oa x1; have b1 := ba2.ext x1; have hN := HN0.out; have hN2 := HN2.out; have hsz : w.heap.size ≤ w1.heap.size := (xa2.trans x1).size)
    | (at_builtin; refine wp_app_strs w.heap.size rfl _ _ rfl rfl rfl o1 s1 (by omega) hsz (by omega) ?_; intro u' w2 own2 g2; rw [Nat.zero_add, List.nil_append] at own2; obtain ⟨g, cap, rfl, hg, _⟩ := Strs.own' own2 (by omega); have b2 := b1.grown g2 (own_ne o1 b1 (by decide)); have q16 : w2.cell? ⟨w.heap.size, 16, none⟩ = some (.slice m.di.A m.di.n m.di.c) := b2.cell 16; have x2 : Ext w w2 := (xa2.trans x1).grown g2 (fun j e => own_low o1 e)))
  clear q13 q14 q15 hs hw ba ba2 xa xa2 x1 HH oa o1 s1 own1 b1 g2 hsz
  have HV := Lib.hid (show viewP d.bl d.pe d.di = d.di.foldl layP (homeP d.bl d.pe) from rfl)
  have HL := Lib.hid (show (viewP d.bl d.pe d.di).length = (homeP d.bl d.pe).length by unfold viewP; exact foldl_lay_len _ _)
  obtain ⟨h, hh⟩ : ∃ h, h = homeP d.bl d.pe := ⟨_, rfl⟩
  rw [← hh] at own2 hN hN2 ⊢
  have HHH := Lib.hid hh
  clear hh
  obtain ⟨hd1, hd2⟩ := hd
  rw [hd1]
  rw [hd1] at q16 hdn
  have HD1 := Lib.hid hd1
  have HD2 := Lib.hid hd2
  clear hd1 hd2
  generalize hdi : d.di = l at *
  have HDI := Lib.hid hdi
  clear hdi
  go_loopw [5, 14] (fun _ i wx => ∃ k : Nat, k ≤ l.length ∧ i = .int .i64 k ∧ Ext w wx ∧ wx.ownsRow w.heap.size 9 1 (.slice (some ⟨g, 0, none⟩) h.length cap) h.length (strL ((l.take k).foldl layP h))) (fun _ i _ => l.length - (intOf i).toNat)
  case atStart => exact ⟨0, by omega, rfl, x2, own2⟩
  case round =>
    obtain ⟨k, hk, rfl, xk, ok⟩ := hrel
    by_cases hlt : k < l.length
    · obtain ⟨b2, o2, hA, hcell⟩ := HD2.out (by rw [HD1.out]; omega)
      have e1 := xk.keep (hcell k hlt).1
      have e2 := xk.keep (hcell k hlt).2
      have HT := Lib.hid (foldl_lay_take hlt h)
      have HVl := Lib.hid (foldl_lay_len (l.take k) h)
      clear hcell
      have hki : (k : Int) < (l.length : Int) := by omega
      generalize l[k] = y at *
      generalize (l.take k).foldl layP h = V at *
      have okA := own_ext ok ((Ext.refl wr).alloc (.cells #[.int .i64 y.1, .string (str y.2)] 92))
      by_cases h0 : 0 ≤ y.1
      · have d0 : decide (0 ≤ y.1) = true := decide_eq_true h0
        by_cases h1 : y.1 < (h.length : Int)
        · have d1 : decide (y.1 < (h.length : Int)) = true := decide_eq_true h1
          obtain ⟨y1, y2⟩ := y
          simp only at h0 h1 d0 d1 e1 e2 okA
          obtain ⟨q, rfl⟩ : ∃ q : Nat, y1 = q := ⟨y1.toNat, by omega⟩
          have hqN : q < h.length := by omega
          have HY := Lib.hid (show layP V ((q : Int), y2) = V.set q y2 by unfold layP; simp only; rw [if_pos (by have := HVl.out; omega)]; rfl)
          have kc : (wr.alloc (.cells #[.int .i64 (q : Int), .string (str y2)] 92)).cell? ⟨g, q, none⟩ = some (.string (str (V.getD q []))) := (okA.cellAt q (by omega)).trans (by have := HVl.out; simp [strL, this, hqN, List.getD_eq_getElem?_getD])
          have kf := okA.frozenAt q
          go_wp2_with fail
          go_roundw
          case rel => exact ⟨k + 1, by omega, by go_num, (xk.alloc _).setCell hg _, by rw [HT.out, HY.out]; exact own_set okA _⟩
          case measure => simp [intOf]; omega
        · have d1 : decide (y.1 < (h.length : Int)) = false := decide_eq_false h1
          have HY := Lib.hid (show layP V y = V by unfold layP; rw [if_neg (by have := HVl.out; omega)])
          go_wp2_with fail
          go_roundw
          case rel => exact ⟨k + 1, by omega, by go_num, xk.alloc _, by rw [HT.out, HY.out]; exact okA⟩
          case measure => simp [intOf]; omega
      · have d0 : decide (0 ≤ y.1) = false := decide_eq_false h0
        have HY := Lib.hid (show layP V y = V by unfold layP; rw [if_neg (by omega)])
        go_wp2_with fail
        go_roundw
        case rel => exact ⟨k + 1, by omega, by go_num, xk.alloc _, by rw [HT.out, HY.out]; exact okA⟩
        case measure => simp [intOf]; omega
    · obtain rfl : k = l.length := by omega
      rw [List.take_length] at ok
      go_wp2_with fail
      go_ret
      rw [HDI.out, HL.out, HV.out, ← HHH.out]
      exact ⟨_, _, rfl, xk, ok⟩
end Go.Proofs.YtfaplefkakpgcaaGreatDoor
/- The document's machines: disk. -/
namespace Go.Proofs.YtfaplefkakpgcaaGreatDoor
set_option linter.unusedVariables false
set_option linter.unusedSimpArgs false
open Go.RowKit
theorem OfR.some {v : List (List UInt8)} {e : Ending} (h : OfR v e) : ∃ (g : Value) (n : Int), e = .returned (.tuple #[g, .int .i64 n]) ∧ (n = 0 → ∃ I, Good v I) := by
  rcases h with ⟨I, hI, rfl⟩ | rfl
  · exact ⟨_, 0, rfl, fun _ => ⟨I, hI⟩⟩
  · exact ⟨_, 3, rfl, fun h => by omega⟩
/-- what a machine's drive is, if there is nothing to say against it -/
def DiskOk (d : MacD) : Prop := jrnE d.bl d.pe = 0 ∧ d.di.length ≤ 32 ∧ (∀ (i : Nat) (h : i < d.di.length), 0 ≤ d.di[i].1 ∧ d.di[i].1 < ((d.bl.length - 33 : Nat) : Int) ∧ d.di[i].2.length = 128 ∧ (0 < i → (d.di[i - 1]'(by omega)).1 < d.di[i].1)) ∧ ∃ I, Good (viewP d.bl d.pe d.di) I
def DiskR (d : MacD) (e : Ending) : Prop := ∃ n : Int, e = .returned (.int .i64 n) ∧ (n = 0 → DiskOk d)
set_option maxHeartbeats 4000000 in
set_option maxRecDepth 100000 in
theorem rdisk_any (m : Mac) (d : MacD) (w : World) (h : MacIn w m d) :
    Calls Tryz.prog 52 #[.agg m.cells] w fun e w' => DiskR d e ∧ Ext w w' := by
  obtain ⟨hb, hp, hd, hpn, hdn, hbc⟩ := h.drv
  have HC := Lib.hid (fun w h1 h2 => rdcheck_any m.bl.A m.pe.A m.bl.n m.bl.c m.pe.n m.pe.c m.dleft d.bl d.pe w h1 h2 hpn)
  have HH := Lib.hid (fun w h1 h2 => rhome_any m.bl.A m.pe.A m.bl.n m.bl.c m.pe.n m.pe.c m.dleft d.bl d.pe w h1 h2 hpn)
  have HV := Lib.hid (fun w h1 h2 => rvolume_any m d w h1 h2)
  go_enter Tryz.func52, Tryz.ntmps52
  go_upto_region 1 with fail
  have xa : Ext w (w.alloc (.cells m.cells 38)) := (Ext.refl _).alloc _
  have bm := Box.new w 38 m.cells
  generalize w.alloc (.cells m.cells 38) = w1 at *
  have q13 : w1.cell? ⟨w.heap.size, 13, none⟩ = some (.slice m.bl.A m.bl.n m.bl.c) := bm.cell 13
  have q14 : w1.cell? ⟨w.heap.size, 14, none⟩ = some (.slice m.pe.A m.pe.n m.pe.c) := bm.cell 14
  have q15 : w1.cell? ⟨w.heap.size, 15, none⟩ = some (.int .i64 m.dleft) := bm.cell 15
  have hs := hb.ext xa
  have hw := hp.ext xa
  have hdE : drvE d.bl d.pe ≠ 0 → jrnE d.bl d.pe ≠ 0 := fun h => by unfold jrnE; rw [if_pos h]; exact h
  by_cases h0 : drvE d.bl d.pe = 0
  · rw [h0] at HC
    go_upto_region 4 with (go_at_call 98; refine (HC.out _ hs hw).mono ?_; rintro e w2 ⟨rfl, x2⟩)
    have bm2 := bm.ext x2
    have x2a := xa.trans x2
    clear q13 q14 q15
    have q13 : w2.cell? ⟨w.heap.size, 13, none⟩ = some (.slice m.bl.A m.bl.n m.bl.c) := bm2.cell 13
    have q14 : w2.cell? ⟨w.heap.size, 14, none⟩ = some (.slice m.pe.A m.pe.n m.pe.c) := bm2.cell 14
    have q15 : w2.cell? ⟨w.heap.size, 15, none⟩ = some (.int .i64 m.dleft) := bm2.cell 15
    by_cases hj : jrnE d.bl d.pe = 0
    · have hl := homeP_len hj
      have hlst := (drvOk_of hj).least
      have HJ := Lib.hid hj
      clear hj hdE h0 HC
      rw [hl] at HH
      go_upto_region 5 with (go_at_call 72; refine (HH.out _ (hb.ext x2a) (hp.ext x2a)).mono ?_; rintro e w3 ⟨A1, c1, rfl, x3, own1⟩)
      have bm3 := bm2.ext x3
      have x3a := x2a.trans x3
      clear q13 q14 q15 own1 HH hs hw
      obtain ⟨N, hN⟩ : ∃ N : Nat, N = d.bl.length - 33 := ⟨_, rfl⟩
      have hN0 : 0 < N := by omega
      rw [← hN]
      have HN := Lib.hid hN
      have q16 : w3.cell? ⟨w.heap.size, 16, none⟩ = some (.slice m.di.A m.di.n m.di.c) := bm3.cell 16
      have hNe : ((N : Int) == 0) = false := by simp; omega
      clear hN hl hlst
      obtain ⟨hd1, hd2⟩ := hd
      have HD1 := Lib.hid hd1
      clear hd1
      by_cases h32 : 32 < m.di.n
      · go_wp2_with fail
        go_ret
        exact ⟨⟨6, rfl, fun h => by omega⟩, x3a⟩
      · go_wp2_with fail
        have HM := Lib.hid (show MacIn w m d from h)
        have HDK := Lib.hid (show (∀ (i : Nat) (h : i < d.di.length), 0 ≤ d.di[i].1 ∧ d.di[i].1 < (N : Int) ∧ d.di[i].2.length = 128 ∧ (0 < i → (d.di[i - 1]'(by omega)).1 < d.di[i].1)) → (∃ I, Good (viewP d.bl d.pe d.di) I) → DiskOk d from fun h1 h2 => ⟨HJ.out, by rw [← HD1.out]; omega, by rw [← HN.out]; exact h1, h2⟩)
        clear h q16
        go_loopw [5, 6, 26] (fun _ _ i wx => ∃ k : Nat, k ≤ m.di.n ∧ i = .int .i64 k ∧ Ext w3 wx ∧ ∀ (i : Nat) (h : i < d.di.length), i < k → 0 ≤ d.di[i].1 ∧ d.di[i].1 < (N : Int) ∧ d.di[i].2.length = 128 ∧ (0 < i → (d.di[i - 1]'(by omega)).1 < d.di[i].1)) (fun _ _ i _ => m.di.n - (intOf i).toNat)
        case atStart => exact ⟨0, by omega, rfl, Ext.refl _, fun i _ h => by omega⟩
        case round =>
          obtain ⟨k, hk, rfl, xk, hall⟩ := hrel
          have HA := Lib.hid hall
          clear hall
          have r16 : wr.cell? ⟨w.heap.size, 16, none⟩ = some (.slice m.di.A m.di.n m.di.c) := (bm3.ext xk).cell 16
          by_cases hlt : k < m.di.n
          · obtain ⟨b, o, hA, hcell⟩ := hd2 (by omega)
            have hlk : k < d.di.length := by rw [← HD1.out]; exact hlt
            have e1 := (x3a.trans xk).keep (hcell k hlk).1
            have e2 := (x3a.trans xk).keep (hcell k hlk).2
            have e0 : 0 < k → wr.cell? ⟨b, o + (k - 1) * 2, none⟩ = some (.int .i64 (d.di[k - 1]'(by omega)).1) := fun h => (x3a.trans xk).keep (hcell (k - 1) (by omega)).1
            have HS := Lib.hid (show (0 ≤ d.di[k].1 ∧ d.di[k].1 < (N : Int) ∧ d.di[k].2.length = 128 ∧ (0 < k → (d.di[k - 1]'(by omega)).1 < d.di[k].1)) → ∀ (i : Nat) (h : i < d.di.length), i < k + 1 → 0 ≤ d.di[i].1 ∧ d.di[i].1 < (N : Int) ∧ d.di[i].2.length = 128 ∧ (0 < i → (d.di[i - 1]'(by omega)).1 < d.di[i].1) from fun h i hi hik => by
              by_cases e : i < k
              · exact HA.out i hi e
              · obtain rfl : i = k := by omega
                exact h)
            clear HA hcell
            have hz := str_size
            have hkn : (k : Int) < (m.di.n : Int) := by omega
            generalize d.di[k] = y at *
            generalize hprv : d.di[k - 1]'(by omega) = prv at *
            clear hprv
            rw [hA] at r16
            go_upto_region 12 with fail
            have E1 : (wr.alloc (.cells #[.int .i64 y.1, .string (str y.2)] 92)).cell? ⟨w.heap.size, 16, none⟩ = some (.slice (some ⟨b, o, none⟩) m.di.n m.di.c) := ((Ext.refl wr).alloc _).keep r16
            have E0 : 0 < k → (wr.alloc (.cells #[.int .i64 y.1, .string (str y.2)] 92)).cell? ⟨b, o + (k - 1) * 2, none⟩ = some (.int .i64 prv.1) := fun h => ((Ext.refl wr).alloc _).keep (e0 h)
            clear e0 e1 e2 r16
            by_cases n0 : y.1 < 0
            · have d0 : decide (y.1 < 0) = true := decide_eq_true n0
              clear E0
              go_quiet (fail)
              go_wp2_with fail
              go_ret
              exact ⟨⟨3, rfl, fun h => by omega⟩, x3a.trans ((xk.alloc _).drewN _)⟩
            · have d0 : decide (y.1 < 0) = false := decide_eq_false n0
              by_cases n1 : (N : Int) ≤ y.1
              · have d1 : decide ((N : Int) ≤ y.1) = true := decide_eq_true n1
                clear E0
                go_quiet (fail)
                go_wp2_with fail
                go_ret
                exact ⟨⟨3, rfl, fun h => by omega⟩, x3a.trans ((xk.alloc _).drewN _)⟩
              · have d1 : decide ((N : Int) ≤ y.1) = false := decide_eq_false n1
                by_cases n2 : y.2.length = 128
                · have d2 : ((y.2.length : Int) != 128) = false := by rw [n2]; rfl
                  by_cases n3 : 0 < k
                  · have d3 : decide ((0 : Int) < (k : Int)) = true := by simp; omega
                    have E0' := E0 n3
                    have k1 : (k : Int) - 1 = ((k - 1 : Nat) : Int) := by omega
                    have k2 : IntKind.i64.wrap ((k : Int) - 1) = ((k - 1 : Nat) : Int) := by rw [IntKind.wrap_i64]; omega
                    have k3 : ((k - 1 : Nat) : Int) < (m.di.n : Int) := by omega
                    clear E0
                    by_cases n4 : y.1 ≤ prv.1
                    · have d4 : decide (y.1 ≤ prv.1) = true := decide_eq_true n4
                      go_quiet (fail)
                      go_wp2_with fail
                      go_ret
                      exact ⟨⟨3, rfl, fun h => by omega⟩, x3a.trans ((xk.alloc _).drewN _)⟩
                    · have d4 : decide (y.1 ≤ prv.1) = false := decide_eq_false n4
                      go_quiet (fail)
                      go_wp2_with fail
                      go_roundw
                      case rel => exact ⟨k + 1, by omega, by go_num, (xk.alloc _).drewN _, HS.out ⟨by omega, by omega, n2, fun _ => by omega⟩⟩
                      case measure => simp [intOf]; omega
                  · have d3 : decide ((0 : Int) < (k : Int)) = false := by simp; omega
                    clear E0
                    go_quiet (fail)
                    go_wp2_with fail
                    go_roundw
                    case rel => exact ⟨k + 1, by omega, by go_num, (xk.alloc _).drewN _, HS.out ⟨by omega, by omega, n2, fun h => absurd h n3⟩⟩
                    case measure => simp [intOf]; omega
                · have d2 : ((y.2.length : Int) != 128) = true := by simp; omega
                  clear E0
                  go_quiet (fail)
                  go_wp2_with fail
                  go_ret
                  exact ⟨⟨3, rfl, fun h => by omega⟩, x3a.trans ((xk.alloc _).drewN _)⟩
          · obtain rfl : k = m.di.n := by omega
            have HAll := Lib.hid (fun (i : Nat) (h : i < d.di.length) => HA.out i h (by rw [HD1.out]; exact h))
            clear HA r16
            have bmk := bm3.ext xk
            have hmk := HM.out.ext (x3a.trans xk)
            go_wp2_with (first
              | (refine wp_ld_mac (.tmp 1) rfl rfl w.heap.size _ 38 rfl bmk rfl ?_)
              | (go_at_call 100; refine (HV.out _ hmk HJ.out).mono ?_; rintro e w4 ⟨A4, c4, rfl, x4, own4⟩; have s4 := Strs.own own4)
              | (go_at_call 99; refine (rof_any _ _ _ _ _ s4 (by have := s4.1; have := viewP_len (d := d.di) HJ.out; have := (drvOk_of HJ.out).most; omega)).mono ?_; rintro e w5 ⟨hof, x5⟩; obtain ⟨g5, n5, rfl, hn5⟩ := hof.some; have HN5 := Lib.hid hn5; clear hn5 hof))
            go_ret
            exact ⟨⟨n5, rfl, fun h => HDK.out HAll.out (HN5.out h)⟩, (x3a.trans xk).trans (x4.trans x5)⟩
    · have HE := Lib.hid (show homeP d.bl d.pe = [] by unfold homeP; rw [if_pos hj])
      rw [HE.out] at HH
      clear hdE hj HC
      go_wp2_with (go_at_call 72; refine (HH.out _ (hb.ext x2a) (hp.ext x2a)).mono ?_; rintro e w3 ⟨A1, c1, rfl, x3, own1⟩)
      go_ret
      exact ⟨⟨3, rfl, fun h => by omega⟩, x2a.trans x3⟩
  · have d1 : (drvE d.bl d.pe != 0) = true := by simpa using h0
    have HZ := Lib.hid h0
    clear h0
    obtain ⟨dd, hdd⟩ : ∃ dd, dd = drvE d.bl d.pe := ⟨_, rfl⟩
    rw [← hdd] at HC d1 HZ
    clear hdd
    go_wp2_with (go_at_call 98; refine (HC.out _ hs hw).mono ?_; rintro e w2 ⟨rfl, x2⟩)
    go_ret
    exact ⟨⟨dd, rfl, fun h => absurd h HZ.out⟩, xa.trans x2⟩
end Go.Proofs.YtfaplefkakpgcaaGreatDoor
/- Plain: when a machine may be, point by point. -/
namespace Go.Proofs.YtfaplefkakpgcaaGreatDoor
set_option linter.unusedVariables false
set_option linter.unusedSimpArgs false
/-- is there a process of that number, that lives? -/
def LivesP (l : List PrT) (pid : Int) : Prop := ∃ y ∈ l, y.pid = pid ∧ (y.state = 1 ∨ y.state = 2)
/-- how many of a process's first pages have a frame -/
def cntFr (y : PrT) (fr : Int) : Nat → Nat
  | 0 => 0
  | j + 1 => cntFr y fr j + (if y.pis j = true ∧ y.pfr j = fr then 1 else 0)
/-- how many pages of the first processes do -/
def usersK (l : List PrT) (fr : Int) : Nat → Nat
  | 0 => 0
  | k + 1 => usersK l fr k + cntFr (l.getD k default) fr 16
def FdP (pi : List WrT) (k n p : Int) : Prop :=
  ((k = 0 ∨ k = 1 ∨ k = 2) ∧ n = 0 ∧ p = 0) ∨ (k = 3 ∧ 1 ≤ n ∧ n ≤ 64 ∧ 0 ≤ p ∧ p ≤ 8960) ∨ ((k = 4 ∨ k = 5) ∧ p = 0 ∧ ∃ y ∈ pi, y.1 = n)
def PageP (m : Mac) (d : MacD) (y : PrT) (j : Nat) : Prop :=
  (y.pis j = false ∧ y.pwr j = false ∧ y.pfr j = 0) ∨ (y.pis j = true ∧ y.state ≠ 3 ∧ 0 ≤ y.pfr j ∧ y.pfr j < (m.fr.n : Int) ∧ usersK d.pr (y.pfr j) d.pr.length = 1)
structure ProcOk (m : Mac) (d : MacD) (y : PrT) : Prop where
  pid : 1 ≤ y.pid ∧ y.pid < m.next
  state : y.state = 1 ∨ y.state = 2 ∨ y.state = 3
  reg : y.reg 0 = 0
  par : LivesP d.pr y.parent ∨ (y.state ≠ 3 ∧ y.parent = 0)
  why : (y.state = 2 ∧ 1 ≤ y.why ∧ y.why ≤ 5) ∨ (y.state ≠ 2 ∧ y.why = 0 ∧ y.num = 0)
  code : y.state = 3 ∨ y.code = 0
  page : ∀ j < 16, PageP m d y j
  fd : ∀ j < 8, FdP d.pi (y.fk j) (y.fn j) (y.fp j) ∧ (y.state = 3 → y.fk j = 0)
structure NumsOk (m : Mac) : Prop where
  quantum : 1 ≤ m.quantum ∧ m.quantum ≤ 1000
  left : 0 ≤ m.left ∧ m.left ≤ m.quantum
  cur : 0 ≤ m.cur
  next : 1 ≤ m.next ∧ m.next ≤ 1000000000
  newPipe : 1 ≤ m.newPipe ∧ m.newPipe ≤ 1000000000
/-- the first k pipes are as they may be -/
def PipesK (m : Mac) (l : List WrT) (k : Nat) : Prop := ∀ (i : Nat) (h : i < l.length), i < k → 1 ≤ l[i].1 ∧ l[i].1 < m.newPipe ∧ l[i].2.length ≤ 64 ∧ (0 < i → (l[i - 1]'(by omega)).1 < l[i].1)
def ProcsK (m : Mac) (d : MacD) (k : Nat) : Prop := ∀ (i : Nat) (h : i < d.pr.length), i < k → ProcOk m d d.pr[i] ∧ (0 < i → (d.pr[i - 1]'(by omega)).pid < d.pr[i].pid)
structure RestOk (m : Mac) (d : MacD) : Prop where
  nums : NumsOk m
  frn : 1 ≤ m.fr.n ∧ m.fr.n ≤ 64
  fr : ∀ b ∈ d.fr, b.length = 128
  prn : m.pr.n ≤ 8
  pr : ProcsK m d d.pr.length
  pin : m.pi.n ≤ 64
  pi : PipesK m d.pi d.pi.length
  texts : m.inn.length ≤ 65536 ∧ m.init.length ≤ 128
/-- a machine that may be -/
structure StateOk (m : Mac) (d : MacD) : Prop where
  rest : RestOk m d
  disk : DiskOk d
theorem cnt_mono (y : PrT) (fr : Int) : ∀ {i j : Nat}, i ≤ j → cntFr y fr i ≤ cntFr y fr j := by
  intro i j h
  induction h with
  | refl => exact Nat.le_refl _
  | step _ ih => exact Nat.le_trans ih (Nat.le_add_right _ _)
theorem users_mono (l : List PrT) (fr : Int) : ∀ {i j : Nat}, i ≤ j → usersK l fr i ≤ usersK l fr j := by
  intro i j h
  induction h with
  | refl => exact Nat.le_refl _
  | step _ ih => exact Nat.le_trans ih (Nat.le_add_right _ _)
/-- has one of the pages that were gone through (k processes, j pages of the next one) a frame? -/
def Met (l : List PrT) (k j : Nat) (fr : Int) : Prop := 0 < usersK l fr k + cntFr (l.getD k default) fr j
/-- a frame that one page has alone was not met ahead of that -/
theorem met_one {l : List PrT} {k j : Nat} {fr : Int} (hk : k < l.length) (hj : j < 16) (h : (l.getD k default).pis j = true) (hf : (l.getD k default).pfr j = fr) (hu : usersK l fr l.length = 1) : ¬ Met l k j fr := by
  intro hm
  unfold Met at hm
  have h1 : usersK l fr (k + 1) ≤ usersK l fr l.length := users_mono l fr hk
  have h2 : cntFr (l.getD k default) fr (j + 1) ≤ cntFr (l.getD k default) fr 16 := cnt_mono _ _ hj
  rw [usersK] at h1
  rw [cntFr, if_pos ⟨h, hf⟩] at h2
  omega
theorem met_next {l : List PrT} {k j : Nat} {fr : Int} (h : (l.getD k default).pis j = true) : Met l k (j + 1) fr ↔ Met l k j fr ∨ fr = (l.getD k default).pfr j := by
  unfold Met
  rw [cntFr]
  by_cases e : (l.getD k default).pfr j = fr
  · rw [if_pos ⟨h, e⟩]; exact ⟨fun _ => .inr e.symm, fun _ => by omega⟩
  · rw [if_neg (fun h => e h.2)]
    exact ⟨fun h => .inl (by omega), fun h => h.elim (fun h => by omega) (fun h => absurd h.symm e)⟩
theorem met_skip {l : List PrT} {k j : Nat} {fr : Int} (h : (l.getD k default).pis j = false) : Met l k (j + 1) fr ↔ Met l k j fr := by
  unfold Met
  rw [cntFr, if_neg (fun h2 => by rw [h] at h2; cases h2.1)]; omega
theorem met_proc {l : List PrT} {k : Nat} {fr : Int} : Met l (k + 1) 0 fr ↔ Met l k 16 fr := by
  unfold Met
  rw [usersK, cntFr]; omega
theorem met_zero {l : List PrT} {fr : Int} : ¬ Met l 0 0 fr := by unfold Met; rw [usersK, cntFr]; omega
end Go.Proofs.YtfaplefkakpgcaaGreatDoor
