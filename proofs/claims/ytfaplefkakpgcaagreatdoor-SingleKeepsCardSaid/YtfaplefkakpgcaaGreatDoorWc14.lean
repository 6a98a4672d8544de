/- The walks of a drive: drive.has, drive.Check, wal.journaled. -/
import Derived.Test.YtfaplefkakpgcaaGreatDoorWc3
import Derived.Test.YtfaplefkakpgcaaGreatDoorWc13
import Derived.Deep.MidRow
import Derived.Test.YtfaplefkakpgcaaGreatDoorWc7
import Derived.Test.YtfaplefkakpgcaaGreatDoorWc1
import Derived.Maps.Own
import Derived.Maps.OwnSet
import Derived.Maps.OwnOps
import Derived.Maps.Views
namespace Go.Proofs.YtfaplefkakpgcaaGreatDoor
set_option linter.unusedVariables false
set_option linter.unusedSimpArgs false
open Go.RowKit
def Wrs (w : World) (A : Option Addr) (n : Nat) (l : List WrT) : Prop :=
 n = l.length ∧ (0 < n → ∃ b o, A = some ⟨b, o, none⟩ ∧ ∀ (j : Nat) (h : j < l.length), w.cell? ⟨b, o + j * 2, none⟩ = some (.int .i64 l[j].1) ∧ w.cell? ⟨b, o + j * 2 + 1, none⟩ = some (.string (str l[j].2)))
theorem Wrs.ext {w w' : World} {A : Option Addr} {n : Nat} {l : List WrT} (h : Wrs w A n l) (k : Ext w w') : Wrs w' A n l :=
 ⟨h.1, fun hn => by obtain ⟨b, o, e, hc⟩ := h.2 hn; exact ⟨b, o, e, fun j hj => ⟨k.keep (hc j hj).1, k.keep (hc j hj).2⟩⟩⟩
theorem RowOf.wrs {w : World} {A : Option Addr} {n : Nat} {l : List WrT} (h : RowOf wrL w A n l) : Wrs w A n l := by
 refine ⟨h.1, fun hn => ?_⟩
 obtain ⟨b, o, e, hc⟩ := h.2 hn
 exact ⟨b, o, e, fun j hj => ⟨RowOf.cell (n := n) hc (z := 2) (fun x _ => rfl) hj (i := 0) (by omega) rfl, RowOf.cell (n := n) hc (z := 2) (fun x _ => rfl) hj (i := 1) (by omega) rfl⟩⟩
theorem RowOf.strs {w : World} {A : Option Addr} {n : Nat} {l : List (List UInt8)} (h : RowOf stL w A n l) : Strs w A n l := by
 refine ⟨h.1, fun hn => ?_⟩
 obtain ⟨b, o, e, hc⟩ := h.2 hn
 refine ⟨b, o, e, fun j hj => ?_⟩
 have := RowOf.cell (n := n) hc (z := 1) (fun x _ => rfl) hj (i := 0) (by omega) rfl
 rw [Nat.mul_one, Nat.add_zero] at this
 exact this
theorem drvSize : (Tryz.prog.info? 36).map (·.size) = some 3 := by kernel_rfl
theorem macSize : (Tryz.prog.info? 38).map (·.size) = some 17 := by kernel_rfl
section
variable {ops : Array Oper} {rest : List Oper} {o : Oper} {a : Act} {w : World} {Q : Exit → Act → World → Prop}
theorem wp_ld_drv (x : Operand) (hgd : o.guard = none) (ho : o.op = .load 36 x) (g : Nat) (l : Array Value) (t : TypeId) (hx : a.eval x = .pointer (some ⟨g, 0, none⟩))
  (hb : Box w g t l) (hl : l.size = 3) (hK : wpList Tryz.prog ops Q rest (a.put o.dst (.agg l)) w) : wpList Tryz.prog ops Q (o :: rest) a w :=
 wp_ld _ x hgd ho g _ t _ hx hb Tryz.underlying36 rfl (by rw [hl]; exact drvSize) hK
theorem wp_ld_mac (x : Operand) (hgd : o.guard = none) (ho : o.op = .load 38 x) (g : Nat) (l : Array Value) (t : TypeId) (hx : a.eval x = .pointer (some ⟨g, 0, none⟩))
  (hb : Box w g t l) (hl : l.size = 17) (hK : wpList Tryz.prog ops Q rest (a.put o.dst (.agg l)) w) : wpList Tryz.prog ops Q (o :: rest) a w :=
 wp_ld _ x hgd ho g _ t _ hx hb Tryz.underlying38 rfl (by rw [hl]; exact macSize) hK
end
set_option maxHeartbeats 400000 in
theorem has_any (bA pA : Option Addr) (bn bc pn pc : Nat) (left i : Int) (w : World) :
  Calls Tryz.prog 162 #[.agg #[.slice bA bn bc, .slice pA pn pc, .int .i64 left], .int .i64 i] w fun e w' => e = .returned (.bool (decide (0 ≤ i ∧ i < (bn : Int)))) ∧ Ext w w' := by
 by_cases h0 : 0 ≤ i
 ·by_cases h1 : i < (bn : Int)
  ·go_enter Tryz.func162, Tryz.ntmps162
   go_wp2_with fail
   go_ret
   exact ⟨ret_bool (by simp [h0, h1]), (Ext.refl w).alloc _⟩
  ·have d1 : decide (i < (bn : Int)) = false := by simpa using h1
   go_enter Tryz.func162, Tryz.ntmps162
   go_wp2_with fail
   go_ret
   exact ⟨ret_bool (by simp [h0, h1]), (Ext.refl w).alloc _⟩
 ·have d1 : decide (0 ≤ i) = false := by simpa using h0
  go_enter Tryz.func162, Tryz.ntmps162
  go_wp2_with fail
  go_ret
  exact ⟨ret_bool (by simp [h0]), (Ext.refl w).alloc _⟩
theorem formE_take {B : List (List UInt8)} {k : Nat} (hk : k < B.length) (h : formE (B.take k) = 0) (hl : B[k].length = 128) : formE (B.take (k + 1)) = 0 := by
 rw [List.take_succ_eq_append_getElem hk, formE_app, if_neg (by simpa using h)]; simp [formE, hl]
theorem formE_bad {B : List (List UInt8)} {k : Nat} (hk : k < B.length) (h : formE (B.take k) = 0) (hl : B[k].length ≠ 128) : formE B = 3 := by
 have e : B = B.take k ++ (B[k] :: B.drop (k + 1)) := by rw [List.getElem_cons_drop, List.take_append_drop]
 rw [e, formE_app, if_neg (by simpa using h), formE, if_pos hl]
theorem pendE_take {n : Nat} {p : List WrT} {k : Nat} (hk : k < p.length) (h : pendE n (p.take k) = 0) (h0 : 0 ≤ p[k].1) (h1 : p[k].1 < n) (hl : p[k].2.length = 128) : pendE n (p.take (k + 1)) = 0 := by
 rw [List.take_succ_eq_append_getElem hk, pendE_app, if_neg (by simpa using h), pendE, if_neg (by omega), if_neg (by simpa using hl)]; rfl
theorem pendE_at {n : Nat} {p : List WrT} {k : Nat} (hk : k < p.length) (h : pendE n (p.take k) = 0) : pendE n p = pendE n (p[k] :: p.drop (k + 1)) := by
 have e : p = p.take k ++ (p[k] :: p.drop (k + 1)) := by rw [List.getElem_cons_drop, List.take_append_drop]
 conv => lhs; rw [e]
 rw [pendE_app, if_neg (by simpa using h)]
set_option maxHeartbeats 1000000 in
set_option maxRecDepth 100000 in
theorem dcheck_any (bA pA : Option Addr) (bn bc pn pc : Nat) (left : Int) (B : List (List UInt8)) (p : List WrT) (w : World) (hb : Strs w bA bn B) (hp : Wrs w pA pn p) (hpn : pn ≤ 9223372036854775807) :
  Calls Tryz.prog 93 #[.agg #[.slice bA bn bc, .slice pA pn pc, .int .i64 left]] w fun e w' => e = .returned (.int .i64 (drvE B p)) ∧ Ext w w' := by
 obtain ⟨rfl, hb2⟩ := hb
 obtain ⟨rfl, hp2⟩ := hp
 have hz := str_size
 by_cases h256 : 256 < B.length
 ·go_enter Tryz.func93, Tryz.ntmps93
  go_wp2_with fail
  go_ret
  exact ⟨ret_int (by unfold drvE; rw [if_pos h256]), (Ext.refl w).alloc _⟩
 have HD := Lib.hid (show drvE B p = if formE B ≠ 0 then 3 else pendE B.length p by unfold drvE; rw [if_neg h256])
 go_enter Tryz.func93, Tryz.ntmps93
 go_wp2_with fail
 generalize hw1 : w.alloc _ = w1
 have x1 : Ext w w1 := by rw [← hw1]; exact (Ext.refl _).alloc _
 have b1 : Box w1 w.heap.size 36 #[.slice bA B.length bc, .slice pA p.length pc, .int .i64 left] := by rw [← hw1]; exact Box.new _ _ _
 clear hw1
 have q1 := b1.cell 1
 go_loop [4, 14] (fun _ i => ∃ k : Nat, k ≤ B.length ∧ i = .int .i64 k ∧ formE (B.take k) = 0) (fun _ i => B.length - (intOf i).toNat)
 case atStart => exact ⟨0, by omega, rfl, rfl⟩
 case round =>
  obtain ⟨k, hk, rfl, hf⟩ := hrel
  have HF := Lib.hid hf
  clear hf
  by_cases hlt : k < B.length
  ·obtain ⟨b, o, rfl, hcell⟩ := hb2 (by omega)
   have c1 := x1.keep (hcell k hlt)
   clear hcell
   by_cases hl : B[k].length = 128
   ·have HN := Lib.hid (formE_take hlt HF.out hl)
    have hl' : ((B[k].length : Int) != 128) = false := by rw [hl]; rfl
    generalize B[k] = s at *
    go_wp2_with fail
    go_round
    case rel => exact ⟨k + 1, by omega, by go_num, HN.out⟩
    case measure => simp [intOf]; omega
   ·have HN := Lib.hid (formE_bad hlt HF.out hl)
    have hl' : ((B[k].length : Int) != 128) = true := by simp; omega
    generalize B[k] = s at *
    go_wp2_with fail
    go_ret
    exact ⟨ret_int (by rw [HD.out, HN.out]; rfl), x1⟩
  ·obtain rfl : k = B.length := by omega
   have HF2 := Lib.hid (show drvE B p = pendE B.length p by rw [HD.out]; have := HF.out; rw [List.take_length] at this; rw [if_neg (by simpa using this)])
   clear HF HD
   go_wp2_with fail
   go_loopw [6, 25] (fun _ i wx => ∃ k : Nat, k ≤ p.length ∧ i = .int .i64 k ∧ pendE B.length (p.take k) = 0 ∧ Ext w1 wx) (fun _ i _ => p.length - (intOf i).toNat)
   case atStart => exact ⟨0, by omega, rfl, rfl, Ext.refl _⟩
   case round =>
    obtain ⟨k, hk, rfl, hf, hx⟩ := hrel
    have HF := Lib.hid hf
    clear hf
    have bx := b1.ext hx
    by_cases hlt : k < p.length
    ·obtain ⟨b, o, rfl, hcell⟩ := hp2 (by omega)
     have c1 := (x1.trans hx).keep (hcell k hlt).1
     have c2 := (x1.trans hx).keep (hcell k hlt).2
     clear hcell
     have HA := Lib.hid (pendE_at (n := B.length) hlt HF.out)
     have HT := Lib.hid (pendE_take (n := B.length) hlt HF.out)
     clear HF
     generalize p[k] = s at *
     by_cases hin : 0 ≤ s.1 ∧ s.1 < (B.length : Int)
     ·have din : decide (0 ≤ s.1 ∧ s.1 < (B.length : Int)) = true := decide_eq_true hin
      by_cases hl : s.2.length = 128
      ·have HN := Lib.hid (HT.out hin.1 hin.2 hl)
       have hl' : ((s.2.length : Int) != 128) = false := by rw [hl]; rfl
       clear hin
       go_wp2_with (first
        | (refine wp_ld_drv (.tmp 1) rfl rfl w.heap.size _ 36 rfl (bx.ext ((Ext.refl _).alloc _)) rfl ?_)
        | (go_at_call 162; refine (has_any _ _ _ _ _ _ _ _ _).mono ?_; rintro e w2 ⟨rfl, x2⟩; rw [din]; have y2 := (Box.new wr 92 #[.int .i64 s.1, .string (str s.2)]).ext x2; have y20 := y2.cell 1))
       go_roundw
       case rel => exact ⟨k + 1, by omega, by go_num, HN.out, hx.trans (((Ext.refl _).alloc _).trans x2)⟩
       case measure => simp [intOf]; omega
      ·have HN := Lib.hid (show drvE B p = 3 by rw [HF2.out, HA.out, pendE, if_neg (by omega), if_pos hl])
       have hl' : ((s.2.length : Int) != 128) = true := by simp; omega
       clear hin
       go_wp2_with (first
        | (refine wp_ld_drv (.tmp 1) rfl rfl w.heap.size _ 36 rfl (bx.ext ((Ext.refl _).alloc _)) rfl ?_)
        | (go_at_call 162; refine (has_any _ _ _ _ _ _ _ _ _).mono ?_; rintro e w2 ⟨rfl, x2⟩; rw [din]; have y2 := (Box.new wr 92 #[.int .i64 s.1, .string (str s.2)]).ext x2; have y20 := y2.cell 1))
       go_ret
       exact ⟨ret_int HN.out.symm, x1.trans (hx.trans (((Ext.refl _).alloc _).trans x2))⟩
     ·have din : decide (0 ≤ s.1 ∧ s.1 < (B.length : Int)) = false := decide_eq_false hin
      have HN := Lib.hid (show drvE B p = 2 by rw [HF2.out, HA.out, pendE, if_pos (by omega)])
      clear hin
      go_wp2_with (first
       | (refine wp_ld_drv (.tmp 1) rfl rfl w.heap.size _ 36 rfl (bx.ext ((Ext.refl _).alloc _)) rfl ?_)
       | (go_at_call 162; refine (has_any _ _ _ _ _ _ _ _ _).mono ?_; rintro e w2 ⟨rfl, x2⟩; rw [din]; have y2 := (Box.new wr 92 #[.int .i64 s.1, .string (str s.2)]).ext x2; have y20 := y2.cell 1))
      go_ret
      exact ⟨ret_int HN.out.symm, x1.trans (hx.trans (((Ext.refl _).alloc _).trans x2))⟩
    ·obtain rfl : k = p.length := by omega
     have HN := Lib.hid (show drvE B p = 0 by rw [HF2.out]; have := HF.out; rw [List.take_length] at this; exact this)
     clear HF
     go_wp2_with fail
     go_ret
     exact ⟨ret_int HN.out.symm, x1.trans hx⟩
set_option maxHeartbeats 1000000 in
set_option maxRecDepth 100000 in
theorem jrn_any (bA pA : Option Addr) (bn bc pn pc : Nat) (left : Int) (B : List (List UInt8)) (p : List WrT) (w : World) (hb : Strs w bA bn B) (hp : Wrs w pA pn p) (hpn : pn ≤ 9223372036854775807) :
  Calls Tryz.prog 95 #[.agg #[.slice bA bn bc, .slice pA pn pc, .int .i64 left]] w fun e w' => e = .returned (.int .i64 (jrnE B p)) ∧ Ext w w' := by
 have HC := Lib.hid (fun w h1 h2 => dcheck_any bA pA bn bc pn pc left B p w h1 h2 hpn)
 obtain rfl := hb.1
 have xa := (Ext.refl w).alloc (.cells #[.slice bA B.length bc, .slice pA pn pc, .int .i64 left] 36)
 have hs := hb.ext xa
 have hw := hp.ext xa
 by_cases hd : drvE B p = 0
 ·rw [hd] at HC
  by_cases h33 : B.length ≤ 33
  ·have HN := Lib.hid (show jrnE B p = 2 by unfold jrnE; rw [if_neg (by simpa using hd), if_pos h33])
   go_enter Tryz.func95, Tryz.ntmps95
   go_wp2_with (go_at_call 93; refine (HC.out _ hs hw).mono ?_; rintro e w1 ⟨rfl, x1⟩; have q0 := ((Box.new w 36 #[.slice bA B.length bc, .slice pA pn pc, .int .i64 left]).ext x1).cell 0)
   go_ret
   exact ⟨ret_int HN.out.symm, xa.trans x1⟩
  ·have HN := Lib.hid (show jrnE B p = 0 by unfold jrnE; rw [if_neg (by simpa using hd), if_neg h33])
   go_enter Tryz.func95, Tryz.ntmps95
   go_wp2_with (go_at_call 93; refine (HC.out _ hs hw).mono ?_; rintro e w1 ⟨rfl, x1⟩; have q0 := ((Box.new w 36 #[.slice bA B.length bc, .slice pA pn pc, .int .i64 left]).ext x1).cell 0)
   go_ret
   exact ⟨ret_int HN.out.symm, xa.trans x1⟩
 ·have HN := Lib.hid (show jrnE B p = drvE B p by unfold jrnE; rw [if_pos hd])
  have d1 : (drvE B p != 0) = true := by simpa using hd
  clear hd
  generalize drvE B p = dd at *
  go_enter Tryz.func95, Tryz.ntmps95
  go_wp2_with (go_at_call 93; refine (HC.out _ hs hw).mono ?_; rintro e w1 ⟨rfl, x1⟩)
  go_ret
  exact ⟨ret_int HN.out.symm, xa.trans x1⟩
end Go.Proofs.YtfaplefkakpgcaaGreatDoor
/- The document's drives: Check, bad, Get, Home. -/
namespace Go.Proofs.YtfaplefkakpgcaaGreatDoor
set_option linter.unusedVariables false
set_option linter.unusedSimpArgs false
open Go.RowKit
set_option maxHeartbeats 2000000 in
set_option maxRecDepth 100000 in
theorem rdcheck_any (bA pA : Option Addr) (bn bc pn pc : Nat) (left : Int) (B : List (List UInt8)) (p : List WrT) (w : World) (hb : Strs w bA bn B) (hp : Wrs w pA pn p) (hpn : pn ≤ 9223372036854775807) :
  Calls Tryz.prog 98 #[.agg #[.slice bA bn bc, .slice pA pn pc, .int .i64 left]] w fun e w' => e = .returned (.int .i64 (drvE B p)) ∧ Ext w w' := by
 obtain ⟨rfl, hb2⟩ := hb
 obtain ⟨rfl, hp2⟩ := hp
 have hz := str_size
 by_cases h256 : 256 < B.length
 ·go_enter Tryz.func98, Tryz.ntmps98
  go_wp2_with fail
  go_ret
  exact ⟨ret_int (by unfold drvE; rw [if_pos h256]), (Ext.refl w).alloc _⟩
 have HD := Lib.hid (show drvE B p = if formE B ≠ 0 then 3 else pendE B.length p by unfold drvE; rw [if_neg h256])
 go_enter Tryz.func98, Tryz.ntmps98
 go_wp2_with fail
 generalize hw1 : w.alloc _ = w1
 have x1 : Ext w w1 := by rw [← hw1]; exact (Ext.refl _).alloc _
 have b1 : Box w1 w.heap.size 36 #[.slice bA B.length bc, .slice pA p.length pc, .int .i64 left] := by rw [← hw1]; exact Box.new _ _ _
 clear hw1
 go_loop [3] (fun i => ∃ k : Nat, k ≤ B.length ∧ i = .int .i64 k ∧ formE (B.take k) = 0) (fun i => B.length - (intOf i).toNat)
 case atStart => exact ⟨0, by omega, rfl, rfl⟩
 case round =>
  obtain ⟨k, hk, rfl, hf⟩ := hrel
  have HF := Lib.hid hf
  clear hf
  have q0 := b1.cell 0
  have q1 := b1.cell 1
  by_cases hlt : k < B.length
  ·obtain ⟨b, o, rfl, hcell⟩ := hb2 (by omega)
   have c1 := x1.keep (hcell k hlt)
   clear hcell
   by_cases hl : B[k].length = 128
   ·have HN := Lib.hid (formE_take hlt HF.out hl)
    have hl' : ((B[k].length : Int) != 128) = false := by rw [hl]; rfl
    generalize B[k] = s at *
    go_wp2_with fail
    go_round
    case rel => exact ⟨k + 1, by omega, by go_num, HN.out⟩
    case measure => simp [intOf]; omega
   ·have HN := Lib.hid (formE_bad hlt HF.out hl)
    have hl' : ((B[k].length : Int) != 128) = true := by simp; omega
    generalize B[k] = s at *
    go_wp2_with fail
    go_ret
    exact ⟨ret_int (by rw [HD.out, HN.out]; rfl), x1⟩
  ·obtain rfl : k = B.length := by omega
   have HF2 := Lib.hid (show drvE B p = pendE B.length p by rw [HD.out]; have := HF.out; rw [List.take_length] at this; rw [if_neg (by simpa using this)])
   clear HF HD
   go_wp2_with fail
   go_loopw [4] (fun i wx => ∃ k : Nat, k ≤ p.length ∧ i = .int .i64 k ∧ pendE B.length (p.take k) = 0 ∧ Ext w1 wx) (fun i _ => p.length - (intOf i).toNat)
   case atStart => exact ⟨0, by omega, rfl, rfl, Ext.refl _⟩
   case round =>
    obtain ⟨k, hk, rfl, hf, hx⟩ := hrel
    have HF := Lib.hid hf
    clear hf
    have bx := b1.ext hx
    have r0 := bx.cell 0
    have r1 := bx.cell 1
    clear q0 q1 bx
    by_cases hlt : k < p.length
    ·obtain ⟨b, o, rfl, hcell⟩ := hp2 (by omega)
     have c1 := (x1.trans hx).keep (hcell k hlt).1
     have c2 := (x1.trans hx).keep (hcell k hlt).2
     clear hcell
     have HA := Lib.hid (pendE_at (n := B.length) hlt HF.out)
     have HT := Lib.hid (pendE_take (n := B.length) hlt HF.out)
     clear HF
     have hki : (k : Int) < (p.length : Int) := by omega
     generalize p[k] = s at *
     by_cases h0 : s.1 < 0
     ·have d0 : decide (s.1 < 0) = true := decide_eq_true h0
      have HN := Lib.hid (show drvE B p = 2 by rw [HF2.out, HA.out, pendE, if_pos (by omega)])
      go_wp2_with fail
      go_quiet (fail)
      go_wp2_with fail
      go_ret
      exact ⟨ret_int HN.out.symm, x1.trans (hx.drewN _)⟩
     ·have d0 : decide (s.1 < 0) = false := decide_eq_false h0
      by_cases h1 : (B.length : Int) ≤ s.1
      ·have d1 : decide ((B.length : Int) ≤ s.1) = true := decide_eq_true h1
       have HN := Lib.hid (show drvE B p = 2 by rw [HF2.out, HA.out, pendE, if_pos (by omega)])
       go_wp2_with fail
       go_quiet (fail)
       go_wp2_with fail
       go_ret
       exact ⟨ret_int HN.out.symm, x1.trans (hx.drewN _)⟩
      ·have d1 : decide ((B.length : Int) ≤ s.1) = false := decide_eq_false h1
       by_cases hl : s.2.length = 128
       ·have HN := Lib.hid (HT.out (by omega) (by omega) hl)
        have hl' : ((s.2.length : Int) != 128) = false := by rw [hl]; rfl
        go_wp2_with fail
        go_quiet (fail)
        go_wp2_with fail
        go_roundw
        case rel => exact ⟨k + 1, by omega, by go_num, HN.out, hx.drewN _⟩
        case measure => simp [intOf]; omega
       ·have HN := Lib.hid (show drvE B p = 3 by rw [HF2.out, HA.out, pendE, if_neg (by omega), if_pos hl])
        have hl' : ((s.2.length : Int) != 128) = true := by simp; omega
        go_wp2_with fail
        go_quiet (fail)
        go_wp2_with fail
        go_ret
        exact ⟨ret_int HN.out.symm, x1.trans (hx.drewN _)⟩
    ·obtain rfl : k = p.length := by omega
     have HN := Lib.hid (show drvE B p = 0 by rw [HF2.out]; have := HF.out; rw [List.take_length] at this; exact this)
     clear HF
     go_wp2_with fail
     go_ret
     exact ⟨ret_int HN.out.symm, x1.trans hx⟩
set_option maxHeartbeats 1000000 in
set_option maxRecDepth 100000 in
theorem rbad_any (bA pA : Option Addr) (bn bc pn pc : Nat) (left : Int) (B : List (List UInt8)) (p : List WrT) (w : World) (hb : Strs w bA bn B) (hp : Wrs w pA pn p) (hpn : pn ≤ 9223372036854775807) :
  Calls Tryz.prog 143 #[.agg #[.slice bA bn bc, .slice pA pn pc, .int .i64 left]] w fun e w' => e = .returned (.int .i64 (jrnE B p)) ∧ Ext w w' := by
 have HC := Lib.hid (fun w h1 h2 => rdcheck_any bA pA bn bc pn pc left B p w h1 h2 hpn)
 obtain rfl := hb.1
 have xa := (Ext.refl w).alloc (.cells #[.slice bA B.length bc, .slice pA pn pc, .int .i64 left] 36)
 have hs := hb.ext xa
 have hw := hp.ext xa
 by_cases hd : drvE B p = 0
 ·rw [hd] at HC
  by_cases h33 : B.length ≤ 33
  ·have HN := Lib.hid (show jrnE B p = 2 by unfold jrnE; rw [if_neg (by simpa using hd), if_pos h33])
   go_enter Tryz.func143, Tryz.ntmps143
   go_wp2_with (go_at_call 98; refine (HC.out _ hs hw).mono ?_; rintro e w1 ⟨rfl, x1⟩; have q0 := ((Box.new w 36 #[.slice bA B.length bc, .slice pA pn pc, .int .i64 left]).ext x1).cell 0)
   go_ret
   exact ⟨ret_int HN.out.symm, xa.trans x1⟩
  ·have HN := Lib.hid (show jrnE B p = 0 by unfold jrnE; rw [if_neg (by simpa using hd), if_neg h33])
   go_enter Tryz.func143, Tryz.ntmps143
   go_wp2_with (go_at_call 98; refine (HC.out _ hs hw).mono ?_; rintro e w1 ⟨rfl, x1⟩; have q0 := ((Box.new w 36 #[.slice bA B.length bc, .slice pA pn pc, .int .i64 left]).ext x1).cell 0)
   go_ret
   exact ⟨ret_int HN.out.symm, xa.trans x1⟩
 ·have HN := Lib.hid (show jrnE B p = drvE B p by unfold jrnE; rw [if_pos hd])
  have d1 : (drvE B p != 0) = true := by simpa using hd
  clear hd
  generalize drvE B p = dd at *
  go_enter Tryz.func143, Tryz.ntmps143
  go_wp2_with (go_at_call 98; refine (HC.out _ hs hw).mono ?_; rintro e w1 ⟨rfl, x1⟩)
  go_ret
  exact ⟨ret_int HN.out.symm, xa.trans x1⟩
end Go.Proofs.YtfaplefkakpgcaaGreatDoor
/- The document's drives: Get, Home. -/
namespace Go.Proofs.YtfaplefkakpgcaaGreatDoor
set_option linter.unusedVariables false
set_option linter.unusedSimpArgs false
open Go.RowKit
theorem getP_take {p : List WrT} {k : Nat} (hk : k < p.length) (i : Int) (s : List UInt8) : getP (p.take (k + 1)) i s = if p[k].1 = i then p[k].2 else getP (p.take k) i s := by
 unfold getP
 rw [List.take_succ_eq_append_getElem hk, List.foldl_append]; rfl
set_option maxHeartbeats 1000000 in
set_option maxRecDepth 100000 in
theorem rget15_any (bA pA : Option Addr) (bn bc pn pc j : Nat) (left : Int) (B : List (List UInt8)) (p : List WrT) (w : World) (hb : Strs w bA bn B) (hp : Wrs w pA pn p) (hpn : pn ≤ 9223372036854775807) (hj : j < B.length) :
  Calls Tryz.prog 144 #[.agg #[.slice bA bn bc, .slice pA pn pc, .int .i64 left], .int .i64 (j : Int)] w fun e w' => e = .returned (.tuple #[.string (str (getP p j (B.getD j []))), .int .i64 0]) ∧ Ext w w' := by
 obtain ⟨rfl, hb2⟩ := hb
 obtain ⟨rfl, hp2⟩ := hp
 obtain ⟨b, o, rfl, hcell⟩ := hb2 (by omega)
 have c1 := ((Ext.refl w).alloc (.cells #[.slice (some ⟨b, o, none⟩) B.length bc, .slice pA p.length pc, .int .i64 left] 36)).keep (hcell j hj)
 rw [show B[j] = B.getD j [] by rw [List.getD_eq_getElem?_getD, List.getElem?_eq_getElem hj]; rfl] at c1
 clear hcell hb2
 have hji : (j : Int) < (B.length : Int) := by omega
 have d1 : decide ((j : Int) < 0) = false := by simp
 have d2 : decide ((B.length : Int) ≤ (j : Int)) = false := by simp; omega
 generalize B.getD j [] = s at *
 go_enter Tryz.func144, Tryz.ntmps144
 go_wp2_with fail
 generalize hw1 : w.alloc _ = w1 at *
 have x1 : Ext w w1 := by rw [← hw1]; exact (Ext.refl _).alloc _
 have b1 : Box w1 w.heap.size 36 #[.slice (some ⟨b, o, none⟩) B.length bc, .slice pA p.length pc, .int .i64 left] := by rw [← hw1]; exact Box.new _ _ _
 clear hw1 c1
 go_loop [6, 7] (fun t i => ∃ k : Nat, k ≤ p.length ∧ i = .int .i64 k ∧ t = .string (str (getP (p.take k) j s))) (fun _ i => p.length - (intOf i).toNat)
 case atStart => exact ⟨0, by omega, rfl, rfl⟩
 case round =>
  obtain ⟨k, hk, rfl, rfl⟩ := hrel
  have q1 := b1.cell 1
  by_cases hlt : k < p.length
  ·obtain ⟨b, o, rfl, hcell⟩ := hp2 (by omega)
   have c1 := x1.keep (hcell k hlt).1
   have c2 := x1.keep (hcell k hlt).2
   have HT := Lib.hid (getP_take hlt (j : Int) s)
   clear hcell
   have hki : (k : Int) < (p.length : Int) := by omega
   generalize p[k] = y at *
   generalize getP (p.take k) (↑j) s = s1 at *
   by_cases he : y.1 = (j : Int)
   ·have de : (y.1 == (j : Int)) = true := by simpa using he
    have HN := Lib.hid (HT.out.trans (if_pos he))
    clear HT he
    go_wp2_with fail
    go_round
    case rel => exact ⟨k + 1, by omega, by go_num, by rw [HN.out]⟩
    case measure => simp [intOf]; omega
   ·have de : (y.1 == (j : Int)) = false := by simpa using he
    have HN := Lib.hid (HT.out.trans (if_neg he))
    clear HT he
    go_wp2_with fail
    go_round
    case rel => exact ⟨k + 1, by omega, by go_num, by rw [HN.out]⟩
    case measure => simp [intOf]; omega
  ·obtain rfl : k = p.length := by omega
   rw [List.take_length]
   obtain ⟨s1, hs1⟩ : ∃ s1, s1 = getP p (↑j) s := ⟨_, rfl⟩
   rw [← hs1]
   have HS := Lib.hid hs1
   clear hs1
   go_wp2_with fail
   go_ret2
   rw [HS.out]
   exact ⟨rfl, x1⟩
theorem homeP_at {B : List (List UInt8)} {p : List WrT} (h : jrnE B p = 0) {k : Nat} (hk : k < B.length - 33) : (homeP B p).take (k + 1) = (homeP B p).take k ++ [getP p (33 + k : Nat) (B.getD (33 + k) [])] := by
 have hl := homeP_len h
 rw [List.take_succ_eq_append_getElem (by omega)]
 congr 2
 have : (homeP B p)[k]? = some (getP p (33 + k : Nat) (B.getD (33 + k) [])) := by rw [homeP_get h, List.getElem?_map, List.getElem?_range hk]; rfl
 rw [List.getElem?_eq_getElem (by omega)] at this
 exact Option.some.inj this
theorem strs_one (w : World) (s : List UInt8) : Strs (w.alloc (.cells #[.string (str s)] 9)) (some ⟨w.heap.size, 0, none⟩) 1 [s] := by
 refine ⟨rfl, fun _ => ⟨_, _, rfl, fun j hj => ?_⟩⟩
 have hj' : j < 1 := hj
 obtain rfl : j = 0 := by omega
 exact (Box.new w 9 #[.string (str s)]).cell 0
set_option maxHeartbeats 2000000 in
set_option maxRecDepth 100000 in
theorem rhome_any (bA pA : Option Addr) (bn bc pn pc : Nat) (left : Int) (B : List (List UInt8)) (p : List WrT) (w : World) (hb : Strs w bA bn B) (hp : Wrs w pA pn p) (hpn : pn ≤ 9223372036854775807) :
  Calls Tryz.prog 72 #[.agg #[.slice bA bn bc, .slice pA pn pc, .int .i64 left]] w fun e w' => ∃ A c, e = .returned (.slice A (homeP B p).length c) ∧ Ext w w' ∧ w'.ownsRow w.heap.size 9 1 (.slice A (homeP B p).length c) (homeP B p).length (strL (homeP B p)) := by
 have HC := Lib.hid (fun w h1 h2 => rbad_any bA pA bn bc pn pc left B p w h1 h2 hpn)
 have HG := Lib.hid (fun w j h1 h2 h3 => rget15_any bA pA bn bc pn pc j left B p w h1 h2 hpn h3)
 obtain rfl := hb.1
 have xa := ((Ext.refl w).alloc (.cells #[.slice bA B.length bc, .slice pA pn pc, .int .i64 left] 36)).alloc (.cells #[] 9)
 have oa : ((w.alloc (.cells #[.slice bA B.length bc, .slice pA pn pc, .int .i64 left] 36)).alloc (.cells #[] 9)).ownsRow w.heap.size 9 1 (.slice (some ⟨w.heap.size + 1, 0, none⟩) 0 0) 0 (strL []) := by
  have := World.ownsRow_lit (base := w.heap.size) (e := 9) (size := 1) (w.alloc (.cells #[.slice bA B.length bc, .slice pA pn pc, .int .i64 left] 36)) #[] 0 (by simp) (by decide) rfl
  rw [World.size_alloc] at this
  exact this
 have ba := (Box.new w 36 #[.slice bA B.length bc, .slice pA pn pc, .int .i64 left]).ext ((Ext.refl _).alloc (.cells #[] 9))
 have hs := hb.ext xa
 have hw := hp.ext xa
 by_cases hd : jrnE B p = 0
 ·rw [hd] at HC
  have hl := Lib.hid (homeP_len hd)
  have hok := drvOk_of hd
  have HT := Lib.hid (fun k hk => homeP_at hd (k := k) hk)
  have h33 := hok.least
  have h256 := hok.most
  clear hok hd
  go_enter Tryz.func72, Tryz.ntmps72
  go_wp2_with (go_at_call 143; refine (HC.out _ hs hw).mono ?_; rintro e w1 ⟨rfl, x1⟩)
  have o1 := own_ext oa x1
  have b1 := ba.ext x1
  have xw1 := xa.trans x1
  clear oa ba hs hw xa x1
  go_loopw [3, 4, 5, 6] (fun u i _ _ wx => ∃ k : Nat, k ≤ B.length - 33 ∧ i = .int .i64 ((33 + k : Nat) : Int) ∧ Ext w wx ∧ wx.ownsRow w.heap.size 9 1 u k (strL ((homeP B p).take k)) ∧ Box wx w.heap.size 36 #[.slice bA B.length bc, .slice pA pn pc, .int .i64 left]) (fun _ i _ _ _ => B.length - (intOf i).toNat)
  case atStart => exact ⟨0, by omega, rfl, xw1, o1, b1⟩
  case round =>
   obtain ⟨k, hk, rfl, xk, ok, bk⟩ := hrel
   have q0 := bk.cell 0
   have hxs := xk.size
   by_cases hlt : k < B.length - 33
   ·have hlt2 : ((33 + k : Nat) : Int) < (B.length : Int) := by omega
    have HN := Lib.hid (HT.out k hlt)
    have nk := own_ne ok bk (by decide)
    go_wp2_with (first
     | (refine wp_ld_drv (.tmp 1) rfl rfl w.heap.size _ 36 rfl bk rfl ?_)
     | (go_at_call 144; refine (HG.out _ (33 + k) (hb.ext xk) (hp.ext xk) (by omega)).mono ?_; rintro e w2 ⟨rfl, x2⟩; generalize getP p (((33 + k : Nat)) : Int) (B.getD (33 + k) []) = s at *; have hok := own_ext (own_ext ok x2) ((Ext.refl w2).alloc (.cells #[.string (str s)] 9)); have hst := strs_one w2 s; have hsz : w.heap.size ≤ (w2.alloc (.cells #[.string (str s)] 9)).heap.size := by (have := x2.size; simp; omega))
     | (at_builtin; refine wp_app_strs w.heap.size rfl _ _ rfl rfl rfl hok hst (by omega) hsz (by omega) ?_; intro u' w4 own4 g4))
    have x4 : Ext w w4 := ((xk.trans x2).alloc _).grown g4 (fun j e => own_low ok e)
    go_roundw
    case rel => exact ⟨k + 1, by omega, by go_num, x4, by rw [HN.out]; exact own4, ((bk.ext x2).ext ((Ext.refl w2).alloc _)).grown g4 nk⟩
    case measure => simp [intOf]; omega
   ·obtain rfl : k = B.length - 33 := by omega
    obtain ⟨g, cap, rfl, hgW, _⟩ := Strs.own' ok (by omega)
    rw [← hl.out, List.take_length] at ok
    have hl2 : ¬ (((33 + (B.length - 33) : Nat) : Int) < (B.length : Int)) := by omega
    rw [← hl.out]
    rw [← hl.out] at hl2
    obtain ⟨h, hh⟩ : ∃ h, h = homeP B p := ⟨_, rfl⟩
    rw [← hh] at hl2 ok ⊢
    have HH := Lib.hid hh
    clear hh
    have hl2' : decide ((((33 + h.length : Nat)) : Int) < (B.length : Int)) = false := by simpa using hl2
    go_wp2_with fail
    go_ret
    rw [← HH.out]
    exact ⟨_, _, rfl, xk, ok⟩
 ·have HE := Lib.hid (show homeP B p = [] by unfold homeP; rw [if_pos hd])
  have d1 : (jrnE B p != 0) = true := by simpa using hd
  clear hd
  generalize jrnE B p = dd at *
  go_enter Tryz.func72, Tryz.ntmps72
  go_wp2_with (go_at_call 143; refine (HC.out _ hs hw).mono ?_; rintro e w1 ⟨rfl, x1⟩)
  go_ret
  rw [HE.out]
  exact ⟨_, _, rfl, xa.trans x1, own_ext oa x1⟩
end Go.Proofs.YtfaplefkakpgcaaGreatDoor
/- The volume: wal.Home, cache.View. -/
namespace Go.Proofs.YtfaplefkakpgcaaGreatDoor
set_option linter.unusedVariables false
set_option linter.unusedSimpArgs false
open Go.RowKit
theorem strs_drop {w : World} {b o n m : Nat} {B : List (List UInt8)} (h : Strs w (some ⟨b, o, none⟩) n B) (hm : m < n) : Strs w (some ⟨b, o + m, none⟩) (n - m) (B.drop m) := by
 obtain ⟨rfl, h2⟩ := h
 obtain ⟨b', o', e, hc⟩ := h2 (by omega)
 injection e with e
 injection e with e1 e2
 subst e1; subst e2
 refine ⟨by simp, fun _ => ⟨_, _, rfl, fun j hj => ?_⟩⟩
 rw [List.length_drop] at hj
 rw [List.getElem_drop, Nat.add_assoc]
 exact hc (m + j) (by omega)
theorem own_set {w : World} {base n g cap i : Nat} {v : List (List UInt8)} (h : w.ownsRow base 9 1 (.slice (some ⟨g, 0, none⟩) n cap) n (strL v)) (r : List UInt8) : (w.setCell ⟨g, i, none⟩ (.string (str r))).ownsRow base 9 1 (.slice (some ⟨g, 0, none⟩) n cap) n (strL (v.set i r)) := by
 rw [show strL (v.set i r) = (strL v).set i (.string (str r)) by simp [strL, List.map_set]]
 exact (h.stored i (.string (str r))).1
theorem own_slice {w : World} {base n : Nat} {t : TypeId} {u : Value} {ss : List (List UInt8)} (h : w.ownsRow base t 1 u n (strL ss)) : ∃ A cap, u = .slice A n cap ∧ n = ss.length := by
 have hl : n = ss.length := by have := h.1; simpa [strL] using this.symm
 rcases h.2 with ⟨rfl, h0⟩ | ⟨g, cap, cur, rfl, hb, _⟩
 ·exact ⟨none, 0, by rw [h0], hl⟩
 ·exact ⟨_, _, rfl, hl⟩
set_option maxHeartbeats 2000000 in
set_option maxRecDepth 100000 in
theorem home_any (bA pA : Option Addr) (bn bc pn pc : Nat) (left : Int) (B : List (List UInt8)) (p : List WrT) (w : World) (hb : Strs w bA bn B) (hp : Wrs w pA pn p) (hpn : pn ≤ 9223372036854775807) (hbc : bn ≤ bc) :
  Calls Tryz.prog 50 #[.agg #[.slice bA bn bc, .slice pA pn pc, .int .i64 left]] w fun e w' => ∃ A c, e = .returned (.slice A (homeP B p).length c) ∧ Ext w w' ∧ w'.ownsRow w.heap.size 9 1 (.slice A (homeP B p).length c) (homeP B p).length (strL (homeP B p)) := by
 have HC := Lib.hid (fun w h1 h2 => jrn_any bA pA bn bc pn pc left B p w h1 h2 hpn)
 obtain rfl := hb.1
 have xa := (Ext.refl w).alloc (.cells #[.slice bA B.length bc, .slice pA pn pc, .int .i64 left] 36)
 have ba := Box.new w 36 #[.slice bA B.length bc, .slice pA pn pc, .int .i64 left]
 have hs := hb.ext xa
 have hw := hp.ext xa
 by_cases hd : jrnE B p = 0
 ·rw [hd] at HC
  have hl := homeP_len hd
  have hok := drvOk_of hd
  have HE := Lib.hid (show homeP B p = p.foldl putP (B.drop 33) by unfold homeP; rw [if_neg (by simpa using hd)])
  have h33 := hok.least
  have h256 := hok.most
  have HP := Lib.hid hok.pend
  clear hok hd
  obtain ⟨b, o, rfl, _⟩ := hb.2 (by omega)
  have hd33 := strs_drop (m := 33) hs (by omega)
  obtain ⟨rfl, hp2⟩ := hp
  go_enter Tryz.func50, Tryz.ntmps50
  go_wp2_with (first
   | (go_at_call 95; refine (HC.out _ hs hw).mono ?_; rintro e w1 ⟨rfl, x1⟩; have b1 := ba.ext x1; have q0 := b1.cell 0; have q1 := b1.cell 1; have s1 := hd33.ext x1; have hsz : w.heap.size ≤ w1.heap.size := (xa.trans x1).size)
   | (at_builtin; refine wp_app_nil w.heap.size rfl _ _ rfl rfl rfl s1 (by omega) hsz (by omega) ?_; intro u' w2 own2 x2; have q2 := (b1.ext x2).cell 1; obtain ⟨g, cap, rfl, hg, _⟩ := Strs.own' own2 (by omega)))
  have xw2 := xa.trans (x1.trans x2)
  clear q0 q1 q2 s1 hd33 hs hw x1 x2 b1 ba xa
  rw [← hl]
  rw [← hl] at own2
  have hb' : 0 < (homeP B p).length := by omega
  have hL := Lib.hid hl
  generalize hN : (homeP B p).length = N at *
  have HNN := Lib.hid hN
  clear hl hN
  go_loopw [5, 16] (fun _ i wx => ∃ k : Nat, k ≤ p.length ∧ i = .int .i64 k ∧ Ext w wx ∧ wx.ownsRow w.heap.size 9 1 (.slice (some ⟨g, 0, none⟩) N cap) N (strL ((p.take k).foldl putP (B.drop 33)))) (fun _ i _ => p.length - (intOf i).toNat)
  case atStart => exact ⟨0, by omega, rfl, xw2, own2⟩
  case round =>
   obtain ⟨k, hk, rfl, xk, ok⟩ := hrel
   by_cases hlt : k < p.length
   ·obtain ⟨b2, o2, rfl, hcell⟩ := hp2 (by omega)
    have c1 := xk.keep (hcell k hlt).1
    have c2 := xk.keep (hcell k hlt).2
    have HT := Lib.hid (show (p.take (k + 1)).foldl putP (B.drop 33) = putP ((p.take k).foldl putP (B.drop 33)) p[k] by rw [List.take_succ_eq_append_getElem hlt, List.foldl_append]; rfl)
    have hy := HP.out p[k] (List.getElem_mem _)
    clear hcell
    have hki : (k : Int) < (p.length : Int) := by omega
    generalize p[k] = y at *
    generalize (p.take k).foldl putP (B.drop 33) = V at *
    have okA := own_ext ok ((Ext.refl wr).alloc (.cells #[.int .i64 y.1, .string (str y.2)] 92))
    have hV : V.length = N := by have := ok.1; simpa [strL] using this
    by_cases h3 : 33 ≤ y.1
    ·obtain ⟨q, hq⟩ : ∃ q : Nat, y.1 - 33 = q := ⟨(y.1 - 33).toNat, by omega⟩
     have hL2 := hL.out
     have HY := Lib.hid (show putP V y = V.set q y.2 by unfold putP; rw [if_pos h3, hq]; rfl)
     have hqN : q < N := by omega
     have kc : (wr.alloc (.cells #[.int .i64 y.1, .string (str y.2)] 92)).cell? ⟨g, q, none⟩ = some (.string (str (V.getD q []))) := (okA.cellAt q (by omega)).trans (by simp [strL, hV, hqN, List.getD_eq_getElem?_getD])
     have kf := okA.frozenAt q
     have wq : IntKind.i64.wrap (y.1 - 33) = (q : Int) := by rw [IntKind.wrap_i64]; omega
     have d3 : decide (33 ≤ y.1) = true := decide_eq_true h3
     have hqi : (q : Int) < (N : Int) := by omega
     clear hq hL2 h3 hy
     go_wp2_with fail
     go_roundw
     case rel => exact ⟨k + 1, by omega, by go_num, (xk.alloc _).setCell hg _, by rw [HT.out, HY.out]; exact own_set okA _⟩
     case measure => simp [intOf]; omega
    ·have HY := Lib.hid (show putP V y = V by unfold putP; rw [if_neg h3])
     have d3 : decide (33 ≤ y.1) = false := decide_eq_false h3
     go_wp2_with fail
     go_roundw
     case rel => exact ⟨k + 1, by omega, by go_num, xk.alloc _, by rw [HT.out, HY.out]; exact okA⟩
     case measure => simp [intOf]; omega
   ·obtain rfl : k = p.length := by omega
    rw [List.take_length, ← HE.out] at ok
    go_wp2_with fail
    go_ret
    rw [HNN.out]
    exact ⟨_, _, rfl, xk, ok⟩
 ·have HE := Lib.hid (show homeP B p = [] by unfold homeP; rw [if_pos hd])
  have d1 : (jrnE B p != 0) = true := by simpa using hd
  clear hd
  generalize jrnE B p = dd at *
  go_enter Tryz.func50, Tryz.ntmps50
  go_wp2_with (go_at_call 95; refine (HC.out _ hs hw).mono ?_; rintro e w1 ⟨rfl, x1⟩)
  go_ret
  rw [HE.out]
  exact ⟨_, _, rfl, xa.trans x1, World.ownsRow_nil _ _ _ _⟩
end Go.Proofs.YtfaplefkakpgcaaGreatDoor
/- The kernel's volume: cache.View, and the document's. -/
namespace Go.Proofs.YtfaplefkakpgcaaGreatDoor
set_option linter.unusedVariables false
set_option linter.unusedSimpArgs false
open Go.RowKit
theorem foldl_lay_take {p : List WrT} {k : Nat} (hk : k < p.length) (v : List (List UInt8)) : (p.take (k + 1)).foldl layP v = layP ((p.take k).foldl layP v) p[k] := by
 rw [List.take_succ_eq_append_getElem hk, List.foldl_append]; rfl
theorem maxLen_le {n : Nat} (h : n ≤ maxLen) : n ≤ 9223372036854775807 := by unfold maxLen at h; omega
theorem MacIn.drv {w : World} {m : Mac} {d : MacD} (h : MacIn w m d) : Strs w m.bl.A m.bl.n d.bl ∧ Wrs w m.pe.A m.pe.n d.pe ∧ Wrs w m.di.A m.di.n d.di ∧ m.pe.n ≤ 9223372036854775807 ∧ m.di.n ≤ 9223372036854775807 ∧ m.bl.n ≤ m.bl.c :=
 ⟨h.bl.strs, h.pe.wrs, h.di.wrs, maxLen_le h.pek.2.1, maxLen_le h.dik.2.1, h.blk.2.2⟩
set_option maxHeartbeats 2000000 in
set_option maxRecDepth 100000 in
theorem view_any (m : Mac) (d : MacD) (w : World) (h : MacIn w m d) :
  Calls Tryz.prog 18 #[.agg m.cells] w fun e w' => ∃ A c, e = .returned (.slice A (viewP d.bl d.pe d.di).length c) ∧ Ext w w' ∧ w'.ownsRow w.heap.size 9 1 (.slice A (viewP d.bl d.pe d.di).length c) (viewP d.bl d.pe d.di).length (strL (viewP d.bl d.pe d.di)) := by
 obtain ⟨hb, hp, hd, hpn, hdn, hbc⟩ := h.drv
 clear h
 obtain ⟨clock, quantum, cur, left, ⟨fA, fn, fc⟩, ⟨rA, rn, rc⟩, next, init, ⟨iA, inn, ic⟩, newPipe, inp, fin, told, ⟨bA, bn, bc⟩, ⟨pA, pn, pc⟩, dleft, ⟨dA, dn, dc⟩⟩ := m
 obtain ⟨dfr, dpr, dpi, B, p, l⟩ := d
 unfold Mac.cells
 simp only at hb hp hd hpn hdn hbc ⊢
 have HH := Lib.hid (fun w h1 h2 => home_any bA pA bn bc pn pc dleft B p w h1 h2 hpn hbc)
 obtain ⟨rfl, hd2⟩ := hd
 obtain ⟨wb, hwb⟩ : ∃ wb, wb = w.alloc (.cells #[.int .u64 clock, .int .i64 quantum, .int .i64 cur, .int .i64 left, .slice fA fn fc, .slice rA rn rc, .int .i64 next, .string (str init), .slice iA inn ic, .int .i64 newPipe, .string (str inp), .bool fin, .int .u64 told, .slice bA bn bc, .slice pA pn pc, .int .i64 dleft, .slice dA l.length dc] 38) := ⟨_, rfl⟩
 have xa : Ext w wb := by rw [hwb]; exact (Ext.refl _).alloc _
 have ba : Box wb w.heap.size 38 #[.int .u64 clock, .int .i64 quantum, .int .i64 cur, .int .i64 left, .slice fA fn fc, .slice rA rn rc, .int .i64 next, .string (str init), .slice iA inn ic, .int .i64 newPipe, .string (str inp), .bool fin, .int .u64 told, .slice bA bn bc, .slice pA pn pc, .int .i64 dleft, .slice dA l.length dc] := by rw [hwb]; exact Box.new _ _ _
 have hs := hb.ext xa
 have hw := hp.ext xa
 have HB := Lib.hid hwb
 have q13 : wb.cell? ⟨w.heap.size, 13, none⟩ = some (.slice bA bn bc) := ba.cell 13
 have q14 : wb.cell? ⟨w.heap.size, 14, none⟩ = some (.slice pA pn pc) := ba.cell 14
 have q15 : wb.cell? ⟨w.heap.size, 15, none⟩ = some (.int .i64 dleft) := ba.cell 15
 clear hwb
 go_enter Tryz.func18, Tryz.ntmps18
 go_upto_region 1 with fail
 rw [← HB.out]
 go_wp2_with (go_at_call 50; refine (HH.out _ hs hw).mono ?_; rintro e w1 ⟨A1, c1, rfl, x1, own1⟩; have q16 := (ba.ext x1).cell 16)
 have xw1 := xa.trans x1
 have own1 := own_base own1 xa.size
 clear q13 q14 q15 q16 hs hw ba xa x1 HH HB
 have HV := Lib.hid (show viewP B p l = l.foldl layP (homeP B p) from rfl)
 have HL := Lib.hid (show (viewP B p l).length = (homeP B p).length by unfold viewP; exact foldl_lay_len _ _)
 obtain ⟨h, hh⟩ : ∃ h, h = homeP B p := ⟨_, rfl⟩
 rw [← hh] at own1 ⊢
 have HHH := Lib.hid hh
 clear hh
 go_loopw [5, 12] (fun _ i wx => ∃ k : Nat, k ≤ l.length ∧ i = .int .i64 k ∧ Ext w wx ∧ wx.ownsRow w.heap.size 9 1 (.slice A1 h.length c1) h.length (strL ((l.take k).foldl layP h))) (fun _ i _ => l.length - (intOf i).toNat)
 case atStart => exact ⟨0, by omega, rfl, xw1, own1⟩
 case round =>
  obtain ⟨k, hk, rfl, xk, ok⟩ := hrel
  by_cases hlt : k < l.length
  ·obtain ⟨b2, o2, rfl, hcell⟩ := hd2 (by omega)
   have e1 := xk.keep (hcell k hlt).1
   have e2 := xk.keep (hcell k hlt).2
   have HT := Lib.hid (foldl_lay_take hlt h)
   have HVl := Lib.hid (foldl_lay_len (l.take k) h)
   clear hcell
   have hki : (k : Int) < (l.length : Int) := by omega
   generalize l[k] = y at *
   generalize (l.take k).foldl layP h = V at *
   have okA := own_ext ok ((Ext.refl wr).alloc (.cells #[.int .i64 y.1, .string (str y.2)] 92))
   by_cases h0 : 0 ≤ y.1
   ·have d0 : decide (0 ≤ y.1) = true := decide_eq_true h0
    by_cases h1 : y.1 < (h.length : Int)
    ·have d1 : decide (y.1 < (h.length : Int)) = true := decide_eq_true h1
     obtain ⟨y1, y2⟩ := y
     simp only at h0 h1 d0 d1 e1 e2 okA
     obtain ⟨q, rfl⟩ : ∃ q : Nat, y1 = q := ⟨y1.toNat, by omega⟩
     have hqN : q < h.length := by omega
     have HY := Lib.hid (show layP V ((q : Int), y2) = V.set q y2 by unfold layP; simp only; rw [if_pos (by have := HVl.out; omega)]; rfl)
     obtain ⟨g, cap, hgc, hg, _⟩ := Strs.own' ok (by omega)
     injection hgc with hgA _ hgc
     subst hgA; subst hgc
     have kc : (wr.alloc (.cells #[.int .i64 (q : Int), .string (str y2)] 92)).cell? ⟨g, q, none⟩ = some (.string (str (V.getD q []))) := (okA.cellAt q (by omega)).trans (by have := HVl.out; simp [strL, this, hqN, List.getD_eq_getElem?_getD])
     have kf := okA.frozenAt q
     go_wp2_with fail
     go_roundw
     case rel => exact ⟨k + 1, by omega, by go_num, (xk.alloc _).setCell hg _, by rw [HT.out, HY.out]; exact own_set okA _⟩
     case measure => simp [intOf]; omega
    ·have d1 : decide (y.1 < (h.length : Int)) = false := decide_eq_false h1
     have HY := Lib.hid (show layP V y = V by unfold layP; rw [if_neg (by have := HVl.out; omega)])
     go_wp2_with fail
     go_roundw
     case rel => exact ⟨k + 1, by omega, by go_num, xk.alloc _, by rw [HT.out, HY.out]; exact okA⟩
     case measure => simp [intOf]; omega
   ·have d0 : decide (0 ≤ y.1) = false := decide_eq_false h0
    have HY := Lib.hid (show layP V y = V by unfold layP; rw [if_neg (by omega)])
    go_wp2_with fail
    go_roundw
    case rel => exact ⟨k + 1, by omega, by go_num, xk.alloc _, by rw [HT.out, HY.out]; exact okA⟩
    case measure => simp [intOf]; omega
  ·obtain rfl : k = l.length := by omega
   rw [List.take_length] at ok
   go_wp2_with fail
   go_ret
   rw [HL.out, HV.out, ← HHH.out]
   exact ⟨_, _, rfl, xk, ok⟩
end Go.Proofs.YtfaplefkakpgcaaGreatDoor
/- The document's kernel's volume: hibernacleref25.Volume, hibernacleref28.View. -/
namespace Go.Proofs.YtfaplefkakpgcaaGreatDoor
set_option linter.unusedVariables false
set_option linter.unusedSimpArgs false
open Go.RowKit
theorem Box.setOther {w : World} {g g' i : Nat} {t : TypeId} {cs : Array Value} (h : Box w g t cs) (hne : g ≠ g') (u : Value) : Box (w.setCell ⟨g', i, none⟩ u) g t cs := by
 have k : w.heap[g]? = some (.cells cs t (0, 0)) := h
 show (w.setCell ⟨g', i, none⟩ u).heap[g]? = _
 simp [World.setCell, Array.getElem?_modify, k, Ne.symm hne]
theorem Mac.size (m : Mac) : m.cells.size = 17 := rfl
theorem own_empty (w : World) (t : TypeId) (cs : Array Value) : ((w.alloc (.cells cs t)).alloc (.cells #[] 9)).ownsRow w.heap.size 9 1 (.slice (some ⟨w.heap.size + 1, 0, none⟩) 0 0) 0 (strL []) := by
 have := World.ownsRow_lit (base := w.heap.size) (e := 9) (size := 1) (w.alloc (.cells cs t)) #[] 0 (by simp) (by decide) rfl
 rw [World.size_alloc] at this
 exact this
set_option maxHeartbeats 2000000 in
set_option maxRecDepth 100000 in
theorem rvolume_any (m : Mac) (d : MacD) (w : World) (h : MacIn w m d) (hj : jrnE d.bl d.pe = 0) :
  Calls Tryz.prog 100 #[.agg m.cells] w fun e w' => ∃ A c, e = .returned (.slice A (viewP d.bl d.pe d.di).length c) ∧ Ext w w' ∧ w'.ownsRow w.heap.size 9 1 (.slice A (viewP d.bl d.pe d.di).length c) (viewP d.bl d.pe d.di).length (strL (viewP d.bl d.pe d.di)) := by
 obtain ⟨hb, hp, hd, hpn, hdn, hbc⟩ := h.drv
 clear h
 have HH := Lib.hid (fun w h1 h2 => rhome_any m.bl.A m.pe.A m.bl.n m.bl.c m.pe.n m.pe.c m.dleft d.bl d.pe w h1 h2 hpn)
 have xa : Ext w (w.alloc (.cells m.cells 38)) := (Ext.refl _).alloc _
 have xa2 := xa.alloc (.cells #[] 9)
 have ba := Box.new w 38 m.cells
 have oa := own_empty w 38 m.cells
 have hs := hb.ext xa2
 have hw := hp.ext xa2
 have ba2 := ba.ext ((Ext.refl _).alloc (.cells #[] 9))
 have q13 : ((w.alloc (.cells m.cells 38)).alloc (.cells #[] 9)).cell? ⟨w.heap.size, 13, none⟩ = some (.slice m.bl.A m.bl.n m.bl.c) := ba2.cell 13
 have q14 : ((w.alloc (.cells m.cells 38)).alloc (.cells #[] 9)).cell? ⟨w.heap.size, 14, none⟩ = some (.slice m.pe.A m.pe.n m.pe.c) := ba2.cell 14
 have q15 : ((w.alloc (.cells m.cells 38)).alloc (.cells #[] 9)).cell? ⟨w.heap.size, 15, none⟩ = some (.int .i64 m.dleft) := ba2.cell 15
 have hlen := homeP_len hj
 have hlst := (drvOk_of hj).least
 have hmost := (drvOk_of hj).most
 have hN : 0 < (homeP d.bl d.pe).length := by omega
 have hN2 : (homeP d.bl d.pe).length ≤ 1000000 := by omega
 have HN0 := Lib.hid hN
 have HN2 := Lib.hid hN2
 clear hlen hlst hmost hN hN2
 go_enter Tryz.func100, Tryz.ntmps100
 go_wp2_with (first
  | (go_at_call 72; refine (HH.out _ hs hw).mono ?_; rintro e w1 ⟨A1, c1, rfl, x1, own1⟩; have s1 := Strs.own own1; have o1 := own_ext oa x1; have b1 := ba2.ext x1; have hN := HN0.out; have hN2 := HN2.out; have hsz : w.heap.size ≤ w1.heap.size := (xa2.trans x1).size)
  | (at_builtin; refine wp_app_strs w.heap.size rfl _ _ rfl rfl rfl o1 s1 (by omega) hsz (by omega) ?_; intro u' w2 own2 g2; rw [Nat.zero_add, List.nil_append] at own2; obtain ⟨g, cap, rfl, hg, _⟩ := Strs.own' own2 (by omega); have b2 := b1.grown g2 (own_ne o1 b1 (by decide)); have q16 : w2.cell? ⟨w.heap.size, 16, none⟩ = some (.slice m.di.A m.di.n m.di.c) := b2.cell 16; have x2 : Ext w w2 := (xa2.trans x1).grown g2 (fun j e => own_low o1 e)))
 clear q13 q14 q15 hs hw ba ba2 xa xa2 x1 HH oa o1 s1 own1 b1 g2 hsz
 have HV := Lib.hid (show viewP d.bl d.pe d.di = d.di.foldl layP (homeP d.bl d.pe) from rfl)
 have HL := Lib.hid (show (viewP d.bl d.pe d.di).length = (homeP d.bl d.pe).length by unfold viewP; exact foldl_lay_len _ _)
 obtain ⟨h, hh⟩ : ∃ h, h = homeP d.bl d.pe := ⟨_, rfl⟩
 rw [← hh] at own2 hN hN2 ⊢
 have HHH := Lib.hid hh
 clear hh
 obtain ⟨hd1, hd2⟩ := hd
 rw [hd1]
 rw [hd1] at q16 hdn
 have HD1 := Lib.hid hd1
 have HD2 := Lib.hid hd2
 clear hd1 hd2
 generalize hdi : d.di = l at *
 have HDI := Lib.hid hdi
 clear hdi
 go_loopw [5, 14] (fun _ i wx => ∃ k : Nat, k ≤ l.length ∧ i = .int .i64 k ∧ Ext w wx ∧ wx.ownsRow w.heap.size 9 1 (.slice (some ⟨g, 0, none⟩) h.length cap) h.length (strL ((l.take k).foldl layP h))) (fun _ i _ => l.length - (intOf i).toNat)
 case atStart => exact ⟨0, by omega, rfl, x2, own2⟩
 case round =>
  obtain ⟨k, hk, rfl, xk, ok⟩ := hrel
  by_cases hlt : k < l.length
  ·obtain ⟨b2, o2, hA, hcell⟩ := HD2.out (by rw [HD1.out]; omega)
   have e1 := xk.keep (hcell k hlt).1
   have e2 := xk.keep (hcell k hlt).2
   have HT := Lib.hid (foldl_lay_take hlt h)
   have HVl := Lib.hid (foldl_lay_len (l.take k) h)
   clear hcell
   have hki : (k : Int) < (l.length : Int) := by omega
   generalize l[k] = y at *
   generalize (l.take k).foldl layP h = V at *
   have okA := own_ext ok ((Ext.refl wr).alloc (.cells #[.int .i64 y.1, .string (str y.2)] 92))
   by_cases h0 : 0 ≤ y.1
   ·have d0 : decide (0 ≤ y.1) = true := decide_eq_true h0
    by_cases h1 : y.1 < (h.length : Int)
    ·have d1 : decide (y.1 < (h.length : Int)) = true := decide_eq_true h1
     obtain ⟨y1, y2⟩ := y
     simp only at h0 h1 d0 d1 e1 e2 okA
     obtain ⟨q, rfl⟩ : ∃ q : Nat, y1 = q := ⟨y1.toNat, by omega⟩
     have hqN : q < h.length := by omega
     have HY := Lib.hid (show layP V ((q : Int), y2) = V.set q y2 by unfold layP; simp only; rw [if_pos (by have := HVl.out; omega)]; rfl)
     have kc : (wr.alloc (.cells #[.int .i64 (q : Int), .string (str y2)] 92)).cell? ⟨g, q, none⟩ = some (.string (str (V.getD q []))) := (okA.cellAt q (by omega)).trans (by have := HVl.out; simp [strL, this, hqN, List.getD_eq_getElem?_getD])
     have kf := okA.frozenAt q
     go_wp2_with fail
     go_roundw
     case rel => exact ⟨k + 1, by omega, by go_num, (xk.alloc _).setCell hg _, by rw [HT.out, HY.out]; exact own_set okA _⟩
     case measure => simp [intOf]; omega
    ·have d1 : decide (y.1 < (h.length : Int)) = false := decide_eq_false h1
     have HY := Lib.hid (show layP V y = V by unfold layP; rw [if_neg (by have := HVl.out; omega)])
     go_wp2_with fail
     go_roundw
     case rel => exact ⟨k + 1, by omega, by go_num, xk.alloc _, by rw [HT.out, HY.out]; exact okA⟩
     case measure => simp [intOf]; omega
   ·have d0 : decide (0 ≤ y.1) = false := decide_eq_false h0
    have HY := Lib.hid (show layP V y = V by unfold layP; rw [if_neg (by omega)])
    go_wp2_with fail
    go_roundw
    case rel => exact ⟨k + 1, by omega, by go_num, xk.alloc _, by rw [HT.out, HY.out]; exact okA⟩
    case measure => simp [intOf]; omega
  ·obtain rfl : k = l.length := by omega
   rw [List.take_length] at ok
   go_wp2_with fail
   go_ret
   rw [HDI.out, HL.out, HV.out, ← HHH.out]
   exact ⟨_, _, rfl, xk, ok⟩
end Go.Proofs.YtfaplefkakpgcaaGreatDoor
/- The document's machines: lives, users, Pipe, fd. -/
namespace Go.Proofs.YtfaplefkakpgcaaGreatDoor
set_option linter.unusedVariables false
set_option linter.unusedSimpArgs false
open Go.RowKit
theorem pr_range {w : World} {b o : Nat} {l : List PrT} (hc : ∀ j v, (l.flatMap prL)[j]? = some v → w.cell? ⟨b, o + j, none⟩ = some v) {k : Nat} (hk : k < l.length) : w.rangeAt b (o + k * 96) (prL l[k]) := fun j v hv => by
 have hj : j < 96 := by have := (List.getElem?_eq_some_iff.1 hv).1; rw [prL_len] at this; exact this
 have := hc (k * 96 + j) v ((flat_at prL 96 l (fun x _ => prL_len x) k hk j hj).trans hv)
 rw [Nat.add_assoc]; exact this
theorem range_ext {w w' : World} {b o : Nat} {cs : List Value} (h : w.rangeAt b o cs) (k : Ext w w') : w'.rangeAt b o cs := fun j v hv => k.keep (h j v hv)
theorem box_range {w : World} {g : Nat} {t : TypeId} {cs : Array Value} (h : Box w g t cs) {o : Nat} {l : List Value} (hl : ∀ j v, l[j]? = some v → cs[o + j]? = some v) : w.rangeAt g o l := fun j v hv => (h.cell (o + j)).trans (hl j v hv)
theorem pr_all (p : PrT) : (prL p).toArray.all (·.oneCell') = true := all_oneCell_toArray (prL_one p)
section
variable {ops : Array Oper} {rest : List Oper} {o : Oper} {a : Act} {w : World} {Q : Exit → Act → World → Prop}
theorem wp_ld_pr (x : Operand) (hgd : o.guard = none) (ho : o.op = .load 57 x) (g i : Nat) (p : PrT) (hx : a.eval x = .pointer (some ⟨g, i, none⟩))
  (hb : w.rangeAt g i (prL p)) (hK : wpList Tryz.prog ops Q rest (a.put o.dst (.agg (prL p).toArray)) w) : wpList Tryz.prog ops Q (o :: rest) a w :=
 wpList_load_mid hgd _ x ho g i hx _ _ hb Tryz.underlying57 rfl (by rw [prL_len]; exact prSize) hK
theorem wp_st_pr (x y : Operand) (hgd : o.guard = none) (ho : o.op = .store 57 x y) (g : Nat) (p : PrT) (old : Array Value) (t : TypeId) (hx : a.eval x = .pointer (some ⟨g, 0, none⟩)) (hy : a.eval y = .agg (prL p).toArray)
  (hb : Box w g t old) (hold : old.size = 96) (hK : ∀ w', Box w' g t (prL p).toArray → w.grownBy w' (some g) → wpList Tryz.prog ops Q rest (a.put o.dst undef) w') : wpList Tryz.prog ops Q (o :: rest) a w :=
 wp_st _ x y hgd ho g _ _ t hx hy hb (by rw [List.size_toArray, prL_len]; exact prSize) (hold.trans (by rw [List.size_toArray, prL_len])) (pr_all p) hK
end
theorem mac_cells {w : World} {g : Nat} {t : TypeId} {m : Mac} (h : Box w g t m.cells) : w.cell? ⟨g, 0, none⟩ = some (.int .u64 m.clock) ∧ w.cell? ⟨g, 1, none⟩ = some (.int .i64 m.quantum) ∧ w.cell? ⟨g, 2, none⟩ = some (.int .i64 m.cur) ∧ w.cell? ⟨g, 3, none⟩ = some (.int .i64 m.left) ∧ w.cell? ⟨g, 4, none⟩ = some (.slice m.fr.A m.fr.n m.fr.c) ∧ w.cell? ⟨g, 5, none⟩ = some (.slice m.pr.A m.pr.n m.pr.c) ∧ w.cell? ⟨g, 6, none⟩ = some (.int .i64 m.next) ∧ w.cell? ⟨g, 7, none⟩ = some (.string (str m.init)) ∧ w.cell? ⟨g, 8, none⟩ = some (.slice m.pi.A m.pi.n m.pi.c) ∧ w.cell? ⟨g, 9, none⟩ = some (.int .i64 m.newPipe) ∧ w.cell? ⟨g, 10, none⟩ = some (.string (str m.inn)) ∧ w.cell? ⟨g, 11, none⟩ = some (.bool m.fin) ∧ w.cell? ⟨g, 12, none⟩ = some (.int .u64 m.told) ∧ w.cell? ⟨g, 13, none⟩ = some (.slice m.bl.A m.bl.n m.bl.c) ∧ w.cell? ⟨g, 14, none⟩ = some (.slice m.pe.A m.pe.n m.pe.c) ∧ w.cell? ⟨g, 15, none⟩ = some (.int .i64 m.dleft) ∧ w.cell? ⟨g, 16, none⟩ = some (.slice m.di.A m.di.n m.di.c) :=
 ⟨h.cell 0, h.cell 1, h.cell 2, h.cell 3, h.cell 4, h.cell 5, h.cell 6, h.cell 7, h.cell 8, h.cell 9, h.cell 10, h.cell 11, h.cell 12, h.cell 13, h.cell 14, h.cell 15, h.cell 16⟩
def spaceL (p : PrT) : List Value := (List.range 16).flatMap (pteL p)
def fdsL (p : PrT) : List Value := (List.range 8).flatMap (fdL p)
theorem pr_space (p : PrT) : ∀ j v, (spaceL p)[j]? = some v → (prL p).toArray[20 + j]? = some v := fun j v hv => by
 have hj : j < 48 := by have := (List.getElem?_eq_some_iff.1 hv).1; exact this
 rw [List.getElem?_toArray]
 have e : (prL p).drop 20 = spaceL p ++ (fdsL p ++ [.bool p.mask, .int .u32 p.code, .int .i64 p.why, .int .u64 p.num]) := rfl
 rw [← List.getElem?_drop, e, List.getElem?_append_left (by exact hj)]; exact hv
theorem pr_fds (p : PrT) : ∀ j v, (fdsL p)[j]? = some v → (prL p).toArray[68 + j]? = some v := fun j v hv => by
 have hj : j < 24 := by have := (List.getElem?_eq_some_iff.1 hv).1; exact this
 rw [List.getElem?_toArray]
 have e : (prL p).drop 68 = fdsL p ++ [.bool p.mask, .int .u32 p.code, .int .i64 p.why, .int .u64 p.num] := rfl
 rw [← List.getElem?_drop, e, List.getElem?_append_left (by exact hj)]; exact hv
theorem part_of (f : Nat → List Value) (n z i : Nat) (hz : ∀ j, (f j).length = z) (hi : i < n) : ((List.range n).flatMap f).toArray.extract (i * z) (i * z + z) = (f i).toArray := by
 apply Array.toList_inj.1
 apply List.ext_getElem?
 intro j
 rw [Array.toList_extract]
 simp only [List.extract_eq_take_drop, List.getElem?_take, List.getElem?_drop]
 have hr : (List.range n).length = n := List.length_range
 by_cases hj : j < z
 ·rw [if_pos (by omega)]
  have := flat_at f z (List.range n) (fun x _ => hz x) i (by omega) j hj
  rw [List.getElem_range] at this
  exact this
 ·rw [if_neg (by omega), List.getElem?_eq_none (by have := hz i; simp; omega)]
theorem run_index_row {P : Program} {t e n z : Nat} {cs : Array Value} {i : Nat} {d : TypeDesc} (w : World) (hu : P.underlying t = some (.array n e)) (he : P.underlying e = some d) (hd : d.isRow = true) (hs : (P.info? e).map (·.size) = some z) (hin : i < n) :
  (Instr.index t (.agg cs) (.int .i64 (i : Int))).run P w = .ok (.agg (cs.extract (i * z) (i * z + z))) w := by
 cases hq : P.info? e with
 | none => simp [hq] at hs
 | some j =>
  have hz : j.size = z := by simpa [hq] using hs
  have hagg : (isAgg e).run P w = .ok true w := by
   unfold isAgg
   rw [Sem.run_bind, run_underlying he w]
   cases d <;> simp_all
  have h1 : (i : Int) < (n : Int) := by omega
  simp [Instr.index, asIntOf, run_underlying hu, h1, sizeOf, typeInfo, hq, part, Sem.run_bind, hagg, hz]
  intro hc; exact absurd hc (by omega)
theorem pteSize : (Tryz.prog.info? 50).map (·.size) = some 3 := by kernel_rfl
theorem fdSize : (Tryz.prog.info? 54).map (·.size) = some 3 := by kernel_rfl
theorem pipeSize : (Tryz.prog.info? 95).map (·.size) = some 2 := by kernel_rfl
theorem spaceSize : (Tryz.prog.info? 52).map (·.size) = some 48 := by kernel_rfl
theorem fdsSize : (Tryz.prog.info? 55).map (·.size) = some 24 := by kernel_rfl
section
variable {ops : Array Oper} {rest : List Oper} {o : Oper} {a : Act} {w : World} {Q : Exit → Act → World → Prop}
theorem wp_st_pipe (x y : Operand) (hgd : o.guard = none) (ho : o.op = .store 95 x y) (g : Nat) (i : Int) (s : ByteArray) (old : Array Value) (t : TypeId) (hx : a.eval x = .pointer (some ⟨g, 0, none⟩)) (hy : a.eval y = .agg #[.int .i64 i, .string s])
  (hb : Box w g t old) (hold : old.size = 2) (hK : ∀ w', Box w' g t #[.int .i64 i, .string s] → w.grownBy w' (some g) → wpList Tryz.prog ops Q rest (a.put o.dst undef) w') : wpList Tryz.prog ops Q (o :: rest) a w :=
 wp_st _ x y hgd ho g _ _ t hx hy hb pipeSize hold (all_oneCell_toArray (cs := [.int .i64 i, .string s]) (fun v hv => by simp only [List.mem_cons, List.not_mem_nil, or_false] at hv; rcases hv with rfl | rfl <;> rfl)) hK
theorem wp_ld_space (x : Operand) (hgd : o.guard = none) (ho : o.op = .load 52 x) (g : Nat) (t : TypeId) (p : PrT) (hx : a.eval x = .pointer (some ⟨g, 20, none⟩))
  (hb : Box w g t (prL p).toArray) (hK : wpList Tryz.prog ops Q rest (a.put o.dst (.agg (spaceL p).toArray)) w) : wpList Tryz.prog ops Q (o :: rest) a w :=
 wpList_load_mid hgd _ x ho g 20 hx _ _ (box_range hb (pr_space p)) Tryz.underlying52 rfl (by exact spaceSize) hK
theorem wp_ld_fds (x : Operand) (hgd : o.guard = none) (ho : o.op = .load 55 x) (g : Nat) (t : TypeId) (p : PrT) (hx : a.eval x = .pointer (some ⟨g, 68, none⟩))
  (hb : Box w g t (prL p).toArray) (hK : wpList Tryz.prog ops Q rest (a.put o.dst (.agg (fdsL p).toArray)) w) : wpList Tryz.prog ops Q (o :: rest) a w :=
 wpList_load_mid hgd _ x ho g 68 hx _ _ (box_range hb (pr_fds p)) Tryz.underlying55 rfl (by exact fdsSize) hK
theorem wp_idx_pte (x y : Operand) (hgd : o.guard = none) (ho : o.op = .index 52 x y) (p : PrT) (i : Nat) (hx : a.eval x = .agg (spaceL p).toArray) (hy : a.eval y = .int .i64 (i : Int)) (hi : i < 16)
  (hK : wpList Tryz.prog ops Q rest (a.put o.dst (.agg #[.bool (p.pis i), .bool (p.pwr i), .int .i64 (p.pfr i)])) w) : wpList Tryz.prog ops Q (o :: rest) a w := by
 refine wpList_plain hgd fun K hK' => ?_
 unfold Oper.wp execOp
 have := run_index_row (P := Tryz.prog) (cs := (spaceL p).toArray) (i := i) w Tryz.underlying52 Tryz.underlying50 rfl pteSize hi
 rw [show (spaceL p).toArray.extract (i * 3) (i * 3 + 3) = _ from part_of (pteL p) 16 3 i (fun _ => rfl) hi] at this
 simp only [ho, hx, hy, this, Sem.run_bind, Sem.run_pure, Result.andThen_ok]
 exact hK' _ _ hK
theorem wp_idx_fd (x y : Operand) (hgd : o.guard = none) (ho : o.op = .index 55 x y) (p : PrT) (i : Nat) (hx : a.eval x = .agg (fdsL p).toArray) (hy : a.eval y = .int .i64 (i : Int)) (hi : i < 8)
  (hK : wpList Tryz.prog ops Q rest (a.put o.dst (.agg #[.int .i64 (p.fk i), .int .i64 (p.fn i), .int .i64 (p.fp i)])) w) : wpList Tryz.prog ops Q (o :: rest) a w := by
 refine wpList_plain hgd fun K hK' => ?_
 unfold Oper.wp execOp
 have := run_index_row (P := Tryz.prog) (cs := (fdsL p).toArray) (i := i) w Tryz.underlying55 Tryz.underlying54 rfl fdSize hi
 rw [show (fdsL p).toArray.extract (i * 3) (i * 3 + 3) = _ from part_of (fdL p) 8 3 i (fun _ => rfl) hi] at this
 simp only [ho, hx, hy, this, Sem.run_bind, Sem.run_pure, Result.andThen_ok]
 exact hK' _ _ hK
end
end Go.Proofs.YtfaplefkakpgcaaGreatDoor
/- Package own: rows and machines copied. -/
namespace Go.Proofs.YtfaplefkakpgcaaGreatDoor
set_option linter.unusedVariables false
set_option linter.unusedSimpArgs false
open Go.RowKit
theorem own_sl {w : World} {base size n : Nat} {e : TypeId} {v : Value} {xs : List Value} (h : w.ownsRow base e size v n xs) : ∃ s : Sl, v = .slice s.A s.n s.c ∧ s.n = n ∧ s.ok := by
 rcases h.2 with ⟨rfl, h0⟩ | ⟨g, cap, cur, rfl, _, _, hc, hm, _⟩
 ·exact ⟨⟨none, 0, 0⟩, rfl, h0.symm, fun _ => ⟨rfl, rfl⟩, Nat.zero_le _, Nat.le_refl _⟩
 ·exact ⟨⟨some ⟨g, 0, none⟩, n, cap⟩, rfl, rfl, fun h => (by cases h), Nat.le_trans hc hm, hc⟩
theorem own_row {α : Type} {f : α → List Value} {w : World} {base z n : Nat} {e : TypeId} {s : Sl} {l : List α} (h : w.ownsRow base e z (.slice s.A s.n s.c) n (l.flatMap f)) (hz : ∀ x ∈ l, (f x).length = z) (hn : n = l.length) (hs : s.n = n) : RowOf f w s.A s.n l := by
 refine ⟨hs.trans hn, fun hp => ?_⟩
 have h' := h
 rcases h.2 with ⟨e1, h0⟩ | ⟨g, cap, cur, e1, _⟩
 ·omega
 ·injection e1 with e1 e2 e3
  refine ⟨g, 0, e1, fun j v hj => ?_⟩
  rw [e1, hs] at h'
  rw [Nat.zero_add, h'.cellAt j (by have := (List.getElem?_eq_some_iff.1 hj).1; rw [flat_len f z l hz] at this; rw [hn]; exact this)]
  exact hj
def zeroPr : PrT := ⟨0, 0, 0, fun _ => 0, 0, fun _ => false, fun _ => false, fun _ => 0, fun _ => 0, fun _ => 0, fun _ => 0, false, 0, 0, 0⟩
theorem prInfo : (Tryz.prog.info? 57).map (fun i => (i.zero, i.size, i.bytes)) = some (some (.agg (prL zeroPr).toArray), 96, 568) := by kernel_rfl
theorem wrInfo : (Tryz.prog.info? 92).map (fun i => (i.zero, i.size, i.bytes)) = some (some (.agg #[.int .i64 0, .string ⟨#[]⟩]), 2, 24) := by kernel_rfl
theorem piInfo : (Tryz.prog.info? 95).map (fun i => (i.zero, i.size, i.bytes)) = some (some (.agg #[.int .i64 0, .string ⟨#[]⟩]), 2, 24) := by kernel_rfl
theorem wrL_one (x : WrT) : ∀ v ∈ wrL x, v.oneCell' = true := fun v hv => by
 simp only [wrL, List.mem_cons, List.not_mem_nil, or_false] at hv; rcases hv with rfl | rfl <;> rfl
theorem macC_one (m : Mac) : m.cells.all (·.oneCell') = true := all_oneCell_toArray (cs := m.cells.toList) (fun v hv => by
 simp only [Mac.cells, List.mem_cons, List.not_mem_nil, or_false] at hv
 rcases hv with rfl | rfl | rfl | rfl | rfl | rfl | rfl | rfl | rfl | rfl | rfl | rfl | rfl | rfl | rfl | rfl | rfl <;> rfl)
section
variable {ops : Array Oper} {rest : List Oper} {o : Oper} {a : Act} {w : World} {Q : Exit → Act → World → Prop}
theorem wp_st_mac (x y : Operand) (hgd : o.guard = none) (ho : o.op = .store 38 x y) (g : Nat) (m : Mac) (old : Array Value) (t : TypeId) (hx : a.eval x = .pointer (some ⟨g, 0, none⟩)) (hy : a.eval y = .agg m.cells)
  (hb : Box w g t old) (hold : old.size = 17) (hK : ∀ w', Box w' g t m.cells → w.grownBy w' (some g) → wpList Tryz.prog ops Q rest (a.put o.dst undef) w') : wpList Tryz.prog ops Q (o :: rest) a w :=
 wp_st _ x y hgd ho g m.cells old t hx hy hb macSize hold (macC_one m) hK
end
theorem own_setBox {w : World} {base n g i size : Nat} {e t : TypeId} {v : Value} {xs : List Value} {cs : Array Value} (h : w.ownsRow base e size v n xs) (hb : Box w g t cs) (hne : e ≠ t) (u : Value) : (w.setCell ⟨g, i, none⟩ u).ownsRow base e size v n xs := by
 have hn := own_ne h hb hne
 refine ⟨h.1, ?_⟩
 rcases h.2 with c | ⟨g1, cap1, cur, e1, hbb, hh, r⟩
 ·exact Or.inl c
 ·have : g1 ≠ g := fun e2 => hn (by rw [e1, e2]; rfl)
  exact Or.inr ⟨g1, cap1, cur, e1, hbb, Box.setOther (show Box w g1 e cur from hh) this u, r⟩
theorem results_cell1 {fn : Func} {p : Tmp} {ty : TypeId} (h : fn.results = #[.cell p ty]) (tmps : Array Value) (w : World) (g : Nat) (t : TypeId) (cs : Array Value) (d : TypeDesc)
  (hp : tmps.getD p undef = .pointer (some ⟨g, 0, none⟩)) (hg : Box w g t cs)
  (hu : Tryz.prog.underlying ty = some d) (hd : isAggD d = true) (hi : (Tryz.prog.info? ty).map (·.size) = some cs.size) :
  (results fn tmps).run Tryz.prog w = .ok (.agg cs) w := by
 have hp' : tmps[p]?.getD undef = .pointer (some ⟨g, 0, none⟩) := by simpa using hp
 simp [results, h, hp', asAddr, run_loadVar_row w g t ty cs (0, 0) d hg hu (by cases d <;> first | rfl | cases hd) hi]
end Go.Proofs.YtfaplefkakpgcaaGreatDoor
/- Rows that are known: their cells, and the blocks in which they lie. -/
namespace Go.Proofs.YtfaplefkakpgcaaGreatDoor
set_option linter.unusedVariables false
set_option linter.unusedSimpArgs false
open Go.RowKit
structure RowK {α : Type} (f : α → List Value) (w : World) (s : Sl) (l : List α) : Prop where
 row : RowOf f w s.A s.n l
 ok : s.ok
 small : s.n ≤ 100000
theorem RowK.ext {α : Type} {f : α → List Value} {w w' : World} {s : Sl} {l : List α} (h : RowK f w s l) (x : Ext w w') : RowK f w' s l := ⟨h.row.ext x, h.ok, h.small⟩
structure RowF {α : Type} (B0 : Nat) (f : α → List Value) (T : TypeId) (w : World) (s : Sl) (l : List α) : Prop where
 k : RowK f w s l
 inb : 0 < s.n → ∀ b o, s.A = some ⟨b, o, none⟩ → b < B0 ∨ ∃ cs, Box w b T cs
theorem RowF.ext {α : Type} {B0 : Nat} {f : α → List Value} {T : TypeId} {w w' : World} {s : Sl} {l : List α} (h : RowF B0 f T w s l) (x : Ext w w') : RowF B0 f T w' s l :=
 ⟨h.k.ext x, fun hp b o e => (h.inb hp b o e).imp id fun ⟨cs, hb⟩ => ⟨cs, hb.ext x⟩⟩
theorem RowF.keepsB {α : Type} {B0 : Nat} {f : α → List Value} {T : TypeId} {w w' : World} {s : Sl} {l : List α} {row : Option Nat} (h : RowF B0 f T w s l) (hk : ∀ b cs, Box w b T cs → some b ≠ row) (hB : ∀ k, row = some k → B0 ≤ k) (hg : w.grownBy w' row) : RowF B0 f T w' s l := by
 have hne : 0 < s.n → ∀ b o, s.A = some ⟨b, o, none⟩ → some b ≠ row := fun hp b o e => by
  rcases h.inb hp b o e with hb | ⟨cs, hb⟩
  ·intro e2
   have := hB b e2.symm
   omega
  ·exact hk b cs hb
 refine ⟨⟨⟨h.k.row.1, fun hp => ?_⟩, h.k.ok, h.k.small⟩, fun hp b o e => (h.inb hp b o e).imp id fun ⟨cs, hb⟩ => ⟨cs, hb.grown hg (hk b cs hb)⟩⟩
 obtain ⟨b, o, e, hc⟩ := h.k.row.2 hp
 refine ⟨b, o, e, fun j v hj => ?_⟩
 have hcj := hc j v hj
 rw [World.cell?_of_block (w := w) (hg.block b (World.block_lt_of_cell? w _ hcj) (hne hp b o e))]
 exact hcj
theorem RowF.grown {α : Type} {B0 : Nat} {f : α → List Value} {T t : TypeId} {w w' : World} {s : Sl} {l : List α} {g : Nat} {cs : Array Value} (h : RowF B0 f T w s l) (hne : T ≠ t) (hb : Box w g t cs) (hg : w.grownBy w' (some g)) (hB : B0 ≤ g := by omega) : RowF B0 f T w' s l :=
 h.keepsB (fun b cs hb1 e => hb1.ne hb hne (by injection e)) (fun k e => by injection e with e; omega) hg
theorem RowF.own {α : Type} {B0 : Nat} {f : α → List Value} {T : TypeId} {w : World} {s : Sl} {l : List α} {base z : Nat} (hr : RowOf f w s.A s.n l) (hk : s.ok) (hs : s.n ≤ 100000) (h : w.ownsRow base T z (.slice s.A s.n s.c) s.n (l.flatMap f)) : RowF B0 f T w s l :=
 ⟨⟨hr, hk, hs⟩, fun _ b o e => by
   rcases h.2 with ⟨e1, _⟩ | ⟨g, cap, cur, e1, _, hh, _⟩
   ·injection e1 with e1; rw [e] at e1; cases e1
   ·injection e1 with e1
    rw [e] at e1
    injection e1 with e1
    injection e1 with e1
    subst e1
    exact .inr ⟨cur, hh⟩⟩
theorem RowF.old {α : Type} {f : α → List Value} {T : TypeId} {w : World} {s : Sl} {l : List α} (h : RowK f w s l) (hz : ∀ x ∈ l, 0 < (f x).length) : RowF w.heap.size f T w s l := ⟨h, fun hp b o e => .inl (by
 obtain ⟨b', o', e', hc⟩ := h.row.2 hp
 rw [e] at e'
 injection e' with e'
 injection e' with e1 e2
 subst e1; subst e2
 have hl : 0 < l.length := by have := h.row.1; omega
 obtain ⟨x, l', rfl⟩ : ∃ x l', l = x :: l' := by
  cases l with
  | nil => cases hl
  | cons x l' => exact ⟨x, l', rfl⟩
 have h0 := hz x List.mem_cons_self
 obtain ⟨v, vs, ev⟩ : ∃ v vs, f x = v :: vs := by
  cases hf : f x with
  | nil => rw [hf] at h0; cases h0
  | cons v vs => exact ⟨v, vs, rfl⟩
 have := hc 0 v (by rw [List.flatMap_cons, ev]; rfl)
 exact World.block_lt_of_cell? w _ this)⟩
theorem RowF.nil {α : Type} {B0 : Nat} {f : α → List Value} {T : TypeId} {w : World} : RowF B0 f T w ⟨none, 0, 0⟩ ([] : List α) := ⟨⟨⟨rfl, fun h => absurd h (Nat.lt_irrefl 0)⟩, ⟨fun _ => ⟨rfl, rfl⟩, Nat.zero_le _, Nat.le_refl _⟩, Nat.zero_le _⟩, fun h => absurd h (Nat.lt_irrefl 0)⟩
end Go.Proofs.YtfaplefkakpgcaaGreatDoor
/- Package own: Drive, Machine. -/
namespace Go.Proofs.YtfaplefkakpgcaaGreatDoor
set_option linter.unusedVariables false
set_option linter.unusedSimpArgs false
open Go.RowKit
theorem mac_drv {w : World} {g : Nat} {t : TypeId} {m : Mac} (h : Box w g t m.cells) : w.rangeAt g 13 [.slice m.bl.A m.bl.n m.bl.c, .slice m.pe.A m.pe.n m.pe.c, .int .i64 m.dleft] := box_range h (fun j v hj => by
 match j with
 | 0 => exact hj
 | 1 => exact hj
 | 2 => exact hj
 | j + 3 => cases hj)
theorem grown_cells {g : Nat} : ∀ (vs : List Value) (o : Nat) (w : World), w.grownBy (w.setCells g o vs) (some g)
 | [], _, w => ⟨rfl, rfl, rfl, Nat.le_refl _, fun _ _ _ => rfl⟩
 | v :: r, o, w => by
  have h := grown_cells (g := g) r (o + 1) (w.setCell ⟨g, o, none⟩ v)
  have h1 : (w.setCell ⟨g, o, none⟩ v).heap.size = w.heap.size := by simp [World.setCell]
  exact ⟨h.os, h.tape, h.output, by have := h.size; rw [h1] at this; exact this, fun k hk hne => (h.block k (by omega) hne).trans (Below.heap_setCell w ⟨g, o, none⟩ v k (fun e => hne (by rw [e])))⟩
section
variable {ops : Array Oper} {rest : List Oper} {o : Oper} {a : Act} {w : World} {Q : Exit → Act → World → Prop}
theorem wp_ld_drvM (x : Operand) (hgd : o.guard = none) (ho : o.op = .load 36 x) (g : Nat) (m : Mac) (t : TypeId) (hx : a.eval x = .pointer (some ⟨g, 13, none⟩)) (hb : Box w g t m.cells)
  (hK : wpList Tryz.prog ops Q rest (a.put o.dst (.agg #[.slice m.bl.A m.bl.n m.bl.c, .slice m.pe.A m.pe.n m.pe.c, .int .i64 m.dleft])) w) : wpList Tryz.prog ops Q (o :: rest) a w :=
 wpList_load_mid hgd _ x ho g 13 hx _ _ (mac_drv hb) Tryz.underlying36 rfl drvSize hK
end
structure MacSmall (m : Mac) : Prop where
 fr : m.fr.n ≤ 100000
 pr : m.pr.n ≤ 100000
 pi : m.pi.n ≤ 100000
 bl : m.bl.n ≤ 100000
 pe : m.pe.n ≤ 100000
 di : m.di.n ≤ 100000
def TyOk (w : World) (s : Sl) : Prop := ∀ b o, s.A = some ⟨b, o, none⟩ → ∃ cs t, t ≠ 38 ∧ Box w b t cs
structure MacTy (w : World) (m : Mac) : Prop where
 fr : TyOk w m.fr
 pr : TyOk w m.pr
 pi : TyOk w m.pi
 bl : TyOk w m.bl
 pe : TyOk w m.pe
 di : TyOk w m.di
theorem TyOk.ext {w w' : World} {s : Sl} (h : TyOk w s) (x : Ext w w') : TyOk w' s := fun b o e => by
 obtain ⟨cs, t, ht, hb⟩ := h b o e
 exact ⟨cs, t, ht, hb.ext x⟩
theorem TyOk.nil (w : World) : TyOk w ⟨none, 0, 0⟩ := fun b o e => by cases e
theorem MacTy.ext {w w' : World} {m : Mac} (h : MacTy w m) (x : Ext w w') : MacTy w' m := ⟨h.fr.ext x, h.pr.ext x, h.pi.ext x, h.bl.ext x, h.pe.ext x, h.di.ext x⟩
theorem ty_of_own {w : World} {base size n : Nat} {e : TypeId} {s : Sl} {xs : List Value} (h : w.ownsRow base e size (.slice s.A s.n s.c) n xs) (he : e ≠ 38) : TyOk w s := fun b o hs => by
 rcases h.2 with ⟨e1, _⟩ | ⟨g, cap, cur, e1, _, hh, _⟩
 ·injection e1 with e1; rw [hs] at e1; cases e1
 ·injection e1 with e1
  rw [hs] at e1
  injection e1 with e1
  injection e1 with e1
  subst e1
  exact ⟨cur, e, he, hh⟩
theorem TyOk.grown {w w' : World} {s : Sl} {g : Nat} {cs : Array Value} (h : TyOk w s) (hb : Box w g 38 cs) (hg : w.grownBy w' (some g)) : TyOk w' s := fun b o e => by
 obtain ⟨cs1, t, ht, hb1⟩ := h b o e
 exact ⟨cs1, t, ht, hb1.grown hg (fun e => hb1.ne hb ht (by injection e))⟩
theorem RowOf.grown {α : Type} {f : α → List Value} {w w' : World} {s : Sl} {g : Nat} {cs : Array Value} {l : List α} (h : RowOf f w s.A s.n l) (ht : TyOk w s) (hb : Box w g 38 cs) (hg : w.grownBy w' (some g)) : RowOf f w' s.A s.n l :=
 ⟨h.1, fun hp => by
  obtain ⟨b, o, e, hc⟩ := h.2 hp
  refine ⟨b, o, e, fun j v hj => ?_⟩
  have hcj := hc j v hj
  obtain ⟨cs1, t, ht1, hb1⟩ := ht b o e
  rw [World.cell?_of_block (w := w) (hg.block b hb1.lt (fun e => hb1.ne hb ht1 (by injection e)))]
  exact hcj⟩
theorem MacIn.grown {w w' : World} {m : Mac} {d : MacD} {g : Nat} {cs : Array Value} (h : MacIn w m d) (hn : MacTy w m) (hb : Box w g 38 cs) (hg : w.grownBy w' (some g)) : MacIn w' m d :=
 ⟨h.fr.grown hn.fr hb hg, h.pr.grown hn.pr hb hg, h.pi.grown hn.pi hb hg, h.bl.grown hn.bl hb hg, h.pe.grown hn.pe hb hg, h.di.grown hn.di hb hg, h.frk, h.prk, h.pik, h.blk, h.pek, h.dik, h.initk, h.innk, h.leftk⟩
theorem MacTy.grown {w w' : World} {m : Mac} {g : Nat} {cs : Array Value} (h : MacTy w m) (hb : Box w g 38 cs) (hg : w.grownBy w' (some g)) : MacTy w' m :=
 ⟨h.fr.grown hb hg, h.pr.grown hb hg, h.pi.grown hb hg, h.bl.grown hb hg, h.pe.grown hb hg, h.di.grown hb hg⟩
structure MacF (B0 : Nat) (w : World) (m : Mac) (d : MacD) : Prop where
 fr : RowF B0 stL 9 w m.fr d.fr
 pr : RowF B0 prL 57 w m.pr d.pr
 pi : RowF B0 wrL 95 w m.pi d.pi
 bl : RowF B0 stL 9 w m.bl d.bl
 pe : RowF B0 wrL 92 w m.pe d.pe
 di : RowF B0 wrL 92 w m.di d.di
 initk : m.init.length ≤ maxLen
 innk : m.inn.length ≤ maxLen
 leftk : (Lit.int .i64 m.dleft).wf = true
theorem MacF.toIn {B0 : Nat} {w : World} {m : Mac} {d : MacD} (h : MacF B0 w m d) : MacIn w m d := ⟨h.fr.k.row, h.pr.k.row, h.pi.k.row, h.bl.k.row, h.pe.k.row, h.di.k.row, h.fr.k.ok, h.pr.k.ok, h.pi.k.ok, h.bl.k.ok, h.pe.k.ok, h.di.k.ok, h.initk, h.innk, h.leftk⟩
theorem MacF.ext {B0 : Nat} {w w' : World} {m : Mac} {d : MacD} (h : MacF B0 w m d) (x : Ext w w') : MacF B0 w' m d := ⟨h.fr.ext x, h.pr.ext x, h.pi.ext x, h.bl.ext x, h.pe.ext x, h.di.ext x, h.initk, h.innk, h.leftk⟩
theorem MacF.grown {B0 : Nat} {w w' : World} {m : Mac} {d : MacD} {g : Nat} {t : TypeId} {cs : Array Value} (h : MacF B0 w m d) (ht : ∀ T ∈ [9, 57, 95, 92], T ≠ t) (hb : Box w g t cs) (hg : w.grownBy w' (some g)) (hB : B0 ≤ g := by omega) : MacF B0 w' m d :=
 ⟨h.fr.grown (ht _ (by simp)) hb hg hB, h.pr.grown (ht _ (by simp)) hb hg hB, h.pi.grown (ht _ (by simp)) hb hg hB, h.bl.grown (ht _ (by simp)) hb hg hB, h.pe.grown (ht _ (by simp)) hb hg hB, h.di.grown (ht _ (by simp)) hb hg hB, h.initk, h.innk, h.leftk⟩
theorem MacF.old {w : World} {m : Mac} {d : MacD} (h : MacIn w m d) (hs : MacSmall m) : MacF w.heap.size w m d :=
 ⟨RowF.old ⟨h.fr, h.frk, hs.fr⟩ (fun _ _ => Nat.one_pos), RowF.old ⟨h.pr, h.prk, hs.pr⟩ (fun _ _ => by rw [prL_len]; omega), RowF.old ⟨h.pi, h.pik, hs.pi⟩ (fun _ _ => Nat.succ_pos _), RowF.old ⟨h.bl, h.blk, hs.bl⟩ (fun _ _ => Nat.one_pos), RowF.old ⟨h.pe, h.pek, hs.pe⟩ (fun _ _ => Nat.succ_pos _), RowF.old ⟨h.di, h.dik, hs.di⟩ (fun _ _ => Nat.succ_pos _), h.initk, h.innk, h.leftk⟩
def Mac.with (m : Mac) (fr pr pi bl pe di : Sl) : Mac := { m with fr := fr, pr := pr, pi := pi, bl := bl, pe := pe, di := di }
end Go.Proofs.YtfaplefkakpgcaaGreatDoor
/- A row put behind a row. -/
namespace Go.Proofs.YtfaplefkakpgcaaGreatDoor
set_option linter.unusedVariables false
set_option linter.unusedSimpArgs false
open Go.RowKit
theorem wp_app_more {α : Type} {B0 : Nat} (f : α → List Value) (T E : TypeId) (z bytes : Nat) (zv : Value) (base : Nat) {ops : Array Oper} {rest : List Oper} {o : Oper} {a : Act} {Q : Exit → Act → World → Prop} {w : World} {l0 l : List α} (s0 s : Sl)
  (hT : Tryz.prog.underlying T = some (.slice E)) (hi : (Tryz.prog.info? E).map (fun i => (i.zero, i.size, i.bytes)) = some (some zv, z, bytes)) (hz0 : 0 < z) (hzc : zv.cells.size = z) (hgd : o.guard = none) (sl x : Operand)
  (ho : o.op = .call { callee := .builtin .append, args := #[sl, x], argTypes := #[T, T] }) (hs : a.eval sl = .slice s0.A s0.n s0.c) (hx : a.eval x = .slice s.A s.n s.c) (h0 : w.ownsRow base E z (.slice s0.A s0.n s0.c) s0.n (l0.flatMap f)) (hn0 : s0.n = l0.length)
  (h : RowOf f w s.A s.n l) (hk : s.ok) (hlen : ∀ x, (f x).length = z) (hone : ∀ x, ∀ v ∈ f x, v.oneCell' = true) (hsm : s0.n + s.n ≤ 100000) (hby : (s0.n + s.n) * bytes ≤ 140737488355328) (hb : base ≤ w.heap.size)
  (hK : ∀ (s' : Sl) (w' : World), s'.n = s0.n + s.n → RowF B0 f E w' s' (l0 ++ l) → w'.ownsRow base E z (.slice s'.A s'.n s'.c) s'.n ((l0 ++ l).flatMap f) → w.grownBy w' (Value.slice s0.A s0.n s0.c).ownBlock → wpList Tryz.prog ops Q rest (a.put o.dst (.slice s'.A s'.n s'.c)) w') : wpList Tryz.prog ops Q (o :: rest) a w := by
 obtain ⟨i, hi, hz, h1, h2⟩ := info_parts hi
 obtain ⟨A, n, c⟩ := s
 simp only at hx h hk hby hK hsm
 cases A with
 | none =>
  obtain ⟨rfl, rfl⟩ := hk.1 rfl
  have hl : l = [] := List.eq_nil_of_length_eq_zero h.1.symm
  subst hl
  refine wpList_plain hgd fun K hK' => ?_
  have hr := run_append_owned_none (P := Tryz.prog) (w := w) base T o.type E i z hT hi (.slice s0.A s0.n s0.c) s0.n (l0.flatMap f) h0
  have hK2 := hK s0 w rfl (by
   rw [List.append_nil]
   refine RowF.own (own_row h0 (fun x _ => hlen x) hn0 rfl) ?_ (by omega) h0
   obtain ⟨s', e, _, hk'⟩ := own_sl h0
   injection e with e1 e2 e3
   have : s0 = s' := by cases s0; cases s'; simp_all
   rw [this]; exact hk') (by rw [List.append_nil]; exact h0) ⟨rfl, rfl, rfl, Nat.le_refl _, fun _ _ _ => rfl⟩
  unfold Oper.wp execOp
  simp only [ho, resolve, invoke, builtin, Sem.run_bind, Sem.run_pure, Result.andThen_ok, List.map_toArray, List.map_cons, List.map_nil, hs, hx, hr]
  exact hK' _ _ hK2
 | some p =>
  have hp : ∀ j u, (l.flatMap f)[j]? = some u → w.cell? (p.add j) = some u := fun j u hj => by
   have hn : 0 < n := by
    rw [h.1]
    cases l with
    | nil => cases hj
    | cons x l => simp
   obtain ⟨b, o, e, hc⟩ := h.2 hn
   have ep : p = ⟨b, o, none⟩ := Option.some.inj e
   have ha : (⟨b, o, none⟩ : Addr).add j = ⟨b, o + j, none⟩ := by unfold Addr.add; split <;> simp_all
   rw [ep, ha]; exact hc j u hj
  refine wpList_plain hgd fun K hK' => ?_
  obtain ⟨v', w', hr, ho', hg, _⟩ := run_append_own_at (P := Tryz.prog) w base T o.type E i zv z bytes hT hi hz h1 h2 hzc hz0 (.slice s0.A s0.n s0.c) s0.n (l0.flatMap f) h0 p n c (l.flatMap f) (by rw [flat_len f z l (fun x _ => hlen x), h.1]) hp (fun u hu => by
   obtain ⟨x, hx, hu⟩ := List.mem_flatMap.1 hu
   exact hone x u hu) (by unfold maxLen; omega) hby hb
  rw [← List.flatMap_append] at ho'
  obtain ⟨s', rfl, hs', hk'⟩ := own_sl ho'
  have hR := own_row ho' (fun x _ => hlen x) (by rw [List.length_append, hn0, h.1]) hs'
  rw [← hs'] at ho'
  unfold Oper.wp execOp
  simp only [ho, resolve, invoke, builtin, Sem.run_bind, Sem.run_pure, Result.andThen_ok, List.map_toArray, List.map_cons, List.map_nil, hs, hx, hr]
  exact hK' _ _ (hK s' w' hs' (RowF.own hR hk' (by omega) ho') ho' hg)
end Go.Proofs.YtfaplefkakpgcaaGreatDoor
/- One cell, or a few, stored into the midst of a block. -/
namespace Go.Proofs.YtfaplefkakpgcaaGreatDoor
set_option linter.unusedVariables false
set_option linter.unusedSimpArgs false
open Go.RowKit
def putR : Array Value → Nat → List Value → Array Value
 | cs, _, [] => cs
 | cs, o, v :: l => putR (cs.setIfInBounds o v) (o + 1) l
theorem putR_box {g : Nat} {t : TypeId} : ∀ (vs : List Value) (o : Nat) (w : World) (cs : Array Value), Box w g t cs → Box (w.setCells g o vs) g t (putR cs o vs)
 | [], _, _, _, h => h
 | v :: l, o, w, cs, h => putR_box l (o + 1) (w.setCell ⟨g, o, none⟩ v) _ (h.set o v)
theorem putR_but {g : Nat} : ∀ (vs : List Value) (o : Nat) (w : World), But g w (w.setCells g o vs)
 | [], _, w => But.refl g w
 | v :: l, o, w => ((But.refl g w).setCell o v).trans (putR_but l (o + 1) _)
section
variable {ops : Array Oper} {rest : List Oper} {o : Oper} {a : Act} {w : World} {Q : Exit → Act → World → Prop}
theorem wp_st_cell (T : TypeId) (x y : Operand) (hgd : o.guard = none) (ho : o.op = .store T x y) (g i : Nat) (v : Value) (cs ds : Array Value) (t : TypeId) (hx : a.eval x = .pointer (some ⟨g, i, none⟩)) (hy : a.eval y = v) (hv : v.oneCell' = true)
  (hi : (Tryz.prog.info? T).map (·.size) = some 1) (hb : Box w g t cs) (hlt : i < cs.size) (hds : cs.setIfInBounds i v = ds)
  (hK : ∀ w', Box w' g t ds → But g w w' → wpList Tryz.prog ops Q rest (a.put o.dst undef) w') : wpList Tryz.prog ops Q (o :: rest) a w := by
 have hr := run_storeCells_cells (P := Tryz.prog) g i [v] 0 w (fun j hj => by
   have h0 : j = 0 := by simpa using hj
   subst h0
   rw [show i + (0 + 0) = i from rfl, hb.cell i, Array.getElem?_eq_getElem hlt]; rfl) (fun j hj => hb.frozen _) (fun u hu => by
   rw [List.mem_singleton.1 hu]; exact hv)
 have hc : v.cells = #[v] := by cases v <;> first | rfl | cases hv
 refine wpList_plain hgd fun K hK' => ?_
 unfold Oper.wp execOp
 cases hq : Tryz.prog.info? T with
 | none => simp [hq] at hi
 | some j =>
  have hs : j.size = 1 := by simpa [hq] using hi
  have hst : (storeVar T ⟨g, i, none⟩ v).run Tryz.prog w = .ok () (w.setCells g i [v]) := by
   simp only [Nat.add_zero] at hr
   simp [storeVar, sizeOf, typeInfo, hq, hc, hs, hr]
  simp only [ho, hx, hy, Instr.storeAt, Instr.sureAddr, Sem.run_bind, Sem.run_pure, Result.andThen_ok, hst]
  exact hK' _ _ (hK _ (by rw [← hds]; exact putR_box [v] i w cs hb) (putR_but [v] i w))
theorem wp_st_range (T : TypeId) (x y : Operand) (hgd : o.guard = none) (ho : o.op = .store T x y) (g i : Nat) (vs : List Value) (cs ds : Array Value) (t : TypeId) (hx : a.eval x = .pointer (some ⟨g, i, none⟩)) (hy : a.eval y = .agg vs.toArray) (hv : ∀ v ∈ vs, v.oneCell' = true)
  (hi : (Tryz.prog.info? T).map (·.size) = some vs.length) (hb : Box w g t cs) (hlt : i + vs.length ≤ cs.size) (hds : putR cs i vs = ds)
  (hK : ∀ w', Box w' g t ds → But g w w' → wpList Tryz.prog ops Q rest (a.put o.dst undef) w') : wpList Tryz.prog ops Q (o :: rest) a w := by
 refine wpList_store_mid hgd _ x y ho g i vs.toArray hx hy (fun j hj => ?_) (by rw [List.size_toArray]; exact hi) (all_oneCell_toArray hv) (hK _ ?_ ?_)
 ·have hj3 : j < vs.length := by simpa using hj
  refine ⟨?_, hb.frozen (i + j)⟩
  rw [hb.cell (i + j), Array.getElem?_eq_getElem (by omega)]; rfl
 ·rw [← hds]
  exact putR_box vs i w cs hb
 ·exact putR_but vs i w
end
theorem szInt : (Tryz.prog.info? 3).map (·.size) = some 1 := by kernel_rfl
theorem szU32 : (Tryz.prog.info? 45).map (·.size) = some 1 := by kernel_rfl
theorem szU64 : (Tryz.prog.info? 31).map (·.size) = some 1 := by kernel_rfl
theorem szBool : (Tryz.prog.info? 4).map (·.size) = some 1 := by kernel_rfl
theorem szStr : (Tryz.prog.info? 9).map (·.size) = some 1 := by kernel_rfl
theorem szPrs : (Tryz.prog.info? 32).map (·.size) = some 1 := by kernel_rfl
theorem szPis : (Tryz.prog.info? 33).map (·.size) = some 1 := by kernel_rfl
theorem szWrs : (Tryz.prog.info? 34).map (·.size) = some 1 := by kernel_rfl
set_option maxRecDepth 100000 in
theorem putR_space (y q : PrT) : putR (prL y).toArray 20 (spaceL q) = (prL { y with pis := q.pis, pwr := q.pwr, pfr := q.pfr }).toArray := by kernel_rfl
theorem spaceL_len (q : PrT) : (spaceL q).length = 48 := rfl
theorem spaceL_one (p : PrT) : ∀ v ∈ spaceL p, v.oneCell' = true := fun v hv => by
 simp only [spaceL, pteL, List.mem_flatMap, List.mem_cons, List.not_mem_nil, or_false] at hv
 obtain ⟨i, _, h | h | h⟩ := hv <;> (subst h; rfl)
def PrT.pages (y q : PrT) : PrT := { y with pis := q.pis, pwr := q.pwr, pfr := q.pfr }
theorem wp_st_space {ops : Array Oper} {rest : List Oper} {o : Oper} {a : Act} {w : World} {Q : Exit → Act → World → Prop} (x z : Operand) (hgd : o.guard = none) (ho : o.op = .store 52 x z) (g : Nat) (y q : PrT) (t : TypeId) (hx : a.eval x = .pointer (some ⟨g, 20, none⟩)) (hy : a.eval z = .agg (spaceL q).toArray)
  (hb : Box w g t (prL y).toArray) (hK : ∀ w', Box w' g t (prL (y.pages q)).toArray → But g w w' → wpList Tryz.prog ops Q rest (a.put o.dst undef) w') : wpList Tryz.prog ops Q (o :: rest) a w :=
 wp_st_range _ x z hgd ho g 20 (spaceL q) _ _ t hx hy (spaceL_one q) (by rw [spaceL_len]; exact spaceSize) hb (by rw [spaceL_len, List.size_toArray, prL_len]; decide) (putR_space y q) hK
end Go.Proofs.YtfaplefkakpgcaaGreatDoor
/- A machine loaded at once behind a guard. -/
namespace Go.Proofs.YtfaplefkakpgcaaGreatDoor
set_option linter.unusedVariables false
set_option linter.unusedSimpArgs false
open Go.RowKit
theorem mac_range0 {w : World} {g : Nat} {t : TypeId} {m : Mac} (h : Box w g t m.cells) : w.rangeAt g 0 m.cells.toList := fun j v hj => by
 rw [Nat.zero_add]; exact (h.cell j).trans (by rw [← hj]; simp)
theorem wp_ld_mac_g {ops : Array Oper} {rest : List Oper} {o : Oper} {a : Act} {w : World} {Q : Exit → Act → World → Prop} (x : Operand) (hw : Region.wanted o (yielded ops a.tmps) = true) (ho : o.op = .load 38 x) (g : Nat) (m : Mac) (t : TypeId) (hx : a.eval x = .pointer (some ⟨g, 0, none⟩))
  (hb : Box w g t m.cells) (hK : wpList Tryz.prog ops Q rest (a.put o.dst (.agg m.cells)) w) : wpList Tryz.prog ops Q (o :: rest) a w := by
 unfold wpList
 rw [if_pos hw]
 exact .inl (wp_load_mid _ x ho g 0 hx _ _ (mac_range0 hb) Tryz.underlying38 rfl macSize hK)
end Go.Proofs.YtfaplefkakpgcaaGreatDoor
/- Maps of numbers: what stands, and the like. -/
namespace Go.Proofs.YtfaplefkakpgcaaGreatDoor
set_option linter.unusedVariables false
set_option linter.unusedSimpArgs false
open Go.RowKit
theorem grown_then {w a b : World} {g r : Option Nat} (h : w.grownBy a g) (k : a.grownBy b r) (hr : ∀ j, r = some j → w.heap.size ≤ j ∨ g = some j) : w.grownBy b g :=
 ⟨k.os.trans h.os, k.tape.trans h.tape, k.output.trans h.output, Nat.le_trans h.size k.size, fun i hi hne => (k.block i (Nat.lt_of_lt_of_le hi h.size) (fun e => by
  rcases hr i e.symm with h1 | h1
  ·omega
  ·exact hne h1.symm)).trans (h.block i hi hne)⟩
theorem ownsMap_ext {H : Type} {P : Program} {k : TypeId} {R : Value → Option (DataW H × List MemPlace)} {w w' : World} {b n : Nat} {D : DataW H} (h : w.ownsMap P k R b n D) (x : Ext w w') : w'.ownsMap P k R b n D := by
 obtain ⟨es, cl, hb, r⟩ := h
 exact ⟨es, cl, (x.block b (Array.getElem?_eq_some_iff.1 hb).1).trans hb, r⟩
theorem intKeyed : Maps.Keyed Tryz.prog 3 := Maps.int_keyed Tryz.underlying3
set_option maxRecDepth 100000 in
theorem key_i64 (k : Nat) (hk : k ≤ 100000) : keyOf Tryz.prog 3 (.int .i64 (k : Int)) = some (.int .i64 (k : Int)) := by
 have hw : (Lit.int .i64 (k : Int)).wf = true := (by unfold Lit.wf; simp only [Bool.and_eq_true, decide_eq_true_eq, show IntKind.i64.min = -9223372036854775808 from rfl, show IntKind.i64.max = 9223372036854775807 from rfl]; omega)
 simp [keyOf, Tryz.underlying3, mapKey, hw]
end Go.Proofs.YtfaplefkakpgcaaGreatDoor
/- inode.All on a volume that is one; inode.New where no inode is free. -/
namespace Go.Proofs.YtfaplefkakpgcaaGreatDoor
set_option linter.unusedVariables false
set_option linter.unusedSimpArgs false
open Go.RowKit
def numsL (l : List Int) : List Value := l.map fun z => Value.int .i64 z
theorem intInfoN : (Tryz.prog.info? 3).map (fun i => (i.zero, i.size, i.bytes)) = some (some (.int .i64 0), 1, 8) := by kernel_rfl
theorem wp_app_int {ops : Array Oper} {rest : List Oper} {o : Oper} {a : Act} {w : World} {Q : Exit → Act → World → Prop} {B g n : Nat} {u : Value} {l : List Int} {y : Int} (hgd : o.guard = none) (sl x : Operand)
  (ho : o.op = .call { callee := .builtin .append, args := #[sl, x], argTypes := #[80, 80] }) (hs : a.eval sl = u) (hx : a.eval x = .slice (some ⟨g, 0, none⟩) 1 1)
  (h0 : w.ownsRow B 3 1 u n (numsL l)) (hb : Box w g 3 #[.int .i64 y]) (hn : n ≤ 1000000) (hB : B ≤ w.heap.size)
  (hK : ∀ u' w', w'.ownsRow B 3 1 u' (n + 1) (numsL (l ++ [y])) → w.grownBy w' u.ownBlock → wpList Tryz.prog ops Q rest (a.put o.dst u') w') : wpList Tryz.prog ops Q (o :: rest) a w := by
 refine wpList_plain hgd fun K hK' => ?_
 obtain ⟨i, hi, hz, h1, h2⟩ := info_parts intInfoN
 obtain ⟨v', w', hr, ho2, hg, _, _⟩ := run_append_own_at (P := Tryz.prog) w B 80 o.type 3 i _ 1 8 Tryz.underlying80 hi hz h1 h2 rfl (by decide) u n (numsL l) h0 ⟨g, 0, none⟩ 1 1 [.int .i64 y] rfl (fun j u hj => by
  have ha : (⟨g, 0, none⟩ : Addr).add j = ⟨g, j, none⟩ := by unfold Addr.add; split <;> simp_all
  rw [ha, hb.cell j]; simpa using hj) (fun u hu => by rcases (by simpa using hu : u = .int .i64 y) with rfl; rfl) (by unfold maxLen; omega) (by omega) hB
 unfold Oper.wp execOp
 simp only [ho, resolve, invoke, builtin, Sem.run_bind, Sem.run_pure, Result.andThen_ok, List.map_toArray, List.map_cons, List.map_nil, hs, hx, hr]
 refine hK' _ _ (hK v' w' ?_ hg)
 rw [show numsL (l ++ [y]) = numsL l ++ [.int .i64 y] by simp [numsL]]
 exact ho2
end Go.Proofs.YtfaplefkakpgcaaGreatDoor
/- An inode as it stands on a volume (extent.file): its cells; is, size, at. -/
namespace Go.Proofs.YtfaplefkakpgcaaGreatDoor
set_option linter.unusedVariables false
set_option linter.unusedSimpArgs false
open Go.RowKit
structure FileT where
 v : List (List UInt8)
 I : Int
 n : Int
 x : List Int
def fileL (F : FileT) : List Value := [.int .i64 (F.v.length : Int), .int .i64 F.I, .int .i64 1, .int .i64 2, .int .i64 3, .int .i64 (3 + (F.I + 1) / 2), .int .i64 F.n, .int .i64 (F.x.getD 0 0), .int .i64 (F.x.getD 1 0), .int .i64 (F.x.getD 2 0), .int .i64 (F.x.getD 3 0), .int .i64 (F.x.getD 4 0), .int .i64 (F.x.getD 5 0), .int .i64 (F.x.getD 6 0), .int .i64 (F.x.getD 7 0), .int .i64 (F.x.getD 8 0), .int .i64 (F.x.getD 9 0), .int .i64 (F.x.getD 10 0), .int .i64 (F.x.getD 11 0)]
def fileC (s : Sl) (F : FileT) : Array Value := (Value.slice s.A s.n s.c :: fileL F).toArray
def isB (v : List (List UInt8)) (I b : Int) : Bool := decide (3 + (I + 1) / 2 ≤ b) && decide (b < (v.length : Int))
def numAt (v : List (List UInt8)) (I : Int) (x : List Int) (k : Nat) : Int :=
 if k < 6 then x.getD (4 + k) 0 else if isB v I (x.getD 10 0) then fnum (v.getD (x.getD 10 0).toNat []) (2 * (k - 6)) 2 else 0
def atP (v : List (List UInt8)) (I : Int) (x : List Int) (k : Nat) : Int := if isB v I (numAt v I x k) then numAt v I x k else -1
def sizeP (x : List Int) : Int := min (x.getD 3 0) 8960
set_option maxHeartbeats 1000000 in
set_option maxRecDepth 100000 in
theorem fis_any (g : Nat) (s : Sl) (F : FileT) (b : Int) (w : World) (h : Box w g 162 (fileC s F)) :
  Calls Tryz.prog 228 #[.pointer (some ⟨g, 0, none⟩), .int .i64 b] w fun e w' => e = .returned (.bool (isB F.v F.I b)) ∧ w = w' := by
 have c6 : w.cell? ⟨g, 6, none⟩ = some (.int .i64 (3 + (F.I + 1) / 2)) := h.cell 6
 have c1 : w.cell? ⟨g, 1, none⟩ = some (.int .i64 (F.v.length : Int)) := h.cell 1
 clear h
 unfold isB
 generalize 3 + (F.I + 1) / 2 = dt at *
 go_enter Tryz.func228, Tryz.ntmps228
 rcases Bool.eq_false_or_eq_true (decide (dt ≤ b)) with d1 | d1
 ·go_wp2_with fail
  go_ret
  exact ⟨by rw [d1]; rfl, rfl⟩
 ·go_wp2_with fail
  go_ret
  exact ⟨by rw [d1]; rfl, rfl⟩
set_option maxHeartbeats 1000000 in
set_option maxRecDepth 100000 in
theorem fsize_any (g : Nat) (s : Sl) (F : FileT) (w : World) (h : Box w g 162 (fileC s F)) :
  Calls Tryz.prog 116 #[.pointer (some ⟨g, 0, none⟩)] w fun e w' => e = .returned (.int .i64 (sizeP F.x)) ∧ w = w' := by
 have c6 : w.cell? ⟨g, 11, none⟩ = some (.int .i64 (F.x.getD 3 0)) := h.cell 11
 clear h
 unfold sizeP
 generalize F.x.getD 3 0 = z at *
 go_enter Tryz.func116, Tryz.ntmps116
 go_wp2_with fail
 go_ret
 exact ⟨rfl, rfl⟩
structure FileOk (F : FileT) : Prop where
 good : Good F.v F.I
 n1 : 1 ≤ F.n
 n2 : F.n ≤ F.I
 len : F.x.length = 12
 fits : fitsB F.x = true
theorem fdirect {w : World} {g : Nat} {s : Sl} {F : FileT} (h : Box w g 162 (fileC s F)) {k : Nat} (hk : k < 6) : w.cell? ⟨g, 12 + k, none⟩ = some (.int .i64 (F.x.getD (4 + k) 0)) := by
 rcases (by omega : k = 0 ∨ k = 1 ∨ k = 2 ∨ k = 3 ∨ k = 4 ∨ k = 5) with rfl | rfl | rfl | rfl | rfl | rfl
 ·exact h.cell 12
 ·exact h.cell 13
 ·exact h.cell 14
 ·exact h.cell 15
 ·exact h.cell 16
 ·exact h.cell 17
theorem isB_le {v : List (List UInt8)} {I b : Int} (h : isB v I b = true) : 3 + (I + 1) / 2 ≤ b ∧ b < (v.length : Int) := by
 unfold isB at h
 simpa using h
theorem atP_yes {v : List (List UInt8)} {I b : Int} {x : List Int} {k : Nat} (h : numAt v I x k = b) (hb : isB v I b = true) : atP v I x k = b := by unfold atP; rw [h, if_pos hb]
theorem atP_no {v : List (List UInt8)} {I b : Int} {x : List Int} {k : Nat} (h : numAt v I x k = b) (hb : isB v I b = false) : atP v I x k = -1 := by unfold atP; rw [h, if_neg (by rw [hb]; simp)]
theorem cell_getD {w : World} {b o : Nat} {v : List (List UInt8)} (h : ∀ (j : Nat) (h : j < v.length), w.cell? ⟨b, o + j, none⟩ = some (.string (str v[j]))) {k : Nat} (hk : k < v.length) : w.cell? ⟨b, o + k, none⟩ = some (.string (str (v.getD k []))) := by
 rw [h k hk, List.getD_eq_getElem?_getD, List.getElem?_eq_getElem hk]; rfl
set_option maxHeartbeats 4000000 in
set_option maxRecDepth 100000 in
theorem fat_any (g : Nat) (s : Sl) (F : FileT) (k : Nat) (w : World) (h : Box w g 162 (fileC s F)) (hr : Strs w s.A s.n F.v) (hF : FileOk F) (hk : k < 70) :
  Calls Tryz.prog 214 #[.pointer (some ⟨g, 0, none⟩), .int .i64 (k : Int)] w fun e w' => e = .returned (.int .i64 (atP F.v F.I F.x k)) ∧ Ext w w' := by
 have HIS := Lib.hid (fun b w h => fis_any g s F b w h)
 have hpl := plan_bd hF.good.plan
 obtain ⟨hl, hv2⟩ := hr
 by_cases h6 : k < 6
 ·have hn : numAt F.v F.I F.x k = F.x.getD (4 + k) 0 := by unfold numAt; rw [if_pos h6]
  have HY := Lib.hid (fun h => atP_yes hn h)
  have HNo := Lib.hid (fun h => atP_no hn h)
  have cd := fdirect h h6
  have hki : (k : Int) < 6 := by omega
  have hkd : decide ((k : Int) < 6) = true := decide_eq_true hki
  clear hv2 hn
  generalize F.x.getD (4 + k) 0 = b at *
  go_enter Tryz.func214, Tryz.ntmps214
  cases hb : isB F.v F.I b with
  | true =>
   have HB := Lib.hid hb
   have HA := Lib.hid (HY.out hb)
   clear hb HY HNo
   go_wp2_with (go_at_call 228; refine (HIS.out b _ h).mono ?_; rintro e w2 ⟨rfl, rfl⟩; rw [HB.out])
   go_ret
   exact ⟨by rw [HA.out]; rfl, Ext.refl _⟩
  | false =>
   have HB := Lib.hid hb
   have HA := Lib.hid (HNo.out hb)
   clear hb HY HNo
   go_wp2_with (go_at_call 228; refine (HIS.out b _ h).mono ?_; rintro e w2 ⟨rfl, rfl⟩; rw [HB.out])
   go_ret
   exact ⟨by rw [HA.out]; rfl, Ext.refl _⟩
 ·have hkd : decide ((k : Int) < 6) = false := decide_eq_false (by omega)
  have ci : w.cell? ⟨g, 18, none⟩ = some (.int .i64 (F.x.getD 10 0)) := h.cell 18
  have cv : w.cell? ⟨g, 0, none⟩ = some (.slice s.A s.n s.c) := h.cell 0
  cases hi : isB F.v F.I (F.x.getD 10 0) with
  | false =>
   have hn : numAt F.v F.I F.x k = 0 := by unfold numAt; rw [if_neg h6, hi]; rfl
   have h0 : isB F.v F.I 0 = false := by unfold isB; rw [show decide (3 + (F.I + 1) / 2 ≤ 0) = false from decide_eq_false (by omega)]; rfl
   have HA := Lib.hid (atP_no hn h0)
   have HB := Lib.hid hi
   have H0 := Lib.hid h0
   clear hi hn h0 hv2
   generalize F.x.getD 10 0 = ind at *
   go_enter Tryz.func214, Tryz.ntmps214
   go_wp2_with (first
    | (go_at_call 228; (have hq := HIS.out ind _ h; rw [HB.out] at hq; with_reducible (refine hq.mono ?_)); clear hq; rintro e w2 ⟨rfl, rfl⟩)
    | (go_at_call 228; (have hq := HIS.out 0 _ h; rw [H0.out] at hq; with_reducible (refine hq.mono ?_)); clear hq; rintro e w2 ⟨rfl, rfl⟩))
   go_ret
   exact ⟨by rw [HA.out]; rfl, Ext.refl _⟩
  | true =>
   have hn : numAt F.v F.I F.x k = fnum (F.v.getD (F.x.getD 10 0).toNat []) (2 * (k - 6)) 2 := by unfold numAt; rw [if_neg h6, if_pos hi]
   have HY := Lib.hid (fun h => atP_yes hn h)
   have HNo := Lib.hid (fun h => atP_no hn h)
   have hib := isB_le hi
   obtain ⟨b, o, hsA, hcell⟩ := hv2 (by omega)
   rw [hsA] at cv
   have hgl : (F.v.getD (F.x.getD 10 0).toNat []).length = 128 := getD_len hF.good (by omega)
   have cb : w.cell? ⟨b, o + (F.x.getD 10 0).toNat, none⟩ = some (.string (str (F.v.getD (F.x.getD 10 0).toNat []))) := cell_getD hcell (by omega)
   have HB := Lib.hid hi
   clear hi hn hcell hv2
   generalize F.x.getD 10 0 = ind at *
   obtain ⟨q, rfl⟩ : ∃ q : Nat, ind = (q : Int) := ⟨ind.toNat, by omega⟩
   rw [Int.toNat_natCast] at cb hgl HY HNo
   generalize F.v.getD q [] = blk at *
   have hqs : (q : Int) < (s.n : Int) := by omega
   obtain ⟨z, hz⟩ : ∃ z, k - 6 = z := ⟨_, rfl⟩
   have hkz : (k : Int) = (z : Int) + 6 := by omega
   rw [hz] at HY HNo
   rw [hkz]
   rw [hkz] at hkd
   have hzk : z < 64 := by omega
   have HG := Lib.hid (fun w => get_ext blk (2 * z) (2 * z + 2) 2 w rfl (.inr (.inl rfl)) (by omega))
   have hfb := fnum_bd blk (2 * z) 2 (by omega)
   have hsz : (str blk).size = 128 := by rw [str_size, hgl]
   have w1 : IntKind.i64.wrap ((z : Int) + 6 - 6) = (z : Int) := by rw [IntKind.wrap_i64]; omega
   have w2 : IntKind.i64.wrap (2 * (z : Int)) = ((2 * z : Nat) : Int) := by rw [IntKind.wrap_i64]; omega
   have w3 : IntKind.i64.wrap (((2 * z : Nat) : Int) + 2) = ((2 * z + 2 : Nat) : Int) := by rw [IntKind.wrap_i64]; omega
   have w4 : IntKind.i64.wrap (fnum blk (2 * z) 2) = fnum blk (2 * z) 2 := by rw [IntKind.wrap_i64]; omega
   generalize fnum blk (2 * z) 2 = num at *
   clear h6 hk hkz hz hF hpl hl hib
   go_enter Tryz.func214, Tryz.ntmps214
   go_wp2_with (first
    | (go_at_call 228; (have hq := HIS.out (q : Int) _ h; rw [HB.out] at hq; with_reducible (refine hq.mono ?_)); clear hq; rintro e w2 ⟨rfl, rfl⟩))
   have ci' : ∀ y : Later w, y.now.cell? ⟨g, 18, none⟩ = some (.int .i64 (q : Int)) := fun y => y.ext.keep ci
   have cv' : ∀ y : Later w, y.now.cell? ⟨g, 0, none⟩ = some (.slice (some ⟨b, o, none⟩) s.n s.c) := fun y => y.ext.keep cv
   have cb' : ∀ y : Later w, y.now.cell? ⟨b, o + q, none⟩ = some (.string (str blk)) := fun y => y.ext.keep cb
   have t1 : ((2 * z : Nat) : Int).toNat = 2 * z := by omega
   refine wp_region_later (by kernel_rfl) (by kernel_rfl) ?_
   repeat (go_big_quiet_step ((exact later_of_same (HG.out _))))
   refine wpQuiet_nil ?_
   rintro w5 ⟨x5, rfl⟩
   have h5 := h.ext x5.ext
   clear ci' cv' cb'
   cases hb : isB F.v F.I num with
   | true =>
    have HB2 := Lib.hid hb
    have HA := Lib.hid (HY.out hb)
    clear hb HY HNo
    go_wp2_with (go_at_call 228; refine (HIS.out num _ h5).mono ?_; rintro e w2 ⟨rfl, rfl⟩; rw [HB2.out])
    go_ret
    exact ⟨by rw [HA.out]; rfl, x5.ext⟩
   | false =>
    have HB2 := Lib.hid hb
    have HA := Lib.hid (HNo.out hb)
    clear hb HY HNo
    go_wp2_with (go_at_call 228; refine (HIS.out num _ h5).mono ?_; rintro e w2 ⟨rfl, rfl⟩; rw [HB2.out])
    go_ret
    exact ⟨by rw [HA.out]; rfl, x5.ext⟩
end Go.Proofs.YtfaplefkakpgcaaGreatDoor
/- extent.opened on a volume that is one. -/
namespace Go.Proofs.YtfaplefkakpgcaaGreatDoor
set_option linter.unusedVariables false
set_option linter.unusedSimpArgs false
open Go.RowKit
theorem fileSize : (Tryz.prog.info? 162).map (·.size) = some 20 := by kernel_rfl
def fileZ : Array Value := #[.slice none 0 0, .int .i64 0, .int .i64 0, .int .i64 0, .int .i64 0, .int .i64 0, .int .i64 0, .int .i64 0, .int .i64 0, .int .i64 0, .int .i64 0, .int .i64 0, .int .i64 0, .int .i64 0, .int .i64 0, .int .i64 0, .int .i64 0, .int .i64 0, .int .i64 0, .int .i64 0]
theorem fileC_one (s : Sl) (F : FileT) : (fileC s F).all (·.oneCell') = true := all_oneCell_toArray (fun v hv => by
 simp only [fileL, List.mem_cons, List.not_mem_nil, or_false] at hv
 rcases hv with h | h | h | h | h | h | h | h | h | h | h | h | h | h | h | h | h | h | h | h <;> (subst h; rfl))
section
variable {ops : Array Oper} {rest : List Oper} {o : Oper} {a : Act} {w : World} {Q : Exit → Act → World → Prop}
theorem wp_st_file (x y : Operand) (hgd : o.guard = none) (ho : o.op = .store 162 x y) (g : Nat) (s : Sl) (F : FileT) (old : Array Value) (t : TypeId) (hx : a.eval x = .pointer (some ⟨g, 0, none⟩)) (hy : a.eval y = .agg (fileC s F))
  (hb : Box w g t old) (hold : old.size = 20) (hK : ∀ w', Box w' g t (fileC s F) → w.grownBy w' (some g) → wpList Tryz.prog ops Q rest (a.put o.dst undef) w') : wpList Tryz.prog ops Q (o :: rest) a w :=
 wp_st _ x y hgd ho g _ _ t hx hy hb fileSize hold (fileC_one s F) hK
end
def ofV (B : Nat) (A : Option Addr) (n c : Nat) (v : List (List UInt8)) (I k : Int) (x : List Int) : Nat → World → Value → Prop
 | 0, _, u => u = .slice A n c
 | 1, w, u => w.ownsRow B 9 1 u n (strL v)
 | 2, _, u => u = .agg (intVals [(v.length : Int), I, 1, 2, 3, 3 + (I + 1) / 2])
 | 3, _, u => u = .int .i64 k
 | 4, _, u => u = .agg (intVals x)
 | 5, w, u => ∃ s : Sl, u = .agg (fileC s ⟨v, I, k, x⟩) ∧ s.n = n ∧ w.ownsRow B 9 1 (.slice s.A s.n s.c) n (strL v)
 | _, _, _ => True
theorem ofV_ext {B : Nat} {A : Option Addr} {n c : Nat} {v : List (List UInt8)} {I k : Int} {x : List Int} (j : Nat) (w w' : World) (u : Value) (hx : Ext w w') (h : ofV B A n c v I k x j w u) : ofV B A n c v I k x j w' u := by
 match j, h with
 | 0, h => exact h
 | 1, h => exact own_ext h hx
 | 2, h => exact h
 | 3, h => exact h
 | 4, h => exact h
 | 5, ⟨s, e, hn, hb⟩ => exact ⟨s, e, hn, own_ext hb hx⟩
 | _ + 6, _ => trivial
def OpenedR (B : Nat) (v : List (List UInt8)) (I k : Int) (e : Ending) (w' : World) : Prop :=
 ∃ s : Sl, e = .returned (.tuple #[.agg (fileC s ⟨v, I, k, inoAt v k⟩), .int .i64 0]) ∧ s.n = v.length ∧ w'.ownsRow B 9 1 (.slice s.A s.n s.c) v.length (strL v)
set_option maxHeartbeats 4000000 in
set_option maxRecDepth 100000 in
theorem opened_yes (A : Option Addr) (n c : Nat) (v : List (List UInt8)) (I k : Int) (w : World) (hv : Strs w A n v) (hg : Good v I) (hk1 : 1 ≤ k) (hk2 : k ≤ I) :
  Calls Tryz.prog 115 #[.slice A n c, .int .i64 k] w fun e w' => OpenedR w.heap.size v I k e w' ∧ Ext w w' := by
 have hpl := plan_bd hg.plan
 have hnv := hv.1
 have HGt := Lib.hid (fun w h => iget_yes A n c v I k w h hg hk1 hk2)
 have HO := Lib.hid (fun w h => of_yes A n c v I w h hg)
 have x0 := (Ext.refl w).alloc (.cells fileZ 162)
 have b0 := Box.new w 162 fileZ
 have HV := Lib.hid (hv.ext x0)
 have HI12 := Lib.hid (inoAt_len v k)
 subst hnv
 clear hv hg hk1 hk2
 unfold OpenedR
 go_enter Tryz.func115, Tryz.ntmps115
 go_upto_region 1 with fail
 change Code.wp _ _ _ _ (w.alloc (.cells fileZ 162))
 generalize w.alloc (.cells fileZ 162) = w1 at *
 generalize hG : w.heap.size = G at *
 obtain ⟨x, hxi⟩ : ∃ x, x = inoAt v k := ⟨_, rfl⟩
 rw [← hxi] at HGt HI12
 have HXI := Lib.hid hxi
 clear hxi
 go_upto_region 2 with (first
  | (go_at_call 69; refine (HGt.out _ HV.out).mono ?_; rintro e w2 ⟨rfl, x2⟩)
  | (refine wp_st_ino (.tmp 6) (.tmp 13) rfl rfl w2.heap.size x zero12 121 rfl rfl (Box.new _ _ _) HI12.out rfl ?_; intro w3 b3 g3))
 have x23 : Ext w2 w3 := ((Ext.refl w2).alloc _).grown g3 (fun j e => by cases e; exact Nat.le_refl _)
 have x13 := x2.trans x23
 have b03 := b0.ext x13
 have HV3 := Lib.hid (HV.out.ext x13)
 have xw3 := x0.trans x13
 clear g3 x23 x2 b0 x13 x0 HV
 generalize w2.heap.size = g3 at *
 go_upto_region 5 with (first
  | (go_at_call 94; refine (HO.out _ HV3.out).mono ?_; rintro e w4 ⟨rfl, x4⟩)
  | (rw [geomV_eq]; refine wp_st_geom (.tmp 8) (.tmp 22) rfl rfl w4.heap.size _ [0, 0, 0, 0, 0, 0] 144 rfl rfl (Box.new _ _ _) rfl rfl ?_; intro w5 b5 g5))
 have x45 : Ext w4 w5 := ((Ext.refl w4).alloc _).grown g5 (fun j e => by cases e; exact Nat.le_refl _)
 have x35 := x4.trans x45
 have b05 := b03.ext x35
 have b35 := b3.ext x35
 have HV5 := Lib.hid (HV3.out.ext x35)
 have xw5 := xw3.trans x35
 clear g5 x45 x4 b03 b3 x35 xw3 HV3 HGt HO
 generalize w4.heap.size = g5 at *
 have hsz := xw5.size
 rw [hG] at hsz
 go_wp2_with fail
 refine wp_region_web' 6 [[], [0], [], [], [], [1, 2, 3, 4]] (ofV G A v.length c v I k x) (by kernel_rfl) (by kernel_rfl) ofV_ext (fun us => ?_)
 simp only [List.take_succ_cons, List.take_zero, List.drop_succ_cons, List.drop_zero]
 refine ⟨fun w' hx hd => ?_, fun w' hx hd => ?_, fun w' hx hd => ?_, fun w' hx hd => ?_, fun w' hx hd => ?_, fun w' hx hd => ?_, fun w' hx hv => ?_⟩
 ·refine web_of_list 28 rfl (by simp [Act.put]) rfl ?_
  go_wp2_with fail
  exact ⟨Ext.refl _, rfl⟩
 ·have h0 := hd 0 (by simp)
  clear hd
  generalize us 0 = u0 at *
  obtain rfl : u0 = .slice A v.length c := h0
  have hs2 := HV5.out.ext hx
  refine web_of_list 29 rfl (by simp [Act.put]) rfl ?_
  go_wp2_with (refine wp_app_nil G rfl _ _ rfl rfl rfl hs2 (by omega) (by have := hx.size; omega) (by omega) ?_; intro u' w2 own2 xx)
  exact own2
 ·refine web_of_list 30 rfl (by simp [Act.put]) rfl ?_
  go_wp2_with (refine wp_ld_geom (.tmp 8) rfl rfl g5 _ 144 rfl (b5.ext hx) rfl ?_)
  exact ⟨Ext.refl _, rfl⟩
 ·refine web_of_list 31 rfl (by simp [Act.put]) rfl ?_
  go_wp2_with fail
  exact ⟨Ext.refl _, rfl⟩
 ·refine web_of_list 32 rfl (by simp [Act.put]) rfl ?_
  go_wp2_with (refine wp_ld_ino (.tmp 6) rfl rfl g3 x 121 rfl (b35.ext hx) HI12.out ?_)
  exact ⟨Ext.refl _, rfl⟩
 ·have h1 := hd 1 (by simp)
  have h2 := hd 2 (by simp)
  have h3 := hd 3 (by simp)
  have h4 := hd 4 (by simp)
  clear hd
  generalize us 0 = u0 at *
  generalize us 1 = u1 at *
  generalize us 2 = u2 at *
  generalize us 3 = u3 at *
  generalize us 4 = u4 at *
  have own1 : w'.ownsRow G 9 1 u1 v.length (strL v) := h1
  obtain rfl : u2 = .agg (intVals [(v.length : Int), I, 1, 2, 3, 3 + (I + 1) / 2]) := h2
  obtain rfl : u3 = .int .i64 k := h3
  obtain rfl : u4 = .agg (intVals x) := h4
  clear h1
  obtain ⟨g, cap, rfl, hgb, _⟩ := Strs.own' own1 (by omega)
  obtain ⟨y0, y1, y2, y3, y4, y5, y6, y7, y8, y9, y10, y11, rfl⟩ := list12 HI12.out
  have OW := Lib.hid own1
  refine web_of_list 33 rfl (by simp [Act.put]) rfl ?_
  simp only [intVals, List.map_cons, List.map_nil]
  go_wp2_with fail
  exact ⟨Ext.refl _, ⟨some ⟨g, 0, none⟩, v.length, cap⟩, rfl, rfl, OW.out⟩
 ·have h5 := hv 5 (by omega)
  clear hv
  generalize us 0 = u0 at *
  generalize us 1 = u1 at *
  generalize us 2 = u2 at *
  generalize us 3 = u3 at *
  generalize us 4 = u4 at *
  generalize us 5 = u5 at *
  obtain ⟨s, rfl, hsn, own5⟩ : ∃ s : Sl, u5 = .agg (fileC s ⟨v, I, k, x⟩) ∧ s.n = v.length ∧ w'.ownsRow G 9 1 (.slice s.A s.n s.c) v.length (strL v) := h5
  have b0' := b05.ext hx
  have OW := Lib.hid own5
  have HSN := Lib.hid hsn
  have hne := Lib.hid (own_ne own5 b0' (by decide))
  clear own5 hsn
  go_wp2_with (refine wp_st_file (.tmp 4) (.tmp 33) rfl rfl G s ⟨v, I, k, x⟩ _ 162 rfl rfl b0' rfl ?_; intro w8 b8 g8)
  refine bodyPost_ret (results_cell2 rfl _ _ G _ _ _ (.int .i64 0) rfl rfl b8 Tryz.underlying162 rfl fileSize) rfl ?_
  exact ⟨⟨s, by rw [← HXI.out], HSN.out, by rw [hG]; exact OW.out.kept g8 (.inr hne.out.symm)⟩, (xw5.trans hx).grown g8 (fun j e => by cases e; rw [hG]; exact Nat.le_refl _)⟩
end Go.Proofs.YtfaplefkakpgcaaGreatDoor
