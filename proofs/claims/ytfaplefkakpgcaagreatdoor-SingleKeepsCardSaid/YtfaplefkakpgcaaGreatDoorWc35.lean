/- single.file, single.File. -/
import Derived.Test.YtfaplefkakpgcaaGreatDoorWc30
import Derived.Test.YtfaplefkakpgcaaGreatDoorWc34
namespace Go.Proofs.YtfaplefkakpgcaaGreatDoor
set_option linter.unusedVariables false
set_option linter.unusedSimpArgs false
open Go.RowKit
def igX (v : List (List UInt8)) (I : Option Int) (k : Int) : List Int × Int := match I with
 | some J => if 1 ≤ k ∧ k ≤ J then (inoAt v k, 0) else (zero12, 2)
 | none => (zero12, 3)
theorem igX_any (A : Option Addr) (n c : Nat) (v : List (List UInt8)) (I : Option Int) (k : Int) (w : World) (hv : Strs w A n v) (hn : n ≤ 9223372036854775807) (hg : GoodX v I) :
  (igX v I k).1.length = 12 ∧ Calls Tryz.prog 69 #[.slice A n c, .int .i64 k] w fun e w' => e = .returned (.tuple #[.agg (intVals (igX v I k).1), .int .i64 (igX v I k).2]) ∧ Ext w w' := by
 cases I with
 | none => exact ⟨rfl, iget_bad A n c v k w hv hn hg⟩
 | some J =>
  by_cases h : 1 ≤ k ∧ k ≤ J
  ·have e : igX v (some J) k = (inoAt v k, 0) := if_pos h
   rw [e]
   exact ⟨rfl, iget_yes A n c v J k w hv hg h.1 h.2⟩
  ·have e : igX v (some J) k = (zero12, 2) := if_neg h
   rw [e]
   exact ⟨rfl, iget_no A n c v J k w hv hg (by omega)⟩
def fileX (v : List (List UInt8)) (I : Option Int) (p : List UInt8) : Int × Int :=
 if (findX v I p).2 ≠ 0 then (0, (findX v I p).2) else if (igX v I (findX v I p).1).2 = 0 ∧ (igX v I (findX v I p).1).1.getD 0 0 = 1 then ((findX v I p).1, 0) else (0, 11)
theorem intVals_zero {x : List Int} (h : x.length = 12) : (intVals x)[0]? = some (.int .i64 (x.getD 0 0)) := by
 match x, h with
 | a :: l, _ => rfl
set_option maxHeartbeats 4000000 in
set_option maxRecDepth 100000 in
theorem sgfile_any (A : Option Addr) (n c : Nat) (v : List (List UInt8)) (I : Option Int) (p : List UInt8) (w : World) (hv : Strs w A n v) (hn : n ≤ 9223372036854775807) (hg : GoodX v I) (hp : p.length ≤ 100000000) :
  Calls Tryz.prog 28 #[.slice A n c, .string (str p)] w fun e w' => e = .returned (.tuple #[.int .i64 (fileX v I p).1, .int .i64 (fileX v I p).2]) ∧ Ext w w' := by
 have HF := Lib.hid (fun w h => findX_any A n c v I p w h hn hg hp)
 have HG := Lib.hid (fun w h => (igX_any A n c v I (findX v I p).1 w h hn hg).2)
 have hl := (igX_any A n c v I (findX v I p).1 w hv hn hg).1
 have HV := Lib.hid hv
 unfold fileX
 clear hv hg hn hp
 generalize findX v I p = F at *
 obtain ⟨k, e⟩ := F
 simp only at HF HG hl ⊢
 generalize igX v I k = Y at *
 obtain ⟨x, e2⟩ := Y
 simp only at HG hl ⊢
 by_cases h1 : e = 0
 ·subst h1
  have hx0 := intVals_zero hl
  have HL := Lib.hid hl
  clear hl
  rw [if_neg (by decide)]
  generalize hkd : x.getD 0 0 = kd at *
  by_cases h2 : e2 = 0
  ·subst h2
   by_cases h3 : kd = 1
   ·subst h3
    rw [if_pos ⟨rfl, rfl⟩]
    go_enter Tryz.func28, Tryz.ntmps28
    go_wp2_with (first
     | (go_at_call 23; refine (HF.out _ HV.out).mono ?_; rintro e w1 ⟨rfl, x1⟩)
     | (go_at_call 69; refine (HG.out _ (HV.out.ext x1)).mono ?_; rintro e w2 ⟨rfl, x2⟩)
     | (refine wp_st_ino (.tmp 8) (.tmp 22) rfl rfl w2.heap.size x zero12 _ rfl rfl (Box.new _ _ _) HL.out rfl ?_; intro w3 b3 g3; have q0 : w3.cell? ⟨w2.heap.size, 0, none⟩ = some (.int .i64 1) := (b3.cell 0).trans hx0))
    have x3 : Ext w2 w3 := ((Ext.refl w2).alloc _).grown g3 (fun j e => by cases e; exact Nat.le_refl _)
    go_ret2
    exact ⟨rfl, (x1.trans x2).trans x3⟩
   ·rw [if_neg (fun h => h3 h.2)]
    have h4 : (kd != 1) = true := by simpa using h3
    go_enter Tryz.func28, Tryz.ntmps28
    go_wp2_with (first
     | (go_at_call 23; refine (HF.out _ HV.out).mono ?_; rintro e w1 ⟨rfl, x1⟩)
     | (go_at_call 69; refine (HG.out _ (HV.out.ext x1)).mono ?_; rintro e w2 ⟨rfl, x2⟩)
     | (refine wp_st_ino (.tmp 8) (.tmp 22) rfl rfl w2.heap.size x zero12 _ rfl rfl (Box.new _ _ _) HL.out rfl ?_; intro w3 b3 g3; have q0 : w3.cell? ⟨w2.heap.size, 0, none⟩ = some (.int .i64 kd) := (b3.cell 0).trans hx0))
    have x3 : Ext w2 w3 := ((Ext.refl w2).alloc _).grown g3 (fun j e => by cases e; exact Nat.le_refl _)
    go_ret2
    exact ⟨rfl, (x1.trans x2).trans x3⟩
  ·rw [if_neg (fun h => h2 h.1)]
   have h4 : (e2 != 0) = true := by simpa using h2
   go_enter Tryz.func28, Tryz.ntmps28
   go_wp2_with (first
    | (go_at_call 23; refine (HF.out _ HV.out).mono ?_; rintro e w1 ⟨rfl, x1⟩)
    | (go_at_call 69; refine (HG.out _ (HV.out.ext x1)).mono ?_; rintro e w2 ⟨rfl, x2⟩)
    | (refine wp_st_ino (.tmp 8) (.tmp 22) rfl rfl w2.heap.size x zero12 _ rfl rfl (Box.new _ _ _) HL.out rfl ?_; intro w3 b3 g3))
   have x3 : Ext w2 w3 := ((Ext.refl w2).alloc _).grown g3 (fun j e => by cases e; exact Nat.le_refl _)
   go_ret2
   exact ⟨rfl, (x1.trans x2).trans x3⟩
 ·rw [if_pos h1]
  have h4 : (e != 0) = true := by simpa using h1
  go_enter Tryz.func28, Tryz.ntmps28
  go_wp2_with (go_at_call 23; refine (HF.out _ HV.out).mono ?_; rintro e w1 ⟨rfl, x1⟩)
  go_ret2
  exact ⟨rfl, x1⟩
set_option maxHeartbeats 4000000 in
set_option maxRecDepth 100000 in
theorem sfile_none (p : List UInt8) (w : World) : Calls Tryz.prog 11 #[.agg #[.slice none 0 0, .slice none 0 0, .string ⟨#[]⟩], .string (str p)] w fun e w' => e = .returned (.tuple #[.string ⟨#[]⟩, .int .i64 3]) ∧ Ext w w' := by
 have HM := Lib.hid imach_none
 have x0 := (Ext.refl w).alloc (.cells #[.slice none 0 0, .slice none 0 0, .string ⟨#[]⟩] 24)
 go_enter Tryz.func11, Tryz.ntmps11
 go_wp2_with (first
  | (go_at_call 27; refine (HM.out _).mono ?_; rintro e w1 ⟨rfl, x1⟩)
  | (refine wp_st_mac _ _ rfl rfl w1.heap.size mac0 _ _ rfl rfl (Box.new _ _ _) rfl ?_; intro w2 b2 g2))
 have y2 : Ext w1 w2 := ((Ext.refl w1).alloc _).grown g2 (fun j e => by cases e; exact Nat.le_refl _)
 go_ret2
 exact ⟨rfl, (x0.trans x1).trans y2⟩
end Go.Proofs.YtfaplefkakpgcaaGreatDoor
