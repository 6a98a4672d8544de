/- inode.known, Get at blocks that are no volume; fs.file. -/
import Derived.Test.YtfaplefkakpgcaaGreatDoorVa12
namespace Go.Proofs.YtfaplefkakpgcaaGreatDoor
set_option linter.unusedVariables false
set_option linter.unusedSimpArgs false
open Go.RowKit
set_option maxHeartbeats 1000000 in
set_option maxRecDepth 100000 in
theorem known_bad (A : Option Addr) (n c : Nat) (v : List (List UInt8)) (k : Int) (w : World) (hv : Strs w A n v) (hn : n ≤ 9223372036854775807) (hb : ∀ I, ¬ Good v I) :
    Calls Tryz.prog 133 #[.slice A n c, .int .i64 k] w fun e w' => e = .returned (.tuple #[noGeom, .int .i64 3]) ∧ Ext w w' := by
  have HO := Lib.hid (fun w h => gof_any A n c v w h hn)
  go_enter Tryz.func133, Tryz.ntmps133
  go_wp2_with fail
  refine (HO.out _ (hv.ext ((Ext.refl _).alloc _))).mono ?_
  rintro e w1 ⟨hor, x1⟩
  obtain rfl : e = .returned (.tuple #[noGeom, .int .i64 3]) := by
    rcases hor with ⟨I, hg, _⟩ | h
    · exact absurd hg (hb I)
    · exact h
  rw [noGeom_eq]
  have x0 : Ext w w1 := ((Ext.refl w).alloc _).trans x1
  have bR : Box w1 w.heap.size 144 (intVals [0, 0, 0, 0, 0, 0]) := (Box.new w 144 _).ext x1
  have hlt := bR.lt
  clear x1
  go_wp2_with (first
    | (refine wp_st_geom (.tmp 6) (.tmp 11) rfl rfl w1.heap.size [0, 0, 0, 0, 0, 0] [0, 0, 0, 0, 0, 0] 144 rfl rfl (Box.new _ _ _) rfl rfl ?_; intro w2 b2 g2)
    | (refine wp_st_geom (.tmp 4) (.tmp 15) rfl rfl w.heap.size [0, 0, 0, 0, 0, 0] [0, 0, 0, 0, 0, 0] 144 rfl rfl ((bR.ext ((Ext.refl _).alloc _)).grown g2 (by first | (simp; done) | (simp; omega))) rfl rfl ?_; intro w3 b3 g3))
  refine bodyPost_ret (results_cell2 rfl _ _ w.heap.size _ _ _ (.int .i64 3) rfl rfl b3 Tryz.underlying144 rfl geomSize) rfl ⟨rfl, ?_⟩
  exact ((x0.alloc _).grown g2 (fun k e => by cases e; exact x0.size)).grown g3 (fun k e => by cases e; exact Nat.le_refl _)
set_option maxHeartbeats 1000000 in
set_option maxRecDepth 100000 in
theorem iget_bad (A : Option Addr) (n c : Nat) (v : List (List UInt8)) (k : Int) (w : World) (hv : Strs w A n v) (hn : n ≤ 9223372036854775807) (hb : ∀ I, ¬ Good v I) :
    Calls Tryz.prog 69 #[.slice A n c, .int .i64 k] w fun e w' => e = .returned (.tuple #[.agg (intVals zero12), .int .i64 3]) ∧ Ext w w' := by
  have HO := Lib.hid (fun w h => known_bad A n c v k w h hn hb)
  go_enter Tryz.func69, Tryz.ntmps69
  go_wp2_with fail
  refine (HO.out _ (hv.ext ((Ext.refl _).alloc _))).mono ?_
  rintro e w1 ⟨rfl, x1⟩
  rw [noGeom_eq]
  have x0 : Ext w w1 := ((Ext.refl w).alloc _).trans x1
  have bR : Box w1 w.heap.size 121 (intVals zero12) := (Box.new w 121 _).ext x1
  have hlt := bR.lt
  clear x1
  go_wp2_with (first
    | (refine wp_st_geom (.tmp 6) (.tmp 12) rfl rfl w1.heap.size _ [0, 0, 0, 0, 0, 0] 144 rfl rfl (Box.new _ _ _) rfl rfl ?_; intro w2 b2 g2; have x2 : Ext w w2 := (x0.alloc _).grown g2 (fun k e => by cases e; exact x0.size))
    | (refine wp_st_ino (.tmp 4) (.tmp 16) rfl rfl w.heap.size zero12 zero12 121 rfl rfl ((bR.ext ((Ext.refl _).alloc _)).grown g2 (by first | (simp; done) | (simp; omega))) rfl rfl ?_; intro w4 b4 g4))
  refine bodyPost_ret (results_cell2 rfl _ _ w.heap.size _ _ _ (.int .i64 3) rfl rfl b4 Tryz.underlying121 rfl inoSize) rfl ⟨rfl, ?_⟩
  exact x2.grown g4 (fun k e => by cases e; exact Nat.le_refl _)
/-- why that is no file -/
def fileE (v : List (List UInt8)) (I k : Int) : Int := if k < 1 ∨ I < k then 2 else if (inoAt v k).getD 0 0 ≠ 1 then 11 else 0
set_option maxHeartbeats 1000000 in
set_option maxRecDepth 100000 in
theorem ffile_bad (A : Option Addr) (n c : Nat) (v : List (List UInt8)) (k : Int) (w : World) (hv : Strs w A n v) (hn : n ≤ 9223372036854775807) (hb : ∀ I, ¬ Good v I) :
    Calls Tryz.prog 59 #[.slice A n c, .int .i64 k] w fun e w' => e = .returned (.int .i64 3) ∧ Ext w w' := by
  have HG := Lib.hid (fun w h => iget_bad A n c v k w h hn hb)
  go_enter Tryz.func59, Tryz.ntmps59
  go_wp2_with (first
    | (go_at_call 69; refine (HG.out _ hv).mono ?_; rintro e w1 ⟨rfl, x1⟩)
    | (refine wp_st_ino (.tmp 5) (.tmp 11) rfl rfl w1.heap.size _ zero12 121 rfl rfl (Box.new _ _ _) rfl rfl ?_; intro w2 b2 g2))
  go_ret
  exact ⟨rfl, (x1.alloc _).grown g2 (fun k e => by cases e; exact x1.size)⟩
set_option maxHeartbeats 1000000 in
set_option maxRecDepth 100000 in
theorem ffile_any (A : Option Addr) (n c : Nat) (v : List (List UInt8)) (I k : Int) (w : World) (hv : Strs w A n v) (hg : Good v I) :
    Calls Tryz.prog 59 #[.slice A n c, .int .i64 k] w fun e w' => e = .returned (.int .i64 (fileE v I k)) ∧ Ext w w' := by
  by_cases hk : k < 1 ∨ I < k
  · have HG := Lib.hid (fun w h => iget_no A n c v I k w h hg hk)
    rw [show fileE v I k = 2 by unfold fileE; rw [if_pos hk]]
    go_enter Tryz.func59, Tryz.ntmps59
    go_wp2_with (first
      | (go_at_call 69; refine (HG.out _ hv).mono ?_; rintro e w1 ⟨rfl, x1⟩)
      | (refine wp_st_ino (.tmp 5) (.tmp 11) rfl rfl w1.heap.size _ zero12 121 rfl rfl (Box.new _ _ _) rfl rfl ?_; intro w2 b2 g2))
    go_ret
    exact ⟨rfl, (x1.alloc _).grown g2 (fun k e => by cases e; exact x1.size)⟩
  · have HG := Lib.hid (fun w h => iget_yes A n c v I k w h hg (by omega) (by omega))
    have HE := Lib.hid (show fileE v I k = if (inoAt v k).getD 0 0 ≠ 1 then 11 else 0 by unfold fileE; rw [if_neg hk])
    have hx : (intVals (inoAt v k))[0]? = some (.int .i64 ((inoAt v k).getD 0 0)) := rfl
    have hl := inoAt_len v k
    generalize fileE v I k = r at *
    generalize inoAt v k = x at *
    generalize x.getD 0 0 = kd at *
    by_cases h1 : kd = 1
    · subst h1
      rw [if_neg (fun h => h rfl)] at HE
      go_enter Tryz.func59, Tryz.ntmps59
      go_wp2_with (first
        | (go_at_call 69; refine (HG.out _ hv).mono ?_; rintro e w1 ⟨rfl, x1⟩)
        | (refine wp_st_ino (.tmp 5) (.tmp 11) rfl rfl w1.heap.size _ zero12 121 rfl rfl (Box.new _ _ _) hl rfl ?_; intro w2 b2 g2; have c2 := (b2.cell 0).trans hx))
      go_ret
      rw [HE.out]
      exact ⟨rfl, (x1.alloc _).grown g2 (fun k e => by cases e; exact x1.size)⟩
    · have d1 : (kd != 1) = true := by simpa using h1
      rw [if_pos h1] at HE
      go_enter Tryz.func59, Tryz.ntmps59
      go_wp2_with (first
        | (go_at_call 69; refine (HG.out _ hv).mono ?_; rintro e w1 ⟨rfl, x1⟩)
        | (refine wp_st_ino (.tmp 5) (.tmp 11) rfl rfl w1.heap.size _ zero12 121 rfl rfl (Box.new _ _ _) hl rfl ?_; intro w2 b2 g2; have c2 := (b2.cell 0).trans hx))
      go_ret
      rw [HE.out]
      exact ⟨rfl, (x1.alloc _).grown g2 (fun k e => by cases e; exact x1.size)⟩
end Go.Proofs.YtfaplefkakpgcaaGreatDoor
