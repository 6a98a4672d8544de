/- The walk of inode.written. -/
import Derived.Test.YtfaplefkakpgcaaGreatDoorWc11
import Derived.Test.YtfaplefkakpgcaaGreatDoorWc12
import Derived.Laws.Rows
import Derived.Test.YtfaplefkakpgcaaGreatDoorWc9
import Derived.Test.YtfaplefkakpgcaaGreatDoorWc8
namespace Go.Proofs.YtfaplefkakpgcaaGreatDoor
set_option linter.unusedVariables false
set_option linter.unusedSimpArgs false
open Go.RowKit Go.Shelf
attribute [local go_sem] Oper.semAt_some
theorem KpF.grown {A w w' : World} {base size n : Nat} {e : TypeId} {v : Value} {xs : List Value} (h : KpF A w) (ho : w.ownsRow base e size v n xs) (hg : w.grownBy w' v.ownBlock) (h1 : e ≠ 265) (h2 : e ≠ 262) : KpF A w' := by
 intro b cs t hb ht
 have k := h b cs t hb ht
 refine Box.grown k hg (own_ne ho k ?_)
 rcases ht with rfl | rfl
 ·exact h1
 ·exact h2
def bytesF (x : List Int) (pre : List (Fin 12)) : List UInt8 := pre.flatMap fun k => putL (x.getD (fplace k) 0) (fsize k).toNat
def inoB (x : List Int) : List UInt8 := bytesF x allF
theorem inoB_len (x : List Int) : (inoB x).length = 24 := by
 simp only [inoB, bytesF, allF, List.flatMap_cons, List.flatMap_nil, List.length_append, putL_len, List.length_nil]; rfl
def overL (b : List UInt8) (p : Nat) (s : List UInt8) : List UInt8 := b.take p ++ s ++ b.drop (p + s.length)
theorem overL_len (b : List UInt8) (p : Nat) (s : List UInt8) (h : p + s.length ≤ b.length) : (overL b p s).length = b.length := by simp [overL]; omega
end Go.Proofs.YtfaplefkakpgcaaGreatDoor
/- Whole structs loaded and stored at once. -/
namespace Go.Proofs.YtfaplefkakpgcaaGreatDoor
set_option linter.unusedVariables false
set_option linter.unusedSimpArgs false
open Go.RowKit
theorem setRow_grown (w : World) (g : Nat) (cs : Array Value) : w.grownBy (w.setRow g cs) (some g) :=
 ⟨rfl, rfl, rfl, by simp, fun k _ hne => setRow_other w g k cs (fun e => hne (by rw [e]))⟩
def isAggD : TypeDesc → Bool
 | .struct _ => true
 | .array _ _ => true
 | _ => false
section
variable {ops : Array Oper} {rest : List Oper} {o : Oper} {a : Act} {w : World} {Q : Exit → Act → World → Prop}
theorem wp_st (T : TypeId) (x y : Operand) (hgd : o.guard = none) (ho : o.op = .store T x y) (g : Nat) (cells old : Array Value) (t : TypeId) (hx : a.eval x = .pointer (some ⟨g, 0, none⟩)) (hy : a.eval y = .agg cells)
  (hb : Box w g t old) (hi : (Tryz.prog.info? T).map (·.size) = some cells.size) (hold : old.size = cells.size) (h1 : cells.all (·.oneCell') = true)
  (hK : ∀ w', Box w' g t cells → w.grownBy w' (some g) → wpList Tryz.prog ops Q rest (a.put o.dst undef) w') : wpList Tryz.prog ops Q (o :: rest) a w :=
 wpList_store_row hgd T x y ho g cells hx hy t old hb hi hold h1 (hK _ (setRow_box hb) (setRow_grown w g cells))
theorem wp_ld (T : TypeId) (x : Operand) (hgd : o.guard = none) (ho : o.op = .load T x) (g : Nat) (cells : Array Value) (t : TypeId) (d : TypeDesc) (hx : a.eval x = .pointer (some ⟨g, 0, none⟩))
  (hb : Box w g t cells) (hu : Tryz.prog.underlying T = some d) (hd : isAggD d = true) (hi : (Tryz.prog.info? T).map (·.size) = some cells.size)
  (hK : wpList Tryz.prog ops Q rest (a.put o.dst (.agg cells)) w) : wpList Tryz.prog ops Q (o :: rest) a w :=
 wpList_load_row hgd T x ho g hx t cells (0, 0) d hb hu (by cases d <;> first | rfl | cases hd) hi hK
end
theorem intVals_size (x : List Int) : (intVals x).size = x.length := by simp [intVals]
theorem intVals_one (x : List Int) : (intVals x).all (·.oneCell') = true := by
 rw [Array.all_eq_true_iff_forall_mem]
 intro v hv
 simp only [intVals, List.mem_toArray, List.mem_map] at hv
 obtain ⟨n, _, rfl⟩ := hv; rfl
theorem inoSize : (Tryz.prog.info? 121).map (·.size) = some 12 := by kernel_rfl
theorem geomSize : (Tryz.prog.info? 144).map (·.size) = some 6 := by kernel_rfl
section
variable {ops : Array Oper} {rest : List Oper} {o : Oper} {a : Act} {w : World} {Q : Exit → Act → World → Prop}
theorem wp_st_ino (x y : Operand) (hgd : o.guard = none) (ho : o.op = .store 121 x y) (g : Nat) (l l0 : List Int) (t : TypeId) (hx : a.eval x = .pointer (some ⟨g, 0, none⟩)) (hy : a.eval y = .agg (intVals l))
  (hb : Box w g t (intVals l0)) (hl : l.length = 12) (hl0 : l0.length = 12)
  (hK : ∀ w', Box w' g t (intVals l) → w.grownBy w' (some g) → wpList Tryz.prog ops Q rest (a.put o.dst undef) w') : wpList Tryz.prog ops Q (o :: rest) a w :=
 wp_st _ x y hgd ho g _ _ t hx hy hb (by rw [intVals_size, hl]; exact inoSize) (by rw [intVals_size, intVals_size, hl, hl0]) (intVals_one l) hK
theorem wp_ld_ino (x : Operand) (hgd : o.guard = none) (ho : o.op = .load 121 x) (g : Nat) (l : List Int) (t : TypeId) (hx : a.eval x = .pointer (some ⟨g, 0, none⟩))
  (hb : Box w g t (intVals l)) (hl : l.length = 12) (hK : wpList Tryz.prog ops Q rest (a.put o.dst (.agg (intVals l))) w) : wpList Tryz.prog ops Q (o :: rest) a w :=
 wp_ld _ x hgd ho g _ t _ hx hb Tryz.underlying121 rfl (by rw [intVals_size, hl]; exact inoSize) hK
theorem wp_ld_geom (x : Operand) (hgd : o.guard = none) (ho : o.op = .load 144 x) (g : Nat) (l : List Int) (t : TypeId) (hx : a.eval x = .pointer (some ⟨g, 0, none⟩))
  (hb : Box w g t (intVals l)) (hl : l.length = 6) (hK : wpList Tryz.prog ops Q rest (a.put o.dst (.agg (intVals l))) w) : wpList Tryz.prog ops Q (o :: rest) a w :=
 wp_ld _ x hgd ho g _ t _ hx hb Tryz.underlying144 rfl (by rw [intVals_size, hl]; exact geomSize) hK
theorem wp_st_geom (x y : Operand) (hgd : o.guard = none) (ho : o.op = .store 144 x y) (g : Nat) (l l0 : List Int) (t : TypeId) (hx : a.eval x = .pointer (some ⟨g, 0, none⟩)) (hy : a.eval y = .agg (intVals l))
  (hb : Box w g t (intVals l0)) (hl : l.length = 6) (hl0 : l0.length = 6)
  (hK : ∀ w', Box w' g t (intVals l) → w.grownBy w' (some g) → wpList Tryz.prog ops Q rest (a.put o.dst undef) w') : wpList Tryz.prog ops Q (o :: rest) a w :=
 wp_st _ x y hgd ho g _ _ t hx hy hb (by rw [intVals_size, hl]; exact geomSize) (by rw [intVals_size, intVals_size, hl, hl0]) (intVals_one l) hK
end
theorem geomV_eq (B I : Int) : geomV B I = .agg (intVals [B, I, 1, 2, 3, 3 + (I + 1) / 2]) := rfl
theorem results_cell2 {fn : Func} {p s : Tmp} {ty : TypeId} (h : fn.results = #[.cell p ty, .tmp s]) (tmps : Array Value) (w : World) (g : Nat) (t : TypeId) (cs : Array Value) (d : TypeDesc) (v : Value)
  (hp : tmps.getD p undef = .pointer (some ⟨g, 0, none⟩)) (hs : tmps.getD s undef = v) (hg : Box w g t cs)
  (hu : Tryz.prog.underlying ty = some d) (hd : isAggD d = true) (hi : (Tryz.prog.info? ty).map (·.size) = some cs.size) :
  (results fn tmps).run Tryz.prog w = .ok (.tuple #[.agg cs, v]) w := by
 have hp' : tmps[p]?.getD undef = .pointer (some ⟨g, 0, none⟩) := by simpa using hp
 have hs' : tmps[s]?.getD undef = v := by simpa using hs
 simp [results, h, hp', hs', asAddr, run_loadVar_row w g t ty cs (0, 0) d hg hu (by cases d <;> first | rfl | cases hd) hi]
end Go.Proofs.YtfaplefkakpgcaaGreatDoor
/- The walks of inode.known, inode.Get and inode.Put on a volume that is one. -/
namespace Go.Proofs.YtfaplefkakpgcaaGreatDoor
set_option linter.unusedVariables false
set_option linter.unusedSimpArgs false
open Go.RowKit
theorem getD_len {v : List (List UInt8)} {I : Int} (hg : Good v I) {i : Nat} (hi : i < v.length) : (v.getD i []).length = 128 := by
 rw [List.getD_eq_getElem?_getD, List.getElem?_eq_getElem hi]; exact hg.all i hi
set_option maxHeartbeats 1000000 in
set_option maxRecDepth 100000 in
theorem known_yes (A : Option Addr) (n c : Nat) (v : List (List UInt8)) (I k : Int) (w : World) (hv : Strs w A n v) (hg : Good v I) (hk1 : 1 ≤ k) (hk2 : k ≤ I) :
  Calls Tryz.prog 133 #[.slice A n c, .int .i64 k] w fun e w' => e = .returned (.tuple #[geomV v.length I, .int .i64 0]) ∧ Ext w w' := by
 have hpl := plan_bd hg.plan
 have HO := Lib.hid (fun w h => of_yes A n c v I w h hg)
 have d1 : decide (k < 1) = false := by simp; omega
 have d2 : decide (I < k) = false := by simp; omega
 go_enter Tryz.func133, Tryz.ntmps133
 go_wp2_with fail
 refine (HO.out _ (hv.ext ((Ext.refl _).alloc _))).mono ?_
 rintro e w1 ⟨rfl, x1⟩
 rw [geomV_eq]
 have x0 : Ext w w1 := ((Ext.refl w).alloc _).trans x1
 have bR : Box w1 w.heap.size 144 (intVals [0, 0, 0, 0, 0, 0]) := (Box.new w 144 _).ext x1
 have hlt := bR.lt
 clear x1
 go_wp2_with (first
  | (refine wp_st_geom (.tmp 6) (.tmp 11) rfl rfl w1.heap.size _ [0, 0, 0, 0, 0, 0] 144 rfl rfl (Box.new _ _ _) rfl rfl ?_; intro w2 b2 g2; have c1 : w2.cell? ⟨w1.heap.size, 1, none⟩ = some (.int .i64 I) := b2.cell 1)
  | (refine wp_ld_geom (.tmp 6) rfl rfl w1.heap.size _ 144 rfl b2 rfl ?_)
  | (refine wp_st_geom (.tmp 4) (.tmp 26) rfl rfl w.heap.size _ [0, 0, 0, 0, 0, 0] 144 rfl rfl ((bR.ext ((Ext.refl _).alloc _)).grown g2 (by simp; omega)) rfl rfl ?_; intro w3 b3 g3))
 refine bodyPost_ret (results_cell2 rfl _ _ w.heap.size _ _ _ (.int .i64 0) rfl rfl b3 Tryz.underlying144 rfl geomSize) rfl ⟨rfl, ?_⟩
 exact ((x0.alloc _).grown g2 (fun k e => by cases e; exact x0.size)).grown g3 (fun k e => by cases e; exact Nat.le_refl _)
set_option maxHeartbeats 1000000 in
set_option maxRecDepth 100000 in
theorem known_no (A : Option Addr) (n c : Nat) (v : List (List UInt8)) (I k : Int) (w : World) (hv : Strs w A n v) (hg : Good v I) (hk : k < 1 ∨ I < k) :
  Calls Tryz.prog 133 #[.slice A n c, .int .i64 k] w fun e w' => e = .returned (.tuple #[noGeom, .int .i64 2]) ∧ Ext w w' := by
 have hpl := plan_bd hg.plan
 have HO := Lib.hid (fun w h => of_yes A n c v I w h hg)
 rcases (by omega : k < 1 ∨ (1 ≤ k ∧ I < k)) with hk | ⟨hk, hk2⟩
 ·have d1 : decide (k < 1) = true := by simpa using hk
  go_enter Tryz.func133, Tryz.ntmps133
  go_wp2_with fail
  refine (HO.out _ (hv.ext ((Ext.refl _).alloc _))).mono ?_
  rintro e w1 ⟨rfl, x1⟩
  rw [geomV_eq]
  have x0 : Ext w w1 := ((Ext.refl w).alloc _).trans x1
  have bR : Box w1 w.heap.size 144 (intVals [0, 0, 0, 0, 0, 0]) := (Box.new w 144 _).ext x1
  have hlt := bR.lt
  clear x1
  go_wp2_with (first
   | (refine wp_st_geom (.tmp 6) (.tmp 11) rfl rfl w1.heap.size _ [0, 0, 0, 0, 0, 0] 144 rfl rfl (Box.new _ _ _) rfl rfl ?_; intro w2 b2 g2; have c1 : w2.cell? ⟨w1.heap.size, 1, none⟩ = some (.int .i64 I) := b2.cell 1)
   | (refine wp_st_geom (.tmp 4) (.tmp 25) rfl rfl w.heap.size [0, 0, 0, 0, 0, 0] [0, 0, 0, 0, 0, 0] 144 rfl rfl ((bR.ext ((Ext.refl _).alloc _)).grown g2 (by simp; omega)) rfl rfl ?_; intro w3 b3 g3))
  refine bodyPost_ret (results_cell2 rfl _ _ w.heap.size _ _ _ (.int .i64 2) rfl rfl b3 Tryz.underlying144 rfl geomSize) rfl ⟨rfl, ?_⟩
  exact ((x0.alloc _).grown g2 (fun k e => by cases e; exact x0.size)).grown g3 (fun k e => by cases e; exact Nat.le_refl _)
 ·have d1 : decide (k < 1) = false := by simp; omega
  have d2 : decide (I < k) = true := by simpa using hk2
  go_enter Tryz.func133, Tryz.ntmps133
  go_wp2_with fail
  refine (HO.out _ (hv.ext ((Ext.refl _).alloc _))).mono ?_
  rintro e w1 ⟨rfl, x1⟩
  rw [geomV_eq]
  have x0 : Ext w w1 := ((Ext.refl w).alloc _).trans x1
  have bR : Box w1 w.heap.size 144 (intVals [0, 0, 0, 0, 0, 0]) := (Box.new w 144 _).ext x1
  have hlt := bR.lt
  clear x1
  go_wp2_with (first
   | (refine wp_st_geom (.tmp 6) (.tmp 11) rfl rfl w1.heap.size _ [0, 0, 0, 0, 0, 0] 144 rfl rfl (Box.new _ _ _) rfl rfl ?_; intro w2 b2 g2; have c1 : w2.cell? ⟨w1.heap.size, 1, none⟩ = some (.int .i64 I) := b2.cell 1)
   | (refine wp_st_geom (.tmp 4) (.tmp 25) rfl rfl w.heap.size [0, 0, 0, 0, 0, 0] [0, 0, 0, 0, 0, 0] 144 rfl rfl ((bR.ext ((Ext.refl _).alloc _)).grown g2 (by simp; omega)) rfl rfl ?_; intro w3 b3 g3))
  refine bodyPost_ret (results_cell2 rfl _ _ w.heap.size _ _ _ (.int .i64 2) rfl rfl b3 Tryz.underlying144 rfl geomSize) rfl ⟨rfl, ?_⟩
  exact ((x0.alloc _).grown g2 (fun k e => by cases e; exact x0.size)).grown g3 (fun k e => by cases e; exact Nat.le_refl _)
def inoAt (v : List (List UInt8)) (k : Int) : List Int := inoL (v.getD (3 + (k - 1) / 2).toNat []) ((k - 1) % 2 * 64).toNat
theorem inoAt_len (v : List (List UInt8)) (k : Int) : (inoAt v k).length = 12 := rfl
theorem noGeom_eq : noGeom = .agg (intVals [0, 0, 0, 0, 0, 0]) := rfl
theorem told_good (b o n c : Nat) (v : List (List UInt8)) (I k : Int) (w : World) (hv : Strs w (some ⟨b, o, none⟩) n v) (hg : Good v I) (hk1 : 1 ≤ k) (hk2 : k ≤ I) :
  Calls Tryz.prog 134 #[.slice (some ⟨b, o, none⟩) n c, .agg (intVals [v.length, I, 1, 2, 3, 3 + (I + 1) / 2]), .int .i64 k] w fun e w' => e = .returned (.agg (intVals (inoAt v k))) ∧ Ext w w' := by
 have hpl := plan_bd hg.plan
 obtain ⟨rfl, hv2⟩ := hv
 obtain ⟨b', o', e, hcell⟩ := hv2 (by omega)
 cases e
 have hi : (3 + (k - 1) / 2).toNat < v.length := by omega
 have hc := hcell _ hi
 refine told_any b o v.length c v.length I k (v.getD (3 + (k - 1) / 2).toNat []) w hk1 (by omega) (by omega) ?_ (getD_len hg hi)
 rw [hc, List.getD_eq_getElem?_getD, List.getElem?_eq_getElem hi]; rfl
set_option maxHeartbeats 1000000 in
set_option maxRecDepth 100000 in
theorem iget_yes (A : Option Addr) (n c : Nat) (v : List (List UInt8)) (I k : Int) (w : World) (hv : Strs w A n v) (hg : Good v I) (hk1 : 1 ≤ k) (hk2 : k ≤ I) :
  Calls Tryz.prog 69 #[.slice A n c, .int .i64 k] w fun e w' => e = .returned (.tuple #[.agg (intVals (inoAt v k)), .int .i64 0]) ∧ Ext w w' := by
 have hpl := plan_bd hg.plan
 have HO := Lib.hid (fun w h => known_yes A n c v I k w h hg hk1 hk2)
 obtain ⟨b, o, rfl, _⟩ := hv.2 (by have := hv.1; omega)
 have HT := Lib.hid (fun w h => told_good b o n c v I k w h hg hk1 hk2)
 go_enter Tryz.func69, Tryz.ntmps69
 go_wp2_with fail
 refine (HO.out _ (hv.ext ((Ext.refl _).alloc _))).mono ?_
 rintro e w1 ⟨rfl, x1⟩
 rw [geomV_eq]
 have x0 : Ext w w1 := ((Ext.refl w).alloc _).trans x1
 have bR : Box w1 w.heap.size 121 (intVals zero12) := (Box.new w 121 _).ext x1
 have hlt := bR.lt
 clear x1
 go_wp2_with (first
  | (refine wp_st_geom (.tmp 6) (.tmp 12) rfl rfl w1.heap.size _ [0, 0, 0, 0, 0, 0] 144 rfl rfl (Box.new _ _ _) rfl rfl ?_; intro w2 b2 g2; have x2 : Ext w w2 := (x0.alloc _).grown g2 (fun k e => by cases e; exact x0.size))
  | (refine wp_ld_geom (.tmp 6) rfl rfl w1.heap.size _ 144 rfl b2 rfl ?_)
  | (go_at_call 134; refine (HT.out _ (hv.ext x2)).mono ?_; rintro e w3 ⟨rfl, x3⟩)
  | (refine wp_st_ino (.tmp 4) (.tmp 21) rfl rfl w.heap.size _ zero12 121 rfl rfl (((bR.ext ((Ext.refl _).alloc _)).grown g2 (by simp; omega)).ext x3) rfl rfl ?_; intro w4 b4 g4))
 refine bodyPost_ret (results_cell2 rfl _ _ w.heap.size _ _ _ (.int .i64 0) rfl rfl b4 Tryz.underlying121 rfl inoSize) rfl ⟨rfl, ?_⟩
 exact (x2.trans x3).grown g4 (fun k e => by cases e; exact Nat.le_refl _)
set_option maxHeartbeats 1000000 in
set_option maxRecDepth 100000 in
theorem iget_no (A : Option Addr) (n c : Nat) (v : List (List UInt8)) (I k : Int) (w : World) (hv : Strs w A n v) (hg : Good v I) (hk : k < 1 ∨ I < k) :
  Calls Tryz.prog 69 #[.slice A n c, .int .i64 k] w fun e w' => e = .returned (.tuple #[.agg (intVals zero12), .int .i64 2]) ∧ Ext w w' := by
 have HO := Lib.hid (fun w h => known_no A n c v I k w h hg hk)
 go_enter Tryz.func69, Tryz.ntmps69
 go_wp2_with fail
 refine (HO.out _ (hv.ext ((Ext.refl _).alloc _))).mono ?_
 rintro e w1 ⟨rfl, x1⟩
 rw [noGeom_eq]
 have x0 : Ext w w1 := ((Ext.refl w).alloc _).trans x1
 have bR : Box w1 w.heap.size 121 (intVals zero12) := (Box.new w 121 _).ext x1
 have hlt := bR.lt
 clear x1
 go_wp2_with (first
  | (refine wp_st_geom (.tmp 6) (.tmp 12) rfl rfl w1.heap.size _ [0, 0, 0, 0, 0, 0] 144 rfl rfl (Box.new _ _ _) rfl rfl ?_; intro w2 b2 g2; have x2 : Ext w w2 := (x0.alloc _).grown g2 (fun k e => by cases e; exact x0.size))
  | (refine wp_st_ino (.tmp 4) (.tmp 16) rfl rfl w.heap.size zero12 zero12 121 rfl rfl ((bR.ext ((Ext.refl _).alloc _)).grown g2 (by simp; omega)) rfl rfl ?_; intro w4 b4 g4))
 refine bodyPost_ret (results_cell2 rfl _ _ w.heap.size _ _ _ (.int .i64 2) rfl rfl b4 Tryz.underlying121 rfl inoSize) rfl ⟨rfl, ?_⟩
 exact x2.grown g4 (fun k e => by cases e; exact Nat.le_refl _)
def putAt (v : List (List UInt8)) (k : Int) (x : List Int) : List (List UInt8) := v.set (3 + (k - 1) / 2).toNat (overL (v.getD (3 + (k - 1) / 2).toNat []) ((k - 1) % 2 * 64).toNat (inoB x))
end Go.Proofs.YtfaplefkakpgcaaGreatDoor
/- The document's geometry (hibernacleref17) and numbers (hibernacleref01), small functions. -/
namespace Go.Proofs.YtfaplefkakpgcaaGreatDoor
set_option linter.unusedVariables false
set_option linter.unusedSimpArgs false
open Go.RowKit
set_option maxHeartbeats 400000 in
set_option maxRecDepth 100000 in
theorem rplan_yes (B I : Int) (w : World) (h : planB B I = true) :
  Calls Tryz.prog 168 #[.int .i64 B, .int .i64 I] w fun e w' => e = .returned (.tuple #[geomV B I, .int .i64 0]) ∧ Ext w w' := by
 have hp := plan_bd h
 clear h
 have d1 : decide (B < 16) = false := by simp; omega
 have d2 : decide (223 < B) = false := by simp; omega
 have d3 : decide (I < 4) = false := by simp; omega
 have d4 : decide (64 < I) = false := by simp; omega
 go_enter Tryz.func168, Tryz.ntmps168
 go_wp2_with fail
 exact bodyPost_ret (v := .tuple #[geomV B I, .int .i64 0]) (by simp [results, Tryz.results168, go_sem, geomV]) rfl ⟨rfl, ((Ext.refl _).alloc _).alloc _⟩
set_option maxHeartbeats 400000 in
theorem rzeros_any (n : Nat) (w : World) (h : n ≤ 100000) :
  Calls Tryz.prog 209 #[.int .i64 n] w fun e w' => e = .returned (.string (str (zs n))) ∧ w = w' := by
 have hz := str_size
 have hap := str_app
 have hk : (⟨#[0]⟩ : ByteArray) = str [0] := rfl
 go_enter Tryz.func209, Tryz.ntmps209
 go_wp2_with fail
 go_loop [3, 4] (fun s i => ∃ k : Nat, k ≤ n ∧ i = .int .i64 k ∧ s = .string (str (zs k))) (fun _ i => n - (intOf i).toNat)
 case atStart => exact ⟨0, by omega, rfl, rfl⟩
 case round =>
  obtain ⟨k, hk2, rfl, rfl⟩ := hrel
  have hl := zs_len k
  have HZ := Lib.hid (show zs (k + 1) = zs k ++ [0] from List.replicate_succ')
  by_cases hlt : k < n
  ·go_wp2_with fail
   go_round
   case rel => exact ⟨k + 1, by omega, by go_num, by rw [HZ.out]⟩
   case measure => simp [intOf]; omega
  ·obtain rfl : k = n := by omega
   go_wp2_with fail
   go_ret
   exact ⟨rfl, rfl⟩
set_option maxHeartbeats 400000 in
set_option maxRecDepth 100000 in
theorem rbit_any (i : Nat) (m : List UInt8) (w : World) (hm : m.length = 128) (hi : i < 1024) :
  Calls Tryz.prog 171 #[.string (str m), .int .i64 i] w fun e w' => e = .returned (.bool (bitB m i)) ∧ w = w' := by
 have hz : (str m).size = 128 := by rw [str_size, hm]
 go_enter Tryz.func171, Tryz.ntmps171
 go_wp2_with fail
 go_ret
 exact ⟨ret_bool (bit_val m i (by omega)), rfl⟩
set_option maxHeartbeats 400000 in
set_option maxRecDepth 100000 in
theorem rget2 (a b : UInt8) (w : World) :
  Calls Tryz.prog 169 #[.string (str [a, b])] w fun e w' => e = .returned (.int .u64 ((a.toNat : Int) + 256 * b.toNat)) ∧ w = w' := by
 have hz := str_size
 have ha := a.toNat_lt
 have hb := b.toNat_lt
 have e0 : (str [a, b])[0]'(by rw [str_size]; simp) = a := rfl
 have e1 : (str [a, b])[1]'(by rw [str_size]; simp) = b := rfl
 go_enter Tryz.func169, Tryz.ntmps169
 go_wp2_with fail
 refine wp_loop_rounds 3 ?_
 rw [rounds_succ]
 go_wp2_with fail
 rw [rounds_succ]
 go_wp2_with fail
 rw [rounds_succ]
 go_wp2_with fail
 go_ret
 refine ⟨ret_int ?_, rfl⟩
 omega
theorem conv_one (w : World) (x : Int) (g : Nat) (hg : g = w.heap.size) : (convert 167 9 (.slice (some ⟨g, 0, none⟩) 1 1)).run Tryz.prog (w.alloc (.cells #[.int .u8 x] 5)) = .ok (.string (str [b8 x])) (w.alloc (.cells #[.int .u8 x] 5)) := by
 subst hg
 exact conv_row w [x] #[.int .u8 x] 5 1 1 rfl (fun i hi => by
  rcases (show i = 0 by simp at hi; omega) with rfl; rfl)
set_option maxHeartbeats 400000 in
set_option maxRecDepth 100000 in
theorem rput2 (n : Int) (w : World) (h0 : 0 ≤ n) (h1 : n ≤ 65535) :
  Calls Tryz.prog 85 #[.int .u64 n, .int .i64 2] w fun e w' => e = .returned (.string (str [b8 (n % 256), b8 (n / 256)])) ∧ Ext w w' := by
 have hz := str_size
 have hap := str_app
 have hk : (⟨#[]⟩ : ByteArray) = str [] := rfl
 have u1 : n / 256 % 256 = n / 256 := by omega
 have k1 := conv_one w (n % 256) w.heap.size rfl
 have k2 := conv_one (w.alloc (.cells #[.int .u8 (n % 256)] 5)) (n / 256) (w.heap.size + 1) (by simp)
 go_enter Tryz.func85, Tryz.ntmps85
 go_wp2_with fail
 refine wp_loop_rounds 3 ?_
 rw [rounds_succ]
 go_wp2_with fail
 rw [rounds_succ]
 go_wp2_with fail
 rw [rounds_succ]
 go_wp2_with fail
 go_ret
 exact ⟨rfl, ((Ext.refl _).alloc _).alloc _⟩
set_option maxHeartbeats 400000 in
theorem rhead_any (B I : Int) (w : World) (h : planB B I = true) :
  Calls Tryz.prog 170 #[geomV B I] w fun e w' => e = .returned (.string (str (headL B I))) ∧ Ext w w' := by
 have hp := plan_bd h
 clear h
 unfold geomV
 have hz := str_size
 have hap := str_app
 have hzl := zs_len
 have hk : (⟨#[104, 105, 98, 49]⟩ : ByteArray) = str [104, 105, 98, 49] := rfl
 have u1 : IntKind.u64.wrap B = B := by rw [IntKind.wrap_u64]; omega
 have u2 : IntKind.u64.wrap I = I := by rw [IntKind.wrap_u64]; omega
 go_enter Tryz.func170, Tryz.ntmps170
 go_wp2_with fail
 generalize hw1 : w.alloc _ = w1
 have hg1 : Ext w w1 := by rw [← hw1]; exact (Ext.refl _).alloc _
 have c0 : ∀ x : Later w1, x.now.cell? ⟨w.heap.size, 0, none⟩ = some (.int .i64 B) := fun x => x.ext.keep (by rw [← hw1]; simp [go_sem])
 have c1 : ∀ x : Later w1, x.now.cell? ⟨w.heap.size, 1, none⟩ = some (.int .i64 I) := fun x => x.ext.keep (by rw [← hw1]; simp [go_sem])
 clear hw1
 refine wp_region_later (by kernel_rfl) (by kernel_rfl) ?_
 repeat (go_big_quiet_step ((first | (with_reducible exact later_of (rput2 _ _ (by omega) (by omega))) | (with_reducible exact later_of_same (rzeros_any 120 _ (by omega))))))
 refine wpQuiet_nil ?_
 rintro w2 ⟨x, rfl⟩
 clear c0 c1
 go_wp2_with fail
 go_ret
 exact ⟨rfl, hg1.trans x.ext⟩
end Go.Proofs.YtfaplefkakpgcaaGreatDoor
/- The document's geometry: Of at any blocks. -/
namespace Go.Proofs.YtfaplefkakpgcaaGreatDoor
set_option linter.unusedVariables false
set_option linter.unusedSimpArgs false
open Go.RowKit
set_option maxHeartbeats 400000 in
theorem rplan_no (B I : Int) (w : World) (h : planB B I = false) :
  Calls Tryz.prog 168 #[.int .i64 B, .int .i64 I] w fun e w' => (∃ n : Int, (n = 2 ∨ n = 10) ∧ e = .returned (.tuple #[noGeom, .int .i64 n])) ∧ Ext w w' := by
 have hp : B < 16 ∨ (16 ≤ B ∧ 223 < B) ∨ (16 ≤ B ∧ B ≤ 223 ∧ I < 4) ∨ (16 ≤ B ∧ B ≤ 223 ∧ 4 ≤ I ∧ 64 < I) ∨ (16 ≤ B ∧ B ≤ 223 ∧ 4 ≤ I ∧ I ≤ 64 ∧ B ≤ 3 + (I + 1) / 2) := by
  have : ¬ (16 ≤ B ∧ B ≤ 223 ∧ 4 ≤ I ∧ I ≤ 64 ∧ 3 + (I + 1) / 2 < B) := by simpa [planB] using h
  omega
 clear h
 rcases hp with hp | hp | hp | hp | hp
 case' inr.inr.inr.inr =>
  have d1 : decide (B < 16) = false := by simp; omega
  have d2 : decide (223 < B) = false := by simp; omega
  have d3 : decide (I < 4) = false := by simp; omega
  have d4 : decide (64 < I) = false := by simp; omega
  go_enter Tryz.func168, Tryz.ntmps168
  go_wp2_with fail
  exact bodyPost_ret (v := .tuple #[noGeom, .int .i64 10]) (by simp [results, Tryz.results168, go_sem, noGeom]) rfl ⟨⟨10, by omega, rfl⟩, ((Ext.refl _).alloc _).alloc _⟩
 case' inl =>
  have d1 : decide (B < 16) = true := by simp; omega
 case' inr.inl =>
  have d1 : decide (B < 16) = false := by simp; omega
  have d2 : decide (223 < B) = true := by simp; omega
 case' inr.inr.inl =>
  have d1 : decide (B < 16) = false := by simp; omega
  have d2 : decide (223 < B) = false := by simp; omega
  have d3 : decide (I < 4) = true := by simp; omega
 case' inr.inr.inr.inl =>
  have d1 : decide (B < 16) = false := by simp; omega
  have d2 : decide (223 < B) = false := by simp; omega
  have d3 : decide (I < 4) = false := by simp; omega
  have d4 : decide (64 < I) = true := by simp; omega
 all_goals
  go_enter Tryz.func168, Tryz.ntmps168
  go_wp2_with fail
  exact bodyPost_ret (v := .tuple #[noGeom, .int .i64 2]) (by simp [results, Tryz.results168, go_sem, noGeom]) rfl ⟨⟨2, by omega, rfl⟩, (Ext.refl _).alloc _⟩
def OfR (v : List (List UInt8)) (e : Ending) : Prop := (∃ I, Good v I ∧ e = .returned (.tuple #[geomV v.length I, .int .i64 0])) ∨ e = .returned (.tuple #[noGeom, .int .i64 3])
theorem rget2_at' (p q : UInt8) (B : Int) (w : World) (h : (p.toNat : Int) + 256 * q.toNat = B) :
  Calls Tryz.prog 169 #[.string (str [p, q])] w fun e w' => e = .returned (.int .u64 B) ∧ w = w' := by
 subst h; exact rget2 p q w
set_option maxHeartbeats 4000000 in
set_option maxRecDepth 100000 in
theorem rof_any (A : Option Addr) (n c : Nat) (v : List (List UInt8)) (w : World) (hv : Strs w A n v) (hnk : n ≤ 9223372036854775807) :
  Calls Tryz.prog 99 #[.slice A n c] w fun e w' => OfR v e ∧ Ext w w' := by
 obtain ⟨rfl, hv2⟩ := hv
 have hz := str_size
 have r0 : Box (w.alloc (.cells #[.int .i64 0, .int .i64 0, .int .i64 0, .int .i64 0, .int .i64 0, .int .i64 0] 144)) w.heap.size 144 (intVals [0, 0, 0, 0, 0, 0]) := Box.new _ _ _
 have x0 : Ext w (w.alloc (.cells #[.int .i64 0, .int .i64 0, .int .i64 0, .int .i64 0, .int .i64 0, .int .i64 0] 144)) := (Ext.refl _).alloc _
 by_cases h3 : v.length < 3
 ·go_enter Tryz.func99, Tryz.ntmps99
  go_wp2_with (refine wp_st_geom (.tmp 2) (.tmp 12) rfl rfl w.heap.size [0, 0, 0, 0, 0, 0] [0, 0, 0, 0, 0, 0] 144 rfl rfl r0 rfl rfl ?_; intro w6 b6 g6)
  have xF := (x0).grown g6 (fun k e => by cases e; exact Nat.le_refl _)
  exact bodyPost_ret (v := .tuple #[noGeom, .int .i64 3]) (results_cell2 Tryz.results99 _ _ _ _ _ _ _ rfl rfl b6 Tryz.underlying144 rfl geomSize) rfl ⟨.inr rfl, xF⟩
 obtain ⟨b, o, rfl, hcell⟩ := hv2 (by omega)
 go_enter Tryz.func99, Tryz.ntmps99
 go_wp2_with fail
 generalize w.alloc (.cells #[.int .i64 0, .int .i64 0, .int .i64 0, .int .i64 0, .int .i64 0, .int .i64 0] 144) = w1 at *
 have x1 := x0
 have r1 := r0
 clear x0 r0 hv2
 go_loop [5, 15] (fun _ i => ∃ k : Nat, k ≤ v.length ∧ i = .int .i64 k ∧ ∀ (j : Nat) (h : j < v.length), j < k → v[j].length = 128) (fun _ i => v.length - (intOf i).toNat)
 case atStart => exact ⟨0, by omega, rfl, fun j h hk => by omega⟩
 case round =>
  obtain ⟨k, hk, rfl, hal⟩ := hrel
  have HAL := Lib.hid hal
  clear hal
  by_cases hlt2 : k < v.length
  ·have hck : w1.cell? ⟨b, o + k, none⟩ = some (.string (str v[k])) := x1.keep (hcell k hlt2)
   by_cases hl : v[k].length = 128
   ·have HN := Lib.hid (show ∀ (j : Nat) (h : j < v.length), j < k + 1 → v[j].length = 128 from fun j h hj => by
     by_cases e : j < k
     ·exact HAL.out j h e
     ·obtain rfl : j = k := by omega
      exact hl)
    have hlk : ((v[k].length : Int) != 128) = false := by rw [hl]; rfl
    clear hl hcell
    generalize v[k] = s at *
    go_wp2_with fail
    go_round
    case rel => exact ⟨k + 1, by omega, by go_num, HN.out⟩
    case measure => simp [intOf]; omega
   ·have hlk : ((v[k].length : Int) != 128) = true := by simp; omega
    clear hl hcell
    generalize v[k] = s at *
    go_wp2_with (refine wp_st_geom (.tmp 2) (.tmp 22) rfl rfl w.heap.size [0, 0, 0, 0, 0, 0] [0, 0, 0, 0, 0, 0] 144 rfl rfl r1 rfl rfl ?_; intro w6 b6 g6)
    have xF := (x1).grown g6 (fun k e => by cases e; exact Nat.le_refl _)
    exact bodyPost_ret (v := .tuple #[noGeom, .int .i64 3]) (results_cell2 Tryz.results99 _ _ _ _ _ _ _ rfl rfl b6 Tryz.underlying144 rfl geomSize) rfl ⟨.inr rfl, xF⟩
  ·obtain rfl : k = v.length := by omega
   have HALL := Lib.hid (fun (j : Nat) (h : j < v.length) => HAL.out j h h)
   have c0 : w1.cell? ⟨b, o, none⟩ = some (.string (str (v.getD 0 []))) := by
    have := x1.keep (hcell 0 (by omega))
    rw [List.getD_eq_getElem?_getD, List.getElem?_eq_getElem (by omega)]; exact this
   have c2v : ∀ wx, Ext w wx → wx.cell? ⟨b, o + 2, none⟩ = some (.string (str (v.getD 2 []))) := fun wx xx => by
    have := xx.keep (hcell 2 (by omega))
    rw [List.getD_eq_getElem?_getD, List.getElem?_eq_getElem (by omega)]; exact this
   have C2 := Lib.hid c2v
   have l0 : (v.getD 0 []).length = 128 := by rw [List.getD_eq_getElem?_getD, List.getElem?_eq_getElem (by omega)]; exact HALL.out 0 (by omega)
   have l2 : (v.getD 2 []).length = 128 := by rw [List.getD_eq_getElem?_getD, List.getElem?_eq_getElem (by omega)]; exact HALL.out 2 (by omega)
   clear c2v hcell HAL
   obtain ⟨p, q, hpq⟩ := len2 (l := ((v.getD 0 []).drop 6).take 2) (by rw [List.length_take, List.length_drop]; omega)
   have e68 : (str (v.getD 0 [])).extract 6 8 = str [p, q] := by rw [str_ext]; exact congrArg str hpq
   have hpq' := Lib.hid hpq
   clear hpq
   have pb := p.toNat_lt
   have qb := q.toNat_lt
   obtain ⟨I, hI⟩ : ∃ I : Int, (p.toNat : Int) + 256 * q.toNat = I := ⟨_, rfl⟩
   have gI := Lib.hid (fun w => rget2_at' p q I w hI)
   have hI0 : 0 ≤ I := by omega
   have hI1 : I ≤ 65535 := by omega
   clear hI pb qb
   have zH : (str (v.getD 0 [])).size = 128 := by rw [str_size, l0]
   have wI : IntKind.i64.wrap I = I := by rw [IntKind.wrap_i64]; omega
   have hn0 : 0 < v.length := by omega
   have hn1 : (0 : Int) < (v.length : Int) := by omega
   have hn2 : (2 : Int) < (v.length : Int) := by omega
   obtain ⟨H, hH⟩ : ∃ H, H = v.getD 0 [] := ⟨_, rfl⟩
   rw [← hH] at c0 e68 zH l0
   have HHH := Lib.hid hH
   clear hH hz
   by_cases hp : planB v.length I = true
   ·have HP := Lib.hid hp
    have hpl := plan_bd hp
    clear hp
    have HF : ∀ w, Hid (Calls Tryz.prog 170 #[.agg #[.int .i64 v.length, .int .i64 I, .int .i64 1, .int .i64 2, .int .i64 3, .int .i64 (3 + (I + 1) / 2)]] w fun e w' => e = .returned (.string (str (headL v.length I))) ∧ Ext w w') := fun w => Lib.hid (rhead_any v.length I w HP.out)
    obtain ⟨HD, hHD⟩ : ∃ HD, HD = headL v.length I := ⟨_, rfl⟩
    rw [← hHD] at HF
    have HHD := Lib.hid hHD
    clear hHD
    by_cases hHe : H = HD
    ·have HHe := Lib.hid hHe
     subst hHe
     go_wp2_with (first
      | (go_at_call 169; refine (gI.out _).mono ?_; rintro e w' ⟨rfl, rfl⟩)
      | (go_at_call 168; refine (rplan_yes _ _ _ HP.out).mono ?_; rintro e wp ⟨rfl, xp⟩; unfold geomV))
     have bc := Box.new wp 144 (intVals [(v.length : Int), I, 1, 2, 3, 3 + (I + 1) / 2])
     have xc := (x1.trans xp).alloc (.cells (intVals [(v.length : Int), I, 1, 2, 3, 3 + (I + 1) / 2]) 144)
     have rc := (r1.ext xp).ext ((Ext.refl wp).alloc (.cells (intVals [(v.length : Int), I, 1, 2, 3, 3 + (I + 1) / 2]) 144))
     have cc := (xp.alloc (.cells (intVals [(v.length : Int), I, 1, 2, 3, 3 + (I + 1) / 2]) 144)).keep c0
     change Box (wp.alloc (.cells #[.int .i64 v.length, .int .i64 I, .int .i64 1, .int .i64 2, .int .i64 3, .int .i64 (3 + (I + 1) / 2)] 144)) _ _ _ at bc
     change Ext w (wp.alloc (.cells #[.int .i64 v.length, .int .i64 I, .int .i64 1, .int .i64 2, .int .i64 3, .int .i64 (3 + (I + 1) / 2)] 144)) at xc
     change Box (wp.alloc (.cells #[.int .i64 v.length, .int .i64 I, .int .i64 1, .int .i64 2, .int .i64 3, .int .i64 (3 + (I + 1) / 2)] 144)) _ _ _ at rc
     change (wp.alloc (.cells #[.int .i64 v.length, .int .i64 I, .int .i64 1, .int .i64 2, .int .i64 3, .int .i64 (3 + (I + 1) / 2)] 144)).cell? _ = _ at cc
     generalize wp.alloc (.cells #[.int .i64 v.length, .int .i64 I, .int .i64 1, .int .i64 2, .int .i64 3, .int .i64 (3 + (I + 1) / 2)] 144) = wc at bc xc rc cc ⊢
     generalize wp.heap.size = g at bc ⊢
     clear xp x1 r1 c0
     have c0 : ∀ x : Later wc, x.now.cell? ⟨b, o, none⟩ = some (.string (str H)) := fun x => x.ext.keep cc
     have q0 : ∀ x : Later wc, x.now.cell? ⟨g, 0, none⟩ = some (.int .i64 v.length) := fun x => (bc.ext x.ext).cell 0
     have q1 : ∀ x : Later wc, x.now.cell? ⟨g, 1, none⟩ = some (.int .i64 I) := fun x => (bc.ext x.ext).cell 1
     have q2 : ∀ x : Later wc, x.now.cell? ⟨g, 2, none⟩ = some (.int .i64 1) := fun x => (bc.ext x.ext).cell 2
     have q3 : ∀ x : Later wc, x.now.cell? ⟨g, 3, none⟩ = some (.int .i64 2) := fun x => (bc.ext x.ext).cell 3
     have q4 : ∀ x : Later wc, x.now.cell? ⟨g, 4, none⟩ = some (.int .i64 3) := fun x => (bc.ext x.ext).cell 4
     have q5 : ∀ x : Later wc, x.now.cell? ⟨g, 5, none⟩ = some (.int .i64 (3 + (I + 1) / 2)) := fun x => (bc.ext x.ext).cell 5
     refine wp_region_later (by kernel_rfl) (by kernel_rfl) ?_
     repeat (go_big_quiet_step ((exact later_of ((HF _).out))))
     refine wpQuiet_nil ?_
     rintro w5 ⟨x5, rfl⟩
     have xw5 := xc.trans x5.ext
     have e2 := C2.out _ xw5
     have d0 := q0 x5; have d5 := q5 x5
     have b5 := bc.ext x5.ext
     have r5 := rc.ext x5.ext
     clear q0 q1 q2 q3 q4 q5 c0 cc HF C2 bc rc xc
     go_wp2_with fail
     go_loop [8] (fun t => ∃ m : Nat, m ≤ 1024 ∧ t = .int .i64 m ∧ ∀ i : Nat, i < m → ((i : Int) < 3 + (I + 1) / 2 → bitB (v.getD 2 []) i = true) ∧ (v.length ≤ i → bitB (v.getD 2 []) i = false)) (fun t => 1024 - (intOf t).toNat)
     case atStart => exact ⟨0, by omega, rfl, fun i hi => by omega⟩
     case round =>
      obtain ⟨m, hm, rfl, hbits⟩ := hrel
      have HBI := Lib.hid hbits
      clear hbits
      have HB := Lib.hid (fun (hm2 : m < 1024) w => rbit_any m (v.getD 2 []) w l2 hm2)
      by_cases hm2 : m < 1024
      ·have HST := Lib.hid (show (((m : Int) < 3 + (I + 1) / 2 → bitB (v.getD 2 []) m = true) ∧ (v.length ≤ m → bitB (v.getD 2 []) m = false)) → ∀ i : Nat, i < m + 1 → ((i : Int) < 3 + (I + 1) / 2 → bitB (v.getD 2 []) i = true) ∧ (v.length ≤ i → bitB (v.getD 2 []) i = false) from fun h i hi => by
        by_cases e : i < m
        ·exact HBI.out i e
        ·obtain rfl : i = m := by omega
         exact h)
       clear HBI
       obtain ⟨bt, hbt⟩ : ∃ bt, bitB (v.getD 2 []) m = bt := ⟨_, rfl⟩
       rw [hbt] at HST
       have HBT := Lib.hid hbt
       clear hbt
       by_cases m1 : (m : Int) < 3 + (I + 1) / 2
       ·have m3' : ¬ (v.length : Int) ≤ m := by omega
        have m3'' : decide ((v.length : Int) ≤ m) = false := by simpa using m3'
        cases bt with
        | true =>
         go_wp2_with (go_at_call 171; refine (HB.out hm2 _).mono ?_; rintro e w' ⟨rfl, rfl⟩; rw [HBT.out])
         go_round
         case rel => exact ⟨m + 1, by omega, by go_num, HST.out ⟨fun _ => by simp, fun h => by omega⟩⟩
         case measure => simp [intOf]; omega
        | false =>
         go_wp2_with (first
          | (go_at_call 171; refine (HB.out hm2 _).mono ?_; rintro e w' ⟨rfl, rfl⟩; rw [HBT.out])
          | (refine wp_st_geom (.tmp 2) (.tmp 76) rfl rfl w.heap.size [0, 0, 0, 0, 0, 0] [0, 0, 0, 0, 0, 0] 144 rfl rfl r5 rfl rfl ?_; intro w6 b6 g6))
         have xF := xw5.grown g6 (fun k e => by cases e; exact Nat.le_refl _)
         exact bodyPost_ret (v := .tuple #[noGeom, .int .i64 3]) (results_cell2 Tryz.results99 _ _ _ _ _ _ _ rfl rfl b6 Tryz.underlying144 rfl geomSize) rfl ⟨.inr rfl, xF⟩
       ·have m1' : decide ((m : Int) < 3 + (I + 1) / 2) = false := by simpa using m1
        by_cases m3 : v.length ≤ m
        ·have m3' : (v.length : Int) ≤ m := by omega
         cases bt with
         | false =>
          go_wp2_with (go_at_call 171; refine (HB.out hm2 _).mono ?_; rintro e w' ⟨rfl, rfl⟩; rw [HBT.out])
          go_round
          case rel => exact ⟨m + 1, by omega, by go_num, HST.out ⟨fun h => by omega, fun _ => by simp⟩⟩
          case measure => simp [intOf]; omega
         | true =>
          go_wp2_with (first
           | (go_at_call 171; refine (HB.out hm2 _).mono ?_; rintro e w' ⟨rfl, rfl⟩; rw [HBT.out])
           | (refine wp_st_geom (.tmp 2) (.tmp 76) rfl rfl w.heap.size [0, 0, 0, 0, 0, 0] [0, 0, 0, 0, 0, 0] 144 rfl rfl r5 rfl rfl ?_; intro w6 b6 g6))
          have xF := xw5.grown g6 (fun k e => by cases e; exact Nat.le_refl _)
          exact bodyPost_ret (v := .tuple #[noGeom, .int .i64 3]) (results_cell2 Tryz.results99 _ _ _ _ _ _ _ rfl rfl b6 Tryz.underlying144 rfl geomSize) rfl ⟨.inr rfl, xF⟩
        ·have m3' : ¬ (v.length : Int) ≤ m := by omega
         have m3'' : decide ((v.length : Int) ≤ m) = false := by simpa using m3'
         go_wp2_with (go_at_call 171; refine (HB.out hm2 _).mono ?_; rintro e w' ⟨rfl, rfl⟩)
         go_round
         case rel => exact ⟨m + 1, by omega, by go_num, HST.out ⟨fun h => by omega, fun h => by omega⟩⟩
         case measure => simp [intOf]; omega
      ·obtain rfl : m = 1024 := by omega
       have HG := Lib.hid (show Good v I from ⟨HALL.out, HP.out, by rw [← HHH.out, ← HHD.out], fun i hi => (HBI.out i (by omega)).1 hi, fun i hi hl => (HBI.out i hi).2 hl⟩)
       go_wp2_with (first
        | (refine wp_ld_geom (.tmp 6) rfl rfl g _ 144 rfl b5 rfl ?_)
        | (refine wp_st_geom (.tmp 2) (.tmp 77) rfl rfl w.heap.size _ [0, 0, 0, 0, 0, 0] 144 rfl rfl r5 rfl rfl ?_; intro w6 b6 g6))
       have xF := xw5.grown g6 (fun k e => by cases e; exact Nat.le_refl _)
       exact bodyPost_ret (v := .tuple #[geomV v.length I, .int .i64 0]) (results_cell2 Tryz.results99 _ _ _ _ _ _ _ rfl rfl b6 Tryz.underlying144 rfl geomSize) rfl ⟨.inl ⟨I, HG.out, rfl⟩, xF⟩
    ·have hne : ((str H).toList == (str HD).toList) = false := by rw [str_toList, str_toList]; simpa using hHe
     have hne2 : ((str H).toList != (str HD).toList) = true := by rw [bne, hne]; rfl
     clear hHe
     go_wp2_with (first
      | (go_at_call 169; refine (gI.out _).mono ?_; rintro e w' ⟨rfl, rfl⟩)
      | (go_at_call 168; refine (rplan_yes _ _ _ HP.out).mono ?_; rintro e wp ⟨rfl, xp⟩; unfold geomV))
     have bc := Box.new wp 144 (intVals [(v.length : Int), I, 1, 2, 3, 3 + (I + 1) / 2])
     have xc := (x1.trans xp).alloc (.cells (intVals [(v.length : Int), I, 1, 2, 3, 3 + (I + 1) / 2]) 144)
     have rc := (r1.ext xp).ext ((Ext.refl wp).alloc (.cells (intVals [(v.length : Int), I, 1, 2, 3, 3 + (I + 1) / 2]) 144))
     have cc := (xp.alloc (.cells (intVals [(v.length : Int), I, 1, 2, 3, 3 + (I + 1) / 2]) 144)).keep c0
     change Box (wp.alloc (.cells #[.int .i64 v.length, .int .i64 I, .int .i64 1, .int .i64 2, .int .i64 3, .int .i64 (3 + (I + 1) / 2)] 144)) _ _ _ at bc
     change Ext w (wp.alloc (.cells #[.int .i64 v.length, .int .i64 I, .int .i64 1, .int .i64 2, .int .i64 3, .int .i64 (3 + (I + 1) / 2)] 144)) at xc
     change Box (wp.alloc (.cells #[.int .i64 v.length, .int .i64 I, .int .i64 1, .int .i64 2, .int .i64 3, .int .i64 (3 + (I + 1) / 2)] 144)) _ _ _ at rc
     change (wp.alloc (.cells #[.int .i64 v.length, .int .i64 I, .int .i64 1, .int .i64 2, .int .i64 3, .int .i64 (3 + (I + 1) / 2)] 144)).cell? _ = _ at cc
     generalize wp.alloc (.cells #[.int .i64 v.length, .int .i64 I, .int .i64 1, .int .i64 2, .int .i64 3, .int .i64 (3 + (I + 1) / 2)] 144) = wc at bc xc rc cc ⊢
     generalize wp.heap.size = g at bc ⊢
     clear xp x1 r1 c0
     have c0 : ∀ x : Later wc, x.now.cell? ⟨b, o, none⟩ = some (.string (str H)) := fun x => x.ext.keep cc
     have q0 : ∀ x : Later wc, x.now.cell? ⟨g, 0, none⟩ = some (.int .i64 v.length) := fun x => (bc.ext x.ext).cell 0
     have q1 : ∀ x : Later wc, x.now.cell? ⟨g, 1, none⟩ = some (.int .i64 I) := fun x => (bc.ext x.ext).cell 1
     have q2 : ∀ x : Later wc, x.now.cell? ⟨g, 2, none⟩ = some (.int .i64 1) := fun x => (bc.ext x.ext).cell 2
     have q3 : ∀ x : Later wc, x.now.cell? ⟨g, 3, none⟩ = some (.int .i64 2) := fun x => (bc.ext x.ext).cell 3
     have q4 : ∀ x : Later wc, x.now.cell? ⟨g, 4, none⟩ = some (.int .i64 3) := fun x => (bc.ext x.ext).cell 4
     have q5 : ∀ x : Later wc, x.now.cell? ⟨g, 5, none⟩ = some (.int .i64 (3 + (I + 1) / 2)) := fun x => (bc.ext x.ext).cell 5
     refine wp_region_later (by kernel_rfl) (by kernel_rfl) ?_
     repeat (go_big_quiet_step ((exact later_of ((HF _).out))))
     refine wpQuiet_nil ?_
     rintro w5 ⟨x5, rfl⟩
     have xw5 := xc.trans x5.ext
     have e2 := C2.out _ xw5
     have d0 := q0 x5; have d5 := q5 x5
     have b5 := bc.ext x5.ext
     have r5 := rc.ext x5.ext
     clear q0 q1 q2 q3 q4 q5 c0 cc HF C2 bc rc xc
     go_wp2_with (refine wp_st_geom (.tmp 2) (.tmp 46) rfl rfl w.heap.size [0, 0, 0, 0, 0, 0] [0, 0, 0, 0, 0, 0] 144 rfl rfl r5 rfl rfl ?_; intro w6 b6 g6)
     have xF := (xw5).grown g6 (fun k e => by cases e; exact Nat.le_refl _)
     exact bodyPost_ret (v := .tuple #[noGeom, .int .i64 3]) (results_cell2 Tryz.results99 _ _ _ _ _ _ _ rfl rfl b6 Tryz.underlying144 rfl geomSize) rfl ⟨.inr rfl, xF⟩
   ·have HP := Lib.hid (show planB v.length I = false by simpa using hp)
    clear hp
    go_wp2_with (first
     | (go_at_call 169; refine (gI.out _).mono ?_; rintro e w' ⟨rfl, rfl⟩)
     | (go_at_call 168; refine (rplan_no _ _ _ HP.out).mono ?_; rintro e wp ⟨⟨n, hn, rfl⟩, xp⟩; unfold noGeom))
    have hne : (n != 0) = true := by rcases hn with rfl | rfl <;> rfl
    have hne2 : (n == 0) = false := by rcases hn with rfl | rfl <;> rfl
    clear hn
    have rc := ((r1.ext xp).ext ((Ext.refl wp).alloc (.cells (intVals [0, 0, 0, 0, 0, 0]) 144)))
    have xc := (x1.trans xp).alloc (.cells (intVals [0, 0, 0, 0, 0, 0]) 144)
    change Box (wp.alloc (.cells #[.int .i64 0, .int .i64 0, .int .i64 0, .int .i64 0, .int .i64 0, .int .i64 0] 144)) _ _ _ at rc
    change Ext w (wp.alloc (.cells #[.int .i64 0, .int .i64 0, .int .i64 0, .int .i64 0, .int .i64 0, .int .i64 0] 144)) at xc
    generalize wp.alloc (.cells #[.int .i64 0, .int .i64 0, .int .i64 0, .int .i64 0, .int .i64 0, .int .i64 0] 144) = wc at *
    go_quiet (fail)
    go_wp2_with (refine wp_st_geom (.tmp 2) (.tmp 46) rfl rfl w.heap.size [0, 0, 0, 0, 0, 0] [0, 0, 0, 0, 0, 0] 144 rfl rfl (rc.ext ((Ext.refl wc).drewN _)) rfl rfl ?_; intro w6 b6 g6)
    have xF := (xc.drewN _).grown g6 (fun k e => by cases e; exact Nat.le_refl _)
    exact bodyPost_ret (v := .tuple #[noGeom, .int .i64 3]) (results_cell2 Tryz.results99 _ _ _ _ _ _ _ rfl rfl b6 Tryz.underlying144 rfl geomSize) rfl ⟨.inr rfl, xF⟩
end Go.Proofs.YtfaplefkakpgcaaGreatDoor
/- Plain: volumes stay volumes. -/
namespace Go.Proofs.YtfaplefkakpgcaaGreatDoor
set_option linter.unusedVariables false
set_option linter.unusedSimpArgs false
def dataOf (I : Int) : Int := 3 + (I + 1) / 2
def takeI (v : List (List UInt8)) (I : Int) : Option Nat := (List.range v.length).find? fun i => decide (dataOf I ≤ (i : Int)) && !bitB (v.getD 2 []) i
def takenV (v : List (List UInt8)) (i : Nat) : List (List UInt8) := (v.set 2 (flipL (v.getD 2 []) i)).set i (zs 128)
theorem bitB_test (m : List UInt8) (i : Nat) : bitB m i = (m.getD (i / 8) 0).toNat.testBit (i % 8) := by
 unfold bitB
 rw [Nat.testBit_eq_decide_div_mod_eq]
theorem flipL_len (m : List UInt8) (i : Nat) : (flipL m i).length = m.length := by simp [flipL]
theorem bit_flip (m : List UInt8) (i j : Nat) (hi : i / 8 < m.length) : bitB (flipL m i) j = (bitB m j ^^ decide (i = j)) := by
 rw [bitB_test, bitB_test]
 unfold flipL
 by_cases h : i / 8 = j / 8
 ·have e : (m.set (i / 8) (b8 (((m.getD (i / 8) 0).toNat ^^^ 2 ^ (i % 8) : Nat) : Int))).getD (j / 8) 0 = b8 (((m.getD (i / 8) 0).toNat ^^^ 2 ^ (i % 8) : Nat) : Int) := by
   rw [← h]; simp [List.getD, hi]
  have h8 : i % 8 < 8 := Nat.mod_lt _ (by omega)
  have hx : (m.getD (i / 8) 0).toNat ^^^ 2 ^ (i % 8) < 2 ^ 8 := Nat.xor_lt_two_pow (m.getD (i / 8) 0).toNat_lt (Nat.pow_lt_pow_right (by omega) h8)
  have hb := b8_toNat (((m.getD (i / 8) 0).toNat ^^^ 2 ^ (i % 8) : Nat) : Int) (by omega) (by omega)
  have hb' : (b8 (((m.getD (i / 8) 0).toNat ^^^ 2 ^ (i % 8) : Nat) : Int)).toNat = (m.getD (i / 8) 0).toNat ^^^ 2 ^ (i % 8) := by exact_mod_cast hb
  rw [e, hb', Nat.testBit_xor, Nat.testBit_two_pow, ← h]
  congr 1
  by_cases e2 : i = j
  ·subst e2; simp
  ·have : ¬ i % 8 = j % 8 := by omega
   simp [e2, this]
 ·have e : (m.set (i / 8) (b8 (((m.getD (i / 8) 0).toNat ^^^ 2 ^ (i % 8) : Nat) : Int))).getD (j / 8) 0 = m.getD (j / 8) 0 := by
   simp [List.getD, h]
  have e2 : ¬ i = j := by intro e2; subst e2; exact h rfl
  rw [e]; simp [e2]
theorem getD_set_ne' (v : List (List UInt8)) {i j : Nat} (b : List UInt8) (h : i ≠ j) : (v.set i b).getD j [] = v.getD j [] := by simp [List.getD, h]
theorem getD_set_eq' (v : List (List UInt8)) {i : Nat} (b : List UInt8) (h : i < v.length) : (v.set i b).getD i [] = b := by simp [List.getD, h]
theorem Good.set {v : List (List UInt8)} {I : Int} (h : Good v I) {i : Nat} {b : List UInt8} (h0 : i ≠ 0) (h2 : i ≠ 2) (hb : b.length = 128) : Good (v.set i b) I := by
 refine ⟨fun j hj => ?_, by simpa using h.plan, ?_, fun j hj => ?_, fun j hj hl => ?_⟩
 ·rw [List.getElem_set]
  split
  ·exact hb
  ·exact h.all j (by simpa using hj)
 ·rw [getD_set_ne' v b h0, h.head]; simp
 ·rw [getD_set_ne' v b h2]; exact h.low j hj
 ·rw [getD_set_ne' v b h2]; exact h.high j hj (by simpa using hl)
theorem Good.flip {v : List (List UInt8)} {I : Int} (h : Good v I) {i : Nat} (h1 : dataOf I ≤ (i : Int)) (h2 : i < v.length) : Good (v.set 2 (flipL (v.getD 2 []) i)) I := by
 have hp := plan_bd h.plan
 have hl2 : (v.getD 2 []).length = 128 := getD_len h (by omega)
 unfold dataOf at h1
 refine ⟨fun j hj => ?_, by simpa using h.plan, ?_, fun j hj => ?_, fun j hj hl => ?_⟩
 ·rw [List.getElem_set]
  split
  ·rw [flipL_len, hl2]
  ·exact h.all j (by simpa using hj)
 ·rw [getD_set_ne' v _ (by decide), h.head]; simp
 ·rw [getD_set_eq' v _ (by omega), bit_flip _ _ _ (by omega), h.low j hj]
  have : ¬ i = j := by omega
  simp [this]
 ·rw [getD_set_eq' v _ (by omega), bit_flip _ _ _ (by omega), h.high j hj (by simpa using hl)]
  have : ¬ i = j := by have hl' : v.length ≤ j := by simpa using hl
                       omega
  simp [this]
theorem takeI_some {v : List (List UInt8)} {I : Int} {i : Nat} (h : takeI v I = some i) : dataOf I ≤ (i : Int) ∧ i < v.length ∧ bitB (v.getD 2 []) i = false ∧ ∀ j : Nat, dataOf I ≤ (j : Int) → j < i → bitB (v.getD 2 []) j = true := by
 unfold takeI at h
 rw [List.find?_range_eq_some] at h
 obtain ⟨h1, h2, h3⟩ := h
 simp only [Bool.and_eq_true, decide_eq_true_eq, Bool.not_eq_true'] at h1
 refine ⟨h1.1, List.mem_range.1 h2, h1.2, fun j hj hlt => ?_⟩
 have := h3 j hlt
 simp only [Bool.not_and, Bool.not_not, Bool.or_eq_true, Bool.not_eq_true', decide_eq_false_iff_not] at this
 rcases this with h | h
 ·exact absurd hj h
 ·exact h
theorem Good.taken {v : List (List UInt8)} {I : Int} (h : Good v I) {i : Nat} (ht : takeI v I = some i) : Good (takenV v i) I := by
 have hp := plan_bd h.plan
 obtain ⟨h1, h2, _⟩ := takeI_some ht
 unfold dataOf at h1
 exact (h.flip (by unfold dataOf; exact h1) h2).set (by omega) (by omega) (zs_len 128)
theorem takenV_len (v : List (List UInt8)) (i : Nat) : (takenV v i).length = v.length := by simp [takenV]
theorem putAt_len (v : List (List UInt8)) (k : Int) (x : List Int) : (putAt v k x).length = v.length := by simp [putAt]
theorem Good.putAt {v : List (List UInt8)} {I k : Int} (h : Good v I) (h1 : 1 ≤ k) (h2 : k ≤ I) (x : List Int) : Good (putAt v k x) I := by
 have hp := plan_bd h.plan
 have hi : (3 + (k - 1) / 2).toNat < v.length := by omega
 refine h.set (by omega) (by omega) ?_
 rw [overL_len, getD_len h hi]
 rw [inoB_len, getD_len h hi]; omega
theorem fnum_lt (b : List UInt8) (o z : Nat) : 0 ≤ fnum b o z ∧ fnum b o z < 256 ^ z := by
 unfold fnum
 have h1 := numL_lt ((b.drop o).take z)
 have h2 : ((b.drop o).take z).length ≤ z := by simp [List.length_take]; omega
 have h3 : (256 : Nat) ^ ((b.drop o).take z).length ≤ 256 ^ z := Nat.pow_le_pow_right (by omega) h2
 refine ⟨by omega, ?_⟩
 have h4 : (numL ((b.drop o).take z)) < 256 ^ z := by omega
 rw [show (256 : Int) ^ z = ((256 ^ z : Nat) : Int) by rw [Int.natCast_pow]; rfl]
 exact Int.ofNat_lt.2 h4
theorem fits_ino (b : List UInt8) (o : Nat) : fitsB (inoL b o) = true := by
 unfold fitsB
 rw [List.all_eq_true]
 intro k _
 refine decide_eq_true ?_
 rcases k with ⟨k, hk⟩
 rcases (by omega : k = 0 ∨ k = 1 ∨ k = 2 ∨ k = 3 ∨ k = 4 ∨ k = 5 ∨ k = 6 ∨ k = 7 ∨ k = 8 ∨ k = 9 ∨ k = 10 ∨ k = 11) with rfl | rfl | rfl | rfl | rfl | rfl | rfl | rfl | rfl | rfl | rfl | rfl <;> exact fnum_lt _ _ _
end Go.Proofs.YtfaplefkakpgcaaGreatDoor
/- geom.Of at any blocks. -/
namespace Go.Proofs.YtfaplefkakpgcaaGreatDoor
set_option linter.unusedVariables false
set_option linter.unusedSimpArgs false
open Go.RowKit
set_option maxHeartbeats 400000 in
theorem plan_all (B I : Int) : ∃ a0 a1 a2 a3 a4 a5 n : Int, (∀ w, Calls Tryz.prog 163 #[.int .i64 B, .int .i64 I] w fun e w' => e = .returned (.tuple #[.agg #[.int .i64 a0, .int .i64 a1, .int .i64 a2, .int .i64 a3, .int .i64 a4, .int .i64 a5], .int .i64 n]) ∧ Ext w w') ∧
  ((n = 0 ∧ planB B I = true ∧ a0 = B ∧ a1 = I ∧ a2 = 1 ∧ a3 = 2 ∧ a4 = 3 ∧ a5 = 3 + (I + 1) / 2) ∨ ((n = 2 ∨ n = 10) ∧ planB B I = false)) := by
 cases h : planB B I with
 | true => exact ⟨B, I, 1, 2, 3, _, 0, fun w => plan_yes B I w h, .inl ⟨rfl, rfl, rfl, rfl, rfl, rfl, rfl, rfl⟩⟩
 | false =>
  have hp : B < 16 ∨ 223 < B ∨ (16 ≤ B ∧ B ≤ 223 ∧ I < 4) ∨ (16 ≤ B ∧ B ≤ 223 ∧ 64 < I) ∨ (16 ≤ B ∧ B ≤ 223 ∧ 4 ≤ I ∧ I ≤ 64 ∧ B ≤ 3 + (I + 1) / 2) := by
   have : ¬ (16 ≤ B ∧ B ≤ 223 ∧ 4 ≤ I ∧ I ≤ 64 ∧ 3 + (I + 1) / 2 < B) := by simpa [planB] using h
   omega
  clear h
  rcases hp with hp | hp | hp | hp | hp
  case' inr.inr.inr.inr =>
   refine ⟨0, 0, 0, 0, 0, 0, 10, fun w => ?_, .inr ⟨.inr rfl, rfl⟩⟩
   go_enter Tryz.func163, Tryz.ntmps163
   go_wp2_with fail
   exact bodyPost_ret (v := .tuple #[noGeom, .int .i64 10]) (by simp [results, Tryz.results163, go_sem, noGeom]) rfl ⟨rfl, (Ext.refl _).alloc _⟩
  all_goals
   refine ⟨0, 0, 0, 0, 0, 0, 2, fun w => ?_, .inr ⟨.inl rfl, rfl⟩⟩
   go_enter Tryz.func163, Tryz.ntmps163
   go_wp2_with fail
   exact bodyPost_ret (v := .tuple #[noGeom, .int .i64 2]) (by simp [results, Tryz.results163, go_sem, noGeom]) rfl ⟨rfl, (Ext.refl _).alloc _⟩
set_option maxHeartbeats 4000000 in
set_option maxRecDepth 100000 in
theorem gof_any (A : Option Addr) (n c : Nat) (v : List (List UInt8)) (w : World) (hv : Strs w A n v) (hnk : n ≤ 9223372036854775807) :
  Calls Tryz.prog 94 #[.slice A n c] w fun e w' => OfR v e ∧ Ext w w' := by
 obtain ⟨rfl, hv2⟩ := hv
 have hz := str_size
 have r0 : Box (w.alloc (.cells #[.int .i64 0, .int .i64 0, .int .i64 0, .int .i64 0, .int .i64 0, .int .i64 0] 144)) w.heap.size 144 (intVals [0, 0, 0, 0, 0, 0]) := Box.new _ _ _
 have x0 : Ext w (w.alloc (.cells #[.int .i64 0, .int .i64 0, .int .i64 0, .int .i64 0, .int .i64 0, .int .i64 0] 144)) := (Ext.refl _).alloc _
 go_enter Tryz.func94, Tryz.ntmps94
 go_wp2_with fail
 generalize w.alloc (.cells #[.int .i64 0, .int .i64 0, .int .i64 0, .int .i64 0, .int .i64 0, .int .i64 0] 144) = w1 at *
 have x1 := x0
 have r1 := r0
 clear x0 r0
 go_loop [5, 12] (fun _ i => ∃ k : Nat, k ≤ v.length ∧ i = .int .i64 k ∧ ∀ (j : Nat) (h : j < v.length), j < k → v[j].length = 128) (fun _ i => v.length - (intOf i).toNat)
 case atStart => exact ⟨0, by omega, rfl, fun j h hk => by omega⟩
 case round =>
  obtain ⟨k, hk, rfl, hal⟩ := hrel
  have HAL := Lib.hid hal
  clear hal
  by_cases hlt2 : k < v.length
  ·obtain ⟨b, o, rfl, hcell⟩ := hv2 (by omega)
   have hck : w1.cell? ⟨b, o + k, none⟩ = some (.string (str v[k])) := x1.keep (hcell k hlt2)
   by_cases hl : v[k].length = 128
   ·have HN := Lib.hid (show ∀ (j : Nat) (h : j < v.length), j < k + 1 → v[j].length = 128 from fun j h hj => by
     by_cases e : j < k
     ·exact HAL.out j h e
     ·obtain rfl : j = k := by omega
      exact hl)
    have hlk : ((v[k].length : Int) != 128) = false := by rw [hl]; rfl
    clear hl hcell
    generalize v[k] = s at *
    go_wp2_with fail
    go_round
    case rel => exact ⟨k + 1, by omega, by go_num, HN.out⟩
    case measure => simp [intOf]; omega
   ·have hlk : ((v[k].length : Int) != 128) = true := by simp; omega
    clear hl hcell
    generalize v[k] = s at *
    go_wp2_with (refine wp_st_geom (.tmp 2) (.tmp 19) rfl rfl w.heap.size [0, 0, 0, 0, 0, 0] [0, 0, 0, 0, 0, 0] 144 rfl rfl r1 rfl rfl ?_; intro w6 b6 g6)
    have xF := (x1).grown g6 (fun k e => by cases e; exact Nat.le_refl _)
    exact bodyPost_ret (v := .tuple #[noGeom, .int .i64 3]) (results_cell2 Tryz.results94 _ _ _ _ _ _ _ rfl rfl b6 Tryz.underlying144 rfl geomSize) rfl ⟨.inr rfl, xF⟩
  ·obtain rfl : k = v.length := by omega
   have HALL := Lib.hid (fun (j : Nat) (h : j < v.length) => HAL.out j h h)
   clear HAL
   by_cases h16 : v.length < 16
   ·have d16 : decide ((v.length : Int) < 16) = true := decide_eq_true (by omega)
    go_wp2_with (refine wp_st_geom (.tmp 2) (.tmp 24) rfl rfl w.heap.size [0, 0, 0, 0, 0, 0] [0, 0, 0, 0, 0, 0] 144 rfl rfl r1 rfl rfl ?_; intro w6 b6 g6)
    have xF := (x1).grown g6 (fun k e => by cases e; exact Nat.le_refl _)
    exact bodyPost_ret (v := .tuple #[noGeom, .int .i64 3]) (results_cell2 Tryz.results94 _ _ _ _ _ _ _ rfl rfl b6 Tryz.underlying144 rfl geomSize) rfl ⟨.inr rfl, xF⟩
   ·have d16 : decide ((v.length : Int) < 16) = false := decide_eq_false (by omega)
    obtain ⟨b, o, rfl, hcell⟩ := hv2 (by omega)
    have c0 : w1.cell? ⟨b, o, none⟩ = some (.string (str (v.getD 0 []))) := by
     have := x1.keep (hcell 0 (by omega))
     rw [List.getD_eq_getElem?_getD, List.getElem?_eq_getElem (by omega)]; exact this
    have c0v : ∀ wx, Ext w wx → wx.cell? ⟨b, o, none⟩ = some (.string (str (v.getD 0 []))) := fun wx xx => by
     have := xx.keep (hcell 0 (by omega))
     rw [List.getD_eq_getElem?_getD, List.getElem?_eq_getElem (by omega)]; exact this
    have c2v : ∀ wx, Ext w wx → wx.cell? ⟨b, o + 2, none⟩ = some (.string (str (v.getD 2 []))) := fun wx xx => by
     have := xx.keep (hcell 2 (by omega))
     rw [List.getD_eq_getElem?_getD, List.getElem?_eq_getElem (by omega)]; exact this
    have hb : b < w.heap.size := World.block_lt_of_cell? w _ (hcell 0 (by omega))
    have C0 := Lib.hid c0v
    have C2 := Lib.hid c2v
    have l0 : (v.getD 0 []).length = 128 := by rw [List.getD_eq_getElem?_getD, List.getElem?_eq_getElem (by omega)]; exact HALL.out 0 (by omega)
    have l2 : (v.getD 2 []).length = 128 := by rw [List.getD_eq_getElem?_getD, List.getElem?_eq_getElem (by omega)]; exact HALL.out 2 (by omega)
    clear c0v c2v hcell hv2
    obtain ⟨p, q, hpq⟩ := len2 (l := ((v.getD 0 []).drop 4).take 2) (by rw [List.length_take, List.length_drop]; omega)
    obtain ⟨r, s, hrs⟩ := len2 (l := ((v.getD 0 []).drop 6).take 2) (by rw [List.length_take, List.length_drop]; omega)
    have e46 : (str (v.getD 0 [])).extract 4 6 = str [p, q] := by rw [str_ext]; exact congrArg str hpq
    have e68 : (str (v.getD 0 [])).extract 6 8 = str [r, s] := by rw [str_ext]; exact congrArg str hrs
    clear hpq hrs
    have pb := p.toNat_lt
    have qb := q.toNat_lt
    have rb := r.toNat_lt
    have sb := s.toNat_lt
    obtain ⟨B, hB⟩ : ∃ B : Int, (p.toNat : Int) + 256 * q.toNat = B := ⟨_, rfl⟩
    obtain ⟨I, hI⟩ : ∃ I : Int, (r.toNat : Int) + 256 * s.toNat = I := ⟨_, rfl⟩
    have GB := Lib.hid (fun w => get2_at p q B w hB)
    have GI := Lib.hid (fun w => get2_at r s I w hI)
    have wB : IntKind.i64.wrap B = B := by rw [IntKind.wrap_i64]; omega
    have wI : IntKind.i64.wrap I = I := by rw [IntKind.wrap_i64]; omega
    clear hB hI pb qb rb sb
    have zH : (str (v.getD 0 [])).size = 128 := by rw [str_size, l0]
    have hn0 : 0 < v.length := by omega
    have hn1 : (0 : Int) < (v.length : Int) := by omega
    obtain ⟨a0, a1, a2, a3, a4, a5, pn, hPl, hpl⟩ := plan_all B I
    have HPl := Lib.hid hPl
    have HPc := Lib.hid hpl
    clear hPl hpl
    obtain ⟨H, hH⟩ : ∃ H, H = v.getD 0 [] := ⟨_, rfl⟩
    rw [← hH] at c0 e46 e68 zH l0 C0
    have HHH := Lib.hid hH
    clear hH hz
    go_wp2_with fail
    go_cut [6, 7] (fun s6 s7 wx => ∃ g : Nat, s6 = .pointer (some ⟨g, 0, none⟩) ∧ s7 = .int .i64 pn ∧ w1.heap.size ≤ g ∧ Ext w1 wx ∧ Box wx g 144 #[.int .i64 a0, .int .i64 a1, .int .i64 a2, .int .i64 a3, .int .i64 a4, .int .i64 a5])
    case first =>
     have hb1 : b < w1.heap.size := Nat.lt_of_lt_of_le hb x1.size
     have cA : (w1.alloc (.cells #[.int .i64 0, .int .i64 0, .int .i64 0, .int .i64 0, .int .i64 0, .int .i64 0] 144)).cell? ⟨b, o, none⟩ = some (.string (str H)) := Ext.keep ((Ext.refl _).alloc _) c0
     have bne : ¬ b = w1.heap.size := by omega
     have bne' : ¬ w1.heap.size = b := by omega
     clear C0 C2 HALL r1
     go_region_held3 (fun w' => w'.cell? ⟨b, o, none⟩ = some (.string (str H)))
      (first | (with_reducible exact c0) | (with_reducible exact cB) | (with_reducible exact cA) | (with_reducible exact Ext.keep ((Ext.refl _).alloc _) cB) | go_keep) (first
      | (go_at_call_of 164 (str [p, q]); refine (GB.out _).mono ?_; rintro e w' ⟨rfl, rfl⟩)
      | (go_at_call_of 164 (str [r, s]); refine (GI.out _).mono ?_; rintro e w' ⟨rfl, rfl⟩)
      | (go_at_call 163; (with_reducible refine (HPl.out (World.drew (World.alloc w1 _))).mono ?_); rintro e w' ⟨rfl, hgp⟩; have HX := Lib.hid (((Ext.refl w1).alloc _).trans (Ext.undrew hgp)); have cB := Ext.keep hgp (show (World.drew (World.alloc w1 _)).cell? ⟨b, o, none⟩ = some (.string (str H)) from Ext.keep ((Ext.refl _).alloc _) c0); have bx := Box.ext (Box.new w1 144 #[.int .i64 0, .int .i64 0, .int .i64 0, .int .i64 0, .int .i64 0, .int .i64 0]) (Ext.undrew hgp); have y0 := bx.cell 0; have f0 := bx.frozen 0; have y1 := bx.cell 1; have f1 := bx.frozen 1; have y2 := bx.cell 2; have f2 := bx.frozen 2; have y3 := bx.cell 3; have f3 := bx.frozen 3; have y4 := bx.cell 4; have f4 := bx.frozen 4; have y5 := bx.cell 5; have f5 := bx.frozen 5; have BX := Lib.hid bx; clear bx; simp only [List.getElem?_toArray, List.getElem?_cons_zero, List.getElem?_cons_succ] at y0 y1 y2 y3 y4 y5)
      | (go_at_call 163; refine (HPl.out _).mono ?_; rintro e w' ⟨rfl, hgp⟩; have HX := Lib.hid (Ext.undrew hgp); have cB := Ext.keep hgp (show (World.drew w1).cell? ⟨b, o, none⟩ = some (.string (str H)) from c0)))
     ·go_wp2_with fail
      go_meet
      exact ⟨w'.heap.size, rfl, rfl, HX.out.size, HX.out.alloc _, Box.new _ _ _⟩
     all_goals
      go_wp2_with fail
      go_meet
      refine ⟨w1.heap.size, rfl, rfl, Nat.le_refl _, ?_, ?_⟩
      ·exact (((((HX.out.setCell (Nat.le_refl _) _).setCell (Nat.le_refl _) _).setCell (Nat.le_refl _) _).setCell (Nat.le_refl _) _).setCell (Nat.le_refl _) _).setCell (Nat.le_refl _) _
      ·exact ((((((BX.out.set 0 _).set 1 _).set 2 _).set 3 _).set 4 _).set 5 _)
    case rest =>
     obtain ⟨g, rfl, rfl, hg6, xc, bc⟩ := hcut
     have xw := x1.trans xc
     have rc := r1.ext xc
     have c0' : ∀ x : Later wc, x.now.cell? ⟨b, o, none⟩ = some (.string (str H)) := fun x => C0.out _ (xw.trans x.ext)
     have q0 : ∀ x : Later wc, x.now.cell? ⟨g, 0, none⟩ = some (.int .i64 a0) := fun x => (bc.ext x.ext).cell 0
     have q1 : ∀ x : Later wc, x.now.cell? ⟨g, 1, none⟩ = some (.int .i64 a1) := fun x => (bc.ext x.ext).cell 1
     have q2 : ∀ x : Later wc, x.now.cell? ⟨g, 2, none⟩ = some (.int .i64 a2) := fun x => (bc.ext x.ext).cell 2
     have q3 : ∀ x : Later wc, x.now.cell? ⟨g, 3, none⟩ = some (.int .i64 a3) := fun x => (bc.ext x.ext).cell 3
     have q4 : ∀ x : Later wc, x.now.cell? ⟨g, 4, none⟩ = some (.int .i64 a4) := fun x => (bc.ext x.ext).cell 4
     have q5 : ∀ x : Later wc, x.now.cell? ⟨g, 5, none⟩ = some (.int .i64 a5) := fun x => (bc.ext x.ext).cell 5
     clear c0 e46 e68 wB wI d16 GB GI HPl hb
     rcases HPc.out with ⟨rfl, hp, e0, e1, rfl, rfl, rfl, e5⟩ | ⟨hpn, hp⟩
     ·have e0' := e0.symm
      have e1' := e1.symm
      clear e0 e1
      subst e0' e1' e5
      have HP := Lib.hid hp
      clear hp
      by_cases hBl : B = (v.length : Int)
      ·subst hBl
       have hpl2 := plan_bd HP.out
       have HF : ∀ w, Hid (Calls Tryz.prog 165 #[.agg #[.int .i64 v.length, .int .i64 I, .int .i64 1, .int .i64 2, .int .i64 3, .int .i64 (3 + (I + 1) / 2)]] w fun e w' => e = .returned (.string (str (headL v.length I))) ∧ Ext w w') := fun w => Lib.hid (first_any v.length I w HP.out)
       obtain ⟨HD, hHD⟩ : ∃ HD, HD = headL v.length I := ⟨_, rfl⟩
       rw [← hHD] at HF
       have HHD := Lib.hid hHD
       clear hHD
       by_cases hHe : H = HD
       ·have HHe := Lib.hid hHe
        subst hHe
        go_wp2_with fail
        refine wp_region_later (by kernel_rfl) (by kernel_rfl) ?_
        repeat (go_big_quiet_step (exact later_of ((HF _).out)))
        refine wpQuiet_nil ?_
        rintro w5 ⟨x5, rfl⟩
        have xw5 := xw.trans x5.ext
        have r5 := rc.ext x5.ext
        have d0 := q0 x5; have d5 := q5 x5
        have b5 := bc.ext x5.ext
        have e2 := C2.out _ xw5
        clear q0 q1 q2 q3 q4 q5 c0' HF C0 C2 bc rc xw r1 x1 xc
        go_wp2_with fail
        go_loop [59] (fun t => ∃ m : Nat, m ≤ 1024 ∧ t = .int .i64 m ∧ ∀ i : Nat, i < m → ((i : Int) < 3 + (I + 1) / 2 → bitB (v.getD 2 []) i = true) ∧ (v.length ≤ i → bitB (v.getD 2 []) i = false)) (fun t => 1024 - (intOf t).toNat)
        case atStart => exact ⟨0, by omega, rfl, fun i hi => by omega⟩
        case round =>
         obtain ⟨m, hm, rfl, hbits⟩ := hrel
         have HBI := Lib.hid hbits
         clear hbits
         have HB := Lib.hid (fun (hm2 : m < 1024) w (h : w.cell? ⟨b, o + 2, none⟩ = some (.string (str (v.getD 2 [])))) => bit_any b o v.length c m (v.getD 2 []) w (by omega) h l2 hm2)
         by_cases hm2 : m < 1024
         ·have HST := Lib.hid (show (((m : Int) < 3 + (I + 1) / 2 → bitB (v.getD 2 []) m = true) ∧ (v.length ≤ m → bitB (v.getD 2 []) m = false)) → ∀ i : Nat, i < m + 1 → ((i : Int) < 3 + (I + 1) / 2 → bitB (v.getD 2 []) i = true) ∧ (v.length ≤ i → bitB (v.getD 2 []) i = false) from fun h i hi => by
           by_cases e : i < m
           ·exact HBI.out i e
           ·obtain rfl : i = m := by omega
            exact h)
          clear HBI
          obtain ⟨bt, hbt⟩ : ∃ bt, bitB (v.getD 2 []) m = bt := ⟨_, rfl⟩
          rw [hbt] at HST
          have HBT := Lib.hid hbt
          clear hbt
          by_cases m1 : (m : Int) < 3 + (I + 1) / 2
          ·have m3' : ¬ (v.length : Int) ≤ m := by omega
           have m3'' : decide ((v.length : Int) ≤ m) = false := by simpa using m3'
           cases bt with
           | true =>
            go_wp2_with (go_at_call 166; refine (HB.out hm2 _ e2).mono ?_; rintro e w' ⟨rfl, rfl⟩; rw [HBT.out])
            go_round
            case rel => exact ⟨m + 1, by omega, by go_num, HST.out ⟨fun _ => by simp, fun h => by omega⟩⟩
            case measure => simp [intOf]; omega
           | false =>
            go_wp2_with (first
             | (go_at_call 166; refine (HB.out hm2 _ e2).mono ?_; rintro e w' ⟨rfl, rfl⟩; rw [HBT.out])
             | (refine wp_st_geom (.tmp 2) (.tmp 82) rfl rfl w.heap.size [0, 0, 0, 0, 0, 0] [0, 0, 0, 0, 0, 0] 144 rfl rfl r5 rfl rfl ?_; intro w6 b6 g6))
            have xF := xw5.grown g6 (fun k e => by cases e; exact Nat.le_refl _)
            exact bodyPost_ret (v := .tuple #[noGeom, .int .i64 3]) (results_cell2 Tryz.results94 _ _ _ _ _ _ _ rfl rfl b6 Tryz.underlying144 rfl geomSize) rfl ⟨.inr rfl, xF⟩
          ·have m1' : decide ((m : Int) < 3 + (I + 1) / 2) = false := by simpa using m1
           by_cases m3 : v.length ≤ m
           ·have m3' : (v.length : Int) ≤ m := by omega
            cases bt with
            | false =>
             go_wp2_with (go_at_call 166; refine (HB.out hm2 _ e2).mono ?_; rintro e w' ⟨rfl, rfl⟩; rw [HBT.out])
             go_round
             case rel => exact ⟨m + 1, by omega, by go_num, HST.out ⟨fun h => by omega, fun _ => by simp⟩⟩
             case measure => simp [intOf]; omega
            | true =>
             go_wp2_with (first
              | (go_at_call 166; refine (HB.out hm2 _ e2).mono ?_; rintro e w' ⟨rfl, rfl⟩; rw [HBT.out])
              | (refine wp_st_geom (.tmp 2) (.tmp 82) rfl rfl w.heap.size [0, 0, 0, 0, 0, 0] [0, 0, 0, 0, 0, 0] 144 rfl rfl r5 rfl rfl ?_; intro w6 b6 g6))
             have xF := xw5.grown g6 (fun k e => by cases e; exact Nat.le_refl _)
             exact bodyPost_ret (v := .tuple #[noGeom, .int .i64 3]) (results_cell2 Tryz.results94 _ _ _ _ _ _ _ rfl rfl b6 Tryz.underlying144 rfl geomSize) rfl ⟨.inr rfl, xF⟩
           ·have m3' : ¬ (v.length : Int) ≤ m := by omega
            have m3'' : decide ((v.length : Int) ≤ m) = false := by simpa using m3'
            go_wp2_with (go_at_call 166; refine (HB.out hm2 _ e2).mono ?_; rintro e w' ⟨rfl, rfl⟩)
            go_round
            case rel => exact ⟨m + 1, by omega, by go_num, HST.out ⟨fun h => by omega, fun h => by omega⟩⟩
            case measure => simp [intOf]; omega
         ·obtain rfl : m = 1024 := by omega
          have HG := Lib.hid (show Good v I from ⟨HALL.out, HP.out, by rw [← HHH.out, ← HHD.out], fun i hi => (HBI.out i (by omega)).1 hi, fun i hi hl => (HBI.out i hi).2 hl⟩)
          have b5' : Box x5.now g 144 (intVals [(v.length : Int), I, 1, 2, 3, 3 + (I + 1) / 2]) := b5
          clear b5
          go_wp2_with (first
           | (refine wp_ld_geom (.tmp 6) rfl rfl g _ 144 rfl b5' rfl ?_)
           | (refine wp_st_geom (.tmp 2) (.tmp 84) rfl rfl w.heap.size [(v.length : Int), I, 1, 2, 3, 3 + (I + 1) / 2] [0, 0, 0, 0, 0, 0] 144 rfl rfl r5 rfl rfl ?_; intro w6 b6 g6))
          have xF := xw5.grown g6 (fun k e => by cases e; exact Nat.le_refl _)
          exact bodyPost_ret (v := .tuple #[geomV v.length I, .int .i64 0]) (results_cell2 Tryz.results94 _ _ _ _ _ _ _ rfl rfl b6 Tryz.underlying144 rfl geomSize) rfl ⟨.inl ⟨I, HG.out, rfl⟩, xF⟩
       ·have hne : ((str H).toList == (str HD).toList) = false := by rw [str_toList, str_toList]; simpa using hHe
        have hne2 : ((str H).toList != (str HD).toList) = true := by rw [bne, hne]; rfl
        clear hHe
        go_wp2_with fail
        refine wp_region_later (by kernel_rfl) (by kernel_rfl) ?_
        repeat (go_big_quiet_step (exact later_of ((HF _).out)))
        refine wpQuiet_nil ?_
        rintro w5 ⟨x5, rfl⟩
        have xw5 := xw.trans x5.ext
        have r5 := rc.ext x5.ext
        go_wp2_with (refine wp_st_geom (.tmp 2) (.tmp 58) rfl rfl w.heap.size [0, 0, 0, 0, 0, 0] [0, 0, 0, 0, 0, 0] 144 rfl rfl r5 rfl rfl ?_; intro w6 b6 g6)
        have xF := xw5.grown g6 (fun k e => by cases e; exact Nat.le_refl _)
        exact bodyPost_ret (v := .tuple #[noGeom, .int .i64 3]) (results_cell2 Tryz.results94 _ _ _ _ _ _ _ rfl rfl b6 Tryz.underlying144 rfl geomSize) rfl ⟨.inr rfl, xF⟩
      ·have hbn : (B != (v.length : Int)) = true := by simpa using hBl
       clear hBl
       go_wp2_with fail
       refine wp_region_later (by kernel_rfl) (by kernel_rfl) ?_
       repeat (go_big_quiet_step (fail))
       refine wpQuiet_nil ?_
       rintro w5 ⟨x5, rfl⟩
       have xw5 := xw.trans x5.ext
       have r5 := rc.ext x5.ext
       go_wp2_with (refine wp_st_geom (.tmp 2) (.tmp 58) rfl rfl w.heap.size [0, 0, 0, 0, 0, 0] [0, 0, 0, 0, 0, 0] 144 rfl rfl r5 rfl rfl ?_; intro w6 b6 g6)
       have xF := xw5.grown g6 (fun k e => by cases e; exact Nat.le_refl _)
       exact bodyPost_ret (v := .tuple #[noGeom, .int .i64 3]) (results_cell2 Tryz.results94 _ _ _ _ _ _ _ rfl rfl b6 Tryz.underlying144 rfl geomSize) rfl ⟨.inr rfl, xF⟩
     ·have hbn : (pn != 0) = true := by rcases hpn with rfl | rfl <;> rfl
      clear hpn
      go_wp2_with fail
      refine wp_region_later (by kernel_rfl) (by kernel_rfl) ?_
      repeat (go_big_quiet_step (fail))
      refine wpQuiet_nil ?_
      rintro w5 ⟨x5, rfl⟩
      have xw5 := xw.trans x5.ext
      have r5 := rc.ext x5.ext
      go_wp2_with (refine wp_st_geom (.tmp 2) (.tmp 58) rfl rfl w.heap.size [0, 0, 0, 0, 0, 0] [0, 0, 0, 0, 0, 0] 144 rfl rfl r5 rfl rfl ?_; intro w6 b6 g6)
      have xF := xw5.grown g6 (fun k e => by cases e; exact Nat.le_refl _)
      exact bodyPost_ret (v := .tuple #[noGeom, .int .i64 3]) (results_cell2 Tryz.results94 _ _ _ _ _ _ _ rfl rfl b6 Tryz.underlying144 rfl geomSize) rfl ⟨.inr rfl, xF⟩
end Go.Proofs.YtfaplefkakpgcaaGreatDoor
/- Plain: inodes behind a change. -/
namespace Go.Proofs.YtfaplefkakpgcaaGreatDoor
set_option linter.unusedVariables false
set_option linter.unusedSimpArgs false
theorem part_eq {l l' : List UInt8} {o o' z : Nat} (h : ∀ j, j < z → l[o + j]? = l'[o' + j]?) : (l.drop o).take z = (l'.drop o').take z := by
 apply List.ext_getElem?
 intro j
 rw [List.getElem?_take, List.getElem?_take, List.getElem?_drop, List.getElem?_drop]
 split
 ·exact h j ‹_›
 ·rfl
theorem overL_at {b s : List UInt8} {p : Nat} (h : p + s.length ≤ b.length) (j : Nat) : (overL b p s)[j]? = if j < p then b[j]? else if j < p + s.length then s[j - p]? else b[j]? := by
 unfold overL
 have hp : (b.take p).length = p := by simp; omega
 by_cases h1 : j < p
 ·rw [if_pos h1, List.append_assoc, List.getElem?_append_left (by omega), List.getElem?_take, if_pos h1]
 ·rw [if_neg h1, List.append_assoc, List.getElem?_append_right (by omega), hp]
  by_cases h2 : j < p + s.length
  ·rw [if_pos h2, List.getElem?_append_left (by omega)]
  ·rw [if_neg h2, List.getElem?_append_right (by omega), List.getElem?_drop, show p + s.length + (j - p - s.length) = j by omega]
theorem fnum_over_out {b s : List UInt8} {p : Nat} (h : p + s.length ≤ b.length) {o z : Nat} (hz : o + z ≤ p ∨ p + s.length ≤ o) : fnum (overL b p s) o z = fnum b o z := by
 unfold fnum
 rw [part_eq (l' := b) (o' := o) (fun j hj => by
  rw [overL_at h]
  rcases hz with hz | hz
  ·rw [if_pos (by omega)]
  ·rw [if_neg (by omega), if_neg (by omega)])]
theorem inoL_over_ne {b s : List UInt8} {p q : Nat} (h : p + s.length ≤ b.length) (hs : s.length = 24) (hq : q + 24 ≤ p ∨ p + 24 ≤ q) : inoL (overL b p s) q = inoL b q := by
 unfold inoL
 have e : ∀ i z : Nat, i + z ≤ 24 → fnum (overL b p s) (q + i) z = fnum b (q + i) z := fun i z hz => fnum_over_out h (by omega)
 rw [show fnum (overL b p s) q 1 = fnum b q 1 from e 0 1 (by omega), e 2 2 (by omega), e 1 1 (by omega), e 4 4 (by omega), e 8 2 (by omega), e 10 2 (by omega), e 12 2 (by omega), e 14 2 (by omega), e 16 2 (by omega), e 18 2 (by omega), e 20 2 (by omega), e 22 2 (by omega)]
theorem inoAt_put_ne {v : List (List UInt8)} {I k j : Int} (hg : Good v I) (h1 : 1 ≤ k) (h2 : k ≤ I) (j1 : 1 ≤ j) (hne : j ≠ k) (x : List Int) : inoAt (putAt v k x) j = inoAt v j := by
 have hp := plan_bd hg.plan
 have hi : (3 + (k - 1) / 2).toNat < v.length := by omega
 unfold inoAt putAt
 by_cases e : (3 + (k - 1) / 2).toNat = (3 + (j - 1) / 2).toNat
 ·rw [← e, getD_set_eq' _ _ hi, inoL_over_ne (by rw [inoB_len, getD_len hg hi]; omega) (inoB_len x) (by omega)]
 ·rw [getD_set_ne' _ _ e]
theorem inoAt_set (v : List (List UInt8)) {i : Nat} {k : Int} (b : List UInt8) (h : i ≠ (3 + (k - 1) / 2).toNat) : inoAt (v.set i b) k = inoAt v k := by
 unfold inoAt; rw [getD_set_ne' _ _ h]
end Go.Proofs.YtfaplefkakpgcaaGreatDoor
/- inode.known, Get at blocks that are no volume; fs.file. -/
namespace Go.Proofs.YtfaplefkakpgcaaGreatDoor
set_option linter.unusedVariables false
set_option linter.unusedSimpArgs false
open Go.RowKit
set_option maxHeartbeats 1000000 in
set_option maxRecDepth 100000 in
theorem known_bad (A : Option Addr) (n c : Nat) (v : List (List UInt8)) (k : Int) (w : World) (hv : Strs w A n v) (hn : n ≤ 9223372036854775807) (hb : ∀ I, ¬ Good v I) :
  Calls Tryz.prog 133 #[.slice A n c, .int .i64 k] w fun e w' => e = .returned (.tuple #[noGeom, .int .i64 3]) ∧ Ext w w' := by
 have HO := Lib.hid (fun w h => gof_any A n c v w h hn)
 go_enter Tryz.func133, Tryz.ntmps133
 go_wp2_with fail
 refine (HO.out _ (hv.ext ((Ext.refl _).alloc _))).mono ?_
 rintro e w1 ⟨hor, x1⟩
 obtain rfl : e = .returned (.tuple #[noGeom, .int .i64 3]) := by
  rcases hor with ⟨I, hg, _⟩ | h
  ·exact absurd hg (hb I)
  ·exact h
 rw [noGeom_eq]
 have x0 : Ext w w1 := ((Ext.refl w).alloc _).trans x1
 have bR : Box w1 w.heap.size 144 (intVals [0, 0, 0, 0, 0, 0]) := (Box.new w 144 _).ext x1
 have hlt := bR.lt
 clear x1
 go_wp2_with (first
  | (refine wp_st_geom (.tmp 6) (.tmp 11) rfl rfl w1.heap.size [0, 0, 0, 0, 0, 0] [0, 0, 0, 0, 0, 0] 144 rfl rfl (Box.new _ _ _) rfl rfl ?_; intro w2 b2 g2)
  | (refine wp_st_geom (.tmp 4) (.tmp 15) rfl rfl w.heap.size [0, 0, 0, 0, 0, 0] [0, 0, 0, 0, 0, 0] 144 rfl rfl ((bR.ext ((Ext.refl _).alloc _)).grown g2 (by first | (simp; done) | (simp; omega))) rfl rfl ?_; intro w3 b3 g3))
 refine bodyPost_ret (results_cell2 rfl _ _ w.heap.size _ _ _ (.int .i64 3) rfl rfl b3 Tryz.underlying144 rfl geomSize) rfl ⟨rfl, ?_⟩
 exact ((x0.alloc _).grown g2 (fun k e => by cases e; exact x0.size)).grown g3 (fun k e => by cases e; exact Nat.le_refl _)
set_option maxHeartbeats 1000000 in
set_option maxRecDepth 100000 in
theorem iget_bad (A : Option Addr) (n c : Nat) (v : List (List UInt8)) (k : Int) (w : World) (hv : Strs w A n v) (hn : n ≤ 9223372036854775807) (hb : ∀ I, ¬ Good v I) :
  Calls Tryz.prog 69 #[.slice A n c, .int .i64 k] w fun e w' => e = .returned (.tuple #[.agg (intVals zero12), .int .i64 3]) ∧ Ext w w' := by
 have HO := Lib.hid (fun w h => known_bad A n c v k w h hn hb)
 go_enter Tryz.func69, Tryz.ntmps69
 go_wp2_with fail
 refine (HO.out _ (hv.ext ((Ext.refl _).alloc _))).mono ?_
 rintro e w1 ⟨rfl, x1⟩
 rw [noGeom_eq]
 have x0 : Ext w w1 := ((Ext.refl w).alloc _).trans x1
 have bR : Box w1 w.heap.size 121 (intVals zero12) := (Box.new w 121 _).ext x1
 have hlt := bR.lt
 clear x1
 go_wp2_with (first
  | (refine wp_st_geom (.tmp 6) (.tmp 12) rfl rfl w1.heap.size _ [0, 0, 0, 0, 0, 0] 144 rfl rfl (Box.new _ _ _) rfl rfl ?_; intro w2 b2 g2; have x2 : Ext w w2 := (x0.alloc _).grown g2 (fun k e => by cases e; exact x0.size))
  | (refine wp_st_ino (.tmp 4) (.tmp 16) rfl rfl w.heap.size zero12 zero12 121 rfl rfl ((bR.ext ((Ext.refl _).alloc _)).grown g2 (by first | (simp; done) | (simp; omega))) rfl rfl ?_; intro w4 b4 g4))
 refine bodyPost_ret (results_cell2 rfl _ _ w.heap.size _ _ _ (.int .i64 3) rfl rfl b4 Tryz.underlying121 rfl inoSize) rfl ⟨rfl, ?_⟩
 exact x2.grown g4 (fun k e => by cases e; exact Nat.le_refl _)
end Go.Proofs.YtfaplefkakpgcaaGreatDoor
