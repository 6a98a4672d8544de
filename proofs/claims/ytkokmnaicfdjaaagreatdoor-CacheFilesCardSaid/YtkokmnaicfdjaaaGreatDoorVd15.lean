/- BLAKE2s: mixes walked. -/
import Derived.Test.YtkokmnaicfdjaaaGreatDoorVd14
import Derived.Test.YtkokmnaicfdjaaaGreatDoorVd5
import Derived.Deep.DeepCutAuto
namespace Go.Proofs.YtkokmnaicfdjaaaGreatDoor
set_option linter.unusedVariables false
set_option linter.unusedSimpArgs false
open Go.RowKit

def upd (V : Nat → BitVec 32) (a : Nat) (x : BitVec 32) : Nat → BitVec 32 := fun j => if j = a then x else V j
def u32A (n : Nat) (V : Nat → BitVec 32) : Array Value := ((List.range n).map fun i => .int .u32 ((V i).toNat : Int)).toArray
theorem u32A_size (n : Nat) (V : Nat → BitVec 32) : (u32A n V).size = n := by simp [u32A]
theorem u32A_get {n : Nat} {V : Nat → BitVec 32} {i : Nat} (h : i < n) : (u32A n V)[i]? = some (.int .u32 ((V i).toNat : Int)) := by
  simp [u32A, h]
theorem u32A_set {n : Nat} {V : Nat → BitVec 32} {i : Nat} (x : BitVec 32) : (u32A n V).setIfInBounds i (.int .u32 (x.toNat : Int)) = u32A n (upd V i x) := by
  apply Array.ext_getElem?
  intro j
  by_cases hj : j < n
  · rw [u32A_get hj, Array.getElem?_setIfInBounds]
    by_cases e : i = j
    · subst e; simp [upd, u32A_size, hj]
    · rw [if_neg e, u32A_get hj]; simp [upd, Ne.symm e]
  · rw [Array.getElem?_eq_none (by simp [u32A_size]; omega), Array.getElem?_eq_none (by rw [u32A_size]; omega)]
theorem box_u32 {w : World} {g n : Nat} {t : TypeId} {V : Nat → BitVec 32} (h : Box w g t (u32A n V)) {i : Nat} (hi : i < n) : w.cell? ⟨g, i, none⟩ = some (.int .u32 ((V i).toNat : Int)) := (h.cell i).trans (u32A_get hi)
theorem box_upd {w : World} {g n : Nat} {t : TypeId} {V : Nat → BitVec 32} (h : Box w g t (u32A n V)) (i : Nat) (x : BitVec 32) : Box (w.setCell ⟨g, i, none⟩ (.int .u32 (x.toNat : Int))) g t (u32A n (upd V i x)) := by
  rw [← u32A_set]; exact h.set i _
/-- four numbers mixed -/
def mixP (V : Nat → BitVec 32) (a b c d : Nat) (x y : BitVec 32) : Nat → BitVec 32 :=
  let V := upd V a (V a + (V b + x))
  let V := upd V d (rotP 16 (V d ^^^ V a))
  let V := upd V c (V c + V d)
  let V := upd V b (rotP 12 (V b ^^^ V c))
  let V := upd V a (V a + (V b + y))
  let V := upd V d (rotP 8 (V d ^^^ V a))
  let V := upd V c (V c + V d)
  upd V b (rotP 7 (V b ^^^ V c))
theorem grown_later {w w' w'' : World} {g : Nat} (h : w.grownBy w' (some g)) (x : Ext w' w'') : w.grownBy w'' (some g) :=
  ⟨x.os.trans h.os, x.tape.trans h.tape, x.output.trans h.output, Nat.le_trans h.size x.size, fun k hk hne => (x.block k (Nat.lt_of_lt_of_le hk h.size)).trans (h.block k hk hne)⟩
theorem grown_set {w w' : World} {g i : Nat} (h : w.grownBy w' (some g)) (v : Value) : w.grownBy (w'.setCell ⟨g, i, none⟩ v) (some g) :=
  ⟨h.os, h.tape, h.output, by simp [World.setCell]; exact h.size, fun k hk hne => (Below.heap_setCell w' ⟨g, i, none⟩ v k (fun e => hne (by rw [e]))).trans (h.block k hk hne)⟩
theorem grown_refl (w : World) (r : Option Nat) : w.grownBy w r := ⟨rfl, rfl, rfl, Nat.le_refl _, fun _ _ _ => rfl⟩
set_option maxHeartbeats 4000000 in
set_option maxRecDepth 100000 in
theorem mix_any (V0 : Nat → BitVec 32) (g a b c d : Nat) (t : TypeId) (x y : BitVec 32) (w0 : World) (h0 : Box w0 g t (u32A 16 V0)) (ha : a < 16) (hb : b < 16) (hc : c < 16) (hd : d < 16) :
    Calls Tryz.prog 218 #[.pointer (some ⟨g, 0, none⟩), .int .i64 (a : Int), .int .i64 (b : Int), .int .i64 (c : Int), .int .i64 (d : Int), .int .u32 (x.toNat : Int), .int .u32 (y.toNat : Int)] w0 fun e w' => e = .returned (.tuple #[]) ∧ Box w' g t (u32A 16 (mixP V0 a b c d x y)) ∧ w0.grownBy w' (some g) := by
  have hai : (a : Int) < 16 := by omega
  have hbi : (b : Int) < 16 := by omega
  have hci : (c : Int) < 16 := by omega
  have hdi : (d : Int) < 16 := by omega
  have g0 : w0.grownBy w0 (some g) := grown_refl w0 _
  have GO : Hid (∀ Z, Z = mixP V0 a b c d x y → Box w0 g t (u32A 16 Z) → True) := Lib.hid (fun _ _ _ => trivial)
  clear GO
  go_enter Tryz.func218, Tryz.ntmps218
  have ka : ∀ z : Later w0, z.now.cell? ⟨g, a, none⟩ = some (.int .u32 ((V0 a).toNat : Int)) := fun z => box_u32 (h0.ext z.ext) ha
  have kb : ∀ z : Later w0, z.now.cell? ⟨g, b, none⟩ = some (.int .u32 ((V0 b).toNat : Int)) := fun z => box_u32 (h0.ext z.ext) hb
  go_upto_region 0 with fail
  try simp only [Act.put]
  refine wp_region_later_tail 15 (by kernel_rfl) (by kernel_rfl) ?_
  simp only [List.take_succ_cons, List.take_zero, List.drop_succ_cons, List.drop_zero]
  repeat (go_big_quiet_step (fail))
  refine wpQuiet_nil ?_
  rintro z0 ⟨x0, rfl⟩
  have hb0 := h0.ext x0.ext
  have f0 := hb0.frozen a
  have i0 := box_u32 hb0 ha
  have e0 := box_upd hb0 a (V0 a + (V0 b + x))
  have g1 := grown_set (i := a) (grown_later g0 x0.ext) (.int .u32 ((V0 a + (V0 b + x)).toNat : Int))
  go_upto_region 1 with fail
  rw [add3 (V0 a) (V0 b) x]
  generalize hw1 : x0.now.setCell _ _ = w1 at *
  generalize hV1 : upd V0 a _ = V1 at *
  have h1 : Box w1 g t (u32A 16 V1) := e0
  clear ka kb f0 i0 e0 hb0 g0 h0
  clear hw1 x0
  have HV1 := Lib.hid hV1
  clear hV1
  have kd : ∀ z : Later w1, z.now.cell? ⟨g, d, none⟩ = some (.int .u32 ((V1 d).toNat : Int)) := fun z => box_u32 (h1.ext z.ext) hd
  have ka : ∀ z : Later w1, z.now.cell? ⟨g, a, none⟩ = some (.int .u32 ((V1 a).toNat : Int)) := fun z => box_u32 (h1.ext z.ext) ha
  go_upto_region 1 with fail
  try simp only [Act.put]
  refine wp_region_later_tail 16 (by kernel_rfl) (by kernel_rfl) ?_
  simp only [List.take_succ_cons, List.take_zero, List.drop_succ_cons, List.drop_zero]
  repeat (go_big_quiet_step (with_reducible exact later_of_same (rotlx16 _ _ _)))
  refine wpQuiet_nil ?_
  rintro z1 ⟨x1, rfl⟩
  have hb1 := h1.ext x1.ext
  have f1 := hb1.frozen d
  have i1 := box_u32 hb1 hd
  have e1 := box_upd hb1 d (rotP 16 (V1 d ^^^ V1 a))
  have g2 := grown_set (i := d) (grown_later g1 x1.ext) (.int .u32 ((rotP 16 (V1 d ^^^ V1 a)).toNat : Int))
  go_upto_region 2 with fail
  
  generalize hw2 : x1.now.setCell _ _ = w2 at *
  generalize hV2 : upd V1 d _ = V2 at *
  have h2 : Box w2 g t (u32A 16 V2) := e1
  clear kd ka f1 i1 e1 hb1 g1 h1
  clear hw2 x1
  have HV2 := Lib.hid hV2
  clear hV2
  have kc : ∀ z : Later w2, z.now.cell? ⟨g, c, none⟩ = some (.int .u32 ((V2 c).toNat : Int)) := fun z => box_u32 (h2.ext z.ext) hc
  have kd : ∀ z : Later w2, z.now.cell? ⟨g, d, none⟩ = some (.int .u32 ((V2 d).toNat : Int)) := fun z => box_u32 (h2.ext z.ext) hd
  go_upto_region 2 with fail
  try simp only [Act.put]
  refine wp_region_later_tail 13 (by kernel_rfl) (by kernel_rfl) ?_
  simp only [List.take_succ_cons, List.take_zero, List.drop_succ_cons, List.drop_zero]
  repeat (go_big_quiet_step (fail))
  refine wpQuiet_nil ?_
  rintro z2 ⟨x2, rfl⟩
  have hb2 := h2.ext x2.ext
  have f2 := hb2.frozen c
  have i2 := box_u32 hb2 hc
  have e2 := box_upd hb2 c (V2 c + V2 d)
  have g3 := grown_set (i := c) (grown_later g2 x2.ext) (.int .u32 ((V2 c + V2 d).toNat : Int))
  go_upto_region 3 with fail
  rw [addM (V2 c) (V2 d)]
  generalize hw3 : x2.now.setCell _ _ = w3 at *
  generalize hV3 : upd V2 c _ = V3 at *
  have h3 : Box w3 g t (u32A 16 V3) := e2
  clear kc kd f2 i2 e2 hb2 g2 h2
  clear hw3 x2
  have HV3 := Lib.hid hV3
  clear hV3
  have kb : ∀ z : Later w3, z.now.cell? ⟨g, b, none⟩ = some (.int .u32 ((V3 b).toNat : Int)) := fun z => box_u32 (h3.ext z.ext) hb
  have kc : ∀ z : Later w3, z.now.cell? ⟨g, c, none⟩ = some (.int .u32 ((V3 c).toNat : Int)) := fun z => box_u32 (h3.ext z.ext) hc
  go_upto_region 3 with fail
  try simp only [Act.put]
  refine wp_region_later_tail 16 (by kernel_rfl) (by kernel_rfl) ?_
  simp only [List.take_succ_cons, List.take_zero, List.drop_succ_cons, List.drop_zero]
  repeat (go_big_quiet_step (with_reducible exact later_of_same (rotlx12 _ _ _)))
  refine wpQuiet_nil ?_
  rintro z3 ⟨x3, rfl⟩
  have hb3 := h3.ext x3.ext
  have f3 := hb3.frozen b
  have i3 := box_u32 hb3 hb
  have e3 := box_upd hb3 b (rotP 12 (V3 b ^^^ V3 c))
  have g4 := grown_set (i := b) (grown_later g3 x3.ext) (.int .u32 ((rotP 12 (V3 b ^^^ V3 c)).toNat : Int))
  go_upto_region 4 with fail
  
  generalize hw4 : x3.now.setCell _ _ = w4 at *
  generalize hV4 : upd V3 b _ = V4 at *
  have h4 : Box w4 g t (u32A 16 V4) := e3
  clear kb kc f3 i3 e3 hb3 g3 h3
  clear hw4 x3
  have HV4 := Lib.hid hV4
  clear hV4
  have ka : ∀ z : Later w4, z.now.cell? ⟨g, a, none⟩ = some (.int .u32 ((V4 a).toNat : Int)) := fun z => box_u32 (h4.ext z.ext) ha
  have kb : ∀ z : Later w4, z.now.cell? ⟨g, b, none⟩ = some (.int .u32 ((V4 b).toNat : Int)) := fun z => box_u32 (h4.ext z.ext) hb
  go_upto_region 4 with fail
  try simp only [Act.put]
  refine wp_region_later_tail 15 (by kernel_rfl) (by kernel_rfl) ?_
  simp only [List.take_succ_cons, List.take_zero, List.drop_succ_cons, List.drop_zero]
  repeat (go_big_quiet_step (fail))
  refine wpQuiet_nil ?_
  rintro z4 ⟨x4, rfl⟩
  have hb4 := h4.ext x4.ext
  have f4 := hb4.frozen a
  have i4 := box_u32 hb4 ha
  have e4 := box_upd hb4 a (V4 a + (V4 b + y))
  have g5 := grown_set (i := a) (grown_later g4 x4.ext) (.int .u32 ((V4 a + (V4 b + y)).toNat : Int))
  go_upto_region 5 with fail
  rw [add3 (V4 a) (V4 b) y]
  generalize hw5 : x4.now.setCell _ _ = w5 at *
  generalize hV5 : upd V4 a _ = V5 at *
  have h5 : Box w5 g t (u32A 16 V5) := e4
  clear ka kb f4 i4 e4 hb4 g4 h4
  clear hw5 x4
  have HV5 := Lib.hid hV5
  clear hV5
  have kd : ∀ z : Later w5, z.now.cell? ⟨g, d, none⟩ = some (.int .u32 ((V5 d).toNat : Int)) := fun z => box_u32 (h5.ext z.ext) hd
  have ka : ∀ z : Later w5, z.now.cell? ⟨g, a, none⟩ = some (.int .u32 ((V5 a).toNat : Int)) := fun z => box_u32 (h5.ext z.ext) ha
  go_upto_region 5 with fail
  try simp only [Act.put]
  refine wp_region_later_tail 16 (by kernel_rfl) (by kernel_rfl) ?_
  simp only [List.take_succ_cons, List.take_zero, List.drop_succ_cons, List.drop_zero]
  repeat (go_big_quiet_step (with_reducible exact later_of_same (rotlx8 _ _ _)))
  refine wpQuiet_nil ?_
  rintro z5 ⟨x5, rfl⟩
  have hb5 := h5.ext x5.ext
  have f5 := hb5.frozen d
  have i5 := box_u32 hb5 hd
  have e5 := box_upd hb5 d (rotP 8 (V5 d ^^^ V5 a))
  have g6 := grown_set (i := d) (grown_later g5 x5.ext) (.int .u32 ((rotP 8 (V5 d ^^^ V5 a)).toNat : Int))
  go_upto_region 6 with fail
  
  generalize hw6 : x5.now.setCell _ _ = w6 at *
  generalize hV6 : upd V5 d _ = V6 at *
  have h6 : Box w6 g t (u32A 16 V6) := e5
  clear kd ka f5 i5 e5 hb5 g5 h5
  clear hw6 x5
  have HV6 := Lib.hid hV6
  clear hV6
  have kc : ∀ z : Later w6, z.now.cell? ⟨g, c, none⟩ = some (.int .u32 ((V6 c).toNat : Int)) := fun z => box_u32 (h6.ext z.ext) hc
  have kd : ∀ z : Later w6, z.now.cell? ⟨g, d, none⟩ = some (.int .u32 ((V6 d).toNat : Int)) := fun z => box_u32 (h6.ext z.ext) hd
  go_upto_region 6 with fail
  try simp only [Act.put]
  refine wp_region_later_tail 13 (by kernel_rfl) (by kernel_rfl) ?_
  simp only [List.take_succ_cons, List.take_zero, List.drop_succ_cons, List.drop_zero]
  repeat (go_big_quiet_step (fail))
  refine wpQuiet_nil ?_
  rintro z6 ⟨x6, rfl⟩
  have hb6 := h6.ext x6.ext
  have f6 := hb6.frozen c
  have i6 := box_u32 hb6 hc
  have e6 := box_upd hb6 c (V6 c + V6 d)
  have g7 := grown_set (i := c) (grown_later g6 x6.ext) (.int .u32 ((V6 c + V6 d).toNat : Int))
  go_upto_region 7 with fail
  rw [addM (V6 c) (V6 d)]
  generalize hw7 : x6.now.setCell _ _ = w7 at *
  generalize hV7 : upd V6 c _ = V7 at *
  have h7 : Box w7 g t (u32A 16 V7) := e6
  clear kc kd f6 i6 e6 hb6 g6 h6
  clear hw7 x6
  have HV7 := Lib.hid hV7
  clear hV7
  have kb : ∀ z : Later w7, z.now.cell? ⟨g, b, none⟩ = some (.int .u32 ((V7 b).toNat : Int)) := fun z => box_u32 (h7.ext z.ext) hb
  have kc : ∀ z : Later w7, z.now.cell? ⟨g, c, none⟩ = some (.int .u32 ((V7 c).toNat : Int)) := fun z => box_u32 (h7.ext z.ext) hc
  go_upto_region 7 with fail
  try simp only [Act.put]
  refine wp_region_later_tail 16 (by kernel_rfl) (by kernel_rfl) ?_
  simp only [List.take_succ_cons, List.take_zero, List.drop_succ_cons, List.drop_zero]
  repeat (go_big_quiet_step (with_reducible exact later_of_same (rotlx7 _ _ _)))
  refine wpQuiet_nil ?_
  rintro z7 ⟨x7, rfl⟩
  have hb7 := h7.ext x7.ext
  have f7 := hb7.frozen b
  have i7 := box_u32 hb7 hb
  have e7 := box_upd hb7 b (rotP 7 (V7 b ^^^ V7 c))
  have g8 := grown_set (i := b) (grown_later g7 x7.ext) (.int .u32 ((rotP 7 (V7 b ^^^ V7 c)).toNat : Int))
  go_wp2_with fail
  go_end0
  have H := HV1.out; have H2 := HV2.out; have H3 := HV3.out; have H4 := HV4.out; have H5 := HV5.out; have H6 := HV6.out; have H7 := HV7.out
  have HE : upd V7 b (rotP 7 (V7 b ^^^ V7 c)) = mixP V0 a b c d x y := by subst H7 H6 H5 H4 H3 H2 H; rfl
  rw [HE] at e7
  exact ⟨rfl, e7, g8⟩
end Go.Proofs.YtkokmnaicfdjaaaGreatDoor
