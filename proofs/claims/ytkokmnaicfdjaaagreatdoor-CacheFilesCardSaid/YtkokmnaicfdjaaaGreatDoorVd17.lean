/- BLAKE2s: begun, ended. -/
import Derived.Test.YtkokmnaicfdjaaaGreatDoorVd16
import Derived.Laws.Tables
import Derived.Lib.SliceRun
import Derived.Test.YtkokmnaicfdjaaaGreatDoorVd5
import Derived.Test.YtkokmnaicfdjaaaGreatDoorVd8
import Derived.Test.YtkokmnaicfdjaaaGreatDoorVd4
import Derived.Test.YtkokmnaicfdjaaaGreatDoorVd12
import Derived.Test.YtkokmnaicfdjaaaGreatDoorVd13
import Derived.Laws.MakeOwn
namespace Go.Proofs.YtkokmnaicfdjaaaGreatDoor
set_option linter.unusedVariables false
set_option linter.unusedSimpArgs false
open Go.RowKit

/-- bytes in a row -/
def u8A (n : Nat) (D : Nat → Nat) : Array Value := ((List.range n).map fun i => Value.int .u8 (D i : Int)).toArray
def updN (D : Nat → Nat) (a x : Nat) : Nat → Nat := fun j => if j = a then x else D j
theorem u8A_size (n : Nat) (D : Nat → Nat) : (u8A n D).size = n := by simp [u8A]
theorem u8A_get {n : Nat} {D : Nat → Nat} {i : Nat} (h : i < n) : (u8A n D)[i]? = some (.int .u8 (D i : Int)) := by simp [u8A, h]
theorem u8A_congr {n : Nat} {D D' : Nat → Nat} (e : ∀ i, i < n → D i = D' i) : u8A n D = u8A n D' := by
  apply Array.ext_getElem?
  intro j
  by_cases hj : j < n
  · rw [u8A_get hj, u8A_get hj, e j hj]
  · rw [Array.getElem?_eq_none (by simp [u8A_size]; omega), Array.getElem?_eq_none (by rw [u8A_size]; omega)]
theorem u8A_set {n : Nat} {D : Nat → Nat} {i : Nat} (x : Nat) : (u8A n D).setIfInBounds i (.int .u8 (x : Int)) = u8A n (updN D i x) := by
  apply Array.ext_getElem?
  intro j
  by_cases hj : j < n
  · rw [u8A_get hj, Array.getElem?_setIfInBounds]
    by_cases e : i = j
    · subst e; simp [updN, u8A_size, hj]
    · rw [if_neg e, u8A_get hj]; simp [updN, Ne.symm e]
  · rw [Array.getElem?_eq_none (by simp [u8A_size]; omega), Array.getElem?_eq_none (by rw [u8A_size]; omega)]
theorem u8A_one (n : Nat) (D : Nat → Nat) : (u8A n D).all (·.oneCell') = true := all_oneCell_toArray (fun v hv => by
  obtain ⟨i, _, rfl⟩ := List.mem_map.1 hv; rfl)
/-- a digest's cells -/
def digA (h0 : Nat → BitVec 32) (B : List UInt8) : Array Value := u8A 32 (fun i => (finalP h0 B (i / 4)).toNat / 256 ^ (i % 4) % 256)
theorem digSize : (Tryz.prog.info? 169).map (·.size) = some 32 := by kernel_rfl
theorem stSize : (Tryz.prog.info? 219).map (·.size) = some 74 := by kernel_rfl
section
variable {ops : Array Oper} {rest : List Oper} {o : Oper} {a : Act} {w : World} {Q : Exit → Act → World → Prop}
theorem wp_st_state (x y : Operand) (hgd : o.guard = none) (ho : o.op = .store 219 x y) (g : Nat) (h : Nat → BitVec 32) (b : Nat → Nat) (fill taken : Nat) (old : Array Value) (t : TypeId) (hx : a.eval x = .pointer (some ⟨g, 0, none⟩)) (hy : a.eval y = .agg (stA h b fill taken))
    (hb : Box w g t old) (hold : old.size = 74) (hK : ∀ w', Box w' g t (stA h b fill taken) → w.grownBy w' (some g) → wpList Tryz.prog ops Q rest (a.put o.dst undef) w') : wpList Tryz.prog ops Q (o :: rest) a w :=
  wp_st _ x y hgd ho g _ old t hx hy hb (by rw [stA_size]; exact stSize) (by rw [stA_size, hold]) (stA_one _ _ _ _) hK
theorem wp_ld_state (x : Operand) (hgd : o.guard = none) (ho : o.op = .load 219 x) (g : Nat) (h : Nat → BitVec 32) (b : Nat → Nat) (fill taken : Nat) (t : TypeId) (hx : a.eval x = .pointer (some ⟨g, 0, none⟩))
    (hb : Box w g t (stA h b fill taken)) (hK : wpList Tryz.prog ops Q rest (a.put o.dst (.agg (stA h b fill taken))) w) : wpList Tryz.prog ops Q (o :: rest) a w :=
  wp_ld _ x hgd ho g _ t _ hx hb Tryz.underlying219 rfl (by rw [stA_size]; exact stSize) hK
theorem wp_ld_h (x : Operand) (hgd : o.guard = none) (ho : o.op = .load 216 x) (g : Nat) (h : Nat → BitVec 32) (b : Nat → Nat) (fill taken : Nat) (t : TypeId) (hx : a.eval x = .pointer (some ⟨g, 0, none⟩))
    (hb : Box w g t (stA h b fill taken)) (hK : wpList Tryz.prog ops Q rest (a.put o.dst (.agg (u32A 8 h))) w) : wpList Tryz.prog ops Q (o :: rest) a w :=
  wpList_load_mid hgd _ x ho g 0 hx (u32A 8 h).toList _ (fun j v hj => by
    have hj8 : j < 8 := by have := (List.getElem?_eq_some_iff.1 hj).1; rw [Array.length_toList, u32A_size] at this; exact this
    rw [Nat.zero_add, hb.cell j, stA_h hj8, ← hj, Array.getElem?_toList, u32A_get hj8]) Tryz.underlying216 rfl (by rw [Array.length_toList, u32A_size]; exact a8Size) (by simpa using hK)
theorem wp_st_dig (x y : Operand) (hgd : o.guard = none) (ho : o.op = .store 169 x y) (g : Nat) (D : Nat → Nat) (old : Array Value) (t : TypeId) (hx : a.eval x = .pointer (some ⟨g, 0, none⟩)) (hy : a.eval y = .agg (u8A 32 D))
    (hb : Box w g t old) (hold : old.size = 32) (hK : ∀ w', Box w' g t (u8A 32 D) → w.grownBy w' (some g) → wpList Tryz.prog ops Q rest (a.put o.dst undef) w') : wpList Tryz.prog ops Q (o :: rest) a w :=
  wp_st _ x y hgd ho g _ old t hx hy hb (by rw [u8A_size]; exact digSize) (by rw [u8A_size, hold]) (u8A_one _ _) hK
theorem wp_ld_dig (x : Operand) (hgd : o.guard = none) (ho : o.op = .load 169 x) (g : Nat) (D : Nat → Nat) (t : TypeId) (hx : a.eval x = .pointer (some ⟨g, 0, none⟩))
    (hb : Box w g t (u8A 32 D)) (hK : wpList Tryz.prog ops Q rest (a.put o.dst (.agg (u8A 32 D))) w) : wpList Tryz.prog ops Q (o :: rest) a w :=
  wp_ld _ x hgd ho g _ t _ hx hb Tryz.underlying169 rfl (by rw [u8A_size]; exact digSize) hK
end
def zeroSt : Array Value := stA (fun _ => 0#32) (fun _ => 0) 0 0
theorem built_eight : Tryz.prog.built 219 [(0, .agg (u32A 8 eightP))] = some (stA eightP (fun _ => 0) 0 0) := by kernel_rfl
theorem wp_bd_eight {ops : Array Oper} {rest : List Oper} {o : Oper} {a : Act} {w : World} {Q : Exit → Act → World → Prop} (x : Operand) (hgd : o.guard = none) (ho : o.op = .build 219 #[(0, x)]) (hx : a.eval x = .agg (u32A 8 eightP))
    (hK : wpList Tryz.prog ops Q rest (a.put o.dst (.agg (stA eightP (fun _ => 0) 0 0))) w) : wpList Tryz.prog ops Q (o :: rest) a w := by
  have e : Tryz.prog.built 219 ((#[(0, x)] : Array (Nat × Operand)).map fun (i, x) => (i, a.eval x)).toList = some (stA eightP (fun _ => 0) 0 0) := by
    simp only [List.map_toArray, List.map_cons, List.map_nil, hx]; exact built_eight
  exact wpList_build hgd _ _ ho (by rw [e]; rfl) (by rw [e]; exact hK)
theorem zeroSt_size : Tryz.zeroCells219.size = 74 := by kernel_rfl
set_option maxHeartbeats 2000000 in
set_option maxRecDepth 100000 in
theorem begin_any (w : World) (hT : Tabs w) : Calls Tryz.prog 171 #[.bool false] w fun e w' => e = .returned (.agg (stA startP (fun _ => 0) 0 0)) ∧ Ext w w' := by
  go_enter Tryz.func171, Tryz.ntmps171
  go_upto_region 1 with fail
  have r0 := Box.new w 219 Tryz.zeroCells219
  have x0 : Ext w (w.alloc (.cells Tryz.zeroCells219 219)) := (Ext.refl w).alloc _
  generalize w.alloc (.cells Tryz.zeroCells219 219) = w1 at *
  have hT1 := hT.ext x0
  have hlt := r0.lt
  generalize hG : w.heap.size = G at *
  go_upto_region 2 with (first
    | (refine wp_ld_eight (.global 0) rfl rfl rfl hT1 ?_)
    | (refine wp_bd_eight (.tmp 4) rfl rfl rfl ?_)
    | (refine wp_st_state (.tmp 3) (.tmp 5) rfl rfl w1.heap.size eightP (fun _ => 0) 0 0 _ 219 rfl rfl (Box.new _ _ _) zeroSt_size ?_; intro w2 b2 g2))
  have y2 : Ext w1 w2 := ((Ext.refl w1).alloc _).grown g2 (fun j e => by cases e; exact Nat.le_refl _)
  have x2 := x0.trans y2
  have r2 := r0.ext y2
  have c0 : w2.cell? ⟨w1.heap.size, 0, none⟩ = some (.int .u32 ((eightP 0).toNat : Int)) := (b2.cell 0).trans (stA_h (by omega))
  have f0 := b2.frozen 0
  have hX : bits .xor .u32 ((eightP 0).toNat : Int) 16842784 = ((startP 0).toNat : Int) := by kernel_rfl
  clear r0 hT1 hT x0 y2 g2
  generalize w1.heap.size = g at *
  have hb3 : Box (w2.setCell ⟨g, 0, none⟩ (.int .u32 ((startP 0).toNat : Int))) g 219 (stA startP (fun _ => 0) 0 0) := by
    have := b2.set 0 (.int .u32 ((startP 0).toNat : Int))
    rw [stA_setH (by omega)] at this
    exact this
  have r3 := r2.setOther (show G ≠ g by omega) (i := 0) (.int .u32 ((startP 0).toNat : Int))
  have x3 := x2.setCell (p := ⟨g, 0, none⟩) (by rw [hG]; show G ≤ g; omega) (.int .u32 ((startP 0).toNat : Int))
  go_wp2_with (first
    | (refine wp_ld_state (.tmp 3) rfl rfl g startP (fun _ => 0) 0 0 219 rfl hb3 ?_)
    | (refine wp_st_state (.tmp 2) (.tmp 19) rfl rfl G startP (fun _ => 0) 0 0 _ 219 rfl rfl r3 zeroSt_size ?_; intro w4 b4 g4))
  exact bodyPost_ret (results_cell1 rfl _ _ G _ _ _ rfl b4 Tryz.underlying219 rfl (by rw [stA_size]; exact stSize)) rfl ⟨rfl, x3.grown g4 (fun j e => by cases e; omega)⟩

/-- cells written from a place on -/
def setL (cs : Array Value) (o : Nat) : List Value → Array Value
  | [] => cs
  | v :: l => setL (cs.setIfInBounds o v) (o + 1) l
theorem setL_get : ∀ (l : List Value) (cs : Array Value) (o j : Nat), (setL cs o l)[j]? = if o ≤ j ∧ j < o + l.length ∧ j < cs.size then l[j - o]? else cs[j]?
  | [], cs, o, j => by rw [if_neg (by simp; omega)]; rfl
  | v :: l, cs, o, j => by
    rw [setL, setL_get l, Array.size_setIfInBounds, List.length_cons]
    by_cases e : o = j
    · subst e
      rw [if_neg (by omega), Array.getElem?_setIfInBounds, if_pos rfl]
      by_cases hs : o < cs.size
      · rw [if_pos hs, if_pos (by omega), Nat.sub_self]; rfl
      · rw [if_neg hs, if_neg (by omega), Array.getElem?_eq_none (by omega)]
    · rw [Array.getElem?_setIfInBounds, if_neg e]
      by_cases c : o + 1 ≤ j ∧ j < o + 1 + l.length ∧ j < cs.size
      · rw [if_pos c, if_pos (by omega), show j - o = (j - (o + 1)) + 1 by omega]; rfl
      · rw [if_neg c, if_neg (by omega)]
theorem setL_size : ∀ (l : List Value) (cs : Array Value) (o : Nat), (setL cs o l).size = cs.size
  | [], _, _ => rfl
  | v :: l, cs, o => by rw [setL, setL_size l, Array.size_setIfInBounds]
theorem box_setCells {w : World} {g : Nat} {t : TypeId} : ∀ (l : List Value) (cs : Array Value) (o : Nat) (w : World), Box w g t cs → Box (w.setCells g o l) g t (setL cs o l)
  | [], _, _, _, h => h
  | v :: l, cs, o, w, h => box_setCells (w := w) l (cs.setIfInBounds o v) (o + 1) (w.setCell ⟨g, o, none⟩ v) (h.set o v)
theorem clear_run (ty : TypeId) (g f : Nat) (hf : f < 64) (h : Nat → BitVec 32) (b : Nat → Nat) (fill taken : Nat) (t : TypeId) (w : World) (hb : Box w g t (stA h b fill taken)) (cp : Nat) :
    ∃ w', (Builtin.clear_ #[101] ty #[.slice (some ⟨g, 8 + f, none⟩) (64 - f) cp]).run Tryz.prog w = .ok (.tuple #[]) w' ∧ Box w' g t (stA h (fun i => if i < f then b i else 0) fill taken) ∧ w.grownBy w' (some g) := by
  refine ⟨_, Lib.run_clear_slice w 101 5 ty (.int .u8 0) Tryz.underlying101 (fun w => by kernel_rfl) rfl rfl g (8 + f) (64 - f) cp (by omega) (fun j hj => ?_) (fun j hj => hb.frozen _), ?_, grown_cells _ _ _⟩
  · rw [hb.cell, show 8 + f + j = 8 + (f + j) by omega, stA_b (by omega)]; rfl
  · have := box_setCells (w := w) (List.replicate (64 - f) (.int .u8 0)) _ (8 + f) w hb
    rw [show setL (stA h b fill taken) (8 + f) (List.replicate (64 - f) (.int .u8 0)) = stA h (fun i => if i < f then b i else 0) fill taken from
      stA_eq (by rw [setL_size, stA_size])
        (fun i hi => by rw [setL_get, if_neg (by omega), stA_h hi])
        (fun i hi => by
          rw [setL_get, List.length_replicate, stA_size]
          by_cases c : i < f
          · rw [if_neg (by omega), if_pos c, stA_b hi]
          · rw [if_pos (by omega), if_neg c, List.getElem?_replicate, if_pos (by omega)]; rfl)
        (by rw [setL_get, List.length_replicate, if_neg (by omega), stA_fill])
        (by rw [setL_get, List.length_replicate, if_neg (by omega), stA_taken])] at this
    exact this
theorem final_of {h0 : Nat → BitVec 32} {B : List UInt8} {k f : Nat} {b : Nat → Nat} (hl : 64 * k + f = B.length) (hf : f ≤ 64) (hk : k = cntP B.length) (hs : ∀ i, i < f → b i = (B.getD (64 * k + i) 0).toNat) :
    takeP (hsP h0 B k) (wordP fun i => if i < f then b i else 0) B.length true = finalP h0 B := by
  unfold finalP
  rw [← hk]
  refine takeP_congr fun j hj => wordP_congr (fun i hi => ?_) hj
  rw [blockP_at hi]
  by_cases c : i < f
  · rw [if_pos c, hs i c]
  · rw [if_neg c, List.getD_eq_getElem?_getD, List.getElem?_eq_none (by omega)]; rfl
end Go.Proofs.YtkokmnaicfdjaaaGreatDoor
/- BLAKE2s: ended by the program. -/
namespace Go.Proofs.YtkokmnaicfdjaaaGreatDoor
set_option linter.unusedVariables false
set_option linter.unusedSimpArgs false
open Go.RowKit

theorem sl_full (g : Nat) (W : World) : (Instr.sliceAt 217 (.pointer (some ⟨g, 8, none⟩)) (some (.int .i64 64)) none none).run Tryz.prog W = .ok (.slice (some ⟨g, 8, none⟩) 0 0) W := by
  rw [run_sliceAt_array_l (P := Tryz.prog) W 217 ⟨g, 8, none⟩ (by simp [Program.arrayLen, Program.elem, Tryz.underlying217]) .i64 64 (by omega) (by rw [show Tryz.prog.arrayLen 217 = 64 by kernel_rfl]; omega), show Tryz.prog.arrayLen 217 = 64 by kernel_rfl, show Tryz.prog.elem 217 = 5 by kernel_rfl]
  have hs := byteSize
  cases hq : Tryz.prog.info? 5 with
  | none => simp [hq] at hs
  | some i =>
    have hi : i.size = 1 := by simpa [hq] using hs
    simp [sizeOf, typeInfo, hq, hi, slicedAt]
theorem clear_none (ty : TypeId) (a : Addr) (cp : Nat) (w : World) : (Builtin.clear_ #[101] ty #[.slice (some a) 0 cp]).run Tryz.prog w = .ok (.tuple #[]) w := by
  simp [Builtin.clear_, run_underlying Tryz.underlying101]
set_option maxHeartbeats 4000000 in
set_option maxRecDepth 100000 in
theorem end_any (h0 : Nat → BitVec 32) (B : List UInt8) (g : Nat) (t : TypeId) (w : World) (hS : StIs w g t h0 B) (hg : 1 < g) (hl : B.length < 4611686018427387904) (hT : Tabs w) :
    Calls Tryz.prog 173 #[.pointer (some ⟨g, 0, none⟩)] w fun e w' => e = .returned (.agg (digA h0 B)) ∧ w.grownBy w' (some g) := by
  obtain ⟨k, f, b, hM, hk⟩ := hS
  have hlen := hM.len
  have hfm := hM.most
  obtain ⟨T, hT0⟩ : ∃ T, T = 64 * k := ⟨_, rfl⟩
  have hbx := hM.box
  rw [← hT0] at hbx hlen
  have HTe := Lib.hid hT0
  have HMM := Lib.hid hM
  have HK := Lib.hid hk
  clear hT0 hM hk
  have hgw : g < w.heap.size := hbx.lt
  go_enter Tryz.func173, Tryz.ntmps173
  go_upto_region 1 with fail
  change Code.wp _ _ _ _ (w.alloc (.cells (u8A 32 fun _ => 0) 169))
  have r0 := Box.new w 169 (u8A 32 fun _ => 0)
  have x0 : Ext w (w.alloc (.cells (u8A 32 fun _ => 0) 169)) := (Ext.refl w).alloc _
  have hb0 := hbx.ext x0
  have hT1 := hT.ext x0
  have g0 : w.grownBy (w.alloc (.cells (u8A 32 fun _ => 0) 169)) (some g) := grown_later (grown_refl w _) x0
  generalize w.alloc (.cells (u8A 32 fun _ => 0) 169) = w1 at *
  obtain ⟨G, hG⟩ : ∃ G, G = w.heap.size := ⟨_, rfl⟩
  rw [← hG] at r0 hgw ⊢
  have HLE := Lib.hid (show w.heap.size ≤ G by omega)
  clear hG hbx hT x0
  have k72 : ∀ z : Later w1, z.now.cell? ⟨g, 72, none⟩ = some (.int .i64 (f : Int)) := fun z => ((hb0.ext z.ext).cell 72).trans stA_fill
  have k73 : ∀ z : Later w1, z.now.cell? ⟨g, 73, none⟩ = some (.int .u64 (T : Int)) := fun z => ((hb0.ext z.ext).cell 73).trans stA_taken
  try simp only [Act.put]
  refine wp_region_later_tail 12 (by kernel_rfl) (by kernel_rfl) ?_
  simp only [List.take_succ_cons, List.take_zero, List.drop_succ_cons, List.drop_zero]
  repeat (go_big_quiet_step (fail))
  refine wpQuiet_nil ?_
  rintro z ⟨x, rfl⟩
  have hb1 := hb0.ext x.ext
  have c73 : x.now.cell? ⟨g, 73, none⟩ = some (.int .u64 (T : Int)) := (hb1.cell 73).trans stA_taken
  have f73 := hb1.frozen 73
  go_upto_region 2 with fail
  have hb2 : Box (x.now.setCell ⟨g, 73, none⟩ (.int .u64 ((T : Int) + (f : Int)))) g t (stA (hsP h0 B k) b f B.length) := by
    have := hb1.set 73 (.int .u64 ((T : Int) + (f : Int)))
    rw [show (T : Int) + (f : Int) = ((B.length : Nat) : Int) by omega, stA_setTaken] at this
    rw [show (T : Int) + (f : Int) = ((B.length : Nat) : Int) by omega]
    exact this
  have r2 := (r0.ext x.ext).setOther (show G ≠ g by omega) (i := 73) (.int .u64 ((T : Int) + (f : Int)))
  have g2 := grown_set (i := 73) (grown_later g0 x.ext) (.int .u64 ((T : Int) + (f : Int)))
  have hT2 := (hT1.ext x.ext).set (i := 73) hg (.int .u64 ((T : Int) + (f : Int)))
  generalize x.now.setCell ⟨g, 73, none⟩ (.int .u64 ((T : Int) + (f : Int))) = w2 at *
  clear hb0 hb1 c73 f73 k72 k73 hT1 g0 r0
  clear x
  have k72 : ∀ z : Later w2, z.now.cell? ⟨g, 72, none⟩ = some (.int .i64 (f : Int)) := fun z => ((hb2.ext z.ext).cell 72).trans stA_fill
  go_cut [19, 20, 21, 22, 23, 24, 25, 26] (fun _ _ _ _ _ _ _ _ wx => Box wx g t (stA (hsP h0 B k) (fun i => if i < f then b i else 0) f B.length) ∧ Box wx G 169 (u8A 32 fun _ => 0) ∧ w.grownBy wx (some g) ∧ Tabs wx)
  case first =>
    by_cases hf : f = 64
    · subst hf
      have hsl := fun W => sl_full g W
      go_upto_region 2 with fail
      try simp only [Act.put]
      refine wp_region_later_tail 8 (by kernel_rfl) (by kernel_rfl) ?_
      simp only [List.take_succ_cons, List.take_zero, List.drop_succ_cons, List.drop_zero]
      repeat (go_big_quiet_step (fail))
      refine wpQuiet_nil ?_
      rintro z ⟨x, rfl⟩
      have hcl := fun ty cp => clear_none ty ⟨g, 8, none⟩ cp x.now
      go_wp2_with fail
      go_meet
      rw [stA_congr (h' := hsP h0 B k) (b' := b) (fun _ _ => rfl) (fun i hi => by rw [if_pos hi])]
      exact ⟨hb2.ext x.ext, r2.ext x.ext, grown_later g2 x.ext, hT2.ext x.ext⟩
    · have hsl := fun W => sl_wait g f (by omega) W
      go_upto_region 2 with fail
      try simp only [Act.put]
      refine wp_region_later_tail 8 (by kernel_rfl) (by kernel_rfl) ?_
      simp only [List.take_succ_cons, List.take_zero, List.drop_succ_cons, List.drop_zero]
      repeat (go_big_quiet_step (fail))
      refine wpQuiet_nil ?_
      rintro z ⟨x, rfl⟩
      obtain ⟨w3, hcl, hb3, g3⟩ := clear_run 0 g f (by omega) (hsP h0 B k) b f B.length t x.now (hb2.ext x.ext) (64 - f)
      go_wp2_with fail
      go_meet
      exact ⟨hb3, (r2.ext x.ext).grown g3 (by intro e; injection e with e; omega), World.grownBy.trans (grown_later g2 x.ext) g3, (hT2.ext x.ext).grown hg g3⟩
  case rest =>
    obtain ⟨hb3, r3, g3, hT3⟩ := hcut
    clear k72 hb2 r2 g2 hT2
    have hbl : ∀ i, (if i < f then b i else 0) < 256 := fun i => by
      split
      · exact HMM.out.byte i
      · omega
    go_upto_region 4 with (go_at_call 206; refine (take_any (hsP h0 B k) (fun i => if i < f then b i else 0) f B.length g t true wc hb3 hg hbl (by omega) hT3).mono ?_; rintro e w4 ⟨rfl, hb4, g4⟩)
    rw [final_of HMM.out.len HMM.out.most HK.out HMM.out.same] at hb4
    have r4 := r3.grown g4 (by intro e; injection e with e; omega)
    have g5 := World.grownBy.trans g3 g4
    clear hb3 r3 g3 g4 hT3 hbl
    go_upto_region 5 with fail
    change Code.wp _ _ _ _ (w4.alloc (.cells (u8A 32 fun _ => 0) 169))
    have d5 := Box.new w4 169 (u8A 32 fun _ => 0)
    have x5 : Ext w4 (w4.alloc (.cells (u8A 32 fun _ => 0) 169)) := (Ext.refl w4).alloc _
    have hb5 := hb4.ext x5
    have r5 := r4.ext x5
    have g6 := grown_later g5 x5
    have hGd : G < w4.heap.size := r4.lt
    generalize w4.alloc (.cells (u8A 32 fun _ => 0) 169) = w5 at *
    generalize w4.heap.size = gd at *
    have HFi := Lib.hid (show digA h0 B = u8A 32 (fun p => (finalP h0 B (p / 4)).toNat / 256 ^ (p % 4) % 256) from rfl)
    obtain ⟨F, hF⟩ : ∃ F, F = finalP h0 B := ⟨_, rfl⟩
    rw [← hF] at hb5 HFi
    clear hF hb4 r4 g5 x5
    go_wp2_with (refine wp_ld_h (.tmp 31) rfl rfl g F _ f B.length t rfl hb5 ?_)
    go_loopw [33] (fun i wx => ∃ q : Nat, q ≤ 8 ∧ i = .int .i64 q ∧ Box wx gd 169 (u8A 32 (fun p => if p < 4 * q then (F (p / 4)).toNat / 256 ^ (p % 4) % 256 else 0)) ∧ Box wx G 169 (u8A 32 fun _ => 0) ∧ w.grownBy wx (some g)) (fun i _ => 8 - (intOf i).toNat)
    case atStart => exact ⟨0, by omega, rfl, by rw [u8A_congr (D' := fun _ => 0) (fun i _ => by simp)]; exact d5, r5, g6⟩
    case round =>
      clear d5 r5 g6 hb5
      obtain ⟨q, hq, rfl, dq, rq, gq⟩ := hrel
      by_cases hlt : q < 8
      · have hqi : (q : Int) < 8 := by omega
        go_wp2_with (refine wp_idx_u32 216 Tryz.underlying216 (.tmp 32) (.tmp 33) rfl rfl F q rfl rfl hlt ?_)
        go_loopw [37] (fun i wx => ∃ j : Nat, j ≤ 4 ∧ i = .int .i64 j ∧ Box wx gd 169 (u8A 32 (fun p => if p < 4 * q + j then (F (p / 4)).toNat / 256 ^ (p % 4) % 256 else 0)) ∧ Box wx G 169 (u8A 32 fun _ => 0) ∧ w.grownBy wx (some g)) (fun i _ => 4 - (intOf i).toNat)
        case atStart => exact ⟨0, by omega, rfl, dq, rq, gq⟩
        case round =>
          clear dq rq gq
          obtain ⟨j, hj, rfl, dq, rq, gq⟩ := hrel
          by_cases hlj : j < 4
          · have fz := dq.frozen (4 * q + j)
            have iz := (dq.cell (4 * q + j)).trans (u8A_get (show 4 * q + j < 32 by omega))
            have key : ∀ x : Nat, x = (F q).toNat / 256 ^ j % 256 → Box (wr.setCell ⟨gd, 4 * q + j, none⟩ (.int .u8 (x : Int))) gd 169 (u8A 32 (fun p => if p < 4 * q + (j + 1) then (F (p / 4)).toNat / 256 ^ (p % 4) % 256 else 0)) := fun x hx => by
              have h1 := dq.set (4 * q + j) (.int .u8 (x : Int))
              rw [u8A_set, u8A_congr (D' := fun p => if p < 4 * q + (j + 1) then (F (p / 4)).toNat / 256 ^ (p % 4) % 256 else 0) (fun p _ => by
                simp only [updN]
                by_cases e : p = 4 * q + j
                · subst e
                  rw [if_pos rfl, if_pos (by omega), hx, show (4 * q + j) / 4 = q by omega, show (4 * q + j) % 4 = j by omega]
                · rw [if_neg e]
                  by_cases e2 : p < 4 * q + j
                  · rw [if_pos e2, if_pos (by omega)]
                  · rw [if_neg e2, if_neg (by omega)])] at h1
              exact h1
            rcases (show j = 0 ∨ j = 1 ∨ j = 2 ∨ j = 3 by omega) with rfl | rfl | rfl | rfl
            · have fz := dq.frozen (4 * q)
              have iz := (dq.cell (4 * q)).trans (u8A_get (show 4 * q < 32 by omega))
              have hk := key ((F q).toNat % 256) (by simp)
              rw [show (((((F q).toNat % 256 : Nat)) : Nat) : Int) = ((F q).toNat : Int) % 256 by omega] at hk
              clear key
              go_wp2_with fail
              go_roundw
              case rel => exact ⟨1, by omega, rfl, hk, rq.setOther (by omega) _, grown_new gq (by have := HLE.out; omega) _⟩
              case measure => simp [intOf]
            · have fz := dq.frozen (4 * q + 1)
              have iz := (dq.cell (4 * q + 1)).trans (u8A_get (show 4 * q + 1 < 32 by omega))
              have hk := key ((F q).toNat / 256 % 256) (by simp)
              rw [show (((((F q).toNat / 256 % 256 : Nat)) : Nat) : Int) = ((F q).toNat : Int) / 256 % 256 by omega] at hk
              clear key
              go_wp2_with fail
              go_roundw
              case rel => exact ⟨2, by omega, rfl, hk, rq.setOther (by omega) _, grown_new gq (by have := HLE.out; omega) _⟩
              case measure => simp [intOf]
            · have fz := dq.frozen (4 * q + 2)
              have iz := (dq.cell (4 * q + 2)).trans (u8A_get (show 4 * q + 2 < 32 by omega))
              have hk := key ((F q).toNat / 65536 % 256) (by simp)
              rw [show (((((F q).toNat / 65536 % 256 : Nat)) : Nat) : Int) = ((F q).toNat : Int) / 65536 % 256 by omega] at hk
              clear key
              go_wp2_with fail
              go_roundw
              case rel => exact ⟨3, by omega, rfl, hk, rq.setOther (by omega) _, grown_new gq (by have := HLE.out; omega) _⟩
              case measure => simp [intOf]
            · have fz := dq.frozen (4 * q + 3)
              have iz := (dq.cell (4 * q + 3)).trans (u8A_get (show 4 * q + 3 < 32 by omega))
              have hk := key ((F q).toNat / 16777216) (by
                have := (F q).isLt
                show _ = (F q).toNat / 16777216 % 256
                omega)
              rw [show (((((F q).toNat / 16777216 : Nat)) : Nat) : Int) = ((F q).toNat : Int) / 16777216 by omega] at hk
              clear key
              go_wp2_with fail
              go_roundw
              case rel => exact ⟨4, by omega, rfl, hk, rq.setOther (by omega) _, grown_new gq (by have := HLE.out; omega) _⟩
              case measure => simp [intOf]
          · obtain rfl : j = 4 := by omega
            go_wp2_with fail
            go_roundw
            case rel => exact ⟨q + 1, by omega, by go_num, by rw [show 4 * (q + 1) = 4 * q + 4 by omega]; exact dq, rq, gq⟩
            case measure => simp [intOf]; omega
      · obtain rfl : q = 8 := by omega
        rw [u8A_congr (D' := fun p => (F (p / 4)).toNat / 256 ^ (p % 4) % 256) (fun i hi => by rw [if_pos (by omega)])] at dq
        go_wp2_with (first
          | (refine wp_ld_dig (.tmp 3) rfl rfl gd _ 169 rfl dq ?_)
          | (refine wp_st_dig (.tmp 2) (.tmp 52) rfl rfl G _ _ 169 rfl rfl rq rfl ?_; intro w9 b9 g9))
        exact bodyPost_ret (results_cell1 rfl _ _ G _ _ _ rfl b9 Tryz.underlying169 rfl (by rw [u8A_size]; exact digSize)) rfl ⟨congrArg (fun a => Ending.returned (.agg a)) HFi.out.symm, World.grownBy.andThen gq g9 (fun j e => by cases e; exact .inl HLE.out)⟩
end Go.Proofs.YtkokmnaicfdjaaaGreatDoor
/- BLAKE2s: the program's digest of parts. -/
namespace Go.Proofs.YtkokmnaicfdjaaaGreatDoor
set_option linter.unusedVariables false
set_option linter.unusedSimpArgs false
open Go.RowKit

theorem Tabs.lt {w : World} (h : Tabs w) : 1 < w.heap.size := World.block_lt_of_cell? w _ (h.2 0 (.int .u8 0) rfl)
theorem st_begin {w : World} {g : Nat} {t : TypeId} (h : Box w g t (stA startP (fun _ => 0) 0 0)) : StIs w g t startP [] :=
  ⟨0, 0, fun _ => 0, ⟨h, fun _ => by omega, rfl, by omega, fun i hi => by omega⟩, rfl⟩
theorem StIs.ext {w w' : World} {g : Nat} {t : TypeId} {h0 : Nat → BitVec 32} {B : List UInt8} (h : StIs w g t h0 B) (x : Ext w w') : StIs w' g t h0 B := by
  obtain ⟨k, f, b, hM, hk⟩ := h
  exact ⟨k, f, b, hM.ext x, hk⟩
theorem flat_le {L : List (List UInt8)} {k : Nat} : (L.take k).flatten.length ≤ L.flatten.length := by
  have h : (L.take k).flatten ++ (L.drop k).flatten = L.flatten := by rw [← List.flatten_append, List.take_append_drop]
  rw [← h, List.length_append]; omega
set_option maxHeartbeats 4000000 in
set_option maxRecDepth 100000 in
theorem sum_any (A : Option Addr) (n c : Nat) (L : List (List UInt8)) (w : World) (h : Strs w A n L) (hl : L.flatten.length < 1073741824) (hn : n ≤ 9223372036854775807) (hT : Tabs w) :
    Calls Tryz.prog 122 #[.slice A n c] w fun e w' => e = .returned (.agg (digA startP L.flatten)) ∧ Ext w w' := by
  have HS := Lib.hid h
  have hnl := h.1
  clear h
  go_enter Tryz.func122, Tryz.ntmps122
  go_upto_region 1 with fail
  change Code.wp _ _ _ _ (w.alloc (.cells (u8A 32 fun _ => 0) 169))
  have r0 := Box.new w 169 (u8A 32 fun _ => 0)
  have x0 : Ext w (w.alloc (.cells (u8A 32 fun _ => 0) 169)) := (Ext.refl w).alloc _
  generalize w.alloc (.cells (u8A 32 fun _ => 0) 169) = w1 at *
  have hT1 := hT.ext x0
  have hlt := hT.lt
  generalize hG : w.heap.size = G at *
  go_upto_region 2 with (first
    | (go_at_call 171; refine (begin_any _ hT1).mono ?_; rintro e w2 ⟨rfl, x2⟩; have hg2 : 1 < w2.heap.size := (hT1.ext x2).lt)
    | (refine wp_st_state (.tmp 3) (.tmp 6) rfl rfl w2.heap.size startP (fun _ => 0) 0 0 _ 219 rfl rfl (Box.new _ _ _) zeroSt_size ?_; intro w3 b3 g3))
  have y3 : Ext w2 w3 := ((Ext.refl w2).alloc _).grown g3 (fun j e => by cases e; exact Nat.le_refl _)
  have x3 := (x0.trans x2).trans y3
  have r3 := (r0.ext x2).ext y3
  have s3 := st_begin b3
  have hGg : G < w2.heap.size := (r0.ext x2).lt
  clear r0 hT1 x0 x2 y3 g3 b3
  generalize w2.heap.size = g at *
  go_wp2_with fail
  go_loopw [9] (fun i wx => ∃ k : Nat, k ≤ n ∧ i = .int .i64 k ∧ StIs wx g 219 startP (L.take k).flatten ∧ Box wx G 169 (u8A 32 fun _ => 0) ∧ Ext w wx) (fun i _ => n - (intOf i).toNat)
  case atStart => exact ⟨0, by omega, rfl, s3, r3, x3⟩
  case round =>
    clear s3 r3 x3
    obtain ⟨k, hk, rfl, sk, rk, xk⟩ := hrel
    by_cases hlt' : k < n
    · obtain ⟨b, o, rfl, hcell⟩ := HS.out.2 (by omega)
      have ck := xk.keep (hcell k (by omega))
      have hki : (k : Int) < (n : Int) := by omega
      have HT := Lib.hid (show (L.take (k + 1)).flatten = (L.take k).flatten ++ L[k]'(by omega) by rw [List.take_succ_eq_append_getElem (by omega), List.flatten_append]; simp)
      have HL := Lib.hid (show (L.take k).flatten.length + (L[k]'(by omega)).length < 1073741824 by
        have h1 := flat_le (L := L) (k := k + 1)
        rw [HT.out, List.length_append] at h1; omega)
      clear hcell
      generalize L[k]'(by omega) = p at *
      go_wp2_with (go_at_call 172; refine (add_any startP _ p g 219 _ sk hg2 (by have := HL.out; omega) (hT.ext xk)).mono ?_; rintro e w4 ⟨rfl, s4, g4⟩)
      go_roundw
      case rel => exact ⟨k + 1, by omega, by go_num, by rw [HT.out]; exact s4, rk.grown g4 (by intro e; injection e with e; omega), xk.grown g4 (fun j e => by cases e; omega)⟩
      case measure => simp [intOf]; omega
    · obtain rfl : k = n := by omega
      have hLn : L.take k = L := by rw [List.take_of_length_le (by omega)]
      rw [hLn] at sk
      clear hLn
      go_wp2_with (first
        | (go_at_call 173; refine (end_any startP _ g 219 _ sk hg2 (by omega) (hT.ext xk)).mono ?_; rintro e w4 ⟨rfl, g4⟩; have r4 := rk.grown g4 (by intro e; injection e with e; omega); have x4 := xk.grown g4 (fun j e => by cases e; omega))
        | (refine wp_st_dig (.tmp 2) (.tmp 16) rfl rfl G _ _ 169 rfl rfl r4 rfl ?_; intro w9 b9 g9))
      exact bodyPost_ret (results_cell1 rfl _ _ G _ _ _ rfl b9 Tryz.underlying169 rfl (by rw [u8A_size]; exact digSize)) rfl ⟨rfl, x4.grown g9 (fun j e => by cases e; omega)⟩
end Go.Proofs.YtkokmnaicfdjaaaGreatDoor
/- BLAKE2s: the document's tables and signs. -/
namespace Go.Proofs.YtkokmnaicfdjaaaGreatDoor
set_option linter.unusedVariables false
set_option linter.unusedSimpArgs false
open Go.RowKit

set_option maxRecDepth 100000 in
theorem eight02 (w : World) : Calls Tryz.prog 174 #[] w fun e w' => e = .returned (.agg (u32A 8 eightP)) ∧ Ext w w' := by
  go_enter Tryz.func174, Tryz.ntmps174
  go_upto_region 1 with fail
  have r0 := Box.new w 216 zero8
  have x0 : Ext w (w.alloc (.cells zero8 216)) := (Ext.refl w).alloc _
  change Code.wp _ _ _ _ (w.alloc (.cells zero8 216))
  generalize w.alloc (.cells zero8 216) = w1 at *
  generalize hG : w.heap.size = G at *
  go_wp2_with (refine wp_st8 (.tmp 0) (.tmp 1) rfl rfl G eightP _ 216 rfl (by kernel_rfl) r0 rfl ?_; intro w2 b2 g2)
  exact bodyPost_ret (results_cell1 rfl _ _ G _ _ _ rfl b2 Tryz.underlying216 rfl (by rw [u32A_size]; exact a8Size)) rfl ⟨rfl, x0.grown g2 (fun j e => by cases e; omega)⟩
/-- a sign of a row as a number -/
def signP (n : Nat) : Nat := if n < 10 then 48 + n else 87 + n
set_option maxRecDepth 100000 in
theorem place02 (n : Nat) (hn : n < 16) (w : World) : Calls Tryz.prog 220 #[.int .u8 (signP n : Int)] w fun e w' => e = .returned (.int .i64 (n : Int)) ∧ w = w' := by
  by_cases h : n < 10
  · rw [show signP n = 48 + n by unfold signP; rw [if_pos h]]
    have d : decide ((97 : Int) ≤ 48 + (n : Int)) = false := by simp; omega
    have e : (48 : Int) + (n : Int) - 48 = (n : Int) := by omega
    go_enter Tryz.func220, Tryz.ntmps220
    go_wp2_with fail
    go_ret
    exact ⟨by simp, rfl⟩
  · rw [show signP n = 87 + n by unfold signP; rw [if_neg h]]
    have d : decide ((97 : Int) ≤ 87 + (n : Int)) = true := by simp; omega
    go_enter Tryz.func220, Tryz.ntmps220
    go_wp2_with fail
    go_ret
    refine ⟨congrArg Ending.returned (show Value.int .i64 ((87 : Int) + (n : Int) - 97 + 10) = _ from ?_), rfl⟩
    rw [show (87 : Int) + (n : Int) - 97 + 10 = n by omega]
def rowS (k : Nat) : List UInt8 := (List.range 16).map fun j => UInt8.ofNat (signP (rowP k j))
set_option maxRecDepth 100000 in
theorem rows02 (w : World) : Calls Tryz.prog 219 #[] w fun e w' => ∃ b, e = .returned (.slice (some ⟨b, 0, none⟩) 10 10) ∧ Ext w w' ∧ ∀ k, k < 10 → w'.cell? ⟨b, k, none⟩ = some (.string (str (rowS k))) := by
  go_enter Tryz.func219, Tryz.ntmps219
  go_wp2_with fail
  go_ret
  refine ⟨_, rfl, (Ext.refl w).alloc _, fun k hk => ?_⟩
  rw [(Box.new w 9 _).cell k]
  have e : ∀ k : Fin 10, ((List.range 10).map fun k => Value.string (str (rowS k))).toArray[(k : Nat)]? = some (.string (str (rowS k))) := fun k => by simp
  exact (show _ = _ from e ⟨k, hk⟩)
end Go.Proofs.YtkokmnaicfdjaaaGreatDoor
/- BLAKE2s: a block taken in by the document. -/
namespace Go.Proofs.YtkokmnaicfdjaaaGreatDoor
set_option linter.unusedVariables false
set_option linter.unusedSimpArgs false
open Go.RowKit

/-- a text's byte as a number -/
def byt (l : List UInt8) (i : Nat) : Nat := (l.getD i 0).toNat
theorem byt_lt (l : List UInt8) (i : Nat) : byt l i < 256 := UInt8.toNat_lt _
theorem idx_str (l : List UInt8) (i : Int) (k : Nat) (hi : i = (k : Int)) (h : k < l.length) (w : World) : (Instr.index 9 (.string (str l)) (.int .i64 i)).run Tryz.prog w = .ok (.int .u8 ((byt l k : Nat) : Int)) w := by
  subst hi
  unfold byt
  rw [run_index_string w 9 (str l) .i64 (k : Int) Tryz.underlying9, dif_pos ⟨by omega, by rw [str_size]; omega⟩]
  rw [List.getD_eq_getElem?_getD, List.getElem?_eq_getElem h]
  rfl
def quadP (i : Nat) : Nat × Nat × Nat × Nat := if i < 4 then (i, i + 4, i + 8, i + 12) else (i - 4, 4 + (i - 4 + 1) % 4, 8 + (i - 4 + 2) % 4, 12 + (i - 4 + 3) % 4)
/-- the first i of a row's mixes -/
def partP (r : Nat → Nat) (m v : Nat → BitVec 32) : Nat → (Nat → BitVec 32)
  | 0 => v
  | i + 1 => mixP (partP r m v i) (quadP i).1 (quadP i).2.1 (quadP i).2.2.1 (quadP i).2.2.2 (m (r (2 * i))) (m (r (2 * i + 1)))
theorem partP_8 (r : Nat → Nat) (m v : Nat → BitVec 32) : partP r m v 8 = roundP r m v := rfl
theorem rowS_len (k : Nat) : (rowS k).length = 16 := rfl
theorem rowS_at {k j : Nat} (hk : k < 10) (hj : j < 16) : byt (rowS k) j = signP (rowP k j) := by
  have h := row_lt hk hj
  unfold byt rowS
  rw [List.getD_eq_getElem?_getD, List.getElem?_map, List.getElem?_range hj]
  show (UInt8.ofNat (signP (rowP k j))).toNat = _
  rw [UInt8.toNat_ofNat']
  unfold signP
  split <;> omega
set_option maxHeartbeats 8000000 in
set_option maxRecDepth 100000 in
theorem take02_any (h : Nat → BitVec 32) (bl : List UInt8) (n : Nat) (last : Bool) (w : World) (hbl : bl.length = 64) (hn : n < 18446744073709551616) :
    Calls Tryz.prog 207 #[.agg (u32A 8 h), .string (str bl), .int .u64 (n : Int), .bool last] w fun e w' => e = .returned (.agg (u32A 8 (takeP h (wordP (byt bl)) n last))) ∧ Ext w w' := by
  have hz : (str bl).size = 64 := by rw [str_size, hbl]
  go_enter Tryz.func207, Tryz.ntmps207
  go_upto_region 2 with fail
  have bh0 := Box.new w 216 (u32A 8 h)
  have br0 := Box.new (w.alloc (.cells (u32A 8 h) 216)) 216 zero8
  have bv0 := Box.new ((w.alloc (.cells (u32A 8 h) 216)).alloc (.cells zero8 216)) 61 zero16
  have bm0 := Box.new (((w.alloc (.cells (u32A 8 h) 216)).alloc (.cells zero8 216)).alloc (.cells zero16 61)) 61 zero16
  have x0 := ((((Ext.refl w).alloc (.cells (u32A 8 h) 216)).alloc (.cells zero8 216)).alloc (.cells zero16 61)).alloc (.cells zero16 61)
  change Code.wp _ _ _ _ ((((w.alloc (.cells (u32A 8 h) 216)).alloc (.cells zero8 216)).alloc (.cells zero16 61)).alloc (.cells zero16 61))
  have bh := ((bh0.ext ((Ext.refl _).alloc (.cells zero8 216))).ext ((Ext.refl _).alloc (.cells zero16 61))).ext ((Ext.refl _).alloc (.cells zero16 61))
  have br := (br0.ext ((Ext.refl _).alloc (.cells zero16 61))).ext ((Ext.refl _).alloc (.cells zero16 61))
  have bv := bv0.ext ((Ext.refl _).alloc (.cells zero16 61))
  simp only [World.size_alloc] at br bv bm0
  clear bh0 br0 bv0
  generalize (((w.alloc (.cells (u32A 8 h) 216)).alloc (.cells zero8 216)).alloc (.cells zero16 61)).alloc (.cells zero16 61) = w1 at *
  rw [show zero16 = u32A 16 (fun _ => 0#32) by kernel_rfl] at bv bm0
  generalize hG : w.heap.size = G at *
  go_upto_region 3 with (first
    | (go_at_call 174; refine (eight02 _).mono ?_; rintro e w2 ⟨rfl, x2⟩)
    | (refine wp_st8 (.tmp 11) (.tmp 20) rfl rfl w2.heap.size eightP _ 216 rfl rfl (Box.new _ _ _) (by kernel_rfl) ?_; intro w3 be g3))
  have y3 : Ext w2 w3 := ((Ext.refl w2).alloc _).grown g3 (fun j e => by cases e; exact Nat.le_refl _)
  have x3 := x0.trans (x2.trans y3)
  have bh3 := bh.ext (x2.trans y3)
  have br3 := br.ext (x2.trans y3)
  have bv3 := bv.ext (x2.trans y3)
  have bm3 := bm0.ext (x2.trans y3)
  have hge : G + 1 + 1 + 1 < w2.heap.size := (bm0.ext x2).lt
  clear bh br bv bm0 x0 x2 y3 g3
  generalize w2.heap.size = ge at *
  go_wp2_with fail
  go_loopw [12] (fun i wx => ∃ k : Nat, k ≤ 16 ∧ i = .int .i64 k ∧ Box wx (G + 1 + 1 + 1) 61 (u32A 16 (fun j => if j < k then wordP (byt bl) j else 0#32)) ∧ Box wx (G + 1 + 1) 61 (u32A 16 (fun j => if j < k then (if j < 8 then h j else eightP (j - 8)) else 0#32)) ∧ Box wx G 216 (u32A 8 h) ∧ Box wx (G + 1) 216 zero8 ∧ Box wx ge 216 (u32A 8 eightP) ∧ Ext w wx) (fun i _ => 16 - (intOf i).toNat)
  case atStart => exact ⟨0, by omega, rfl, by rw [u32A_congr (V' := fun _ => 0#32) (fun i _ => by simp)]; exact bm3, by rw [u32A_congr (V' := fun _ => 0#32) (fun i _ => by simp)]; exact bv3, bh3, br3, by assumption, x3⟩
  case round =>
    clear bm3 bv3 bh3 br3 x3
    obtain ⟨k, hk, rfl, bm, bv, bh, br, be, xk⟩ := hrel
    by_cases hlt : k < 16
    · have hki : (k : Int) < 16 := by omega
      have c0 := idx_str bl (4 * (k : Int)) (4 * k) (by omega) (by omega)
      have c1 := idx_str bl (4 * (k : Int) + 1) (4 * k + 1) (by omega) (by omega)
      have c2 := idx_str bl (4 * (k : Int) + 2) (4 * k + 2) (by omega) (by omega)
      have c3 := idx_str bl (4 * (k : Int) + 3) (4 * k + 3) (by omega) (by omega)
      have b0 := byt_lt bl (4 * k)
      have b1 := byt_lt bl (4 * k + 1)
      have b2 := byt_lt bl (4 * k + 2)
      have b3 := byt_lt bl (4 * k + 3)
      have HW : Hid (wordP (byt bl) k = BitVec.ofNat 32 (byt bl (4 * k) + byt bl (4 * k + 1) * 256 + byt bl (4 * k + 2) * 65536 + byt bl (4 * k + 3) * 16777216)) := Lib.hid rfl
      generalize byt bl (4 * k) = n0 at *
      generalize byt bl (4 * k + 1) = n1 at *
      generalize byt bl (4 * k + 2) = n2 at *
      generalize byt bl (4 * k + 3) = n3 at *
      go_upto_region 6 with fail
      try simp only [Act.put]
      refine wp_region_later_tail 31 (by kernel_rfl) (by kernel_rfl) ?_
      simp only [List.take_succ_cons, List.take_zero, List.drop_succ_cons, List.drop_zero]
      repeat (go_big_quiet_step (fail))
      refine wpQuiet_nil ?_
      rintro z ⟨x, rfl⟩
      have bm1 := bm.ext x.ext
      have f1 := bm1.frozen k
      have i1 := box_u32 bm1 hlt
      have HV : (n0 : Int) + (n1 : Int) * 256 + (n2 : Int) * 65536 + (n3 : Int) * 16777216 = ((wordP (byt bl) k).toNat : Int) := by
        rw [HW.out, BitVec.toNat_ofNat, Nat.mod_eq_of_lt (show _ < 4294967296 by omega)]; omega
      have bm2 := box_upd bm1 k (wordP (byt bl) k)
      rw [u32A_congr (V' := fun j => if j < k + 1 then wordP (byt bl) j else 0#32) (fun j _ => by
        simp only [upd]
        by_cases e : j = k
        · subst e; simp
        · rw [if_neg e]; by_cases e2 : j < k
          · rw [if_pos e2, if_pos (by omega)]
          · rw [if_neg e2, if_neg (by omega)])] at bm2
      have bv2 := (bv.ext x.ext).setOther (show G + 1 + 1 ≠ G + 1 + 1 + 1 by omega) (i := k) (.int .u32 ((wordP (byt bl) k).toNat : Int))
      have bh2 := (bh.ext x.ext).setOther (show G ≠ G + 1 + 1 + 1 by omega) (i := k) (.int .u32 ((wordP (byt bl) k).toNat : Int))
      have br2 := (br.ext x.ext).setOther (show G + 1 ≠ G + 1 + 1 + 1 by omega) (i := k) (.int .u32 ((wordP (byt bl) k).toNat : Int))
      have be2 := (be.ext x.ext).setOther (show ge ≠ G + 1 + 1 + 1 by omega) (i := k) (.int .u32 ((wordP (byt bl) k).toNat : Int))
      have x2 := (xk.trans x.ext).setCell (p := ⟨G + 1 + 1 + 1, k, none⟩) (by rw [hG]; show G ≤ G + 1 + 1 + 1; omega) (.int .u32 ((wordP (byt bl) k).toNat : Int))
      go_upto_region 7 with fail
      generalize x.now.setCell ⟨G + 1 + 1 + 1, k, none⟩ (.int .u32 ((wordP (byt bl) k).toNat : Int)) = w4 at *
      clear c0 c1 c2 c3 HV HW bm1 f1 i1 bv bh br be bm xk
      clear x
      have iv : w4.cell? ⟨G + 1 + 1, k, none⟩ = some (.int .u32 _) := box_u32 bv2 hlt
      have fv := bv2.frozen k
      have fin : ∀ y, y = (if k < 8 then h k else eightP (k - 8)) → Box (w4.setCell ⟨G + 1 + 1, k, none⟩ (.int .u32 (y.toNat : Int))) (G + 1 + 1) 61 (u32A 16 (fun j => if j < k + 1 then (if j < 8 then h j else eightP (j - 8)) else 0#32)) := fun y hy => by
        have := box_upd bv2 k y
        rw [u32A_congr (V' := fun j => if j < k + 1 then (if j < 8 then h j else eightP (j - 8)) else 0#32) (fun j _ => by
          simp only [upd]
          by_cases e : j = k
          · subst e; rw [if_pos rfl, if_pos (Nat.lt_succ_self _), hy]
          · rw [if_neg e]; by_cases e2 : j < k
            · rw [if_pos e2, if_pos (show j < k + 1 by omega)]
            · rw [if_neg e2, if_neg (show ¬ j < k + 1 by omega)])] at this
        exact this
      by_cases h8 : k < 8
      · have ch := box_u32 bh2 h8
        have hF := Lib.hid (fin (h k) (by rw [if_pos h8]))
        clear fin
        go_wp2_with fail
        go_roundw
        case rel => exact ⟨k + 1, by omega, by go_num, bm2.setOther (by omega) _, hF.out, bh2.setOther (by omega) _, br2.setOther (by omega) _, be2.setOther (by omega) _, x2.setCell (by rw [hG]; show G ≤ G + 1 + 1; omega) _⟩
        case measure => simp [intOf]; omega
      · have ch := box_u32 be2 (show k - 8 < 8 by omega)
        have hF := Lib.hid (fin (eightP (k - 8)) (by rw [if_neg h8]))
        clear fin
        go_wp2_with fail
        go_roundw
        case rel => exact ⟨k + 1, by omega, by go_num, bm2.setOther (by omega) _, hF.out, bh2.setOther (by omega) _, br2.setOther (by omega) _, be2.setOther (by omega) _, x2.setCell (by rw [hG]; show G ≤ G + 1 + 1; omega) _⟩
        case measure => simp [intOf]; omega
    · rw [u32A_congr (V' := wordP (byt bl)) (fun j hj => by rw [if_pos (show j < k by omega)])] at bm
      rw [u32A_congr (V' := fun j => if j < 8 then h j else eightP (j - 8)) (fun j hj => by rw [if_pos (show j < k by omega)])] at bv
      have hki : ¬ ((k : Int) < 16) := by omega
      have hkn : ¬ k < 16 := hlt
      generalize k = k0 at *
      obtain ⟨V0, hV0⟩ : ∃ V, V = (fun j => if j < 8 then h j else eightP (j - 8)) := ⟨_, rfl⟩
      rw [← hV0] at bv
      have HV0 := Lib.hid hV0
      clear hV0 be hk
      obtain ⟨M, hM⟩ : ∃ M, M = wordP (byt bl) := ⟨_, rfl⟩
      rw [← hM] at bm
      have HM := Lib.hid hM
      clear hM
      have k12 : wr.cell? ⟨G + 1 + 1, 12, none⟩ = some (.int .u32 ((V0 12).toNat : Int)) := box_u32 bv (by omega)
      have f12 := bv.frozen 12
      have hX := xorM (V0 12) n
      go_upto_region 11 with fail
      rw [show (V0 12).toNat ^^^ n % 4294967296 = (V0 12 ^^^ BitVec.ofNat 32 n).toNat by rw [BitVec.toNat_xor, BitVec.toNat_ofNat]]
      have bv1 := box_upd bv 12 (V0 12 ^^^ BitVec.ofNat 32 n)
      have bh1 := bh.setOther (show G ≠ G + 1 + 1 by omega) (i := 12) (.int .u32 ((V0 12 ^^^ BitVec.ofNat 32 n).toNat : Int))
      have br1 := br.setOther (show G + 1 ≠ G + 1 + 1 by omega) (i := 12) (.int .u32 ((V0 12 ^^^ BitVec.ofNat 32 n).toNat : Int))
      have bm1 := bm.setOther (show G + 1 + 1 + 1 ≠ G + 1 + 1 by omega) (i := 12) (.int .u32 ((V0 12 ^^^ BitVec.ofNat 32 n).toNat : Int))
      have x1 := xk.setCell (p := ⟨G + 1 + 1, 12, none⟩) (by rw [hG]; show G ≤ G + 1 + 1; omega) (.int .u32 ((V0 12 ^^^ BitVec.ofNat 32 n).toNat : Int))
      generalize wr.setCell ⟨G + 1 + 1, 12, none⟩ (.int .u32 ((V0 12 ^^^ BitVec.ofNat 32 n).toNat : Int)) = w5 at *
      obtain ⟨V1, hV1⟩ : ∃ V, V = upd V0 12 (V0 12 ^^^ BitVec.ofNat 32 n) := ⟨_, rfl⟩
      rw [← hV1] at bv1
      have HV1 := Lib.hid hV1
      clear hV1 bv bh br bm xk k12 f12 hX
      have k13 : w5.cell? ⟨G + 1 + 1, 13, none⟩ = some (.int .u32 ((V1 13).toNat : Int)) := box_u32 bv1 (by omega)
      have f13 := bv1.frozen 13
      have hX := xorD (V1 13) n hn
      go_upto_region 12 with fail
      rw [show (V1 13).toNat ^^^ n / 4294967296 % 4294967296 = (V1 13 ^^^ BitVec.ofNat 32 (n / 4294967296)).toNat by rw [BitVec.toNat_xor, BitVec.toNat_ofNat]]
      have bv2 := box_upd bv1 13 (V1 13 ^^^ BitVec.ofNat 32 (n / 4294967296))
      have bh2 := bh1.setOther (show G ≠ G + 1 + 1 by omega) (i := 13) (.int .u32 ((V1 13 ^^^ BitVec.ofNat 32 (n / 4294967296)).toNat : Int))
      have br2 := br1.setOther (show G + 1 ≠ G + 1 + 1 by omega) (i := 13) (.int .u32 ((V1 13 ^^^ BitVec.ofNat 32 (n / 4294967296)).toNat : Int))
      have bm2 := bm1.setOther (show G + 1 + 1 + 1 ≠ G + 1 + 1 by omega) (i := 13) (.int .u32 ((V1 13 ^^^ BitVec.ofNat 32 (n / 4294967296)).toNat : Int))
      have x2 := x1.setCell (p := ⟨G + 1 + 1, 13, none⟩) (by rw [hG]; show G ≤ G + 1 + 1; omega) (.int .u32 ((V1 13 ^^^ BitVec.ofNat 32 (n / 4294967296)).toNat : Int))
      generalize w5.setCell ⟨G + 1 + 1, 13, none⟩ (.int .u32 ((V1 13 ^^^ BitVec.ofNat 32 (n / 4294967296)).toNat : Int)) = w6 at *
      obtain ⟨V2, hV2⟩ : ∃ V, V = upd V1 13 (V1 13 ^^^ BitVec.ofNat 32 (n / 4294967296)) := ⟨_, rfl⟩
      rw [← hV2] at bv2
      have HV2 := Lib.hid hV2
      clear hV2 bv1 bh1 br1 bm1 x1 k13 f13 hX
      go_upto_if 83 with fail
      go_cut [84, 85, 86, 87] (fun _ _ _ _ wx => Box wx (G + 1 + 1) 61 (u32A 16 (if last then upd V2 14 (~~~ V2 14) else V2)) ∧ Box wx G 216 (u32A 8 h) ∧ Box wx (G + 1) 216 zero8 ∧ Box wx (G + 1 + 1 + 1) 61 (u32A 16 M) ∧ Ext w wx)
      case first =>
        have k14 := box_u32 bv2 (show 14 < 16 by omega)
        have f14 := bv2.frozen 14
        have hlt14 : (V2 14).toNat < 4294967296 := (V2 14).isLt
        cases last with
        | false =>
          go_wp2_with fail
          go_meet
          exact ⟨bv2, bh2, br2, bm2, x2⟩
        | true =>
          go_wp2_with fail
          go_meet
          rw [if_pos trivial, show (4294967295 : Int) - ((V2 14).toNat : Int) = ((~~~(V2 14)).toNat : Int) by rw [BitVec.toNat_not]; show _ = ((4294967295 - (V2 14).toNat : Nat) : Int); omega]
          exact ⟨box_upd bv2 14 _, bh2.setOther (by omega) _, br2.setOther (by omega) _, bm2.setOther (by omega) _, x2.setCell (by rw [hG]; show G ≤ G + 1 + 1; omega) _⟩
      case rest =>
      obtain ⟨bv3, bh3, br3, bm3, x3⟩ := hcut
      clear bv2 bh2 br2 bm2 x2
      rw [show (if last then upd V2 14 (~~~ V2 14) else V2) = firstP h n last by
        have e0 := HV0.out; have e1 := HV1.out; have e2 := HV2.out
        subst e2 e1 e0; rfl] at bv3
      clear HV0 HV1 HV2
      clear V0 V1 V2
      go_wp2_with fail
      go_loopw [13] (fun i wx => ∃ k : Nat, k ≤ 10 ∧ i = .int .i64 k ∧ Box wx (G + 1 + 1) 61 (u32A 16 (roundsP M (firstP h n last) k)) ∧ Box wx G 216 (u32A 8 h) ∧ Box wx (G + 1) 216 zero8 ∧ Box wx (G + 1 + 1 + 1) 61 (u32A 16 M) ∧ Ext w wx) (fun i _ => 10 - (intOf i).toNat)
      case atStart => exact ⟨0, by omega, rfl, bv3, bh3, br3, bm3, x3⟩
      case round =>
        clear bv3 bh3 br3 bm3 x3
        obtain ⟨k, hk, rfl, bv, bh, br, bm, xk⟩ := hrel
        by_cases hlt : k < 10
        · have hki : (k : Int) < 10 := by omega
          have HR := Lib.hid (show roundsP M (firstP h n last) (k + 1) = roundP (rowP k) M (roundsP M (firstP h n last) k) from rfl)
          have HRL := Lib.hid (fun j (hj : j < 16) => row_lt hlt hj)
          have HRS := Lib.hid (fun (i : Int) (j : Nat) (e : i = (j : Int)) (hj : j < 16) (w : World) => (idx_str (rowS k) i j e (by rw [rowS_len]; exact hj) w).trans (by rw [rowS_at hlt hj]))
          generalize roundsP M (firstP h n last) k = U at *
          go_wp2_with (go_at_call 219; refine (rows02 _).mono ?_; rintro e w7 ⟨gq, rfl, x7, hrow⟩; have hrk := hrow k hlt; clear hrow)
          have bv7 := bv.ext x7
          have bh7 := bh.ext x7
          have br7 := br.ext x7
          have bm7 := bm.ext x7
          have xx7 := xk.trans x7
          clear bv bh br bm xk x7 hrk
          go_loopw [15] (fun i wx => ∃ i' : Nat, i' ≤ 8 ∧ i = .int .i64 i' ∧ Box wx (G + 1 + 1) 61 (u32A 16 (partP (rowP k) M U i')) ∧ Box wx G 216 (u32A 8 h) ∧ Box wx (G + 1) 216 zero8 ∧ Box wx (G + 1 + 1 + 1) 61 (u32A 16 M) ∧ Ext w wx) (fun i _ => 8 - (intOf i).toNat)
          case atStart => exact ⟨0, by omega, rfl, bv7, bh7, br7, bm7, xx7⟩
          case round =>
            clear bv7 bh7 br7 bm7 xx7
            obtain ⟨i, hi, rfl, bv, bh, br, bm, xk⟩ := hrel
            by_cases hlt' : i < 8
            · have HE := Lib.hid (show partP (rowP k) M U (i + 1) = mixP (partP (rowP k) M U i) (quadP i).1 (quadP i).2.1 (quadP i).2.2.1 (quadP i).2.2.2 (M (rowP k (2 * i))) (M (rowP k (2 * i + 1))) from rfl)
              have P1 := Lib.hid (fun w => place02 (rowP k (2 * i)) (HRL.out _ (by omega)) w)
              have P2 := Lib.hid (fun w => place02 (rowP k (2 * i + 1)) (HRL.out _ (by omega)) w)
              have l1 : (rowP k (2 * i) : Int) < 16 := by have := HRL.out (2 * i) (by omega); omega
              have l2 : (rowP k (2 * i + 1) : Int) < 16 := by have := HRL.out (2 * i + 1) (by omega); omega
              have n1 : ∀ z : Later wr, z.now.cell? ⟨G + 1 + 1 + 1, rowP k (2 * i), none⟩ = some (.int .u32 ((M (rowP k (2 * i))).toNat : Int)) := fun z => box_u32 (bm.ext z.ext) (HRL.out _ (by omega))
              have n2 : ∀ z : Later wr, z.now.cell? ⟨G + 1 + 1 + 1, rowP k (2 * i + 1), none⟩ = some (.int .u32 ((M (rowP k (2 * i + 1))).toNat : Int)) := fun z => box_u32 (bm.ext z.ext) (HRL.out _ (by omega))
              have s1 := HRS.out (2 * (i : Int)) (2 * i) (by omega) (by omega)
              have s2 := HRS.out (2 * (i : Int) + 1) (2 * i + 1) (by omega) (by omega)
              have hii : (i : Int) < 8 := by omega
              generalize partP (rowP k) M U i = Ui at *
              generalize rowP k (2 * i) = q1 at *
              generalize rowP k (2 * i + 1) = q2 at *
              go_upto_region 21 with fail
              try simp only [Act.put]
              refine wp_region_later (by kernel_rfl) (by kernel_rfl) ?_
              repeat (first
                | go_big_quiet_step (with_reducible exact later_of_same (P1.out _))
                | go_big_quiet_step (with_reducible exact later_of_same (P2.out _)))
              refine wpQuiet_nil ?_
              rintro z ⟨x, rfl⟩
              clear n1 n2 s1 s2 l1 l2 P1 P2
              generalize M q1 = X at *
              generalize M q2 = Y at *
              have bvx := bv.ext x.ext
              have bhx := bh.ext x.ext
              have brx := br.ext x.ext
              have bmx := bm.ext x.ext
              have xx := xk.trans x.ext
              clear bv bh br bm xk
              rcases (show i = 0 ∨ i = 1 ∨ i = 2 ∨ i = 3 ∨ i = 4 ∨ i = 5 ∨ i = 6 ∨ i = 7 by omega) with rfl | rfl | rfl | rfl | rfl | rfl | rfl | rfl
              · go_wp2_with (first
                  | (refine wp_ld16 (.tmp 9) rfl rfl (G + 1 + 1) Ui 61 rfl bvx ?_)
                  | (go_at_call 221; refine (rmix_any Ui 0 4 8 12 X Y _ (by omega) (by omega) (by omega) (by omega)).mono ?_; rintro e w8 ⟨rfl, x8⟩; have bv8 := bvx.ext x8)
                  | (refine wp_st16 (.tmp 9) (.tmp 127) rfl rfl (G + 1 + 1) _ _ 61 rfl rfl bv8 (by rw [u32A_size]) ?_; intro w9 bv9 g9))
                go_roundw
                case rel => exact ⟨1, by omega, rfl, by rw [HE.out]; exact bv9, (bhx.ext x8).grown g9 (by intro e; injection e with e; omega), (brx.ext x8).grown g9 (by intro e; injection e with e; omega), (bmx.ext x8).grown g9 (by intro e; injection e with e; omega), (xx.trans x8).grown g9 (fun j e => by cases e; rw [hG]; omega)⟩
                case measure => simp [intOf]
              · go_wp2_with (first
                  | (refine wp_ld16 (.tmp 9) rfl rfl (G + 1 + 1) Ui 61 rfl bvx ?_)
                  | (go_at_call 221; refine (rmix_any Ui 1 5 9 13 X Y _ (by omega) (by omega) (by omega) (by omega)).mono ?_; rintro e w8 ⟨rfl, x8⟩; have bv8 := bvx.ext x8)
                  | (refine wp_st16 (.tmp 9) (.tmp 127) rfl rfl (G + 1 + 1) _ _ 61 rfl rfl bv8 (by rw [u32A_size]) ?_; intro w9 bv9 g9))
                go_roundw
                case rel => exact ⟨2, by omega, rfl, by rw [HE.out]; exact bv9, (bhx.ext x8).grown g9 (by intro e; injection e with e; omega), (brx.ext x8).grown g9 (by intro e; injection e with e; omega), (bmx.ext x8).grown g9 (by intro e; injection e with e; omega), (xx.trans x8).grown g9 (fun j e => by cases e; rw [hG]; omega)⟩
                case measure => simp [intOf]
              · go_wp2_with (first
                  | (refine wp_ld16 (.tmp 9) rfl rfl (G + 1 + 1) Ui 61 rfl bvx ?_)
                  | (go_at_call 221; refine (rmix_any Ui 2 6 10 14 X Y _ (by omega) (by omega) (by omega) (by omega)).mono ?_; rintro e w8 ⟨rfl, x8⟩; have bv8 := bvx.ext x8)
                  | (refine wp_st16 (.tmp 9) (.tmp 127) rfl rfl (G + 1 + 1) _ _ 61 rfl rfl bv8 (by rw [u32A_size]) ?_; intro w9 bv9 g9))
                go_roundw
                case rel => exact ⟨3, by omega, rfl, by rw [HE.out]; exact bv9, (bhx.ext x8).grown g9 (by intro e; injection e with e; omega), (brx.ext x8).grown g9 (by intro e; injection e with e; omega), (bmx.ext x8).grown g9 (by intro e; injection e with e; omega), (xx.trans x8).grown g9 (fun j e => by cases e; rw [hG]; omega)⟩
                case measure => simp [intOf]
              · go_wp2_with (first
                  | (refine wp_ld16 (.tmp 9) rfl rfl (G + 1 + 1) Ui 61 rfl bvx ?_)
                  | (go_at_call 221; refine (rmix_any Ui 3 7 11 15 X Y _ (by omega) (by omega) (by omega) (by omega)).mono ?_; rintro e w8 ⟨rfl, x8⟩; have bv8 := bvx.ext x8)
                  | (refine wp_st16 (.tmp 9) (.tmp 127) rfl rfl (G + 1 + 1) _ _ 61 rfl rfl bv8 (by rw [u32A_size]) ?_; intro w9 bv9 g9))
                go_roundw
                case rel => exact ⟨4, by omega, rfl, by rw [HE.out]; exact bv9, (bhx.ext x8).grown g9 (by intro e; injection e with e; omega), (brx.ext x8).grown g9 (by intro e; injection e with e; omega), (bmx.ext x8).grown g9 (by intro e; injection e with e; omega), (xx.trans x8).grown g9 (fun j e => by cases e; rw [hG]; omega)⟩
                case measure => simp [intOf]
              · go_wp2_with (first
                  | (refine wp_ld16 (.tmp 9) rfl rfl (G + 1 + 1) Ui 61 rfl bvx ?_)
                  | (go_at_call 221; refine (rmix_any Ui 0 5 10 15 X Y _ (by omega) (by omega) (by omega) (by omega)).mono ?_; rintro e w8 ⟨rfl, x8⟩; have bv8 := bvx.ext x8)
                  | (refine wp_st16 (.tmp 9) (.tmp 146) rfl rfl (G + 1 + 1) _ _ 61 rfl rfl bv8 (by rw [u32A_size]) ?_; intro w9 bv9 g9))
                go_roundw
                case rel => exact ⟨5, by omega, rfl, by rw [HE.out]; exact bv9, (bhx.ext x8).grown g9 (by intro e; injection e with e; omega), (brx.ext x8).grown g9 (by intro e; injection e with e; omega), (bmx.ext x8).grown g9 (by intro e; injection e with e; omega), (xx.trans x8).grown g9 (fun j e => by cases e; rw [hG]; omega)⟩
                case measure => simp [intOf]
              · go_wp2_with (first
                  | (refine wp_ld16 (.tmp 9) rfl rfl (G + 1 + 1) Ui 61 rfl bvx ?_)
                  | (go_at_call 221; refine (rmix_any Ui 1 6 11 12 X Y _ (by omega) (by omega) (by omega) (by omega)).mono ?_; rintro e w8 ⟨rfl, x8⟩; have bv8 := bvx.ext x8)
                  | (refine wp_st16 (.tmp 9) (.tmp 146) rfl rfl (G + 1 + 1) _ _ 61 rfl rfl bv8 (by rw [u32A_size]) ?_; intro w9 bv9 g9))
                go_roundw
                case rel => exact ⟨6, by omega, rfl, by rw [HE.out]; exact bv9, (bhx.ext x8).grown g9 (by intro e; injection e with e; omega), (brx.ext x8).grown g9 (by intro e; injection e with e; omega), (bmx.ext x8).grown g9 (by intro e; injection e with e; omega), (xx.trans x8).grown g9 (fun j e => by cases e; rw [hG]; omega)⟩
                case measure => simp [intOf]
              · go_wp2_with (first
                  | (refine wp_ld16 (.tmp 9) rfl rfl (G + 1 + 1) Ui 61 rfl bvx ?_)
                  | (go_at_call 221; refine (rmix_any Ui 2 7 8 13 X Y _ (by omega) (by omega) (by omega) (by omega)).mono ?_; rintro e w8 ⟨rfl, x8⟩; have bv8 := bvx.ext x8)
                  | (refine wp_st16 (.tmp 9) (.tmp 146) rfl rfl (G + 1 + 1) _ _ 61 rfl rfl bv8 (by rw [u32A_size]) ?_; intro w9 bv9 g9))
                go_roundw
                case rel => exact ⟨7, by omega, rfl, by rw [HE.out]; exact bv9, (bhx.ext x8).grown g9 (by intro e; injection e with e; omega), (brx.ext x8).grown g9 (by intro e; injection e with e; omega), (bmx.ext x8).grown g9 (by intro e; injection e with e; omega), (xx.trans x8).grown g9 (fun j e => by cases e; rw [hG]; omega)⟩
                case measure => simp [intOf]
              · go_wp2_with (first
                  | (refine wp_ld16 (.tmp 9) rfl rfl (G + 1 + 1) Ui 61 rfl bvx ?_)
                  | (go_at_call 221; refine (rmix_any Ui 3 4 9 14 X Y _ (by omega) (by omega) (by omega) (by omega)).mono ?_; rintro e w8 ⟨rfl, x8⟩; have bv8 := bvx.ext x8)
                  | (refine wp_st16 (.tmp 9) (.tmp 146) rfl rfl (G + 1 + 1) _ _ 61 rfl rfl bv8 (by rw [u32A_size]) ?_; intro w9 bv9 g9))
                go_roundw
                case rel => exact ⟨8, by omega, rfl, by rw [HE.out]; exact bv9, (bhx.ext x8).grown g9 (by intro e; injection e with e; omega), (brx.ext x8).grown g9 (by intro e; injection e with e; omega), (bmx.ext x8).grown g9 (by intro e; injection e with e; omega), (xx.trans x8).grown g9 (fun j e => by cases e; rw [hG]; omega)⟩
                case measure => simp [intOf]
            · obtain rfl : i = 8 := by omega
              rw [partP_8, ← HR.out] at bv
              clear hi hlt'
              go_wp2_with fail
              go_roundw
              case rel => exact ⟨k + 1, by omega, by go_num, bv, bh, br, bm, xk⟩
              case measure => simp [intOf]; omega
        · have HK10 := Lib.hid (show k = 10 by omega)
          have hki10 : ¬ ((k : Int) < 10) := by omega
          rw [HK10.out] at bv
          have HTK := Lib.hid (show ∀ i, takeP h M n last i = h i ^^^ (roundsP M (firstP h n last) 10 i ^^^ roundsP M (firstP h n last) 10 (i + 8)) from fun _ => rfl)
          obtain ⟨TK, hTK0⟩ : ∃ V, V = takeP h M n last := ⟨_, rfl⟩
          rw [← hTK0] at HTK
          have HT0 := Lib.hid hTK0
          clear hTK0 bm
          generalize roundsP M (firstP h n last) 10 = U at *
          go_wp2_with fail
          go_loopw [19] (fun i wx => ∃ q : Nat, q ≤ 8 ∧ i = .int .i64 q ∧ Box wx (G + 1 + 1) 61 (u32A 16 U) ∧ Box wx G 216 (u32A 8 (fun j => if j < q then TK j else h j)) ∧ Box wx (G + 1) 216 zero8 ∧ Ext w wx) (fun i _ => 8 - (intOf i).toNat)
          case atStart => exact ⟨0, by omega, rfl, bv, by rw [u32A_congr (V' := h) (fun i _ => by simp)]; exact bh, br, xk⟩
          case round =>
            clear bv bh br xk
            obtain ⟨q, hq, rfl, bv, bh, br, xk⟩ := hrel
            by_cases hlq : q < 8
            · have hqi : (q : Int) < 8 := by omega
              have c1 : ∀ z : Later wr, z.now.cell? ⟨G, q, none⟩ = some (.int .u32 ((h q).toNat : Int)) := fun z => (box_u32 (bh.ext z.ext) hlq).trans (by rw [if_neg (by omega)])
              have c2 : ∀ z : Later wr, z.now.cell? ⟨G + 1 + 1, q, none⟩ = some (.int .u32 ((U q).toNat : Int)) := fun z => box_u32 (bv.ext z.ext) (by omega)
              have c3 : ∀ z : Later wr, z.now.cell? ⟨G + 1 + 1, q + 8, none⟩ = some (.int .u32 ((U (q + 8)).toNat : Int)) := fun z => box_u32 (bv.ext z.ext) (by omega)
              have hX : bits .xor .u32 (bits .xor .u32 ((h q).toNat : Int) ((U q).toNat : Int)) ((U (q + 8)).toNat : Int) = (((TK q).toNat : Nat) : Int) := by rw [xor32, xor32, HTK.out, BitVec.xor_assoc]
              go_upto_region 29 with fail
              try simp only [Act.put]
              refine wp_region_later_tail 14 (by kernel_rfl) (by kernel_rfl) ?_
              simp only [List.take_succ_cons, List.take_zero, List.drop_succ_cons, List.drop_zero]
              repeat (go_big_quiet_step (fail))
              refine wpQuiet_nil ?_
              rintro z ⟨x, rfl⟩
              have bh1 := bh.ext x.ext
              have f1 := bh1.frozen q
              have i1 := box_u32 bh1 hlq
              clear c1 c2 c3
              go_wp2_with fail
              have bh2 := box_upd bh1 q (TK q)
              rw [u32A_congr (V' := fun j => if j < q + 1 then TK j else h j) (fun j _ => by
                simp only [upd]
                by_cases e : j = q
                · subst e; rw [if_pos rfl, if_pos (Nat.lt_succ_self _)]
                · rw [if_neg e]; by_cases e2 : j < q
                  · rw [if_pos e2, if_pos (show j < q + 1 by omega)]
                  · rw [if_neg e2, if_neg (show ¬ j < q + 1 by omega)])] at bh2
              go_roundw
              case rel => exact ⟨q + 1, by omega, by go_num, (bv.ext x.ext).setOther (by omega) _, bh2, (br.ext x.ext).setOther (by omega) _, (xk.trans x.ext).setCell (by rw [hG]; exact Nat.le_refl G) _⟩
              case measure => simp [intOf]; omega
            · rw [u32A_congr (V' := TK) (fun j hj => by rw [if_pos (show j < q by omega)])] at bh
              have hqi : ¬ ((q : Int) < 8) := by omega
              go_wp2_with (first
                | (refine wp_ld8 (.tmp 4) rfl rfl G TK 216 rfl bh ?_)
                | (refine wp_st8 (.tmp 8) (.tmp 165) rfl rfl (G + 1) TK _ 216 rfl rfl br rfl ?_; intro w9 b9 g9))
              rw [← HM.out, ← HT0.out]
              exact bodyPost_ret (results_cell1 rfl _ _ (G + 1) _ _ _ rfl b9 Tryz.underlying216 rfl (by rw [u32A_size]; exact a8Size)) rfl ⟨rfl, xk.grown g9 (fun j e => by cases e; omega)⟩
end Go.Proofs.YtkokmnaicfdjaaaGreatDoor
/- BLAKE2s: the document's digest of parts. -/
namespace Go.Proofs.YtkokmnaicfdjaaaGreatDoor
set_option linter.unusedVariables false
set_option linter.unusedSimpArgs false
open Go.RowKit

set_option maxHeartbeats 1000000 in
set_option maxRecDepth 100000 in
theorem joined02 (A : Option Addr) (n c : Nat) (L : List (List UInt8)) (w : World) (h : Strs w A n L) (hn : n ≤ 9223372036854775807) (hl : L.flatten.length < 1073741824) :
    Calls Tryz.prog 176 #[.slice A n c] w fun e w' => e = .returned (.string (str L.flatten)) ∧ w = w' := by
  have happ := str_app
  have hz := str_size
  have hnl := h.1
  have HS := Lib.hid h
  clear h
  go_enter Tryz.func176, Tryz.ntmps176
  go_wp2_with fail
  go_loop [3, 4] (fun s i => ∃ k : Nat, k ≤ n ∧ i = .int .i64 k ∧ s = .string (str (L.take k).flatten)) (fun _ i => n - (intOf i).toNat)
  case atStart => exact ⟨0, by omega, rfl, rfl⟩
  case round =>
    obtain ⟨k, hk, rfl, rfl⟩ := hrel
    by_cases hlt : k < n
    · obtain ⟨b, o, rfl, hcell⟩ := HS.out.2 (by omega)
      have ck := hcell k (by omega)
      have hki : (k : Int) < (n : Int) := by omega
      have HT := Lib.hid (show (L.take (k + 1)).flatten = (L.take k).flatten ++ L[k]'(by omega) by rw [List.take_succ_eq_append_getElem (by omega), List.flatten_append]; simp)
      have hb : (L.take k).flatten.length + (L[k]'(by omega)).length < 1073741824 := by
        have h1 := flat_le (L := L) (k := k + 1)
        rw [HT.out, List.length_append] at h1; omega
      clear hcell
      generalize L[k]'(by omega) = p at *
      generalize (L.take k).flatten = q at *
      go_wp2_with fail
      go_round
      case rel => exact ⟨k + 1, by omega, by go_num, by rw [HT.out]⟩
      case measure => simp [intOf]; omega
    · have hki : ¬ ((k : Int) < (n : Int)) := by omega
      rw [List.take_of_length_le (by omega)]
      go_wp2_with fail
      go_ret
      exact ⟨rfl, rfl⟩
theorem drop_str (l : List UInt8) (a : Nat) (h : a ≤ l.length) : (str l).extract a l.length = str (l.drop a) := by rw [str_ext, List.take_of_length_le (by rw [List.length_drop]; omega)]
theorem byt_pad {B : List UInt8} {k z : Nat} (hk : B.length ≤ 64 * k + 64) (hz : (B.drop (64 * k)).length + z = 64) {i : Nat} (hi : i < 64) : byt (B.drop (64 * k) ++ List.replicate z 0) i = blockP B k i := by
  unfold byt blockP
  rw [List.take_of_length_le (by omega)]
  by_cases h : i < (B.drop (64 * k)).length
  · rw [getD_app h]
  · rw [List.getD_eq_getElem?_getD, List.getElem?_append_right (by omega), List.getElem?_replicate, if_pos (by omega), List.getD_eq_getElem?_getD, List.getElem?_eq_none (by omega)]; rfl
set_option maxHeartbeats 4000000 in
set_option maxRecDepth 100000 in
theorem digest02 (h0 : Nat → BitVec 32) (B : List UInt8) (w : World) (hl : B.length < 1073741824) :
    Calls Tryz.prog 175 #[.agg (u32A 8 h0), .string (str B)] w fun e w' => e = .returned (.agg (digA h0 B)) ∧ Ext w w' := by
  have hz := str_size
  go_enter Tryz.func175, Tryz.ntmps175
  go_upto_region 1 with fail
  have bh0 := Box.new w 216 (u32A 8 h0)
  have br0 := Box.new (w.alloc (.cells (u32A 8 h0) 216)) 169 (u8A 32 fun _ => 0)
  have x0 := ((Ext.refl w).alloc (.cells (u32A 8 h0) 216)).alloc (.cells (u8A 32 fun _ => 0) 169)
  have bh := bh0.ext ((Ext.refl _).alloc (.cells (u8A 32 fun _ => 0) 169))
  change Code.wp _ _ _ _ ((w.alloc (.cells (u32A 8 h0) 216)).alloc (.cells (u8A 32 fun _ => 0) 169))
  rw [World.size_alloc] at br0
  clear bh0
  generalize (w.alloc (.cells (u32A 8 h0) 216)).alloc (.cells (u8A 32 fun _ => 0) 169) = w1 at *
  generalize hG : w.heap.size = G at *
  go_wp2_with fail
  go_loopw [5, 6, 7, 8] (fun n _ _ _ wx => ∃ k : Nat, k ≤ cntP B.length ∧ n = .int .i64 ((64 * k : Nat) : Int) ∧ Box wx G 216 (u32A 8 (hsP h0 B k)) ∧ Box wx (G + 1) 169 (u8A 32 fun _ => 0) ∧ Ext w wx) (fun n _ _ _ _ => B.length + 64 - (intOf n).toNat)
  case atStart => exact ⟨0, Nat.zero_le _, rfl, bh, br0, x0⟩
  case round =>
    clear bh br0 x0
    obtain ⟨k, hk, rfl, bh, br, xk⟩ := hrel
    have hkl : 64 * k ≤ B.length := by unfold cntP at hk; omega
    have hdr := drop_str B (64 * k) hkl
    by_cases hlt : 64 * k + 64 < B.length
    · have hbl : ((B.drop (64 * k)).take 64).length = 64 := by rw [List.length_take, List.length_drop]; omega
      have hex : (str B).extract (64 * k) (64 * k + 64) = str ((B.drop (64 * k)).take 64) := by rw [str_ext, Nat.add_sub_cancel_left]
      have HT := Lib.hid (show takeP (hsP h0 B k) (wordP (byt ((B.drop (64 * k)).take 64))) (64 * k + 64) false = hsP h0 B (k + 1) from rfl)
      have hck : k + 1 ≤ cntP B.length := by unfold cntP; omega
      have HB := Lib.hid hbl
      generalize (B.drop (64 * k)).take 64 = bl at *
      have hi1 : ¬ ((B.length : Int) ≤ ((64 * k : Nat) : Int) + 64) := by omega
      clear hbl
      obtain ⟨T, hT⟩ : ∃ T, T = 64 * k := ⟨_, rfl⟩
      have HTT := Lib.hid hT
      rw [← hT] at hkl hex hlt hi1 ⊢
      clear hT hdr
      go_wp2_with (first
        | (refine wp_ld8 (.tmp 2) rfl rfl G _ 216 rfl bh ?_)
        | (go_at_call 207; refine (take02_any (hsP h0 B k) bl (T + 64) false _ HB.out (by omega)).mono ?_; rintro e w3 ⟨rfl, x3⟩; have bh3 := bh.ext x3)
        | (refine wp_st8 (.tmp 2) (.tmp 39) rfl rfl G _ _ 216 rfl rfl bh3 (by rw [u32A_size]) ?_; intro w4 b4 g4))
      have hb4 := b4
      rw [HTT.out, HT.out] at hb4
      go_roundw
      case rel => exact ⟨k + 1, hck, by rw [show ((64 * (k + 1) : Nat) : Int) = (T : Int) + 64 by have := HTT.out; omega], hb4, (br.ext x3).grown g4 (by intro e; injection e with e; omega), (xk.trans x3).grown g4 (fun j e => by cases e; omega)⟩
      case measure => simp [intOf]; omega
    · have hi1 : (B.length : Int) ≤ ((64 * k : Nat) : Int) + 64 := by omega
      have HK := Lib.hid (show k = cntP B.length by unfold cntP at hk ⊢; omega)
      have HDl := Lib.hid (show (B.drop (64 * k)).length = B.length - 64 * k from List.length_drop)
      have HP := Lib.hid (fun z (hz : (B.drop (64 * k)).length + z = 64) => (show takeP (hsP h0 B k) (wordP (byt (B.drop (64 * k) ++ List.replicate z 0))) B.length true = finalP h0 B by
        unfold finalP
        rw [← HK.out]
        exact takeP_congr fun j hj => wordP_congr (fun i hi => byt_pad (by omega) hz hi) hj))
      obtain ⟨T, hT⟩ : ∃ T, T = 64 * k := ⟨_, rfl⟩
      rw [← hT] at hkl hdr hlt hi1 HDl HP ⊢
      clear hT
      generalize B.drop T = R at *
      have hR := HDl.out
      go_wp2_with fail
      go_loopw [8] (fun s wx => ∃ z : Nat, R.length + z ≤ 64 ∧ s = .string (str (R ++ List.replicate z 0)) ∧ wr = wx) (fun s _ => 64 - strLen s)
      case atStart => exact ⟨0, by omega, by rw [List.replicate_zero, List.append_nil], rfl⟩
      case round =>
        obtain ⟨z, hzl, rfl, rfl⟩ := hrel
        have hln : (R ++ List.replicate z (0 : UInt8)).length = R.length + z := by simp
        have HN := Lib.hid (show R ++ List.replicate (z + 1) (0 : UInt8) = (R ++ List.replicate z 0) ++ [0] by rw [List.replicate_succ', List.append_assoc])
        have hap : ∀ l : List UInt8, str l ++ ({ data := #[0] } : ByteArray) = str (l ++ [0]) := fun l => str_app l [0]
        have hone : (({ data := #[0] } : ByteArray)).size = 1 := rfl
        by_cases hz64 : R.length + z < 64
        · generalize R ++ List.replicate z (0 : UInt8) = q at *
          go_wp2_with fail
          go_roundw
          case rel => exact ⟨z + 1, by omega, by rw [HN.out], trivial⟩
          case measure => simp [strLen, hz]; omega
        · have HPz := Lib.hid (HP.out z (by omega))
          have HBz := Lib.hid (show (R ++ List.replicate z (0 : UInt8)).length = 64 by omega)
          have hq64 : ¬ (((R ++ List.replicate z (0 : UInt8)).length : Int) < 64) := by omega
          generalize R ++ List.replicate z (0 : UInt8) = q at *
          clear HN hln hap hone
          go_upto_region 15 with (first
            | (refine wp_ld8 (.tmp 2) rfl rfl G _ 216 rfl bh ?_)
            | (go_at_call 207; refine (take02_any (hsP h0 B k) q B.length true _ HBz.out (by omega)).mono ?_; rintro e w3 ⟨rfl, x3⟩; have bh3 := bh.ext x3)
            | (refine wp_st8 (.tmp 2) (.tmp 39) rfl rfl G _ _ 216 rfl rfl bh3 (by rw [u32A_size]) ?_; intro w4 b4 g4))
          rw [HPz.out] at b4
          have br4 := (br.ext x3).grown g4 (show (some (G + 1) : Option Nat) ≠ some G by intro e; injection e with e; omega)
          have x4 := (xk.trans x3).grown g4 (fun j e => by cases e; omega)
          change Code.wp _ _ _ _ (w4.alloc (.cells (u8A 32 fun _ => 0) 169))
          have d5 := Box.new w4 169 (u8A 32 fun _ => 0)
          have x45 : Ext w4 (w4.alloc (.cells (u8A 32 fun _ => 0) 169)) := (Ext.refl w4).alloc _
          have bh5 := b4.ext x45
          have br5 := br4.ext x45
          have x5 := x4.trans x45
          have hgd : G + 1 < w4.heap.size := br4.lt
          generalize w4.alloc (.cells (u8A 32 fun _ => 0) 169) = w5 at *
          generalize w4.heap.size = gd at *
          have HFi := Lib.hid (show digA h0 B = u8A 32 (fun p => (finalP h0 B (p / 4)).toNat / 256 ^ (p % 4) % 256) from rfl)
          obtain ⟨F, hF⟩ : ∃ F, F = finalP h0 B := ⟨_, rfl⟩
          rw [← hF] at bh5 HFi
          clear hF br br4 bh bh3 b4 xk x3 x4 x45 g4 hdr HP HPz HBz HDl HK hq64 hi1 hlt hkl hR
          go_wp2_with fail
          go_loopw [10] (fun i wx => ∃ q : Nat, q ≤ 32 ∧ i = .int .i64 q ∧ Box wx gd 169 (u8A 32 (fun p => if p < q then (F (p / 4)).toNat / 256 ^ (p % 4) % 256 else 0)) ∧ Box wx G 216 (u32A 8 F) ∧ Box wx (G + 1) 169 (u8A 32 fun _ => 0) ∧ Ext w wx) (fun i _ => 32 - (intOf i).toNat)
          case atStart => exact ⟨0, by omega, rfl, by rw [u8A_congr (D' := fun _ => 0) (fun i _ => by simp)]; exact d5, bh5, br5, x5⟩
          case round =>
            clear d5 bh5 br5 x5
            obtain ⟨i, hi, rfl, dq, bh, br, xk⟩ := hrel
            by_cases hli : i < 32
            · have hii : (i : Int) < 32 := by omega
              have ch : _root_.Go.World.cell? _ ⟨G, i / 4, none⟩ = some (.int .u32 ((F (i / 4)).toNat : Int)) := box_u32 bh (by omega)
              have fz := dq.frozen i
              have iz := (dq.cell i).trans (u8A_get hli)
              have key : ∀ x : Nat, x = (F (i / 4)).toNat / 256 ^ (i % 4) % 256 → Box (_root_.Go.World.setCell _ ⟨gd, i, none⟩ (.int .u8 (x : Int))) gd 169 (u8A 32 (fun p => if p < i + 1 then (F (p / 4)).toNat / 256 ^ (p % 4) % 256 else 0)) := fun x hx => by
                have h1 := dq.set i (.int .u8 (x : Int))
                rw [u8A_set, u8A_congr (D' := fun p => if p < i + 1 then (F (p / 4)).toNat / 256 ^ (p % 4) % 256 else 0) (fun p _ => by
                  simp only [updN]
                  by_cases e : p = i
                  · subst e; rw [if_pos rfl, if_pos (Nat.lt_succ_self _), hx]
                  · rw [if_neg e]; by_cases e2 : p < i
                    · rw [if_pos e2, if_pos (show p < i + 1 by omega)]
                    · rw [if_neg e2, if_neg (show ¬ p < i + 1 by omega)])] at h1
                exact h1
              have KEY := Lib.hid key
              clear key
              have HX := Lib.hid (F (i / 4)).isLt
              generalize (F (i / 4)).toNat = X at *
              go_wp2_with fail
              clear ch
              go_loop [11, 12] (fun x t => ∃ j : Nat, j ≤ i % 4 ∧ t = .int .i64 j ∧ x = .int .u32 ((X / 256 ^ j : Nat) : Int)) (fun _ t => i % 4 - (intOf t).toNat)
              case atStart => exact ⟨0, by omega, rfl, by simp⟩
              case round =>
                obtain ⟨j, hj, rfl, rfl⟩ := hrel
                have hy : X / 256 ^ j < 4294967296 := Nat.lt_of_le_of_lt (Nat.div_le_self _ _) HX.out
                by_cases hlj : j < i % 4
                · have HN := Lib.hid (show X / 256 ^ (j + 1) = X / 256 ^ j / 256 by rw [Nat.pow_succ, Nat.div_div_eq_div_mul])
                  have hji : (j : Int) < (i : Int) % 4 := by omega
                  generalize X / 256 ^ j = y at *
                  go_wp2_with fail
                  go_round
                  case rel => exact ⟨j + 1, by omega, by go_num, by rw [HN.out]; go_num⟩
                  case measure => simp [intOf]; omega
                · have hje : j = i % 4 := by omega
                  have hji : ¬ ((j : Int) < (i : Int) % 4) := by omega
                  have hk2 := KEY.out (X / 256 ^ j % 256) (by rw [hje])
                  clear hje
                  generalize X / 256 ^ j = y at *
                  rw [show ((y % 256 : Nat) : Int) = (y : Int) % 256 by omega] at hk2
                  go_wp2_with fail
                  go_roundw
                  case rel => exact ⟨i + 1, by omega, by go_num, hk2, bh.setOther (by omega) _, br.setOther (by omega) _, xk.setCell (by rw [hG]; show G ≤ gd; omega) _⟩
                  case measure => simp [intOf]; omega
            · rw [u8A_congr (D' := fun p => (F (p / 4)).toNat / 256 ^ (p % 4) % 256) (fun j hj => by rw [if_pos (show j < i by omega)])] at dq
              have hii : ¬ ((i : Int) < 32) := by omega
              go_wp2_with (first
                | (refine wp_ld_dig (.tmp 9) rfl rfl gd _ 169 rfl dq ?_)
                | (refine wp_st_dig (.tmp 4) (.tmp 63) rfl rfl (G + 1) _ _ 169 rfl rfl br rfl ?_; intro w9 b9 g9))
              exact bodyPost_ret (results_cell1 rfl _ _ (G + 1) _ _ _ rfl b9 Tryz.underlying169 rfl (by rw [u8A_size]; exact digSize)) rfl ⟨congrArg (fun a => Ending.returned (.agg a)) HFi.out.symm, xk.grown g9 (fun j e => by cases e; omega)⟩
end Go.Proofs.YtkokmnaicfdjaaaGreatDoor
/- BLAKE2s: the document's Sum. -/
namespace Go.Proofs.YtkokmnaicfdjaaaGreatDoor
set_option linter.unusedVariables false
set_option linter.unusedSimpArgs false
open Go.RowKit

section
variable {C : World → Prop} {o : Oper} {a : Act} {K : Act → Prop}
theorem quiet_ld8 (x : Operand) (h : o.op = .load 216 x) (b : Nat) (hx : a.eval x = .pointer (some ⟨b, 0, none⟩)) (V : Nat → BitVec 32) (t : TypeId) (hc : ∀ w, C w → Box w b t (u32A 8 V)) (hk : K (a.put o.dst (.agg (u32A 8 V)))) : o.quiet Tryz.prog a C K :=
  ⟨_, fun w hw => by
    have hr : w.rangeAt b 0 (u32A 8 V).toList := fun j v hj => by rw [Nat.zero_add, (hc w hw).cell j, ← hj, Array.getElem?_toList]
    unfold Oper.quietAt execOp
    simp only [h, hx, Instr.loadAt, Instr.sureAddr, Sem.run_bind, Sem.run_pure, Result.andThen_ok, run_loadVar_mid w b 0 216 (u32A 8 V).toList _ hr Tryz.underlying216 rfl (by rw [Array.length_toList, u32A_size]; exact a8Size)]
    exact ⟨rfl, rfl⟩, by simpa using hk⟩
end
set_option maxHeartbeats 2000000 in
set_option maxRecDepth 100000 in
theorem sum02_any (A : Option Addr) (n c : Nat) (L : List (List UInt8)) (w : World) (h : Strs w A n L) (hl : L.flatten.length < 1073741824) (hn : n ≤ 9223372036854775807) :
    Calls Tryz.prog 128 #[.slice A n c] w fun e w' => e = .returned (.agg (digA startP L.flatten)) ∧ Ext w w' := by
  go_enter Tryz.func128, Tryz.ntmps128
  go_upto_region 1 with fail
  change Code.wp _ _ _ _ (w.alloc (.cells (u8A 32 fun _ => 0) 169))
  have r0 := Box.new w 169 (u8A 32 fun _ => 0)
  have x0 : Ext w (w.alloc (.cells (u8A 32 fun _ => 0) 169)) := (Ext.refl w).alloc _
  generalize w.alloc (.cells (u8A 32 fun _ => 0) 169) = w1 at *
  generalize hG : w.heap.size = G at *
  go_upto_region 2 with (first
    | (go_at_call 174; refine (eight02 _).mono ?_; rintro e w2 ⟨rfl, x2⟩)
    | (refine wp_st8 (.tmp 3) (.tmp 4) rfl rfl w2.heap.size eightP _ 216 rfl rfl (Box.new _ _ _) (by kernel_rfl) ?_; intro w3 b3 g3))
  have y3 : Ext w2 w3 := ((Ext.refl w2).alloc _).grown g3 (fun j e => by cases e; exact Nat.le_refl _)
  have x3 := (x0.trans x2).trans y3
  have r3 := (r0.ext x2).ext y3
  have hGg : G < w2.heap.size := (r0.ext x2).lt
  have c0 : w3.cell? ⟨w2.heap.size, 0, none⟩ = some (.int .u32 ((eightP 0).toNat : Int)) := box_u32 b3 (by omega)
  have f0 := b3.frozen 0
  have hX : bits .xor .u32 ((eightP 0).toNat : Int) 16842784 = ((startP 0).toNat : Int) := by kernel_rfl
  clear r0 x0 x2 y3 g3
  generalize w2.heap.size = g at *
  go_upto_region 3 with fail
  have hb4 := box_upd b3 0 (startP 0)
  rw [show upd eightP 0 (startP 0) = startP from rfl] at hb4
  have r4 := r3.setOther (show G ≠ g by omega) (i := 0) (.int .u32 ((startP 0).toNat : Int))
  have x4 := x3.setCell (p := ⟨g, 0, none⟩) (by rw [hG]; show G ≤ g; omega) (.int .u32 ((startP 0).toNat : Int))
  generalize w3.setCell ⟨g, 0, none⟩ (.int .u32 ((startP 0).toNat : Int)) = w4 at *
  clear c0 f0 hX b3 r3 x3
  have hs4 := h.ext x4
  have HJ : ∀ x : Later w4, Hid (Calls Tryz.prog 176 #[.slice A n c] x.now fun e w' => e = .returned (.string (str L.flatten)) ∧ x.now = w') := fun x => Lib.hid (joined02 A n c L _ (hs4.ext x.ext) hn hl)
  have HD : ∀ x : Later w4, Hid (Calls Tryz.prog 175 #[.agg (u32A 8 startP), .string (str L.flatten)] x.now fun e w' => e = .returned (.agg (digA startP L.flatten)) ∧ Ext x.now w') := fun x => Lib.hid (digest02 startP L.flatten _ hl)
  have hbA : ∀ wx, (∃ x : Later w4, wx = x.now) → Box wx g 216 (u32A 8 startP) := fun wx ⟨x, e⟩ => by rw [e]; exact hb4.ext x.ext
  have HBA := Lib.hid hbA
  clear hbA hs4 h
  try simp only [Act.put]
  refine wp_region_later_tail 4 (by kernel_rfl) (by kernel_rfl) ?_
  simp only [List.take_succ_cons, List.take_zero, List.drop_succ_cons, List.drop_zero]
  repeat (first
    | (go_big_quiet_want; refine quiet_ld8 (.tmp 3) rfl g rfl startP 216 HBA.out ?_; simp only [Act.put, List.setIfInBounds_toArray, List.set_cons_zero, List.set_cons_succ]; go_big_quiet_on)
    | go_big_quiet_step (with_reducible exact later_of_same (HJ _).out)
    | go_big_quiet_step (with_reducible exact later_of (HD _).out))
  refine wpQuiet_nil ?_
  rintro z ⟨x, rfl⟩
  have r5 := r4.ext x.ext
  have hD : digA startP L.flatten = u8A 32 (fun p => (finalP startP L.flatten (p / 4)).toNat / 256 ^ (p % 4) % 256) := rfl
  generalize (fun p => (finalP startP L.flatten (p / 4)).toNat / 256 ^ (p % 4) % 256) = D at hD
  rw [hD]
  have HD' := Lib.hid hD
  clear hD
  go_wp2_with (refine wp_st_dig (.tmp 2) (.tmp 12) rfl rfl G D _ 169 rfl rfl r5 rfl ?_; intro w9 b9 g9)
  exact bodyPost_ret (results_cell1 rfl _ _ G _ _ _ rfl b9 Tryz.underlying169 rfl (by rw [u8A_size]; exact digSize)) rfl ⟨congrArg (fun a => Ending.returned (.agg a)) HD'.out.symm, (x4.trans x.ext).grown g9 (fun j e => by cases e; omega)⟩
end Go.Proofs.YtkokmnaicfdjaaaGreatDoor
/- Drives: copied, by the program. -/
namespace Go.Proofs.YtkokmnaicfdjaaaGreatDoor
set_option linter.unusedVariables false
set_option linter.unusedSimpArgs false
open Go.RowKit

/-- a drive as plain data -/
structure DrvD where
  bl : List (List UInt8)
  pe : List WrT
  left : Int
/-- the value is a drive that holds this -/
def drvV (B0 : Nat) (D : DrvD) (w : World) (u : Value) : Prop := ∃ bl pe : Sl, u = .agg #[.slice bl.A bl.n bl.c, .slice pe.A pe.n pe.c, .int .i64 D.left] ∧ RowF B0 stL 9 w bl D.bl ∧ RowF B0 wrL 57 w pe D.pe
def strsV (B0 : Nat) (B : List (List UInt8)) (w : World) (u : Value) : Prop := ∃ s : Sl, u = .slice s.A s.n s.c ∧ RowF B0 stL 9 w s B
def wrsV (B0 : Nat) (p : List WrT) (w : World) (u : Value) : Prop := ∃ s : Sl, u = .slice s.A s.n s.c ∧ RowF B0 wrL 57 w s p
theorem lasts_drv (B0 : Nat) (D : DrvD) : Lasts (drvV B0 D) := fun _ _ _ x ⟨s, t, e, h, k⟩ => ⟨s, t, e, h.ext x, k.ext x⟩
/-- the same, of rows of the call's own from block base on -/
def drvO (B0 base : Nat) (D : DrvD) (w : World) (u : Value) : Prop := ∃ bl pe : Sl, u = .agg #[.slice bl.A bl.n bl.c, .slice pe.A pe.n pe.c, .int .i64 D.left] ∧ RowF B0 stL 9 w bl D.bl ∧ RowF B0 wrL 57 w pe D.pe ∧ w.ownsRow base 9 1 (.slice bl.A bl.n bl.c) bl.n (D.bl.flatMap stL) ∧ w.ownsRow base 57 2 (.slice pe.A pe.n pe.c) pe.n (D.pe.flatMap wrL)
def strsO (B0 base : Nat) (B : List (List UInt8)) (w : World) (u : Value) : Prop := ∃ s : Sl, u = .slice s.A s.n s.c ∧ RowF B0 stL 9 w s B ∧ w.ownsRow base 9 1 (.slice s.A s.n s.c) s.n (B.flatMap stL)
def wrsO (B0 base : Nat) (p : List WrT) (w : World) (u : Value) : Prop := ∃ s : Sl, u = .slice s.A s.n s.c ∧ RowF B0 wrL 57 w s p ∧ w.ownsRow base 57 2 (.slice s.A s.n s.c) s.n (p.flatMap wrL)
theorem drvO.toV {B0 base : Nat} {D : DrvD} {w : World} {u : Value} (h : drvO B0 base D w u) : drvV B0 D w u := by
  obtain ⟨s, t, e, h, k, _, _⟩ := h
  exact ⟨s, t, e, h, k⟩
theorem lasts_drO (B0 base : Nat) (D : DrvD) : Lasts (drvO B0 base D) := fun _ _ _ x ⟨s, t, e, h, k, o, q⟩ => ⟨s, t, e, h.ext x, k.ext x, own_ext o x, own_ext q x⟩
theorem lasts_strO (B0 base : Nat) (B : List (List UInt8)) : Lasts (strsO B0 base B) := fun _ _ _ x ⟨s, e, h, o⟩ => ⟨s, e, h.ext x, own_ext o x⟩
theorem lasts_wrO (B0 base : Nat) (p : List WrT) : Lasts (wrsO B0 base p) := fun _ _ _ x ⟨s, e, h, o⟩ => ⟨s, e, h.ext x, own_ext o x⟩
theorem lasts_strs (B0 : Nat) (B : List (List UInt8)) : Lasts (strsV B0 B) := fun _ _ _ x ⟨s, e, h⟩ => ⟨s, e, h.ext x⟩
theorem lasts_wrs (B0 : Nat) (p : List WrT) : Lasts (wrsV B0 p) := fun _ _ _ x ⟨s, e, h⟩ => ⟨s, e, h.ext x⟩
set_option maxHeartbeats 4000000 in
set_option maxRecDepth 100000 in
theorem dcopied_any (B0 : Nat) (bl pe : Sl) (left : Int) (B : List (List UInt8)) (p : List WrT) (w : World) (hB0 : B0 ≤ w.heap.size) (hb : RowK stL w bl B) (hp : RowK wrL w pe p) :
    Calls Tryz.prog 123 #[.agg #[.slice bl.A bl.n bl.c, .slice pe.A pe.n pe.c, .int .i64 left]] w fun e w' => ∃ v, e = .returned v ∧ drvO B0 w.heap.size ⟨B, p, left⟩ w' v ∧ Ext w w' := by
  go_enter Tryz.func123, Tryz.ntmps123
  go_upto_region 1 with fail
  have b0 := Box.new w 28 #[.slice bl.A bl.n bl.c, .slice pe.A pe.n pe.c, .int .i64 left]
  have r0 := Box.new (w.alloc (.cells #[.slice bl.A bl.n bl.c, .slice pe.A pe.n pe.c, .int .i64 left] 28)) 28 #[.slice none 0 0, .slice none 0 0, .int .i64 0]
  have x0 := ((Ext.refl w).alloc (.cells #[.slice bl.A bl.n bl.c, .slice pe.A pe.n pe.c, .int .i64 left] 28)).alloc (.cells #[.slice none 0 0, .slice none 0 0, .int .i64 0] 28)
  have b1 := b0.ext ((Ext.refl _).alloc (.cells #[.slice none 0 0, .slice none 0 0, .int .i64 0] 28))
  rw [World.size_alloc] at r0
  clear b0
  generalize (w.alloc (.cells #[.slice bl.A bl.n bl.c, .slice pe.A pe.n pe.c, .int .i64 left] 28)).alloc (.cells #[.slice none 0 0, .slice none 0 0, .int .i64 0] 28) = w1 at *
  generalize hG : w.heap.size = G at *
  refine wp_region_web' 9 [[], [0], [1], [], [3], [4], [], [6], [2, 5, 7]] (listV [isV (.pointer (some ⟨G, 0, none⟩)), isV (.slice bl.A bl.n bl.c), strsO B0 G B, isV (.pointer (some ⟨G, 1, none⟩)), isV (.slice pe.A pe.n pe.c), wrsO B0 G p, isV (.pointer (some ⟨G, 2, none⟩)), isV (.int .i64 left), drvO B0 G ⟨B, p, left⟩]) (by kernel_rfl) (by kernel_rfl) (listV_ext (fun p hp => by simp only [List.mem_cons, List.not_mem_nil, or_false] at hp; rcases hp with rfl | rfl | rfl | rfl | rfl | rfl | rfl | rfl | rfl <;> first | exact lasts_drO _ _ _ | exact lasts_is _ | exact lasts_strO _ _ _ | exact lasts_wrO _ _ _)) (fun us => ?_)
  simp only [List.take_succ_cons, List.take_zero, List.drop_succ_cons, List.drop_zero]
  rw [webWalk]
  refine And.intro (fun w' hx hd => ?_) ?_
  · clear hd
    refine web_of_list 3 rfl (by simp) rfl ?_
    go_wp2_with fail
    exact ⟨Ext.refl _, rfl⟩
  simp only [Act.put, List.setIfInBounds_toArray, List.set_cons_zero, List.set_cons_succ]
  rw [webWalk]
  refine And.intro (fun w' hx hd => ?_) ?_
  · have h0 := hd 0 (by simp)
    clear hd
    generalize us 0 = u0 at *
    obtain rfl : u0 = .pointer (some ⟨G, 0, none⟩) := h0
    have q0 : w'.cell? ⟨G, 0, none⟩ = some (.slice bl.A bl.n bl.c) := (b1.ext hx).cell 0
    refine web_of_list 4 rfl (by simp [Act.put]) rfl ?_
    go_wp2_with fail
    exact ⟨Ext.refl _, rfl⟩
  simp only [Act.put, List.setIfInBounds_toArray, List.set_cons_zero, List.set_cons_succ]
  rw [webWalk]
  refine And.intro (fun w' hx hd => ?_) ?_
  · have h1 := hd 1 (by simp)
    clear hd
    generalize us 1 = u1 at *
    obtain rfl : u1 = .slice bl.A bl.n bl.c := h1
    have kk := hb.ext (x0.trans hx)
    refine web_of_list 5 rfl (by simp [Act.put]) rfl ?_
    go_wp2_with (at_builtin; refine wp_app_copy stL 23 9 1 16 (.string ⟨#[]⟩) w'.heap.size bl Tryz.underlying23 strInfo (by omega) rfl rfl _ _ rfl rfl rfl kk.row kk.ok (fun _ _ => rfl) (fun x _ => stL_one x) (by have := kk.small; omega) (Nat.le_refl _) ?_; intro s' w9 hn' hk' hr' ho' x'; have HN := Lib.hid hn'; clear hn')
    have e0 := HN.out
    have hsm := kk.small
    exact ⟨s', rfl, RowF.own hr' hk' (by omega) ho', own_base ho' (by have h1 := x0.size; have h2 := hx.size; omega)⟩
  simp only [Act.put, List.setIfInBounds_toArray, List.set_cons_zero, List.set_cons_succ]
  rw [webWalk]
  refine And.intro (fun w' hx hd => ?_) ?_
  · clear hd
    refine web_of_list 6 rfl (by simp [Act.put]) rfl ?_
    go_wp2_with fail
    exact ⟨Ext.refl _, rfl⟩
  simp only [Act.put, List.setIfInBounds_toArray, List.set_cons_zero, List.set_cons_succ]
  rw [webWalk]
  refine And.intro (fun w' hx hd => ?_) ?_
  · have h3 := hd 3 (by simp)
    clear hd
    generalize us 3 = u3 at *
    obtain rfl : u3 = .pointer (some ⟨G, 1, none⟩) := h3
    have q1 : w'.cell? ⟨G, 1, none⟩ = some (.slice pe.A pe.n pe.c) := (b1.ext hx).cell 1
    refine web_of_list 7 rfl (by simp [Act.put]) rfl ?_
    go_wp2_with fail
    exact ⟨Ext.refl _, rfl⟩
  simp only [Act.put, List.setIfInBounds_toArray, List.set_cons_zero, List.set_cons_succ]
  rw [webWalk]
  refine And.intro (fun w' hx hd => ?_) ?_
  · have h4 := hd 4 (by simp)
    clear hd
    generalize us 4 = u4 at *
    obtain rfl : u4 = .slice pe.A pe.n pe.c := h4
    have kk := hp.ext (x0.trans hx)
    refine web_of_list 8 rfl (by simp [Act.put]) rfl ?_
    go_wp2_with (at_builtin; refine wp_app_copy wrL 26 57 2 24 (.agg #[.int .i64 0, .string ⟨#[]⟩]) w'.heap.size pe Tryz.underlying26 wrInfo (by omega) rfl rfl _ _ rfl rfl rfl kk.row kk.ok (fun _ _ => rfl) (fun x _ => wrL_one x) (by have := kk.small; omega) (Nat.le_refl _) ?_; intro s' w9 hn' hk' hr' ho' x'; have HN := Lib.hid hn'; clear hn')
    have e0 := HN.out
    have hsm := kk.small
    exact ⟨s', rfl, RowF.own hr' hk' (by omega) ho', own_base ho' (by have h1 := x0.size; have h2 := hx.size; omega)⟩
  simp only [Act.put, List.setIfInBounds_toArray, List.set_cons_zero, List.set_cons_succ]
  rw [webWalk]
  refine And.intro (fun w' hx hd => ?_) ?_
  · clear hd
    refine web_of_list 9 rfl (by simp [Act.put]) rfl ?_
    go_wp2_with fail
    exact ⟨Ext.refl _, rfl⟩
  simp only [Act.put, List.setIfInBounds_toArray, List.set_cons_zero, List.set_cons_succ]
  rw [webWalk]
  refine And.intro (fun w' hx hd => ?_) ?_
  · have h6 := hd 6 (by simp)
    clear hd
    generalize us 6 = u6 at *
    obtain rfl : u6 = .pointer (some ⟨G, 2, none⟩) := h6
    have q2 : w'.cell? ⟨G, 2, none⟩ = some (.int .i64 left) := (b1.ext hx).cell 2
    refine web_of_list 10 rfl (by simp [Act.put]) rfl ?_
    go_wp2_with fail
    exact ⟨Ext.refl _, rfl⟩
  simp only [Act.put, List.setIfInBounds_toArray, List.set_cons_zero, List.set_cons_succ]
  rw [webWalk]
  refine And.intro (fun w' hx hd => ?_) ?_
  · have h2 := hd 2 (by simp)
    have h5 := hd 5 (by simp)
    have h7 := hd 7 (by simp)
    clear hd
    generalize us 2 = u2 at *
    generalize us 5 = u5 at *
    generalize us 7 = u7 at *
    obtain ⟨s1, rfl, k1, o1⟩ := h2
    obtain ⟨s2, rfl, k2, o2⟩ := h5
    obtain rfl : u7 = .int .i64 left := h7
    refine web_of_list 11 rfl (by simp [Act.put]) rfl ?_
    go_wp2_with fail
    exact ⟨Ext.refl _, s1, s2, rfl, k1, k2, o1, o2⟩
  simp only [Act.put, List.setIfInBounds_toArray, List.set_cons_zero, List.set_cons_succ]
  rw [webWalk]
  intro w' hx hv
  have h8 := hv 8 (by omega)
  clear hv
  generalize us 0 = u0 at *
  generalize us 1 = u1 at *
  generalize us 2 = u2 at *
  generalize us 3 = u3 at *
  generalize us 4 = u4 at *
  generalize us 5 = u5 at *
  generalize us 6 = u6 at *
  generalize us 7 = u7 at *
  generalize us 8 = u8 at *
  obtain ⟨s1, s2, rfl, k1, k2, o1, o2⟩ := h8
  have r9 := r0.ext hx
  go_wp2_with (refine wp_st_drv (.tmp 2) (.tmp 11) rfl rfl (G + 1) s1 s2 left _ 28 rfl rfl r9 rfl ?_; intro w9 b9 g9)
  have x9 := (x0.trans hx).grown g9 (fun j e => by cases e; omega)
  exact bodyPost_ret (results_cell1 rfl _ _ (G + 1) _ _ _ rfl b9 Tryz.underlying28 rfl drvSize) rfl ⟨_, rfl, ⟨s1, s2, rfl, k1.grown (by decide) r9 g9, k2.grown (by decide) r9 g9, o1.kept g9 (.inr (own_ne o1 r9 (by decide)).symm), o2.kept g9 (.inr (own_ne o2 r9 (by decide)).symm)⟩, x9⟩
set_option maxHeartbeats 4000000 in
set_option maxRecDepth 100000 in
theorem wcopied_any (B0 : Nat) (bl pe : Sl) (left : Int) (B : List (List UInt8)) (p : List WrT) (w : World) (hB0 : B0 ≤ w.heap.size) (hb : RowK stL w bl B) (hp : RowK wrL w pe p) :
    Calls Tryz.prog 72 #[.agg #[.slice bl.A bl.n bl.c, .slice pe.A pe.n pe.c, .int .i64 left]] w fun e w' => ∃ v, e = .returned v ∧ drvO B0 w.heap.size ⟨B, p, left⟩ w' v ∧ Ext w w' := by
  go_enter Tryz.func72, Tryz.ntmps72
  go_upto_region 1 with fail
  have b0 := Box.new w 28 #[.slice bl.A bl.n bl.c, .slice pe.A pe.n pe.c, .int .i64 left]
  have r0 := Box.new (w.alloc (.cells #[.slice bl.A bl.n bl.c, .slice pe.A pe.n pe.c, .int .i64 left] 28)) 28 #[.slice none 0 0, .slice none 0 0, .int .i64 0]
  have x0 := ((Ext.refl w).alloc (.cells #[.slice bl.A bl.n bl.c, .slice pe.A pe.n pe.c, .int .i64 left] 28)).alloc (.cells #[.slice none 0 0, .slice none 0 0, .int .i64 0] 28)
  have b1 := b0.ext ((Ext.refl _).alloc (.cells #[.slice none 0 0, .slice none 0 0, .int .i64 0] 28))
  rw [World.size_alloc] at r0
  clear b0
  generalize (w.alloc (.cells #[.slice bl.A bl.n bl.c, .slice pe.A pe.n pe.c, .int .i64 left] 28)).alloc (.cells #[.slice none 0 0, .slice none 0 0, .int .i64 0] 28) = w1 at *
  generalize hG : w.heap.size = G at *
  refine wp_region_web' 9 [[], [0], [1], [], [3], [4], [], [6], [2, 5, 7]] (listV [isV (.pointer (some ⟨G, 0, none⟩)), isV (.slice bl.A bl.n bl.c), strsO B0 G B, isV (.pointer (some ⟨G, 1, none⟩)), isV (.slice pe.A pe.n pe.c), wrsO B0 G p, isV (.pointer (some ⟨G, 2, none⟩)), isV (.int .i64 left), drvO B0 G ⟨B, p, left⟩]) (by kernel_rfl) (by kernel_rfl) (listV_ext (fun p hp => by simp only [List.mem_cons, List.not_mem_nil, or_false] at hp; rcases hp with rfl | rfl | rfl | rfl | rfl | rfl | rfl | rfl | rfl <;> first | exact lasts_drO _ _ _ | exact lasts_is _ | exact lasts_strO _ _ _ | exact lasts_wrO _ _ _)) (fun us => ?_)
  simp only [List.take_succ_cons, List.take_zero, List.drop_succ_cons, List.drop_zero]
  rw [webWalk]
  refine And.intro (fun w' hx hd => ?_) ?_
  · clear hd
    refine web_of_list 3 rfl (by simp) rfl ?_
    go_wp2_with fail
    exact ⟨Ext.refl _, rfl⟩
  simp only [Act.put, List.setIfInBounds_toArray, List.set_cons_zero, List.set_cons_succ]
  rw [webWalk]
  refine And.intro (fun w' hx hd => ?_) ?_
  · have h0 := hd 0 (by simp)
    clear hd
    generalize us 0 = u0 at *
    obtain rfl : u0 = .pointer (some ⟨G, 0, none⟩) := h0
    have q0 : w'.cell? ⟨G, 0, none⟩ = some (.slice bl.A bl.n bl.c) := (b1.ext hx).cell 0
    refine web_of_list 4 rfl (by simp [Act.put]) rfl ?_
    go_wp2_with fail
    exact ⟨Ext.refl _, rfl⟩
  simp only [Act.put, List.setIfInBounds_toArray, List.set_cons_zero, List.set_cons_succ]
  rw [webWalk]
  refine And.intro (fun w' hx hd => ?_) ?_
  · have h1 := hd 1 (by simp)
    clear hd
    generalize us 1 = u1 at *
    obtain rfl : u1 = .slice bl.A bl.n bl.c := h1
    have kk := hb.ext (x0.trans hx)
    refine web_of_list 5 rfl (by simp [Act.put]) rfl ?_
    go_wp2_with (at_builtin; refine wp_app_copy stL 23 9 1 16 (.string ⟨#[]⟩) w'.heap.size bl Tryz.underlying23 strInfo (by omega) rfl rfl _ _ rfl rfl rfl kk.row kk.ok (fun _ _ => rfl) (fun x _ => stL_one x) (by have := kk.small; omega) (Nat.le_refl _) ?_; intro s' w9 hn' hk' hr' ho' x'; have HN := Lib.hid hn'; clear hn')
    have e0 := HN.out
    have hsm := kk.small
    exact ⟨s', rfl, RowF.own hr' hk' (by omega) ho', own_base ho' (by have h1 := x0.size; have h2 := hx.size; omega)⟩
  simp only [Act.put, List.setIfInBounds_toArray, List.set_cons_zero, List.set_cons_succ]
  rw [webWalk]
  refine And.intro (fun w' hx hd => ?_) ?_
  · clear hd
    refine web_of_list 6 rfl (by simp [Act.put]) rfl ?_
    go_wp2_with fail
    exact ⟨Ext.refl _, rfl⟩
  simp only [Act.put, List.setIfInBounds_toArray, List.set_cons_zero, List.set_cons_succ]
  rw [webWalk]
  refine And.intro (fun w' hx hd => ?_) ?_
  · have h3 := hd 3 (by simp)
    clear hd
    generalize us 3 = u3 at *
    obtain rfl : u3 = .pointer (some ⟨G, 1, none⟩) := h3
    have q1 : w'.cell? ⟨G, 1, none⟩ = some (.slice pe.A pe.n pe.c) := (b1.ext hx).cell 1
    refine web_of_list 7 rfl (by simp [Act.put]) rfl ?_
    go_wp2_with fail
    exact ⟨Ext.refl _, rfl⟩
  simp only [Act.put, List.setIfInBounds_toArray, List.set_cons_zero, List.set_cons_succ]
  rw [webWalk]
  refine And.intro (fun w' hx hd => ?_) ?_
  · have h4 := hd 4 (by simp)
    clear hd
    generalize us 4 = u4 at *
    obtain rfl : u4 = .slice pe.A pe.n pe.c := h4
    have kk := hp.ext (x0.trans hx)
    refine web_of_list 8 rfl (by simp [Act.put]) rfl ?_
    go_wp2_with (at_builtin; refine wp_app_copy wrL 26 57 2 24 (.agg #[.int .i64 0, .string ⟨#[]⟩]) w'.heap.size pe Tryz.underlying26 wrInfo (by omega) rfl rfl _ _ rfl rfl rfl kk.row kk.ok (fun _ _ => rfl) (fun x _ => wrL_one x) (by have := kk.small; omega) (Nat.le_refl _) ?_; intro s' w9 hn' hk' hr' ho' x'; have HN := Lib.hid hn'; clear hn')
    have e0 := HN.out
    have hsm := kk.small
    exact ⟨s', rfl, RowF.own hr' hk' (by omega) ho', own_base ho' (by have h1 := x0.size; have h2 := hx.size; omega)⟩
  simp only [Act.put, List.setIfInBounds_toArray, List.set_cons_zero, List.set_cons_succ]
  rw [webWalk]
  refine And.intro (fun w' hx hd => ?_) ?_
  · clear hd
    refine web_of_list 9 rfl (by simp [Act.put]) rfl ?_
    go_wp2_with fail
    exact ⟨Ext.refl _, rfl⟩
  simp only [Act.put, List.setIfInBounds_toArray, List.set_cons_zero, List.set_cons_succ]
  rw [webWalk]
  refine And.intro (fun w' hx hd => ?_) ?_
  · have h6 := hd 6 (by simp)
    clear hd
    generalize us 6 = u6 at *
    obtain rfl : u6 = .pointer (some ⟨G, 2, none⟩) := h6
    have q2 : w'.cell? ⟨G, 2, none⟩ = some (.int .i64 left) := (b1.ext hx).cell 2
    refine web_of_list 10 rfl (by simp [Act.put]) rfl ?_
    go_wp2_with fail
    exact ⟨Ext.refl _, rfl⟩
  simp only [Act.put, List.setIfInBounds_toArray, List.set_cons_zero, List.set_cons_succ]
  rw [webWalk]
  refine And.intro (fun w' hx hd => ?_) ?_
  · have h2 := hd 2 (by simp)
    have h5 := hd 5 (by simp)
    have h7 := hd 7 (by simp)
    clear hd
    generalize us 2 = u2 at *
    generalize us 5 = u5 at *
    generalize us 7 = u7 at *
    obtain ⟨s1, rfl, k1, o1⟩ := h2
    obtain ⟨s2, rfl, k2, o2⟩ := h5
    obtain rfl : u7 = .int .i64 left := h7
    refine web_of_list 11 rfl (by simp [Act.put]) rfl ?_
    go_wp2_with fail
    exact ⟨Ext.refl _, s1, s2, rfl, k1, k2, o1, o2⟩
  simp only [Act.put, List.setIfInBounds_toArray, List.set_cons_zero, List.set_cons_succ]
  rw [webWalk]
  intro w' hx hv
  have h8 := hv 8 (by omega)
  clear hv
  generalize us 0 = u0 at *
  generalize us 1 = u1 at *
  generalize us 2 = u2 at *
  generalize us 3 = u3 at *
  generalize us 4 = u4 at *
  generalize us 5 = u5 at *
  generalize us 6 = u6 at *
  generalize us 7 = u7 at *
  generalize us 8 = u8 at *
  obtain ⟨s1, s2, rfl, k1, k2, o1, o2⟩ := h8
  have r9 := r0.ext hx
  go_wp2_with (refine wp_st_drv (.tmp 2) (.tmp 11) rfl rfl (G + 1) s1 s2 left _ 28 rfl rfl r9 rfl ?_; intro w9 b9 g9)
  have x9 := (x0.trans hx).grown g9 (fun j e => by cases e; omega)
  exact bodyPost_ret (results_cell1 rfl _ _ (G + 1) _ _ _ rfl b9 Tryz.underlying28 rfl drvSize) rfl ⟨_, rfl, ⟨s1, s2, rfl, k1.grown (by decide) r9 g9, k2.grown (by decide) r9 g9, o1.kept g9 (.inr (own_ne o1 r9 (by decide)).symm), o2.kept g9 (.inr (own_ne o2 r9 (by decide)).symm)⟩, x9⟩
end Go.Proofs.YtkokmnaicfdjaaaGreatDoor
/- A journal's head: plain; filled, zeros. -/
namespace Go.Proofs.YtkokmnaicfdjaaaGreatDoor
set_option linter.unusedVariables false
set_option linter.unusedSimpArgs false
open Go.RowKit

def namesP (l : List WrT) : List UInt8 := [104, 105, 98, 106] ++ two2 l.length ++ l.flatMap fun x => two2 x.1
theorem namesP_len (l : List WrT) : (namesP l).length = 6 + 2 * l.length := by
  unfold namesP
  rw [List.length_append, List.length_append]
  have : (l.flatMap fun x => two2 x.1).length = 2 * l.length := by
    induction l with
    | nil => rfl
    | cons x l ih => rw [List.flatMap_cons, List.length_append, ih]; simp [two2]; omega
  rw [this]; simp [two2]
def digN (B : List UInt8) : List Int := (List.range 32).map fun i => (((finalP startP B (i / 4)).toNat / 256 ^ (i % 4) % 256 : Nat) : Int)
def digL (B : List UInt8) : List UInt8 := (digN B).map b8
theorem digL_len (B : List UInt8) : (digL B).length = 32 := by simp [digL, digN]
def hfirP (l : List WrT) : List UInt8 := fillP (namesP l) 70
def headP (l : List WrT) : List UInt8 := fillP (hfirP l ++ digL (hfirP l :: l.map (·.2)).flatten) 128
/-- writes that a head may be of -/
def WrsIn (l : List WrT) : Prop := l.length ≤ 32 ∧ ∀ x ∈ l, (0 ≤ x.1 ∧ x.1 ≤ 65535) ∧ x.2.length = 128
theorem hfirP_len {l : List WrT} (h : WrsIn l) : (hfirP l).length = 70 := fillP_len (by rw [namesP_len]; have := h.1; omega)
theorem headP_len {l : List WrT} (h : WrsIn l) : (headP l).length = 128 := fillP_len (by rw [List.length_append, hfirP_len h, digL_len]; omega)
theorem flat_short (l : List WrT) (h : ∀ x ∈ l, x.2.length = 128) : (l.map (·.2)).flatten.length = 128 * l.length := by
  induction l with
  | nil => rfl
  | cons x l ih => rw [List.map_cons, List.flatten_cons, List.length_append, ih (fun y hy => h y (List.mem_cons_of_mem _ hy)), h x List.mem_cons_self, List.length_cons]; omega
theorem headBytes {l : List WrT} (h : WrsIn l) : (hfirP l :: l.map (·.2)).flatten.length < 1073741824 := by
  rw [List.flatten_cons, List.length_append, hfirP_len h, flat_short l (fun x hx => (h.2 x hx).2)]
  have := h.1; omega
/-- the text of a digest -/
theorem conv_dig {w : World} {g : Nat} {t : TypeId} {B : List UInt8} (h : Box w g t (digA startP B)) (c : Nat) :
    (convert 101 9 (.slice (some ⟨g, 0, none⟩) 32 c)).run Tryz.prog w = .ok (.string (str (digL B))) w := by
  refine run_convert_bytes_arg (P := Tryz.prog) _ 101 5 Tryz.underlying101 Tryz.underlying5 _ _ _ c (digN B) (by simp [digN]) (fun i hi => ?_) 9 Tryz.underlying9
  rw [Nat.zero_add, h.cell i, digA, u8A_get hi]
  simp [digN, hi]
set_option maxHeartbeats 400000 in
theorem filled_any (s : List UInt8) (n : Nat) (w : World) (hs : s.length ≤ n) (hn : n ≤ 1000) :
    Calls Tryz.prog 121 #[.string (str s), .int .i64 n] w fun e w' => e = .returned (.string (str (fillP s n))) ∧ Ext w w' := by
  have hz := str_size
  have hap := str_app
  have HR := Lib.hid (fun w => repeat_any (n - s.length) w (by omega))
  rw [show ((n - s.length : Nat) : Int) = (n : Int) - (s.length : Int) by omega] at HR
  have HF := Lib.hid (show fillP s n = s ++ List.replicate (n - s.length) 0 from rfl)
  have hk : (⟨#[0]⟩ : ByteArray) = str [0] := rfl
  by_cases hle : s.length = n
  · have hd : decide ((n : Int) ≤ (s.length : Int)) = true := by simp; omega
    go_enter Tryz.func121, Tryz.ntmps121
    go_wp2_with fail
    go_ret
    refine ⟨?_, Ext.refl _⟩
    rw [HF.out, hle]; simp
  · have hd : decide ((n : Int) ≤ (s.length : Int)) = false := by simp; omega
    go_enter Tryz.func121, Tryz.ntmps121
    go_wp2_with (go_at_call 106; refine (HR.out _).mono ?_; rintro e w1 ⟨rfl, x1⟩)
    go_ret
    exact ⟨by rw [HF.out]; rfl, x1⟩
set_option maxHeartbeats 400000 in
theorem zeros16_any (n : Nat) (w : World) (h : n ≤ 100000) :
    Calls Tryz.prog 127 #[.int .i64 n] w fun e w' => e = .returned (.string (str (zs n))) ∧ w = w' := by
  have hz := str_size
  have hap := str_app
  have hk : (⟨#[0]⟩ : ByteArray) = str [0] := rfl
  go_enter Tryz.func127, Tryz.ntmps127
  go_wp2_with fail
  go_loop [3, 4] (fun s i => ∃ k : Nat, k ≤ n ∧ i = .int .i64 k ∧ s = .string (str (zs k))) (fun _ i => n - (intOf i).toNat)
  case atStart => exact ⟨0, by omega, rfl, rfl⟩
  case round =>
    obtain ⟨k, hk2, rfl, rfl⟩ := hrel
    have hl := zs_len k
    have HZ := Lib.hid (show zs (k + 1) = zs k ++ [0] from List.replicate_succ')
    by_cases hlt : k < n
    · go_wp2_with fail
      go_round
      case rel => exact ⟨k + 1, by omega, by go_num, by rw [HZ.out]⟩
      case measure => simp [intOf]; omega
    · obtain rfl : k = n := by omega
      go_wp2_with fail
      go_ret
      exact ⟨rfl, rfl⟩
end Go.Proofs.YtkokmnaicfdjaaaGreatDoor
/- A journal's head, by the program. -/
namespace Go.Proofs.YtkokmnaicfdjaaaGreatDoor
set_option linter.unusedVariables false
set_option linter.unusedSimpArgs false
open Go.RowKit

theorem wp_make0 {ops : Array Oper} {rest : List Oper} {o : Oper} {a : Act} {Q : Exit → Act → World → Prop} {w : World} {c : Nat} (base : Nat) (hgd : o.guard = none) (x y : Operand)
    (ho : o.op = .makeSlice 23 x y) (hx : a.eval x = .int .i64 0) (hy : a.eval y = .int .i64 c) (hc : c ≤ 100000) (hb : base ≤ w.heap.size)
    (hK : ∀ w', w'.ownsRow base 9 1 (.slice (some ⟨w.heap.size, 0, none⟩) 0 c) 0 (strL []) → Ext w w' → wpList Tryz.prog ops Q rest (a.put o.dst (.slice (some ⟨w.heap.size, 0, none⟩) 0 c)) w') : wpList Tryz.prog ops Q (o :: rest) a w := by
  refine wpList_plain hgd fun K hK' => ?_
  obtain ⟨i, hi, hz, h1, h2⟩ := info_parts strInfo
  obtain ⟨w', hr, ho', hg⟩ := run_make_own (P := Tryz.prog) w base 23 9 i _ 1 Tryz.underlying23 hi hz h1 .i64 .i64 c (by rw [h2]; omega) (by unfold maxLen; omega) hb
  unfold Oper.wp execOp
  simp only [ho, hx, hy, Sem.run_bind, Sem.run_pure, Result.andThen_ok, hr]
  exact hK' _ _ (hK w' ho' (ext_grown hg))
set_option maxHeartbeats 400000 in
set_option maxRecDepth 100000 in
theorem head_any (B0 : Nat) (l : List WrT) (s : Sl) (w : World) (h : RowF B0 wrL 57 w s l) (hl : WrsIn l) (hT : Tabs w) :
    Calls Tryz.prog 75 #[.slice s.A s.n s.c] w fun e w' => e = .returned (.string (str (headP l))) ∧ Ext w w' := by
  have hn : s.n = l.length := h.k.row.1
  have hl32 := hl.1
  have hk4 : (⟨#[104, 105, 98, 106]⟩ : ByteArray) = str [104, 105, 98, 106] := rfl
  have HL := Lib.hid hl
  have HR := Lib.hid h
  have HT := Lib.hid hT
  clear h hT hl
  obtain ⟨A, n, c⟩ := s
  simp only at *
  subst hn
  have u0 : IntKind.u64.wrap (l.length : Int) = l.length := by rw [IntKind.wrap_u64]; omega
  have F0 := bld_fresh w
  have x0 : Ext w (w.alloc (.cells #[.pointer none, .slice none 0 0] 148)) := (Ext.refl w).alloc _
  have hsz0 : w.heap.size ≤ (w.alloc (.cells #[.pointer none, .slice none 0 0] 148)).heap.size := x0.size
  go_enter Tryz.func75, Tryz.ntmps75
  go_upto_region 2 with fail
  generalize w.alloc (.cells #[.pointer none, .slice none 0 0] 148) = w1 at *
  generalize hG : w.heap.size = G at *
  go_upto_region 3 with (go_at_call 105; refine (writeString_keeps G G [] [104, 105, 98, 106] w1 (.inl ⟨F0, rfl⟩) hsz0 (by simp) (by simp)).mono ?_; rintro e w2 ⟨rfl, f2, q2, _⟩)
  have x2 : Ext w w2 := x0.below q2 hG
  have z2 : G ≤ w2.heap.size := Nat.le_trans hsz0 q2.size
  rw [List.nil_append] at f2
  clear F0 x0 hsz0 q2
  go_upto_region 4 with (first
    | (go_at_call 120; refine (put2 (l.length : Int) _ (by omega) (by omega)).mono ?_; rintro e w3 ⟨rfl, x3⟩; have f3 := f2.ext x3; have hz3 := Nat.le_trans z2 x3.size)
    | (go_at_call 105; refine (writeString_keeps G G _ (two2 (l.length : Int)) w3 (.inr f3) hz3 (by simp) (by simp [two2])).mono ?_; rintro e w4 ⟨rfl, f4, q4, _⟩))
  have x4 : Ext w w4 := (x2.trans x3).below q4 hG
  have z4 : G ≤ w4.heap.size := Nat.le_trans hz3 q4.size
  clear x2 z2 f2 x3 f3 hz3 q4
  have HN0 := Lib.hid (show [104, 105, 98, 106] ++ two2 (l.length : Int) = [104, 105, 98, 106] ++ two2 (l.length : Int) ++ (l.take 0).flatMap (fun x => two2 x.1) by simp)
  rw [HN0.out] at f4
  go_upto_region 5 with (refine wp_make0 (c := l.length + 1) G rfl _ _ rfl rfl rfl (by omega) z4 ?_; intro w5 o5 x5)
  have f5 := f4.ext x5
  have z5 : G ≤ w5.heap.size := Nat.le_trans z4 x5.size
  have x5' := x4.trans x5
  clear x4 f4 x5 z4
  generalize w4.heap.size = g4 at *
  have v6 := strs_box1 w5 []
  have hk0 : (⟨#[]⟩ : ByteArray) = str [] := rfl
  have y5 : Ext w5 (w5.alloc (.cells #[.string (str [])] 9)) := (Ext.refl w5).alloc _
  have o5' := own_ext o5 y5
  have f5' := f5.ext y5
  have x5y := x5'.trans y5
  have z5' : G ≤ (w5.alloc (.cells #[.string (str [])] 9)).heap.size := Nat.le_trans z5 y5.size
  clear o5 f5 x5' z5
  go_upto_region 6 with (at_builtin; refine wp_app_strs G rfl _ _ rfl rfl rfl o5' v6 (by omega) z5' (by omega) ?_; intro u6 w6 o6 g6)
  have f6 := f5'.more o5' (by decide) (by decide) g6
  have x6 : Ext w w6 := x5y.grown g6 (fun k e => by rw [hG]; exact own_low o5' e)
  clear v6 y5 o5' f5' x5y z5' g6
  have hsm := HR.out.k.small
  simp only at hsm
  rw [Nat.zero_add, List.nil_append] at o6
  go_upto_region 7 with fail
  clear hk0
  go_loopw [4, 24] (fun u i wx => ∃ k : Nat, k ≤ l.length ∧ i = .int .i64 k ∧ Ext w wx ∧ wx.ownsRow G 9 1 u (k + 1) (strL ([] :: (l.take k).map (·.2))) ∧ Bld G G ([104, 105, 98, 106] ++ two2 (l.length : Int) ++ (l.take k).flatMap (fun x => two2 x.1)) wx) (fun _ i _ => l.length - (intOf i).toNat)
  case atStart => exact ⟨0, by omega, rfl, x6, o6, f6⟩
  case round =>
    clear x6 o6 f6 HN0
    obtain ⟨k, hk, rfl, xk, ok, fk⟩ := hrel
    by_cases hlt : k < l.length
    · have pk := HR.out.ext xk
      obtain ⟨b2, o2, hA, hcell⟩ := pk.k.row.wrs.2 (by show 0 < l.length; omega)
      subst hA
      have e1 := (hcell k hlt).1
      have e2 := (hcell k hlt).2
      have hki : (k : Int) < (l.length : Int) := by omega
      have HY := Lib.hid (HL.out.2 l[k] (List.getElem_mem _))
      have HT1 := Lib.hid (show (l.take (k + 1)).map (·.2) = (l.take k).map (·.2) ++ [l[k].2] by rw [List.take_succ_eq_append_getElem hlt, List.map_append]; rfl)
      have HT2 := Lib.hid (show (l.take (k + 1)).flatMap (fun x => two2 x.1) = (l.take k).flatMap (fun x => two2 x.1) ++ two2 l[k].1 by rw [List.take_succ_eq_append_getElem hlt, List.flatMap_append]; simp)
      have HLn := Lib.hid (show (([104, 105, 98, 106] : List UInt8) ++ two2 (l.length : Int) ++ (l.take k).flatMap (fun x : WrT => two2 x.1)).length ≤ 100000000000 by
        have h1 : ((l.take k).flatMap (fun x : WrT => two2 x.1)).length = 2 * (l.take k).length := by
          generalize l.take k = m
          induction m with
          | nil => rfl
          | cons x m ih => rw [List.flatMap_cons, List.length_append, ih]; simp [two2]; omega
        rw [List.length_append, h1, List.length_take]
        simp [two2]; omega)
      clear hcell
      generalize l[k] = y at *
      clear pk
      have hy0 : 0 ≤ y.1 := HY.out.1.1
      have hy1 : y.1 ≤ 65535 := HY.out.1.2
      have u1 : IntKind.u64.wrap y.1 = y.1 := by rw [IntKind.wrap_u64]; omega
      go_upto_region 9 with fail
      have y5 : Ext wr (wr.alloc (.cells #[.int .i64 y.1, .string (str y.2)] 57)) := (Ext.refl wr).alloc _
      have bw := Box.new wr 57 #[.int .i64 y.1, .string (str y.2)]
      have fk5 := fk.ext y5
      have ok5 := own_ext ok y5
      have zk : G ≤ wr.heap.size := by rw [← hG]; exact xk.size
      clear fk ok e1 e2
      generalize wr.alloc (.cells #[.int .i64 y.1, .string (str y.2)] 57) = w7 at *
      generalize wr.heap.size = gw at *
      have d0 : w7.cell? ⟨gw, 0, none⟩ = some (.int .i64 y.1) := bw.cell 0
      generalize hP : ([104, 105, 98, 106] : List UInt8) ++ two2 (l.length : Int) ++ (l.take k).flatMap (fun x : WrT => two2 x.1) = P at *
      have HP := Lib.hid hP
      clear hP
      have z7 : G ≤ w7.heap.size := by have := bw.lt; omega
      go_upto_region 10 with (first
        | (go_at_call 120; refine (put2 y.1 w7 hy0 hy1).mono ?_; rintro e w8 ⟨rfl, x8⟩; have f8 := fk5.ext x8; have o8 := own_ext ok5 x8; have b8 := bw.ext x8; have z8 := Nat.le_trans z7 x8.size)
        | (go_at_call 105; refine (writeString_keeps G G P (two2 y.1) w8 (.inr f8) z8 HLn.out (by simp [two2])).mono ?_; rintro e w9 ⟨rfl, f9, q9, k9⟩))
      obtain ⟨cs8, bb8⟩ := f8.box
      have o9 := own_kept8 o8 k9 bb8 (by decide) (by decide)
      have b9 := box_kept b8 k9 (b8.ne bb8 (by decide)) (by decide)
      have x9 : Ext w w9 := ((xk.trans y5).trans x8).below q9 hG
      have z9 : G ≤ w9.heap.size := Nat.le_trans z8 q9.size
      clear f8 o8 b8 z8 q9 k9 bb8 fk5 ok5 bw d0 z7 y5 x8 xk
      have d1 : w9.cell? ⟨gw, 1, none⟩ = some (.string (str y.2)) := b9.cell 1
      have v9 := strs_box1 w9 y.2
      have y9 : Ext w9 (w9.alloc (.cells #[.string (str y.2)] 9)) := (Ext.refl w9).alloc _
      have o9' := own_ext o9 y9
      have f9' := f9.ext y9
      have x9y := x9.trans y9
      have z9' : G ≤ (w9.alloc (.cells #[.string (str y.2)] 9)).heap.size := Nat.le_trans z9 y9.size
      clear o9 f9 x9 z9
      go_wp2_with (at_builtin; refine wp_app_strs G rfl _ _ rfl rfl rfl o9' v9 (by omega) z9' (by omega) ?_; intro u10 w10 o10 g10)
      have f10 := f9'.more o9' (by decide) (by decide) g10
      have x10 := x9y.grown g10 (fun k e => by rw [hG]; exact own_low o9' e)
      clear g10 o9' f9' x9y y9 v9
      go_roundw
      case rel => exact ⟨k + 1, by omega, by go_num, x10, by rw [HT1.out]; exact o10, by rw [HT2.out, ← List.append_assoc, HP.out]; exact f10⟩
      case measure => simp [intOf]; omega
    · obtain rfl : k = l.length := by omega
      rw [List.take_length] at ok fk
      have hNL := namesP_len l
      rw [show [104, 105, 98, 106] ++ two2 (l.length : Int) ++ l.flatMap (fun x => two2 x.1) = namesP l from rfl] at fk
      have zk : G ≤ wr.heap.size := by rw [← hG]; exact xk.size
      go_upto_region 13 with (first
        | (go_at_call 107; refine (bldString_any G G (namesP l) wr fk zk).mono ?_; rintro e w8 ⟨rfl, q8, k8⟩)
        | (go_at_call 121; refine (filled_any (namesP l) 70 w8 (by omega) (by omega)).mono ?_; rintro e w9 ⟨rfl, x9⟩))
      obtain ⟨csk, bbk⟩ := fk.box
      have o9 := own_ext (own_kept8 ok k8 bbk (by decide) (by decide)) x9
      have z8 : G ≤ w8.heap.size := Nat.le_trans zk q8.size
      have x9' : Ext w w9 := (xk.below q8 hG).trans x9
      clear ok k8 bbk fk xk q8 x9 zk z8
      rw [show fillP (namesP l) 70 = hfirP l from rfl]
      obtain ⟨g, cap, rfl, hg, _⟩ := Strs.own' o9 (by omega)
      have c9 : w9.cell? ⟨g, 0, none⟩ = some (.string (str [])) := o9.cellAt 0 (by omega)
      have fr9 := o9.frozenAt 0
      have o10 := own_set (i := 0) o9 (hfirP l)
      rw [List.set_cons_zero] at o10
      have x10 := x9'.setCell (p := ⟨g, 0, none⟩) (by rw [hG]; exact hg) (.string (str (hfirP l)))
      go_upto_region 14 with fail
      clear c9 fr9 o9 x9'
      generalize w9.setCell ⟨g, 0, none⟩ (.string (str (hfirP l))) = w10 at *
      obtain ⟨g', cap', hsl, _, s10⟩ := Strs.own' o10 (by omega)
      injection hsl with e1 _ _
      rw [← e1] at s10
      clear o10 e1
      have HB := headBytes HL.out
      have T10 := HT.out.ext x10
      have HD := Lib.hid (show headP l = fillP (hfirP l ++ digL (hfirP l :: l.map (·.2)).flatten) 128 from rfl)
      have hf70 := hfirP_len HL.out
      generalize hB : (hfirP l :: l.map (·.2)).flatten = B at *
      go_upto_region 15 with (first
        | (go_at_call 122; refine (sum_any _ _ _ _ w10 s10 (by rw [hB]; exact HB) (by omega) T10).mono ?_; rw [hB]; rintro e w11 ⟨rfl, x11⟩)
        | (refine wp_st_dig (.tmp 8) (.tmp 45) rfl rfl w11.heap.size _ _ 169 rfl rfl (Box.new _ _ _) (by kernel_rfl) ?_; intro w12 b12 g12))
      have y12 : Ext w11 w12 := ((Ext.refl w11).alloc _).grown g12 (fun j e => by cases e; exact Nat.le_refl _)
      have x12 := (x10.trans x11).trans y12
      have hc := conv_dig (show Box w12 w11.heap.size 169 (digA startP B) from b12) 32
      have hdl := digL_len B
      have hap := str_app
      have hz := str_size
      clear b12 g12 y12 x10 x11 s10 T10
      generalize w11.heap.size = g11 at *
      generalize digL B = D at *
      go_wp2_with (go_at_call 121; refine (filled_any (hfirP l ++ D) 128 w12 (by rw [List.length_append]; omega) (by omega)).mono ?_; rintro e w13 ⟨rfl, x13⟩)
      go_ret
      exact ⟨by rw [HD.out]; rfl, x12.trans x13⟩
end Go.Proofs.YtkokmnaicfdjaaaGreatDoor
