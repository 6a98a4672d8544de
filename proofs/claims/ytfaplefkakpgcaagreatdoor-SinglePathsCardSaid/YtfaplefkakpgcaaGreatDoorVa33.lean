/- The walk of fs.Find, whatever dir.Find answers. -/
import Derived.Test.YtfaplefkakpgcaaGreatDoorVa31
import Derived.Test.YtfaplefkakpgcaaGreatDoorVa32
import Derived.Test.YtfaplefkakpgcaaGreatDoorVa30
namespace Go.Proofs.YtfaplefkakpgcaaGreatDoor
set_option linter.unusedVariables false
set_option linter.unusedSimpArgs false
open Go.RowKit Go.Shelf
attribute [local go_sem] Oper.semAt_some
/-- down these names -/
def stepsD (D : Int → List UInt8 → Int × Int) : Int → List (List UInt8) → Int × Int
  | n, [] => (n, 0)
  | n, x :: l => if (D n x).2 ≠ 0 then (0, (D n x).2) else stepsD D (D n x).1 l
def findD (D : Int → List UInt8 → Int × Int) (p : List UInt8) : Int × Int := if mayP p = false then (0, 7) else stepsD D 1 (pathP p)
/-- dir.Find where there is no volume -/
def badD (_ : Int) (name : List UInt8) : Int × Int := if mayD name = false then (0, 7) else (0, 3)
theorem stepsD_snoc (dd : Int → List UInt8 → Int × Int) (l : List (List UInt8)) : ∀ (n m : Int) (x : List UInt8), stepsD dd n l = (m, 0) → stepsD dd n (l ++ [x]) = if (dd m x).2 ≠ 0 then (0, (dd m x).2) else ((dd m x).1, 0) := by
  induction l with
  | nil =>
    intro n m x h
    obtain rfl : n = m := by injection h
    simp only [List.nil_append, stepsD]
  | cons y l ih =>
    intro n m x h
    simp only [List.cons_append, stepsD] at h ⊢
    by_cases h0 : (dd n y).2 ≠ 0
    · rw [if_pos h0] at h
      injection h with h1 h2
      exact absurd h2 h0
    · rw [if_neg h0] at h ⊢
      exact ih _ _ _ h
theorem stepsD_stop (dd : Int → List UInt8 → Int × Int) (l b : List (List UInt8)) : ∀ (n : Int) (R : Int × Int), stepsD dd n l = R → R.2 ≠ 0 → stepsD dd n (l ++ b) = R := by
  induction l with
  | nil =>
    intro n R h hR
    exact absurd (by rw [← h]; rfl) hR
  | cons y l ih =>
    intro n R h hR
    simp only [List.cons_append, stepsD] at h ⊢
    by_cases h0 : (dd n y).2 ≠ 0
    · rw [if_pos h0] at h ⊢; exact h
    · rw [if_neg h0] at h ⊢
      exact ih _ _ h hR
set_option maxHeartbeats 4000000 in
set_option maxRecDepth 100000 in
theorem find_gen (dd : Int → List UInt8 → Int × Int) (A : Option Addr) (n c : Nat) (v : List (List UInt8)) (p : List UInt8) (w : World) (hv : Strs w A n v) (hd : ∀ k x w, Strs w A n v → x.length ≤ 1000000000 → Calls Tryz.prog 58 #[.slice A n c, .int .i64 k, .string (str x)] w fun e w' => e = .returned (.tuple #[.int .i64 (dd k x).1, .int .i64 (dd k x).2]) ∧ Ext w w') (hp : p.length ≤ 100000000) :
    Calls Tryz.prog 23 #[.slice A n c, .string (str p)] w fun e w' => e = .returned (.tuple #[.int .i64 (findD dd p).1, .int .i64 (findD dd p).2]) ∧ Ext w w' := by
  have HMy := Lib.hid (fun w => may_any p w hp)
  have HN := Lib.hid (fun w => names_any (str p) w)
  have HV := Lib.hid hv
  have HD := Lib.hid (fun k x w h => hd k ((pathP p).getD x []) w h (by have := path_name p x; omega))
  have hpl := (pathP_len p).1
  have b0 := Box.new w 22 #[.slice A n c]
  have b1 := Box.new (w.alloc (.cells #[.slice A n c] 22)) 3 #[.int .i64 0]
  have b2 := Box.new ((w.alloc (.cells #[.slice A n c] 22)).alloc (.cells #[.int .i64 0] 3)) 27 #[.int .i64 0]
  have b0' := (b0.ext ((Ext.refl _).alloc (.cells #[.int .i64 0] 3))).ext ((Ext.refl _).alloc (.cells #[.int .i64 0] 27))
  have b1' := b1.ext ((Ext.refl _).alloc (.cells #[.int .i64 0] 27))
  have X := ((((Ext.refl w).alloc (.cells #[.slice A n c] 22)).alloc (.cells #[.int .i64 0] 3)).alloc (.cells #[.int .i64 0] 27))
  clear b0 b1 hv hd
  simp only [World.size_alloc] at b1' b2
  cases hm : mayP p with
  | false =>
    rw [hm] at HMy
    have HP := Lib.hid (show findD dd p = (0, 7) by unfold findD; rw [hm]; rfl)
    go_enter Tryz.func23, Tryz.ntmps23
    go_upto_region 1 with fail
    generalize ((w.alloc (.cells #[.slice A n c] 22)).alloc (.cells #[.int .i64 0] 3)).alloc (.cells #[.int .i64 0] 27) = w3 at *
    go_wp2_with (go_at_call 56; refine (HMy.out _).mono ?_; rintro e w4 ⟨rfl, x4⟩; have d1 := b1'.ext x4; have d2 := b2.ext x4; have e1 : w4.cell? ⟨w.heap.size + 1, 0, none⟩ = some (.int .i64 0) := d1.cell 0; have e2 : w4.cell? ⟨w.heap.size + 1 + 1, 0, none⟩ = some (.int .i64 0) := d2.cell 0; have f1 := d1.frozen 0; have f2 := d2.frozen 0)
    have k1 := (d1.set 0 (.int .i64 0)).far (p := ⟨w.heap.size + 1 + 1, 0, none⟩) (by show w.heap.size + 1 ≠ w.heap.size + 1 + 1; omega) (.int .i64 7)
    have k2 := (d2.far (p := ⟨w.heap.size + 1, 0, none⟩) (by show w.heap.size + 1 + 1 ≠ w.heap.size + 1; omega) (.int .i64 0)).set 0 (.int .i64 7)
    have hc1 := k1.cell 0
    have hc2 := k2.cell 0
    refine bodyPost_ret (v := .tuple #[.int .i64 0, .int .i64 7]) ?_ rfl ⟨by rw [HP.out], ((X.trans x4).setCell (p := ⟨w.heap.size + 1, 0, none⟩) (by show w.heap.size ≤ w.heap.size + 1; omega) _).setCell (p := ⟨w.heap.size + 1 + 1, 0, none⟩) (by show w.heap.size ≤ w.heap.size + 1 + 1; omega) _⟩
    simp at hc1 hc2
    simp [results, Tryz.results23, go_sem, hc1, hc2]
  | true =>
    rw [hm] at HMy
    have h47 : p.head? = some 47 := by obtain ⟨q, rfl⟩ := mayP_head hm; rfl
    have HP := Lib.hid (show findD dd p = stepsD dd 1 (pathP p) by unfold findD; rw [hm]; rfl)
    refine (callsIn_wide (n := 6)).1 ?_
    refine callsIn_of_wp_marks Tryz.func23 rfl trivial ?_ rfl
    simp only [Tryz.ntmps23, List.size_toArray, List.length_cons, List.length_nil, Nat.reduceAdd, Nat.reduceSub, Array.replicate_succ, Array.replicate_zero, List.push_toArray, List.append_toArray, List.nil_append, List.cons_append]
    refine wpIn_wide.2 ?_
    go_upto_region 1 with fail
    generalize ((w.alloc (.cells #[.slice A n c] 22)).alloc (.cells #[.int .i64 0] 3)).alloc (.cells #[.int .i64 0] 27) = w3 at *
    go_upto_region 3 with (go_at_call 56; refine (HMy.out _).mono ?_; rintro e w4 ⟨rfl, x4⟩)
    have d0 := b0'.ext x4
    have d1 := b1'.ext x4
    have d2 := b2.ext x4
    have X4 := X.trans x4
    have b3 := Box.new w4 3 #[.int .i64 1]
    have b4 := Box.new (w4.alloc (.cells #[.int .i64 1] 3)) 9 #[.string (str p)]
    have b3' := b3.ext ((Ext.refl _).alloc (.cells #[.string (str p)] 9))
    have x5 : Ext w4 ((w4.alloc (.cells #[.int .i64 1] 3)).alloc (.cells #[.string (str p)] 9)) := ((Ext.refl w4).alloc _).alloc _
    have e0 := d0.ext x5
    have e1 := d1.ext x5
    have e2 := d2.ext x5
    have X5 := X4.trans x5
    have h24 := d2.lt
    clear b0' b1' b2 d0 d1 d2 b3 X X4 x4 HMy
    simp only [World.size_alloc] at b4
    go_upto_region 4 with fail
    go_wp2_with (go_at_call 57; refine (HN.out _).mono ?_; rintro e w1 ⟨rfl, rfl⟩)
    refine (wpIn_wide (n := 6)).1 ?_
    gi_wp2_with fail
    generalize hw5 : (w4.alloc (.cells #[.int .i64 1] 3)).alloc (.cells #[.string (str p)] 9) = w5 at *
    have hz5 : w5.heap.size = w4.heap.size + 1 + 1 := by rw [← hw5, World.size_alloc, World.size_alloc]
    clear hw5 x5 HN
    have hNS := names_stops 5 (by decide) (w4.heap.size + 1) p w5 b4 h47
    have hRN := Lib.hid (range_names (pathP p))
    have hTk := Lib.hid (fun k => List.take_append_drop k (pathP p))
    have hSt := Lib.hid (fun k (R : Int × Int) (h : stepsD dd 1 ((pathP p).take k) = R) (h0 : R.2 ≠ 0) => stepsD_stop dd ((pathP p).take k) ((pathP p).drop k) 1 R h h0)
    have hSn := Lib.hid (fun l m x => stepsD_snoc dd l 1 m x)
    unfold nenc at hNS
    generalize hf : (fun y => (pathP p).getD y []) = f at *
    have hf' : ∀ y, (pathP p).getD y [] = f y := fun y => by rw [← hf]
    simp only [hf'] at *
    generalize hLp : pathP p = L at *
    clear hf hf' hLp
    have hG4 : w.heap.size + 1 + 1 < w4.heap.size := h24
    have hGG : w.heap.size ≤ w5.heap.size := X5.size
    generalize hG : w.heap.size = G at *
    generalize w4.heap.size = E at *
    refine wpIn_rangeFunc_ownH rfl (by decide) (gf := 111) (lb := #[.pointer (some ⟨E + 1, 0, none⟩)]) rfl trivial (enters_of Tryz.func111 (by kernel_rfl) rfl)
      hNS KpB.trans KpB.book (Below.refl _ _) (fun _ => rfl)
      (fun pre W => Ext w W ∧ Box W G 22 #[.slice A n c] ∧ Box W (G + 1) 3 #[.int .i64 0] ∧ Box W (G + 1 + 1) 27 #[.int .i64 0] ∧ ∃ m, Box W E 3 #[.int .i64 m] ∧ stepsD dd 1 (pre.map f) = (m, 0))
      (fun cc pre W => cc = .ret ∧ Ext w W ∧ Box W (G + 1) 3 #[.int .i64 0] ∧ ∃ r, Box W (G + 1 + 1) 27 #[.int .i64 r] ∧ r ≠ 0 ∧ stepsD dd 1 (pre.map f) = (0, r))
      (OwnFrom.and (ext_own (by rw [hG]; omega)) (OwnFrom.and (Own.from (box_own _ _ _) _) (OwnFrom.and (Own.from (box_own _ _ _) _) (OwnFrom.and (Own.from (box_own _ _ _) _) (Own.from (box_ex _ _ (fun m => #[.int .i64 m]) (fun (pre : List Nat) (m : Int) => stepsD dd 1 (pre.map f) = (m, 0))) _)))))
      (fun cc => OwnFrom.and (ownFrom_pure _ _) (OwnFrom.and (ext_own (by rw [hG]; omega)) (OwnFrom.and (Own.from (box_own _ _ _) _) (Own.from (box_ex _ _ (fun r => #[.int .i64 r]) (fun (pre : List Nat) (r : Int) => r ≠ 0 ∧ stepsD dd 1 (pre.map f) = (0, r))) _)))) ⟨X5, e0, e1, e2, 1, b3', rfl⟩
      (fun x a' W => a' = { tmps := #[.slice A n c, .string (str p), .pointer (some ⟨G, 0, none⟩), undef, .pointer (some ⟨G + 1, 0, none⟩), .pointer (some ⟨G + 1 + 1, 0, none⟩), .pointer (some ⟨E, 0, none⟩), .string (str (f x)), undef, undef, .string (str p), .bool true, .bool false, .string (str p), .func (.func 111) #[] #[.pointer (some ⟨E + 1, 0, none⟩)], .string (str (f x)), undef, undef, undef, undef, undef, undef, undef, undef, undef, undef, undef, undef], defers := [] })
      (fun x a' _ X Y row hs hg hr => hs) ?assign ?body ?done ?stop
    case assign =>
      rintro l pre x W K hi hK
      gi_wp2
      exact hK _ _ (keeps_ext (Ext.refl W)) (KpB.ext (Ext.refl W)) hi rfl
    case body =>
      rintro l pre x a' W hl0 ⟨r, hr⟩ ⟨i1, i2, i3, i4, m, i5, hst⟩ rfl hltN
      have HDx := Lib.hid (HD.out m x W (HV.out.ext i1))
      have hsn := Lib.hid (hSn.out (pre.map f) m (f x) hst)
      have c0 : W.cell? ⟨G, 0, none⟩ = some (.slice A n c) := i2.cell 0
      have c6 : W.cell? ⟨E, 0, none⟩ = some (.int .i64 m) := i5.cell 0
      generalize dd m (f x) = R at *
      by_cases h0 : R.2 = 0
      · rw [if_neg (fun h => h h0)] at hsn
        rw [h0] at HDx
        gi_wp2_with (first
          | (refine ⟨trivial, ?_⟩; gi_at_call 58; refine (CallsIn.inRound l (callsIn_wide.2 HDx.out)).mono ?_; rintro e W2 ⟨rfl, x2⟩; have j5 := i5.ext x2; have c5 : W2.cell? ⟨E, 0, none⟩ = some (.int .i64 m) := j5.cell 0; have c5f := j5.frozen 0))
        refine ⟨(keeps_ext x2).trans ((KeepsOthers.setCell _ _ _).from _), (KpB.ext x2).set ⟨E, 0, none⟩ (by show E + 1 ≠ E; omega) (by show E + 1 ≠ E; omega) _, (i1.trans x2).setCell (p := ⟨E, 0, none⟩) (by show w.heap.size ≤ E; omega) _, (i2.ext x2).far (p := ⟨E, 0, none⟩) (by show G ≠ E; omega) _, (i3.ext x2).far (p := ⟨E, 0, none⟩) (by show G + 1 ≠ E; omega) _, (i4.ext x2).far (p := ⟨E, 0, none⟩) (by show G + 1 + 1 ≠ E; omega) _, R.1, j5.set 0 _, ?_⟩
        rw [List.map_append]
        exact hsn.out
      · have d0 : (R.2 != 0) = true := by simpa using h0
        rw [if_pos h0] at hsn
        gi_wp2_with (first
          | (refine ⟨trivial, ?_⟩; gi_at_call 58; refine (CallsIn.inRound l (callsIn_wide.2 HDx.out)).mono ?_; rintro e W2 ⟨rfl, x2⟩; have j3 := i3.ext x2; have j4 := i4.ext x2; have c3 : W2.cell? ⟨G + 1, 0, none⟩ = some (.int .i64 0) := j3.cell 0; have c3f := j3.frozen 0; have c4 : W2.cell? ⟨G + 1 + 1, 0, none⟩ = some (.int .i64 0) := j4.cell 0; have c4f := j4.frozen 0))
        refine ⟨((keeps_ext x2).trans ((KeepsOthers.setCell _ _ _).from _)).trans ((KeepsOthers.setCell _ _ _).from _), rfl, ((i1.trans x2).setCell (p := ⟨G + 1, 0, none⟩) (by show w.heap.size ≤ G + 1; omega) _).setCell (p := ⟨G + 1 + 1, 0, none⟩) (by show w.heap.size ≤ G + 1 + 1; omega) _, (j3.set 0 _).far (p := ⟨G + 1 + 1, 0, none⟩) (by show G + 1 ≠ G + 1 + 1; omega) _, R.2, (j4.far (p := ⟨G + 1, 0, none⟩) (by show G + 1 + 1 ≠ G + 1; omega) _).set 0 _, h0, ?_⟩
        rw [List.map_append]
        exact hsn.out
    case done =>
      rintro D ys W hD rfl ⟨i1, i2, i3, i4, m, i5, hst⟩ hK
      have c5 : W.cell? ⟨E, 0, none⟩ = some (.int .i64 m) := i5.cell 0
      have c3 : W.cell? ⟨G + 1, 0, none⟩ = some (.int .i64 0) := i3.cell 0
      have c3f := i3.frozen 0
      have c4 : W.cell? ⟨G + 1 + 1, 0, none⟩ = some (.int .i64 0) := i4.cell 0
      have c4f := i4.frozen 0
      gi_wp2_with fail
      go_wp2_with fail
      have hK1 := (KeepsOthers.setCell W ⟨G + 1, 0, none⟩ (.int .i64 m)).same D _ hK rfl
      have hK' := (KeepsOthers.setCell (W.setCell ⟨G + 1, 0, none⟩ (.int .i64 m)) ⟨G + 1 + 1, 0, none⟩ (.int .i64 0)).same D _ hK1 rfl
      have k1 := ((i3.set 0 (.int .i64 m)).far (p := ⟨G + 1 + 1, 0, none⟩) (by show G + 1 ≠ G + 1 + 1; omega) (.int .i64 0)).grown (grownBy_putObj' _ D (.deferred none)) (fun e => by injection e with e; omega)
      have k2 := ((i4.far (p := ⟨G + 1, 0, none⟩) (by show G + 1 + 1 ≠ G + 1; omega) (.int .i64 m)).set 0 (.int .i64 0)).grown (grownBy_putObj' _ D (.deferred none)) (fun e => by injection e with e; omega)
      have hc1 := k1.cell 0
      have hc2 := k2.cell 0
      refine ⟨by simp, .inl ⟨_, _, rfl, run_takeDeferred hK', ?_⟩⟩
      refine ⟨.tuple #[.int .i64 m, .int .i64 0], ?_, ?_, ((i1.setCell (p := ⟨G + 1, 0, none⟩) (by show w.heap.size ≤ G + 1; omega) _).setCell (p := ⟨G + 1 + 1, 0, none⟩) (by show w.heap.size ≤ G + 1 + 1; omega) _).putObj (.deferred none) hK' (by omega)⟩
      · simp at hc1 hc2
        simp [results, Tryz.results23, go_sem, hc1, hc2]
      · rw [hRN.out _ (Nat.le_refl _), List.take_length] at hst
        rw [HP.out, hst]
    case stop =>
      rintro D cc pre W hD ⟨k, hk, rfl⟩ ⟨rfl, h1, h2, r, h3, h4, h5⟩ hK
      gi_wp2
      have k1 := h2.grown (grownBy_putObj' _ D (.deferred none)) (fun e => by injection e with e; omega)
      have k2 := h3.grown (grownBy_putObj' _ D (.deferred none)) (fun e => by injection e with e; omega)
      have hc1 := k1.cell 0
      have hc2 := k2.cell 0
      refine ⟨by simp, .inl ⟨_, _, rfl, run_takeDeferred hK, ?_⟩⟩
      refine ⟨.tuple #[.int .i64 0, .int .i64 r], ?_, ?_, h1.putObj (.deferred none) hK (by omega)⟩
      · simp at hc1 hc2
        simp [results, Tryz.results23, go_sem, hc1, hc2]
      · rw [hRN.out _ hk] at h5
        have := hSt.out k _ h5 h4
        rw [hTk.out] at this
        rw [HP.out, this]
end Go.Proofs.YtfaplefkakpgcaaGreatDoor
/- fs.beyond, weighed, Read, Write on a volume that is one. -/
namespace Go.Proofs.YtfaplefkakpgcaaGreatDoor
set_option linter.unusedVariables false
set_option linter.unusedSimpArgs false
open Go.RowKit
theorem file_in {v : List (List UInt8)} {I k : Int} (h : fileE v I k = 0) : 1 ≤ k ∧ k ≤ I := by
  unfold fileE at h
  split at h
  · cases h
  · omega
end Go.Proofs.YtfaplefkakpgcaaGreatDoor
/- Directories, files and paths where there is no volume; fs.Read at any place. -/
namespace Go.Proofs.YtfaplefkakpgcaaGreatDoor
set_option linter.unusedVariables false
set_option linter.unusedSimpArgs false
open Go.RowKit Go.Shelf
set_option maxHeartbeats 1000000 in
set_option maxRecDepth 100000 in
theorem dlist_none (A : Option Addr) (n c : Nat) (v : List (List UInt8)) (k : Int) (w : World) (hv : Strs w A n v) (hn : n ≤ 9223372036854775807) (hb : ∀ I, ¬ Good v I) :
    Calls Tryz.prog 107 #[.slice A n c, .int .i64 k] w fun e w' => e = .returned (.tuple #[.slice none 0 0, .int .i64 3]) ∧ Ext w w' := by
  have HG := Lib.hid (fun w h => iget_bad A n c v k w h hn hb)
  go_enter Tryz.func107, Tryz.ntmps107
  go_wp2_with (first
    | (go_at_call 69; refine (HG.out _ hv).mono ?_; rintro e w1 ⟨rfl, x1⟩)
    | (refine wp_st_ino (.tmp 6) (.tmp 15) rfl rfl w1.heap.size _ zero12 121 rfl rfl (Box.new _ _ _) rfl rfl ?_; intro w2 b2 g2))
  go_ret2
  exact ⟨rfl, (x1.alloc _).grown g2 (fun k e => by cases e; exact x1.size)⟩
set_option maxHeartbeats 1000000 in
set_option maxRecDepth 100000 in
theorem dfind_none (A : Option Addr) (n c : Nat) (v : List (List UInt8)) (k : Int) (name : List UInt8) (w : World) (hv : Strs w A n v) (hn : n ≤ 9223372036854775807) (hb : ∀ I, ¬ Good v I) (hnl : name.length ≤ 1000000000) :
    Calls Tryz.prog 58 #[.slice A n c, .int .i64 k, .string (str name)] w fun e w' => e = .returned (.tuple #[.int .i64 (badD k name).1, .int .i64 (badD k name).2]) ∧ Ext w w' := by
  have HM := Lib.hid (fun w => dmay_any name w hnl)
  have HL := Lib.hid (fun w h => dlist_none A n c v k w h hn hb)
  unfold badD
  cases hm : mayD name with
  | false =>
    rw [hm] at HM
    go_enter Tryz.func58, Tryz.ntmps58
    go_wp2_with (go_at_call 110; refine (HM.out _).mono ?_; rintro e w1 ⟨rfl, x1⟩)
    go_ret2
    exact ⟨rfl, x1⟩
  | true =>
    rw [hm] at HM
    go_enter Tryz.func58, Tryz.ntmps58
    go_wp2_with (first
      | (go_at_call 110; refine (HM.out _).mono ?_; rintro e w1 ⟨rfl, x1⟩)
      | (go_at_call 107; refine (HL.out _ (hv.ext x1)).mono ?_; rintro e w2 ⟨rfl, x2⟩))
    go_ret2
    exact ⟨rfl, x1.trans x2⟩
/-- fs.Find, of any blocks -/
def findX (v : List (List UInt8)) (I : Option Int) (p : List UInt8) : Int × Int := match I with
  | some I => findD (dfindP v I) p
  | none => findD badD p
/-- these blocks are a volume of so many inodes, or none -/
def GoodX (v : List (List UInt8)) : Option Int → Prop
  | some I => Good v I
  | none => ∀ I, ¬ Good v I
theorem findX_any (A : Option Addr) (n c : Nat) (v : List (List UInt8)) (I : Option Int) (p : List UInt8) (w : World) (hv : Strs w A n v) (hn : n ≤ 9223372036854775807) (hg : GoodX v I) (hp : p.length ≤ 100000000) :
    Calls Tryz.prog 23 #[.slice A n c, .string (str p)] w fun e w' => e = .returned (.tuple #[.int .i64 (findX v I p).1, .int .i64 (findX v I p).2]) ∧ Ext w w' := by
  cases I with
  | some I => exact find_gen (dfindP v I) A n c v p w hv (fun k x w h hx => dfind_any A n c v I k x w h hg hx) hp
  | none => exact find_gen badD A n c v p w hv (fun k x w h hx => dfind_none A n c v k x w h hn hg hx) hp
/-- fs.Read, of any blocks -/
def readX (v : List (List UInt8)) (I : Option Int) (k off size : Int) : List UInt8 × Int := match I with
  | some I => if fileE v I k ≠ 0 then ([], fileE v I k) else readE v I k off size
  | none => ([], 3)
set_option maxHeartbeats 1000000 in
set_option maxRecDepth 100000 in
theorem readX_any (A : Option Addr) (n c : Nat) (v : List (List UInt8)) (I : Option Int) (k off size : Int) (w : World) (hv : Strs w A n v) (hn : n ≤ 9223372036854775807) (hg : GoodX v I) (ho : off ≤ 9223372036854775807) (hs : size ≤ 9223372036854775807) :
    Calls Tryz.prog 24 #[.slice A n c, .int .i64 k, .int .i64 off, .int .i64 size] w fun e w' => e = .returned (.tuple #[.string (str (readX v I k off size).1), .int .i64 (readX v I k off size).2]) ∧ Ext w w' := by
  cases I with
  | none =>
    have HF := Lib.hid (fun w h => ffile_bad A n c v k w h hn hg)
    unfold readX
    go_enter Tryz.func24, Tryz.ntmps24
    go_wp2_with (first
      | (go_at_call 59; refine (HF.out _ hv).mono ?_; rintro e w1 ⟨rfl, x1⟩))
    go_ret2
    exact ⟨rfl, x1⟩
  | some I =>
  have HF := Lib.hid (fun w h => ffile_any A n c v I k w h hg)
  by_cases h0 : fileE v I k = 0
  · rw [h0] at HF
    rw [show readX v (some I) k off size = readE v I k off size by unfold readX; simp only; rw [if_neg (fun h => h h0)]]
    obtain ⟨k1, k2⟩ := file_in h0
    have HR := Lib.hid (fun w h => fread_any A n c v I k off size w h hg k1 k2 ho hs)
    generalize readE v I k off size = R at *
    go_enter Tryz.func24, Tryz.ntmps24
    go_wp2_with (first
      | (go_at_call 59; refine (HF.out _ hv).mono ?_; rintro e w1 ⟨rfl, x1⟩)
      | (go_at_call 60; refine (HR.out _ (hv.ext x1)).mono ?_; rintro e w2 ⟨rfl, x2⟩))
    go_ret2
    exact ⟨rfl, x1.trans x2⟩
  · rw [show readX v (some I) k off size = ([], fileE v I k) by unfold readX; simp only; rw [if_pos h0]]
    generalize fileE v I k = z at *
    have d0 : (z != 0) = true := by simpa using h0
    go_enter Tryz.func24, Tryz.ntmps24
    go_wp2_with (first
      | (go_at_call 59; refine (HF.out _ hv).mono ?_; rintro e w1 ⟨rfl, x1⟩))
    go_ret2
    exact ⟨rfl, x1⟩
end Go.Proofs.YtfaplefkakpgcaaGreatDoor
/- The walk through a volume's directories: plain. -/
namespace Go.Proofs.YtfaplefkakpgcaaGreatDoor
set_option linter.unusedVariables false
set_option linter.unusedSimpArgs false
/-- the paths that were met, and the directories that were gone into -/
structure WalkS where
  paths : List (List UInt8)
  gone : List Int
def isDirP (v : List (List UInt8)) (I n : Int) : Bool := decide (1 ≤ n ∧ n ≤ I) && decide ((inoAt v n).getD 0 0 = 2)
/-- one entry of a directory; k: how its directories are gone into, if they are -/
def stepW (v : List (List UInt8)) (I : Int) (path : List UInt8) (k : Option (WalkS → Int → List UInt8 → WalkS)) (s : WalkS) (x : Ent) : WalkS :=
  match k with
  | none => ⟨s.paths ++ [path ++ 47 :: x.1], s.gone⟩
  | some f => if isDirP v I x.2 && !s.gone.contains x.2 then f ⟨s.paths ++ [path ++ 47 :: x.1], s.gone⟩ x.2 (path ++ 47 :: x.1) else ⟨s.paths ++ [path ++ 47 :: x.1], s.gone⟩
/-- into a directory; r more levels -/
def intoP (v : List (List UInt8)) (I : Int) : Nat → WalkS → Int → List UInt8 → WalkS
  | 0, s, n, path => (dlistP v I n).1.foldl (stepW v I path none) ⟨s.paths, s.gone ++ [n]⟩
  | r + 1, s, n, path => (dlistP v I n).1.foldl (stepW v I path (some (intoP v I r))) ⟨s.paths, s.gone ++ [n]⟩
def walkP (v : List (List UInt8)) (I : Int) : List (List UInt8) := (intoP v I 7 ⟨[], []⟩ 1 []).paths
/-- how many inodes were not gone into -/
def leftW (g : List Int) : Nat := (List.range 65).countP fun i : Nat => !g.contains (i : Int)
def potW (s : WalkS) : Nat := s.paths.length + 280 * leftW s.gone
theorem count_lt {α : Type} {p q : α → Bool} {l : List α} (h : ∀ x ∈ l, q x = true → p x = true) {a : α} (ha : a ∈ l) (h1 : p a = true) (h2 : q a = false) : l.countP q + 1 ≤ l.countP p := by
  induction l with
  | nil => exact absurd ha List.not_mem_nil
  | cons y l ih =>
    have hle : l.countP q ≤ l.countP p := List.countP_mono_left fun x hx => h x (List.mem_cons_of_mem _ hx)
    rcases List.mem_cons.1 ha with rfl | ha
    · rw [List.countP_cons_of_pos h1, List.countP_cons_of_neg (by rw [h2]; simp)]; omega
    · have ih := ih (fun x hx => h x (List.mem_cons_of_mem _ hx)) ha
      by_cases hq : q y = true
      · rw [List.countP_cons_of_pos hq, List.countP_cons_of_pos (h y List.mem_cons_self hq)]; omega
      · rw [List.countP_cons_of_neg hq, List.countP_cons]; omega
theorem left_in {g : List Int} {n : Int} (hn : n ∉ g) (h0 : 0 ≤ n) (h1 : n ≤ 64) : leftW (g ++ [n]) + 1 ≤ leftW g := by
  unfold leftW
  refine count_lt (a := n.toNat) (fun i _ hq => ?_) (List.mem_range.2 (by omega)) ?_ ?_
  · simp at hq ⊢; exact hq.1
  · rw [show ((n.toNat : Nat) : Int) = n by omega]; simpa using hn
  · rw [show ((n.toNat : Nat) : Int) = n by omega]; simp
theorem pot_in {s : WalkS} {n : Int} (hn : n ∉ s.gone) (h0 : 0 ≤ n) (h1 : n ≤ 64) : potW ⟨s.paths, s.gone ++ [n]⟩ + 280 ≤ potW s := by
  have := left_in hn h0 h1
  unfold potW
  simp only
  omega
theorem pot_step {v : List (List UInt8)} {I : Int} {path : List UInt8} {k : Option (WalkS → Int → List UInt8 → WalkS)}
    (hk : ∀ f, k = some f → ∀ s n p, n ∉ s.gone → 0 ≤ n → n ≤ 64 → potW (f s n p) ≤ potW s) {s : WalkS} {x : Ent} (hI : I ≤ 64) : potW (stepW v I path k s x) ≤ potW s + 1 := by
  have h1 : potW ⟨s.paths ++ [path ++ 47 :: x.1], s.gone⟩ = potW s + 1 := by unfold potW; simp; omega
  unfold stepW
  cases k with
  | none => exact Nat.le_of_eq h1
  | some f =>
    simp only
    split
    · rename_i c
      rw [Bool.and_eq_true] at c
      have c1 := c.1
      unfold isDirP at c1
      simp at c1
      refine Nat.le_trans (hk f rfl _ _ _ ?_ (by omega) (by omega)) (Nat.le_of_eq h1)
      simpa using c.2
    · exact Nat.le_of_eq h1
theorem pot_fold {v : List (List UInt8)} {I : Int} {path : List UInt8} {k : Option (WalkS → Int → List UInt8 → WalkS)}
    (hk : ∀ f, k = some f → ∀ s n p, n ∉ s.gone → 0 ≤ n → n ≤ 64 → potW (f s n p) ≤ potW s) (hI : I ≤ 64) (l : List Ent) : ∀ s, potW (l.foldl (stepW v I path k) s) ≤ potW s + l.length := by
  induction l with
  | nil => intro s; exact Nat.le_refl _
  | cons x l ih =>
    intro s
    rw [List.foldl_cons, List.length_cons]
    have := ih (stepW v I path k s x)
    have := pot_step (v := v) (path := path) hk (s := s) (x := x) hI
    omega
theorem pot_into {v : List (List UInt8)} {I : Int} (hI : I ≤ 64) (r : Nat) : ∀ s n p, n ∉ s.gone → 0 ≤ n → n ≤ 64 → potW (intoP v I r s n p) ≤ potW s := by
  induction r with
  | zero =>
    intro s n p hn h0 h1
    have e1 := pot_in hn h0 h1
    have e2 := pot_fold (v := v) (I := I) (path := p) (k := none) (fun f e => by cases e) hI (dlistP v I n).1 ⟨s.paths, s.gone ++ [n]⟩
    have e3 := dlist_len v I n
    unfold intoP
    omega
  | succ r ih =>
    intro s n p hn h0 h1
    have e1 := pot_in hn h0 h1
    have e2 := pot_fold (v := v) (I := I) (path := p) (k := some (intoP v I r)) (fun f e => by cases e; exact ih) hI (dlistP v I n).1 ⟨s.paths, s.gone ++ [n]⟩
    have e3 := dlist_len v I n
    unfold intoP
    omega
theorem pot_nil : potW ⟨[], []⟩ = 18200 := rfl
end Go.Proofs.YtfaplefkakpgcaaGreatDoor
