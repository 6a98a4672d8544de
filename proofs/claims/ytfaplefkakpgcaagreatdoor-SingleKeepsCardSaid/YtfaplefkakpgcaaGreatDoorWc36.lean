/- fs.Walk on any blocks. -/
import Derived.Test.YtfaplefkakpgcaaGreatDoorWc34
import Derived.Test.YtfaplefkakpgcaaGreatDoorWc16
namespace Go.Proofs.YtfaplefkakpgcaaGreatDoor
set_option linter.unusedVariables false
set_option linter.unusedSimpArgs false
open Go.RowKit
def goneL (l : List Int) : List Value := (List.range 65).map fun i : Nat => .bool (l.contains (i : Int))
theorem goneL_len (l : List Int) : (goneL l).length = 65 := by simp [goneL]
theorem goneL_at (l : List Int) {i : Nat} (h : i < 65) : (goneL l)[i]? = some (.bool (l.contains (i : Int))) := by
 unfold goneL
 rw [List.getElem?_map, List.getElem?_range h]; rfl
theorem goneL_set (l : List Int) {i : Nat} (h : i < 65) : (goneL l).set i (.bool true) = goneL (l ++ [(i : Int)]) := by
 apply List.ext_getElem?
 intro j
 rw [List.getElem?_set]
 by_cases hj : j < 65
 ·rw [goneL_at _ hj, goneL_at _ hj]
  by_cases e : i = j
  ·subst e
   rw [if_pos rfl, if_pos (by rw [goneL_len]; exact h)]
   simp
  ·rw [if_neg e]
   have : ((l ++ [(i : Int)]).contains (j : Int)) = l.contains (j : Int) := by
    simp; omega
   rw [this]
 ·have h1 : (goneL l)[j]? = none := List.getElem?_eq_none (by rw [goneL_len]; omega)
  have h2 : (goneL (l ++ [(i : Int)]))[j]? = none := List.getElem?_eq_none (by rw [goneL_len]; omega)
  rw [if_neg (by omega), h1, h2]
def walkC (S : Value) (l : List Int) (u : Value) : Array Value := (S :: (goneL l ++ [u])).toArray
theorem walkC_in (S : Value) (l : List Int) (u : Value) {i : Nat} (h : i < 65) : (walkC S l u)[1 + i]? = some (.bool (l.contains (i : Int))) := by
 unfold walkC
 rw [List.getElem?_toArray, show 1 + i = i + 1 by omega, List.getElem?_cons_succ, List.getElem?_append_left (by rw [goneL_len]; omega), goneL_at l h]
theorem walkC_u (S : Value) (l : List Int) (u : Value) : (walkC S l u)[66]? = some u := by
 unfold walkC
 rw [List.getElem?_toArray, show (66 : Nat) = 65 + 1 by omega, List.getElem?_cons_succ, List.getElem?_append_right (by rw [goneL_len]; omega), goneL_len]; rfl
theorem walkC_set (S : Value) (l : List Int) (u : Value) {i : Nat} (h : i < 65) : (walkC S l u).setIfInBounds (1 + i) (.bool true) = walkC S (l ++ [(i : Int)]) u := by
 unfold walkC
 rw [List.setIfInBounds_toArray, show 1 + i = i + 1 by omega, List.set_cons_succ, List.set_append, if_pos (by rw [goneL_len]; omega), goneL_set l h]
theorem walkC_put (S : Value) (l : List Int) (u u' : Value) : (walkC S l u).setIfInBounds 66 u' = walkC S l u' := by
 unfold walkC
 rw [List.setIfInBounds_toArray, show (66 : Nat) = 65 + 1 by omega, List.set_cons_succ, List.set_append, if_neg (by rw [goneL_len]; omega), goneL_len]; rfl
def WalkIn (B : Nat) (w : World) (g : Nat) (S : Value) (s : WalkS) : Prop := B ≤ g ∧ ∃ u, Box w g 98 (walkC S s.gone u) ∧ w.ownsRow B 9 1 u s.paths.length (strL s.paths)
theorem WalkIn.ext {B : Nat} {w w' : World} {g : Nat} {S : Value} {s : WalkS} (h : WalkIn B w g S s) (x : Ext w w') : WalkIn B w' g S s := by
 obtain ⟨hB, u, h1, h2⟩ := h
 exact ⟨hB, u, h1.ext x, own_ext h2 x⟩
set_option maxHeartbeats 1000000 in
set_option maxRecDepth 100000 in
theorem wdir_any (A : Option Addr) (n c : Nat) (v : List (List UInt8)) (I : Int) (k : Int) (g : Nat) (l : List Int) (u : Value) (w : World) (hv : Strs w A n v) (hg : Good v I) (hb : Box w g 98 (walkC (.slice A n c) l u)) :
  Calls Tryz.prog 108 #[.pointer (some ⟨g, 0, none⟩), .int .i64 k] w fun e w' => e = .returned (.bool (isDirP v I k)) ∧ Ext w w' := by
 have cv : w.cell? ⟨g, 0, none⟩ = some (.slice A n c) := hb.cell 0
 by_cases h1 : k < 1 ∨ I < k
 ·have HG := Lib.hid (fun w h => iget_no A n c v I k w h hg h1)
  have HP := Lib.hid (show isDirP v I k = false by unfold isDirP; rw [decide_eq_false (by omega)]; rfl)
  have HV := Lib.hid hv
  clear hb hv hg
  go_enter Tryz.func108, Tryz.ntmps108
  go_wp2_with (first
   | (go_at_call 69; refine (HG.out _ HV.out).mono ?_; rintro e w1 ⟨rfl, x1⟩)
   | (refine wp_st_ino (.tmp 5) (.tmp 14) rfl rfl w1.heap.size _ zero12 121 rfl rfl (Box.new _ _ _) rfl rfl ?_; intro w2 b2 g2))
  go_ret
  rw [HP.out]
  exact ⟨rfl, (x1.alloc _).grown g2 (fun k e => by cases e; exact x1.size)⟩
 ·have HG := Lib.hid (fun w h => iget_yes A n c v I k w h hg (by omega) (by omega))
  have hl : (inoAt v k).length = 12 := rfl
  have hx12 : (intVals (inoAt v k))[0]? = some (.int .i64 ((inoAt v k).getD 0 0)) := rfl
  have HP := Lib.hid (show isDirP v I k = decide ((inoAt v k).getD 0 0 = 2) by unfold isDirP; rw [decide_eq_true (by omega)]; rfl)
  have HV := Lib.hid hv
  clear hb hv hg h1
  generalize (inoAt v k).getD 0 0 = kd at *
  generalize inoAt v k = x at *
  go_enter Tryz.func108, Tryz.ntmps108
  go_wp2_with (first
   | (go_at_call 69; refine (HG.out _ HV.out).mono ?_; rintro e w1 ⟨rfl, x1⟩)
   | (refine wp_st_ino (.tmp 5) (.tmp 14) rfl rfl w1.heap.size _ zero12 121 rfl rfl (Box.new _ _ _) hl rfl ?_; intro w2 b2 g2; have c2 := (b2.cell 0).trans hx12))
  go_ret
  rw [HP.out]
  exact ⟨by congr 1, (x1.alloc _).grown g2 (fun k e => by cases e; exact x1.size)⟩
structure IntoK (W0 : World) (A : Option Addr) (n c : Nat) (v : List (List UInt8)) (I : Int) (d : Nat) (f : WalkS → Int → List UInt8 → WalkS) : Prop where
 calls : ∀ (g : Nat) (s : WalkS) (k : Nat) (path : List UInt8) (w : World), (k : Int) ∉ s.gone → k ≤ 64 → potW s ≤ 18200 → path.length ≤ 25 * d → Ext W0 w → WalkIn W0.heap.size w g (.slice A n c) s →
  Calls Tryz.prog 55 #[.pointer (some ⟨g, 0, none⟩), .int .i64 (k : Int), .string (str path), .int .i64 (d : Int)] w fun e w' => e = .returned (.tuple #[]) ∧ WalkIn W0.heap.size w' g (.slice A n c) (f s k path) ∧ Ext W0 w' ∧ Lib.OthersKept 9 (some g) w w'
 pot : ∀ s k p, k ∉ s.gone → 0 ≤ k → k ≤ 64 → potW (f s k p) ≤ potW s
theorem others_ext {t : TypeId} {g : Nat} {w w' : World} (h : Ext w w') : Lib.OthersKept t (some g) w w' := fun k o hk _ _ =>
 (Below.block h k (Array.getElem?_eq_some_iff.1 hk).1).trans hk
theorem own_others {t : TypeId} {g B z n : Nat} {e : TypeId} {w w' : World} {u : Value} {xs : List Value} (h : w.ownsRow B e z u n xs) (k : Lib.OthersKept t (some g) w w') (hne : u.ownBlock ≠ some g) (het : e ≠ t) : w'.ownsRow B e z u n xs := by
 refine ⟨h.1, ?_⟩
 rcases h.2 with hc | ⟨g1, cap, cur, rfl, hb, hh, r⟩
 ·exact .inl hc
 ·exact .inr ⟨g1, cap, cur, rfl, hb, k g1 _ hh (fun e => hne (by rw [← e]; rfl)) (fun c fz e => het (by cases e; rfl)), r⟩
theorem own_kind {w : World} {B z n : Nat} {e : TypeId} {u : Value} {xs : List Value} (h : w.ownsRow B e z u n xs) : ∀ g, u.ownBlock = some g → ∃ c fz, w.heap[g]? = some (.cells c e fz) := by
 intro g hg
 rcases h.2 with ⟨rfl, _⟩ | ⟨g', cap, cur, rfl, _, hgg, _⟩
 ·simp [Value.ownBlock] at hg
 ·simp [Value.ownBlock] at hg
  subst hg
  exact ⟨cur, _, hgg⟩
theorem foldW (v : List (List UInt8)) (I : Int) (path : List UInt8) (kk : Option (WalkS → Int → List UInt8 → WalkS)) (l : List Ent) (s : WalkS) (j : Nat) (h : j < l.length) : (l.take (j + 1)).foldl (stepW v I path kk) s = stepW v I path kk ((l.take j).foldl (stepW v I path kk) s) l[j] := by
 rw [List.take_succ_eq_append_getElem h, List.foldl_append]; rfl
set_option maxHeartbeats 4000000 in
set_option maxRecDepth 100000 in
theorem wenter_gen (W0 : World) (A : Option Addr) (n c : Nat) (v : List (List UInt8)) (I : Int) (hv : Strs W0 A n v) (hg : Good v I) (kk : Option (WalkS → Int → List UInt8 → WalkS)) (d : Nat) (hd : d ≤ 7) (hk1 : ∀ f, kk = some f → d + 1 < 8 ∧ IntoK W0 A n c v I (d + 1) f) (hk2 : kk = none → d = 7)
  (g : Nat) (s : WalkS) (k : Nat) (path : List UInt8) (w : World) (hkg : (k : Int) ∉ s.gone) (hk64 : k ≤ 64) (hpot : potW s ≤ 18200) (hpl : path.length ≤ 25 * d) (hx : Ext W0 w) (hw : WalkIn W0.heap.size w g (.slice A n c) s) :
  Calls Tryz.prog 55 #[.pointer (some ⟨g, 0, none⟩), .int .i64 (k : Int), .string (str path), .int .i64 (d : Int)] w fun e w' => e = .returned (.tuple #[]) ∧ WalkIn W0.heap.size w' g (.slice A n c) ((dlistP v I k).1.foldl (stepW v I path kk) ⟨s.paths, s.gone ++ [(k : Int)]⟩) ∧ Ext W0 w' ∧ Lib.OthersKept 9 (some g) w w' := by
 have hI64 : I ≤ 64 := (plan_bd hg.plan).2.2.2.1
 have hp1 := pot_in hkg (by omega) (by omega : (k : Int) ≤ 64)
 have HPot := Lib.hid (fun l => pot_fold (v := v) (I := I) (path := path) (k := kk) (fun f e s n p a b c => (hk1 f e).2.pot s n p a b c) hI64 l ⟨s.paths, s.gone ++ [(k : Int)]⟩)
 have HFo := Lib.hid (fun l s j h => foldW v I path kk l s j h)
 have HL := Lib.hid (fun w h => dlist_any A n c v I k w h hg)
 have hll := dlist_len v I k
 have hle := Lib.hid (dlist_ents v I k)
 have HD := Lib.hid (fun q g l u w h hb => wdir_any A n c v I q g l u w h hg hb)
 have HK1 := Lib.hid hk1
 have HK2 := Lib.hid hk2
 have HV := Lib.hid hv
 have HX := Lib.hid hx
 obtain ⟨hB, u0, hbx, own0⟩ := hw
 have hgl := hbx.lt
 have cv0 : w.cell? ⟨g, 0, none⟩ = some (.slice A n c) := hbx.cell 0
 have ck : w.cell? ⟨g, 1 + k, none⟩ = some (.bool (s.gone.contains (k : Int))) := (hbx.cell (1 + k)).trans (walkC_in _ _ _ (by omega))
 have fk := hbx.frozen (1 + k)
 have hb1 := hbx.set (1 + k) (.bool true)
 rw [walkC_set _ _ _ (by omega)] at hb1
 have own1 := own_setBox (i := 1 + k) own0 hbx (by decide) (.bool true)
 have x1 : Ext W0 (w.setCell ⟨g, 1 + k, none⟩ (.bool true)) := hx.setCell hB _
 have k1 : Lib.OthersKept 9 (some g) w (w.setCell ⟨g, 1 + k, none⟩ (.bool true)) := (Lib.OthersKept.refl 9 (some g) w).setCell ⟨g, 1 + k, none⟩ rfl _
 obtain ⟨s1, hs1⟩ : ∃ s1 : WalkS, s1 = ⟨s.paths, s.gone ++ [(k : Int)]⟩ := ⟨_, rfl⟩
 have hW1 : WalkIn W0.heap.size (w.setCell ⟨g, 1 + k, none⟩ (.bool true)) g (.slice A n c) s1 := by rw [hs1]; exact ⟨hB, u0, hb1, own1⟩
 have hq1 : potW s1 + 280 ≤ 18200 := by rw [hs1]; omega
 rw [← hs1] at HPot ⊢
 have cv1 : (w.setCell ⟨g, 1 + k, none⟩ (.bool true)).cell? ⟨g, 0, none⟩ = some (.slice A n c) := hb1.cell 0
 have HW1 := Lib.hid hW1
 have HX1 := Lib.hid x1
 have HKp1 := Lib.hid k1
 have hki : (k : Int) < 65 := by omega
 clear hs1 hW1 x1 own1 hb1 own0 hbx hp1 hkg hv hx hpot k1 hk1 hk2
 generalize dlistP v I k = R at *
 obtain ⟨l, er⟩ := R
 simp only at HL hll hle ⊢
 go_enter Tryz.func55, Tryz.ntmps55
 go_upto_region 1 with fail
 generalize w.setCell ⟨g, 1 + k, none⟩ (.bool true) = w1 at *
 have hgw1 : W0.heap.size ≤ w1.heap.size := HX1.out.size
 clear cv0 ck fk
 go_upto_region 3 with (go_at_call 107; refine (HL.out _ (HV.out.ext HX1.out)).mono ?_; rintro e w2 ⟨u, rfl, x2, own2⟩; obtain ⟨A2, cap2, rfl, st2⟩ := own2.form)
 have HO2 := Lib.hid own2
 have HX2 := Lib.hid x2
 have HNe := Lib.hid (show (Value.slice A2 l.length cap2).ownBlock ≠ some g from by
  obtain ⟨_, u1, hb1, _⟩ := HW1.out
  exact (own_ne own2 (hb1.ext x2) (by decide)).symm)
 clear own2 x2 st2 cv1
 go_loopw [11, 12, 29] (fun _ _ t wx => ∃ j : Nat, j ≤ l.length ∧ t = .int .i64 j ∧ WalkIn W0.heap.size wx g (.slice A n c) ((l.take j).foldl (stepW v I path kk) s1) ∧ Ext W0 wx ∧ Lib.OthersKept 9 (some g) w2 wx) (fun _ _ t _ => l.length - (intOf t).toNat)
 case atStart => exact ⟨0, by omega, rfl, by simpa using HW1.out.ext HX2.out, HX1.out.trans HX2.out, Lib.OthersKept.refl _ _ _⟩
 case round =>
  obtain ⟨j, hj, rfl, hWj, xj, kj⟩ := hrel
  have HWj := Lib.hid hWj
  have HXj := Lib.hid xj
  have HKj := Lib.hid kj
  clear hWj xj kj
  by_cases hlt : j < l.length
  ·have HF := Lib.hid (HFo.out l s1 j hlt)
   have hpj := HPot.out (l.take j)
   rw [List.length_take, Nat.min_eq_left hj] at hpj
   have hex := hle.out.1 _ (List.getElem_mem hlt)
   have own3 : OwnE wr w1.heap.size (.slice A2 l.length cap2) l := own_others HO2.out HKj.out HNe.out (by decide)
   obtain ⟨A3, cap3, e3, st3⟩ := own3.form
   injection e3 with e31 _ e33
   subst e31 e33
   obtain ⟨b, o, rfl, hcell⟩ := st3.2 (by omega)
   have hc1 := (hcell j hlt).1
   have hc2 := (hcell j hlt).2
   clear hcell st3 own3 HFo HPot
   generalize l[j] = x at *
   generalize (l.take j).foldl (stepW v I path kk) s1 = sj at *
   obtain ⟨q, hq⟩ : ∃ q : Nat, x.2 = (q : Int) := ⟨x.2.toNat, by omega⟩
   obtain ⟨name, ino⟩ := x
   simp only at hc1 hc2 hex hq
   subst hq
   have hnl := mayD_len hex.1
   have h47 : ∀ p : List UInt8, str p ++ ⟨#[47]⟩ = str (p ++ [47]) := fun p => str_app p [47]
   have hap := str_app
   have hz := str_size
   have hq64 : q ≤ 64 := by omega
   have hqi : (q : Int) < 65 := by omega
   have hpb : (path ++ 47 :: name).length ≤ 25 * (d + 1) := by simp; omega
   obtain ⟨_, u, hbx, ownu⟩ := HWj.out
   have cu : wr.cell? ⟨g, 66, none⟩ = some u := (hbx.cell 66).trans (walkC_u _ _ _)
   clear hex
   have hji : (j : Int) < (l.length : Int) := by omega
   have yx := Box.new wr 154 #[.string (str name), .int .i64 (q : Int)]
   have xa : Ext wr (wr.alloc (.cells #[.string (str name), .int .i64 (q : Int)] 154)) := (Ext.refl wr).alloc _
   have hxg : g ≠ wr.heap.size := by have := hbx.lt; omega
   have hW0r : W0.heap.size ≤ wr.heap.size := HXj.out.size
   go_upto_region 5 with fail
   generalize wr.alloc (.cells #[.string (str name), .int .i64 (q : Int)] 154) = wa at *
   have cu2 := xa.keep cu
   have cn := yx.cell 0
   have cq := yx.cell 1
   simp at cn cq
   have st4 := strs_new1 wa (path ++ 47 :: name)
   have own4 := own_ext ownu (xa.trans ((Ext.refl wa).alloc (.cells #[.string (str (path ++ 47 :: name))] 9)))
   have bx4 := (hbx.ext xa).ext ((Ext.refl wa).alloc (.cells #[.string (str (path ++ 47 :: name))] 9))
   have yx4 := yx.ext ((Ext.refl wa).alloc (.cells #[.string (str (path ++ 47 :: name))] 9))
   have hsz4 : W0.heap.size ≤ (wa.alloc (.cells #[.string (str (path ++ 47 :: name))] 9)).heap.size := by have := xa.size; simp; omega
   have k4 : Lib.OthersKept 9 (some g) wr (wa.alloc (.cells #[.string (str (path ++ 47 :: name))] 9)) := (others_ext xa).alloc _
   have X4 : Ext W0 (wa.alloc (.cells #[.string (str (path ++ 47 :: name))] 9)) := (HXj.out.trans xa).alloc _
   have hpp : sj.paths.length ≤ 18200 := by have : sj.paths.length ≤ potW sj := by unfold potW; omega
                                            omega
   go_upto_region 7 with (at_builtin; refine wp_app_strs W0.heap.size rfl _ _ rfl rfl rfl own4 st4 (by omega) hsz4 (by omega) ?_; intro un w5 ownN g5; have bx5 := bx4.grown g5 (own_ne own4 bx4 (by decide)); have c66 : w5.cell? ⟨g, 66, none⟩ = some u := (bx5.cell 66).trans (walkC_u _ _ _); have f66 := bx5.frozen 66; obtain ⟨gn, cc, rfl, _, _⟩ := Strs.own' ownN (by omega))
   have hW6 : WalkIn W0.heap.size (w5.setCell ⟨g, 66, none⟩ (.slice (some ⟨gn, 0, none⟩) (sj.paths.length + 1) cc)) g (.slice A n c) ⟨sj.paths ++ [path ++ 47 :: name], sj.gone⟩ := by
    refine ⟨hB, .slice (some ⟨gn, 0, none⟩) (sj.paths.length + 1) cc, ?_, ?_⟩
    ·have e := bx5.set 66 (.slice (some ⟨gn, 0, none⟩) (sj.paths.length + 1) cc)
     rw [walkC_put] at e
     exact e
    ·have e := own_setBox (i := 66) ownN bx5 (by decide) (.slice (some ⟨gn, 0, none⟩) (sj.paths.length + 1) cc)
     rw [show (sj.paths ++ [path ++ 47 :: name]).length = sj.paths.length + 1 by simp]
     exact e
   have X6 : Ext W0 (w5.setCell ⟨g, 66, none⟩ (.slice (some ⟨gn, 0, none⟩) (sj.paths.length + 1) cc)) := (X4.grown g5 (fun k e => own_low own4 e)).setCell hB _
   have K6 : Lib.OthersKept 9 (some g) wr (w5.setCell ⟨g, 66, none⟩ (.slice (some ⟨gn, 0, none⟩) (sj.paths.length + 1) cc)) := (k4.grown g5 (own_kind own4)).setCell ⟨g, 66, none⟩ rfl _
   have yx6 : Box (w5.setCell ⟨g, 66, none⟩ (.slice (some ⟨gn, 0, none⟩) (sj.paths.length + 1) cc)) wr.heap.size 154 #[.string (str name), .int .i64 (q : Int)] := (yx4.grown g5 (own_ne own4 yx4 (by decide))).setOther (Ne.symm hxg) _
   have HW6 := Lib.hid hW6
   have HX6 := Lib.hid X6
   have HK6 := Lib.hid (HKj.out.trans K6)
   have hp6 : potW ⟨sj.paths ++ [path ++ 47 :: name], sj.gone⟩ ≤ 18200 := by
    have : potW ⟨sj.paths ++ [path ++ 47 :: name], sj.gone⟩ = potW sj + 1 := by unfold potW; simp; omega
    omega
   clear hW6 X6 K6 c66 f66 bx5 ownN g5 X4 k4 hsz4 yx4 bx4 own4 st4 cn cq cu2 yx xa cu hbx ownu
   generalize w5.setCell ⟨g, 66, none⟩ (.slice (some ⟨gn, 0, none⟩) (sj.paths.length + 1) cc) = w6 at *
   have HSt := Lib.hid (show stepW v I path kk sj (name, (q : Int)) = match kk with
    | none => ⟨sj.paths ++ [path ++ 47 :: name], sj.gone⟩
    | some f => if isDirP v I (q : Int) && !sj.gone.contains (q : Int) then f ⟨sj.paths ++ [path ++ 47 :: name], sj.gone⟩ (q : Int) (path ++ 47 :: name) else ⟨sj.paths ++ [path ++ 47 :: name], sj.gone⟩ from by unfold stepW; cases kk <;> rfl)
   have hwd : IntKind.i64.wrap ((d : Int) + 1) = (d : Int) + 1 := by rw [IntKind.wrap_i64]; omega
   have hwd2 : wrap64 ((d : Int) + 1) = (d : Int) + 1 := by unfold wrap64; omega
   have YX6 := Lib.hid yx6
   have cq6 : ∀ y : Later w6, y.now.cell? ⟨wr.heap.size, 1, none⟩ = some (.int .i64 (q : Int)) := fun y => y.ext.keep (yx6.cell 1)
   obtain ⟨_, u6, bx6, _⟩ := HW6.out
   have ci6 : ∀ y : Later w6, y.now.cell? ⟨g, 1 + q, none⟩ = some (.bool (sj.gone.contains (q : Int))) := fun y => y.ext.keep ((bx6.cell (1 + q)).trans (walkC_in _ _ _ (by omega)))
   have HDq := Lib.hid (fun y : Later w6 => HD.out (q : Int) g sj.gone u6 y.now (HV.out.ext (HX6.out.trans y.ext)) (bx6.ext y.ext))
   clear HD HL bx6 yx6 hap h47 hz
   cases kk with
   | none =>
    have hd7 := HK2.out rfl
    have hd8 : decide ((d : Int) + 1 < 8) = false := by rw [hd7]; rfl
    have HS2 := Lib.hid HSt.out
    simp only at HS2
    clear HSt HK1 HK2 hd7 ci6 cq6
    refine wp_region_later (by kernel_rfl) (by kernel_rfl) ?_
    repeat (go_big_quiet_step (fail))
    refine wpQuiet_nil ?_
    rintro w7 ⟨y, rfl⟩
    go_wp2_with fail
    go_roundw
    case rel => exact ⟨j + 1, by omega, by go_num, by rw [HF.out, HS2.out]; exact HW6.out.ext y.ext, HX6.out.trans y.ext, HK6.out.trans (others_ext y.ext)⟩
    case measure => simp [intOf]; omega
   | some f =>
    obtain ⟨hd8', hF⟩ := HK1.out f rfl
    have hd8 : decide ((d : Int) + 1 < 8) = true := decide_eq_true (show (d : Int) + 1 < 7 + 1 from Int.add_lt_add_right (Int.ofNat_lt.2 (Nat.lt_of_succ_lt_succ hd8')) 1)
    have HFk := Lib.hid hF
    have HS2 := Lib.hid HSt.out
    simp only at HS2
    clear HSt HK1 HK2 hF
    cases hc : sj.gone.contains (q : Int) with
    | true =>
     rw [hc] at ci6 HS2
     simp only [Bool.not_true, Bool.and_false, Bool.false_eq_true, if_false] at HS2
     clear hc HDq
     refine wp_region_later (by kernel_rfl) (by kernel_rfl) ?_
     repeat (go_big_quiet_step (fail))
     refine wpQuiet_nil ?_
     rintro w7 ⟨y, rfl⟩
     clear ci6 cq6
     go_wp2_with fail
     go_roundw
     case rel => exact ⟨j + 1, by omega, by go_num, by rw [HF.out, HS2.out]; exact HW6.out.ext y.ext, HX6.out.trans y.ext, HK6.out.trans (others_ext y.ext)⟩
     case measure => simp [intOf]; omega
    | false =>
     rw [hc] at ci6 HS2
     simp only [Bool.not_false, Bool.and_true] at HS2
     have hnc : (q : Int) ∉ sj.gone := by simpa using hc
     cases hdq : isDirP v I (q : Int) with
     | false =>
      rw [hdq] at HS2 HDq
      simp only [Bool.false_eq_true, if_false] at HS2
      clear hc hdq
      refine wp_region_later (by kernel_rfl) (by kernel_rfl) ?_
      repeat (go_big_quiet_step (exact later_of (HDq.out _)))
      refine wpQuiet_nil ?_
      rintro w7 ⟨y, rfl⟩
      clear ci6 cq6
      go_wp2_with fail
      go_roundw
      case rel => exact ⟨j + 1, by omega, by go_num, by rw [HF.out, HS2.out]; exact HW6.out.ext y.ext, HX6.out.trans y.ext, HK6.out.trans (others_ext y.ext)⟩
      case measure => simp [intOf]; omega
     | true =>
      rw [hdq] at HS2 HDq
      simp only [if_true] at HS2
      clear hc hdq
      have HC := Lib.hid (fun w h1 h2 => HFk.out.calls g ⟨sj.paths ++ [path ++ 47 :: name], sj.gone⟩ q (path ++ 47 :: name) w hnc hq64 hp6 (by have := hpb; simpa using this) h1 h2)
      rw [show ((d + 1 : Nat) : Int) = (d : Int) + 1 by omega] at HC
      refine wp_region_later (by kernel_rfl) (by kernel_rfl) ?_
      repeat (go_big_quiet_step (exact later_of (HDq.out _)))
      refine wpQuiet_nil ?_
      rintro w7 ⟨y, rfl⟩
      have cq7 := cq6 y
      clear ci6 cq6
      go_wp2_with (go_at_call 55; refine (HC.out _ (HX6.out.trans y.ext) (HW6.out.ext y.ext)).mono ?_; rintro e w8 ⟨rfl, hW8, x8, k8⟩)
      go_roundw
      case rel => exact ⟨j + 1, by omega, by go_num, by rw [HF.out, HS2.out]; exact hW8, x8, (HK6.out.trans (others_ext y.ext)).trans k8⟩
      case measure => simp [intOf]; omega
  ·obtain rfl : j = l.length := by omega
   rw [List.take_length] at HWj
   go_wp2_with fail
   go_end0
   exact ⟨rfl, HWj.out, HXj.out, (HKp1.out.trans (others_ext HX2.out)).trans HKj.out⟩
theorem wenter_any (W0 : World) (A : Option Addr) (n c : Nat) (v : List (List UInt8)) (I : Int) (hv : Strs W0 A n v) (hg : Good v I) (r : Nat) : ∀ d, r + d = 7 → IntoK W0 A n c v I d (intoP v I r) := by
 have hI64 : I ≤ 64 := (plan_bd hg.plan).2.2.2.1
 induction r with
 | zero =>
  intro d hd
  refine ⟨fun g s k path w a1 a2 a3 a4 a5 a6 => ?_, fun s k p a b c => pot_into hI64 0 s k p a b c⟩
  have := wenter_gen W0 A n c v I hv hg none d (by omega) (fun f e => by cases e) (fun _ => by omega) g s k path w a1 a2 a3 a4 a5 a6
  exact this
 | succ r ih =>
  intro d hd
  refine ⟨fun g s k path w a1 a2 a3 a4 a5 a6 => ?_, fun s k p a b c => pot_into hI64 (r + 1) s k p a b c⟩
  have := wenter_gen W0 A n c v I hv hg (some (intoP v I r)) d (by omega) (fun f e => by cases e; exact ⟨by omega, ih (d + 1) (by omega)⟩) (fun e => by cases e) g s k path w a1 a2 a3 a4 a5 a6
  exact this
def walkX (v : List (List UInt8)) : Option Int → List (List UInt8)
 | some I => walkP v I
 | none => []
theorem walkZ_is : Tryz.zeroCells98 = walkC (.slice none 0 0) [] (.slice none 0 0) := by kernel_rfl
theorem walk_st (A : Option Addr) (n c : Nat) : (Tryz.zeroCells98).setIfInBounds 0 (.slice A n c) = walkC (.slice A n c) [] (.slice none 0 0) := by rw [walkZ_is]; rfl
theorem walkC_size (S : Value) (l : List Int) (u : Value) : (walkC S l u).size = 67 := by simp [walkC, goneL_len]
theorem walkSize : (Tryz.prog.info? 98).map (·.size) = some 67 := by kernel_rfl
theorem walk_one (A : Option Addr) (n c : Nat) : (walkC (.slice A n c) [] (.slice none 0 0)).all (·.oneCell') = true := by
 unfold walkC goneL
 simp [Value.oneCell']
set_option maxHeartbeats 1000000 in
set_option maxRecDepth 100000 in
theorem wenter_bad (W0 : World) (A : Option Addr) (n c : Nat) (v : List (List UInt8)) (g : Nat) (s : WalkS) (w : World) (hv : Strs W0 A n v) (hn : n ≤ 9223372036854775807) (hbd : ∀ I, ¬ Good v I) (hx : Ext W0 w) (hw : WalkIn W0.heap.size w g (.slice A n c) s) :
  Calls Tryz.prog 55 #[.pointer (some ⟨g, 0, none⟩), .int .i64 1, .string (str []), .int .i64 0] w fun e w' => e = .returned (.tuple #[]) ∧ WalkIn W0.heap.size w' g (.slice A n c) ⟨s.paths, s.gone ++ [1]⟩ ∧ Ext W0 w' := by
 have HL := Lib.hid (fun k w h => dlist_none A n c v k w h hn hbd)
 have HV := Lib.hid hv
 have HX := Lib.hid hx
 obtain ⟨hB, u0, hbx, own0⟩ := hw
 have hgl := hbx.lt
 have cv0 : w.cell? ⟨g, 0, none⟩ = some (.slice A n c) := hbx.cell 0
 have ck : w.cell? ⟨g, 2, none⟩ = some (.bool (s.gone.contains 1)) := (hbx.cell (1 + 1)).trans (walkC_in _ _ _ (by omega))
 have fk := hbx.frozen 2
 have hb1 := hbx.set (1 + 1) (.bool true)
 rw [walkC_set _ _ _ (by omega)] at hb1
 have own1 := own_setBox (i := 1 + 1) own0 hbx (by decide) (.bool true)
 have x1 : Ext W0 (w.setCell ⟨g, 2, none⟩ (.bool true)) := hx.setCell hB _
 have hW1 : WalkIn W0.heap.size (w.setCell ⟨g, 2, none⟩ (.bool true)) g (.slice A n c) ⟨s.paths, s.gone ++ [1]⟩ := ⟨hB, u0, hb1, own1⟩
 have cv1 : (w.setCell ⟨g, 2, none⟩ (.bool true)).cell? ⟨g, 0, none⟩ = some (.slice A n c) := hb1.cell 0
 have HW1 := Lib.hid hW1
 have HX1 := Lib.hid x1
 clear hW1 x1 own1 hb1 own0 hbx hv hx
 go_enter Tryz.func55, Tryz.ntmps55
 go_upto_region 1 with fail
 generalize w.setCell ⟨g, 2, none⟩ (.bool true) = w1 at *
 clear cv0 ck fk
 go_wp2_with (go_at_call 107; refine (HL.out 1 _ (HV.out.ext HX1.out)).mono ?_; rintro e w2 ⟨rfl, x2⟩)
 go_loopw [11, 12, 29] (fun _ _ t wx => t = .int .i64 0 ∧ w2 = wx) (fun _ _ _ _ => 0)
 case atStart => exact ⟨rfl, rfl⟩
 case round =>
  obtain ⟨rfl, rfl⟩ := hrel
  go_wp2_with fail
  go_end0
  exact ⟨rfl, HW1.out.ext x2, HX1.out.trans x2⟩
set_option maxHeartbeats 1000000 in
set_option maxRecDepth 100000 in
theorem walk_any (A : Option Addr) (n c : Nat) (v : List (List UInt8)) (I : Option Int) (w : World) (hv : Strs w A n v) (hn : n ≤ 9223372036854775807) (hg : GoodX v I) :
  Calls Tryz.prog 22 #[.slice A n c] w fun e w' => ∃ u, e = .returned u ∧ Ext w w' ∧ w'.ownsRow w.heap.size 9 1 u (walkX v I).length (strL (walkX v I)) := by
 have HE : Hid (∀ W g, Ext w W → WalkIn w.heap.size W g (.slice A n c) ⟨[], []⟩ → Calls Tryz.prog 55 #[.pointer (some ⟨g, 0, none⟩), .int .i64 1, .string (str []), .int .i64 0] W fun e w' => e = .returned (.tuple #[]) ∧ (∃ gn, WalkIn w.heap.size w' g (.slice A n c) ⟨walkX v I, gn⟩) ∧ Ext w w') := Lib.hid (fun W g hx hW => by
  cases I with
  | none =>
   refine (wenter_bad w A n c v g ⟨[], []⟩ W hv hn hg hx hW).mono ?_
   rintro e w' ⟨rfl, h, x⟩
   exact ⟨rfl, ⟨_, h⟩, x⟩
  | some I =>
   have := (wenter_any w A n c v I hv hg 7 0 rfl).calls g ⟨[], []⟩ 1 [] W (by simp) (by omega) (Nat.le_of_eq pot_nil) (by simp) hx hW
   refine this.mono ?_
   rintro e w' ⟨rfl, h, x, _⟩
   exact ⟨rfl, ⟨_, h⟩, x⟩)
 have x0 : Ext w (w.alloc (.cells Tryz.zeroCells98 98)) := (Ext.refl w).alloc _
 clear hv hg
 generalize walkX v I = P at *
 go_enter Tryz.func22, Tryz.ntmps22
 go_upto_region 2 with (refine wp_st 98 (.tmp 3) (.tmp 5) rfl rfl w.heap.size (walkC (.slice A n c) [] (.slice none 0 0)) _ 98 rfl (congrArg Value.agg (walk_st A n c)) (Box.new _ _ _) (by rw [walkC_size]; exact walkSize) (by rw [walkZ_is, walkC_size, walkC_size]) (walk_one A n c) ?_; intro w2 b2 g2)
 have X2 := Lib.hid (x0.grown g2 (fun j e => by cases e; exact Nat.le_refl _))
 have hW2 : WalkIn w.heap.size w2 w.heap.size (.slice A n c) ⟨[], []⟩ := ⟨Nat.le_refl _, _, b2, World.ownsRow_nil _ _ _ _⟩
 have HC := Lib.hid (HE.out w2 w.heap.size X2.out hW2)
 clear hW2 HE g2 b2 x0
 go_upto_region 3 with (go_at_call 55; refine HC.out.mono ?_; rintro e w3 ⟨rfl, ⟨gn, hW3⟩, x3⟩)
 obtain ⟨_, u, bx, own⟩ := hW3
 have cu : w3.cell? ⟨w.heap.size, 66, none⟩ = some u := (bx.cell 66).trans (walkC_u _ _ _)
 have HO := Lib.hid own
 clear own bx
 go_wp2_with fail
 go_ret
 exact ⟨_, rfl, x3, HO.out⟩
end Go.Proofs.YtfaplefkakpgcaaGreatDoor
/- Plain: the paths of a walk are short. -/
namespace Go.Proofs.YtfaplefkakpgcaaGreatDoor
set_option linter.unusedVariables false
set_option linter.unusedSimpArgs false
theorem short_fold {v : List (List UInt8)} {I : Int} {path : List UInt8} {B : Nat} {k : Option (WalkS → Int → List UInt8 → WalkS)} (hp : path.length + 25 ≤ B)
  (hk : ∀ f, k = some f → ∀ s n p, p.length ≤ path.length + 25 → (∀ q ∈ s.paths, q.length ≤ B) → ∀ q ∈ (f s n p).paths, q.length ≤ B) :
  ∀ (l : List Ent) (s : WalkS), (∀ x ∈ l, x.1.length ≤ 24) → (∀ q ∈ s.paths, q.length ≤ B) → ∀ q ∈ (l.foldl (stepW v I path k) s).paths, q.length ≤ B := by
 intro l
 induction l with
 | nil => intro s _ hs; exact hs
 | cons x l ih =>
  intro s hx hs
  rw [List.foldl_cons]
  refine ih _ (fun y hy => hx y (List.mem_cons_of_mem _ hy)) ?_
  have h1 := hx x List.mem_cons_self
  have h2 : (path ++ 47 :: x.1).length ≤ path.length + 25 := by simp; omega
  have h3 : ∀ q ∈ s.paths ++ [path ++ 47 :: x.1], q.length ≤ B := fun q hq => by
   rcases List.mem_append.1 hq with h | h
   ·exact hs q h
   ·rw [List.mem_singleton.1 h]; omega
  unfold stepW
  cases k with
  | none => exact h3
  | some f =>
   simp only
   split
   ·exact hk f rfl _ _ _ h2 h3
   ·exact h3
theorem dlist_names (v : List (List UInt8)) (I k : Int) : ∀ x ∈ (dlistP v I k).1, x.1.length ≤ 24 := by
 intro x hx
 by_cases h : (dlistP v I k).2 = 0
 ·have h2 := (dlist_ok h).2.2.2
  exact (mayD_len ((entriesP_ok h2).1.1 x hx).1).2
 ·unfold dlistP at h hx
  split at hx
  ·cases hx
  ·rename_i c
   rw [if_neg c] at h
   split at hx
   ·cases hx
   ·rename_i c2
    rw [if_neg c2] at h
    split at hx
    ·cases hx
    ·rename_i l e
     rw [e] at h
     exact absurd rfl h
theorem short_into (v : List (List UInt8)) (I : Int) (B : Nat) : ∀ (r : Nat) (s : WalkS) (n : Int) (path : List UInt8), path.length + 25 * (r + 1) ≤ B → (∀ q ∈ s.paths, q.length ≤ B) → ∀ q ∈ (intoP v I r s n path).paths, q.length ≤ B
 | 0, s, n, path, hb, hs => by
  unfold intoP
  exact short_fold (by omega) (fun f e => by cases e) _ _ (dlist_names v I n) hs
 | r + 1, s, n, path, hb, hs => by
  unfold intoP
  refine short_fold (by omega) (fun f e => ?_) _ _ (dlist_names v I n) hs
  injection e with e
  subst e
  intro s n p hp hs
  exact short_into v I B r s n p (by omega) hs
theorem walkX_short (v : List (List UInt8)) (I : Option Int) : ∀ p ∈ walkX v I, p.length ≤ 200 := by
 cases I with
 | none => intro p hp; cases hp
 | some I => exact short_into v I 200 7 ⟨[], []⟩ 1 [] (by simp) (fun q hq => by cases hq)
end Go.Proofs.YtfaplefkakpgcaaGreatDoor
