/- The document's directories: List, find, Find. -/
import Derived.Test.YtnoofjddikhopaaGreatFa33
import Derived.Test.YtnoofjddikhopaaGreatFa34
import Derived.Test.YtnoofjddikhopaaGreatFa30
import Derived.Test.YtnoofjddikhopaaGreatFa18
import Derived.Test.YtnoofjddikhopaaGreatFa24
import Derived.Test.YtnoofjddikhopaaGreatFa31
import Derived.Test.YtnoofjddikhopaaGreatFa19
import Derived.Test.YtnoofjddikhopaaGreatFa28
import Derived.Test.YtnoofjddikhopaaGreatFa26
import Derived.Test.YtnoofjddikhopaaGreatFa11
namespace Go.Proofs.YtnoofjddikhopaaGreat
set_option linter.unusedVariables false
set_option linter.unusedSimpArgs false
open Go.RowKit
set_option maxHeartbeats 1000000 in
set_option maxRecDepth 100000 in
theorem riget_bad (A : Option Addr) (n c : Nat) (v : List (List UInt8)) (k : Int) (w : World) (hv : Strs w A n v) (hn : n ≤ 9223372036854775807) (hb : ∀ I, ¬ Good v I) :
    Calls Tryz.prog 55 #[.slice A n c, .int .i64 k] w fun e w' => e = .returned (.tuple #[.agg (intVals zero12), .int .i64 3]) ∧ Ext w w' := by
  have HO := Lib.hid (fun w h => (rof_any A n c v w h hn).mono (fun e w' h => show e = .returned (.tuple #[noGeom, .int .i64 3]) ∧ Ext w w' from ⟨by
    rcases h.1 with ⟨I, hg, _⟩ | h
    · exact absurd hg (hb I)
    · exact h, h.2⟩))
  go_enter Tryz.func55, Tryz.ntmps55
  go_wp2_with fail
  refine (HO.out _ (hv.ext ((Ext.refl _).alloc _))).mono ?_
  rintro e w1 ⟨rfl, x1⟩
  rw [noGeom_eq]
  have x0 : Ext w w1 := ((Ext.refl w).alloc _).trans x1
  have bR : Box w1 w.heap.size 61 (intVals zero12) := (Box.new w 61 _).ext x1
  have hlt := bR.lt
  clear x1
  go_wp2_with (first
    | (refine wp_st_geom (.tmp 6) (.tmp 12) rfl rfl w1.heap.size _ [0, 0, 0, 0, 0, 0] 81 rfl rfl (Box.new _ _ _) rfl rfl ?_; intro w2 b2 g2; have x2 : Ext w w2 := (x0.alloc _).grown g2 (fun k e => by cases e; exact x0.size))
    | (refine wp_st_ino (.tmp 4) (.tmp 16) rfl rfl w.heap.size zero12 zero12 61 rfl rfl ((bR.ext ((Ext.refl _).alloc _)).grown g2 (by first | (simp; done) | (simp; omega))) rfl rfl ?_; intro w4 b4 g4))
  refine bodyPost_ret (results_cell2 rfl _ _ w.heap.size _ _ _ (.int .i64 3) rfl rfl b4 Tryz.underlying61 rfl inoSize) rfl ⟨rfl, ?_⟩
  exact x2.grown g4 (fun k e => by cases e; exact Nat.le_refl _)
set_option maxHeartbeats 1000000 in
set_option maxRecDepth 100000 in
theorem riget_out (A : Option Addr) (n c : Nat) (v : List (List UInt8)) (I k : Int) (w : World) (hv : Strs w A n v) (hg : Good v I) (hk : k < 1 ∨ I < k) :
    Calls Tryz.prog 55 #[.slice A n c, .int .i64 k] w fun e w' => e = .returned (.tuple #[.agg (intVals zero12), .int .i64 2]) ∧ Ext w w' := by
  have HO := Lib.hid (fun w h => rof_yes A n c v I w h hg)
  have hd : decide (k < 1) = true ∨ decide (k < 1) = false ∧ decide (I < k) = true := by simp; omega
  clear hk
  rcases hd with d1 | ⟨d1, d2⟩
  all_goals
    go_enter Tryz.func55, Tryz.ntmps55
    go_wp2_with fail
    refine (HO.out _ (hv.ext ((Ext.refl _).alloc _))).mono ?_
    rintro e w1 ⟨rfl, x1⟩
    rw [geomV_eq]
    have x0 : Ext w w1 := ((Ext.refl w).alloc _).trans x1
    have bR : Box w1 w.heap.size 61 (intVals zero12) := (Box.new w 61 _).ext x1
    have hlt := bR.lt
    clear x1
    go_wp2_with (first
      | (refine wp_st_geom (.tmp 6) (.tmp 12) rfl rfl w1.heap.size _ [0, 0, 0, 0, 0, 0] 81 rfl rfl (Box.new _ _ _) rfl rfl ?_; intro w2 b2 g2; have x2 : Ext w w2 := (x0.alloc _).grown g2 (fun k e => by cases e; exact x0.size); have c1 : w2.cell? ⟨w1.heap.size, 1, none⟩ = some (.int .i64 I) := b2.cell 1)
      | (refine wp_st_ino (.tmp 4) (.tmp 26) rfl rfl w.heap.size zero12 zero12 61 rfl rfl ((bR.ext ((Ext.refl _).alloc _)).grown g2 (by simp; omega)) rfl rfl ?_; intro w4 b4 g4))
    refine bodyPost_ret (results_cell2 rfl _ _ w.heap.size _ _ _ (.int .i64 2) rfl rfl b4 Tryz.underlying61 rfl inoSize) rfl ⟨rfl, ?_⟩
    exact x2.grown g4 (fun k e => by cases e; exact Nat.le_refl _)
theorem size_nn (v : List (List UInt8)) (k : Int) : 0 ≤ (inoAt v k).getD 3 0 ∧ (inoAt v k).getD 3 0 < 4294967296 := by
  have := fnum_lt (v.getD (3 + (k - 1) / 2).toNat []) (((k - 1) % 2 * 64).toNat + 4) 4
  exact this
theorem read_all {v : List (List UInt8)} {I k : Int} (hg : Good v I) : readE v I k 0 ((inoAt v k).getD 3 0) = (dataP v I k, 0) := by
  obtain ⟨h1, h2⟩ := size_nn v k
  obtain ⟨z, hz⟩ : ∃ z : Nat, (inoAt v k).getD 3 0 = (z : Int) := ⟨((inoAt v k).getD 3 0).toNat, by omega⟩
  have hs : sizeP (inoAt v k) = min (z : Int) 8960 := by unfold sizeP; rw [hz]
  have e := readE_bytes (k := k) hg (off := 0) (size := z)
  rw [hz, show (0 : Int) = ((0 : Nat) : Int) from rfl, e, hs]
  congr 1
  by_cases h0 : sizeP (fileOf v I k).x ≤ 0
  · rw [data_none h0]
    have : sizeP (inoAt v k) ≤ 0 := h0
    rw [hs] at this
    rw [show min z (min (z : Int) 8960 - ((0 : Nat) : Int)).toNat = 0 by omega]; rfl
  · have hp := readP_bytes (F := fileOf v I k) hg (off := 0) (size := 8960) (by simp only [Int.natCast_zero]; omega)
    unfold dataP
    rw [show readP (fileOf v I k) 0 8960 = _ from hp, show sizeP (fileOf v I k).x = min (z : Int) 8960 from hs]
    show _ = fbytes v I (inoAt v k) _ _
    congr 1
    omega
/-- what dir.List says of any blocks -/
def listX (v : List (List UInt8)) (I : Option Int) (k : Int) : List Ent × Int := match I with
  | some I => dlistP v I k
  | none => ([], 3)
set_option maxHeartbeats 2000000 in
set_option maxRecDepth 100000 in
theorem rdlist_any (A : Option Addr) (n c : Nat) (v : List (List UInt8)) (I : Option Int) (k : Int) (w : World) (hv : Strs w A n v) (hn : n ≤ 9223372036854775807) (hg : GoodX v I) :
    Calls Tryz.prog 72 #[.slice A n c, .int .i64 k] w fun e w' => ∃ u, e = .returned (.tuple #[u, .int .i64 (listX v I k).2]) ∧ Ext w w' ∧ ((listX v I k).2 = 0 → OwnE w' w.heap.size u (listX v I k).1) := by
  have x0 : Ext w (w.alloc (.cells #[] 79)) := (Ext.refl w).alloc _
  have HV := Lib.hid (hv.ext x0)
  cases I with
  | none =>
    have HP := Lib.hid (show listX v none k = ([], 3) from rfl)
    have HG := Lib.hid (fun w h => riget_bad A n c v k w h hn hg)
    clear hv hg
    go_enter Tryz.func72, Tryz.ntmps72
    go_wp2_with (first
      | (go_at_call 55; refine (HG.out _ HV.out).mono ?_; rintro e w1 ⟨rfl, x1⟩)
      | (refine wp_st_ino (.tmp 7) (.tmp 17) rfl rfl w1.heap.size _ zero12 61 rfl rfl (Box.new _ _ _) rfl rfl ?_; intro w2 b2 g2))
    go_ret2
    rw [HP.out]
    exact ⟨_, rfl, (x0.trans (x1.alloc _)).grown g2 (fun k e => by cases e; exact (x0.trans x1).size), fun h => absurd h (by decide)⟩
  | some I =>
  have hg' : Good v I := hg
  by_cases h1 : k < 1 ∨ I < k
  · have HP := Lib.hid (show listX v (some I) k = ([], 2) from by unfold listX dlistP; simp only; rw [if_pos h1])
    have HG := Lib.hid (fun w h => riget_out A n c v I k w h hg' h1)
    clear hv hg hg' h1
    go_enter Tryz.func72, Tryz.ntmps72
    go_wp2_with (first
      | (go_at_call 55; refine (HG.out _ HV.out).mono ?_; rintro e w1 ⟨rfl, x1⟩)
      | (refine wp_st_ino (.tmp 7) (.tmp 17) rfl rfl w1.heap.size _ zero12 61 rfl rfl (Box.new _ _ _) rfl rfl ?_; intro w2 b2 g2))
    go_ret2
    rw [HP.out]
    exact ⟨_, rfl, (x0.trans (x1.alloc _)).grown g2 (fun k e => by cases e; exact (x0.trans x1).size), fun h => absurd h (by decide)⟩
  have hk1 : 1 ≤ k := by omega
  have hk2 : k ≤ I := by omega
  have HG := Lib.hid (fun w h => riget_yes A n c v I k w h hg' hk1 hk2)
  have HX := Lib.hid (inoAt_len v k)
  have HI := Lib.hid (fun w g (h : Box w g 61 (intVals (inoAt v k))) => ino_cell h (inoAt_len v k) (k := 0) (by omega))
  have HJ := Lib.hid (fun w g (h : Box w g 61 (intVals (inoAt v k))) => ino_cell h (inoAt_len v k) (k := 3) (by omega))
  have hnn := size_nn v k
  have HR := Lib.hid (show ∀ w, Strs w A n v → Calls Tryz.prog 25 #[.slice A n c, .int .i64 k, .int .i64 0, .int .i64 ((inoAt v k).getD 3 0)] w fun e w' => e = .returned (.tuple #[.string (str (dataP v I k)), .int .i64 0]) ∧ Ext w w' from fun w h => by
    have := rread_any A n c v I k 0 ((inoAt v k).getD 3 0) w h hg' hk1 hk2 (by omega) (by omega)
    rw [read_all hg'] at this
    exact this)
  have HO := Lib.hid (fun w => rof20_any (dataP v I k) w (data_len v I k))
  by_cases h2 : (inoAt v k).getD 0 0 ≠ 2
  · have HP := Lib.hid (show listX v (some I) k = ([], 11) from by unfold listX dlistP; simp only; rw [if_neg h1, if_pos h2])
    generalize (inoAt v k).getD 0 0 = kd at *
    generalize (inoAt v k).getD 3 0 = sz at *
    have d2 : (kd != 2) = true := by simpa using h2
    generalize inoAt v k = x at *
    clear hv hg hg' h1 HR HO HJ
    go_enter Tryz.func72, Tryz.ntmps72
    go_wp2_with (first
      | (go_at_call 55; refine (HG.out _ HV.out).mono ?_; rintro e w1 ⟨rfl, x1⟩)
      | (refine wp_st_ino (.tmp 7) (.tmp 17) rfl rfl w1.heap.size _ zero12 61 rfl rfl (Box.new _ _ _) HX.out rfl ?_; intro w2 b2 g2; have c0 := HI.out _ _ b2))
    go_ret2
    rw [HP.out]
    exact ⟨_, rfl, (x0.trans (x1.alloc _)).grown g2 (fun k e => by cases e; exact (x0.trans x1).size), fun h => absurd h (by decide)⟩
  have h2' : (inoAt v k).getD 0 0 = 2 := by omega
  have HP := Lib.hid (show listX v (some I) k = match entriesP (dataP v I k) with
    | none => ([], 3)
    | some l => (l, 0) from by unfold listX dlistP; simp only; rw [if_neg h1, if_neg h2]; rfl)
  rw [h2'] at HI
  generalize (inoAt v k).getD 3 0 = sz at *
  generalize inoAt v k = x at *
  generalize dataP v I k = d at *
  cases he : entriesP d with
  | none =>
    rw [he] at HP HO
    clear hv hg hg' h1 h2 h2' he
    go_enter Tryz.func72, Tryz.ntmps72
    go_wp2_with (first
      | (go_at_call 55; refine (HG.out _ HV.out).mono ?_; rintro e w1 ⟨rfl, x1⟩)
      | (refine wp_st_ino (.tmp 7) (.tmp 17) rfl rfl w1.heap.size _ zero12 61 rfl rfl (Box.new _ _ _) HX.out rfl ?_; intro w2 b2 g2; have c0 := HI.out _ _ b2; have c3 := HJ.out _ _ b2; have x2 : Ext w w2 := (x0.trans (x1.alloc _)).grown g2 (fun k e => by cases e; exact (x0.trans x1).size); have hv2 := HV.out.ext ((x1.alloc _).grown g2 (fun k e => by cases e; exact x1.size)))
      | (go_at_call 25; refine (HR.out _ hv2).mono ?_; rintro e w3 ⟨rfl, x3⟩)
      | (go_at_call 111; refine (HO.out _).mono ?_; rintro e w4 ⟨u4, rfl, x4, o4⟩))
    go_ret2
    rw [HP.out]
    exact ⟨_, rfl, (x2.trans x3).trans x4, fun h => absurd h (by decide)⟩
  | some l =>
    rw [he] at HP HO
    clear hv hg hg' h1 h2 h2' he
    go_enter Tryz.func72, Tryz.ntmps72
    go_wp2_with (first
      | (go_at_call 55; refine (HG.out _ HV.out).mono ?_; rintro e w1 ⟨rfl, x1⟩)
      | (refine wp_st_ino (.tmp 7) (.tmp 17) rfl rfl w1.heap.size _ zero12 61 rfl rfl (Box.new _ _ _) HX.out rfl ?_; intro w2 b2 g2; have c0 := HI.out _ _ b2; have c3 := HJ.out _ _ b2; have x2 : Ext w w2 := (x0.trans (x1.alloc _)).grown g2 (fun k e => by cases e; exact (x0.trans x1).size); have hv2 := HV.out.ext ((x1.alloc _).grown g2 (fun k e => by cases e; exact x1.size)))
      | (go_at_call 25; refine (HR.out _ hv2).mono ?_; rintro e w3 ⟨rfl, x3⟩)
      | (go_at_call 111; refine (HO.out _).mono ?_; rintro e w4 ⟨u4, rfl, x4, o4⟩; have o4' := Lib.hid (OwnE.base (o4 rfl) (x2.trans x3).size); clear o4))
    go_ret2
    rw [HP.out]
    exact ⟨_, rfl, (x2.trans x3).trans x4, fun _ => o4'.out⟩
theorem hasE_mem {l : List Ent} (hl : EntsOk l) {name : List UInt8} : hasE l name = l.any fun x => decide (x.1 = name) := by
  rw [Bool.eq_iff_iff]
  constructor
  · intro h
    unfold hasE at h
    simp only [Bool.and_eq_true, decide_eq_true_eq] at h
    rw [List.getD_eq_getElem?_getD, List.getElem?_eq_getElem h.1] at h
    rw [List.any_eq_true]
    exact ⟨_, List.getElem_mem h.1, decide_eq_true h.2⟩
  · intro h
    rw [List.any_eq_true] at h
    obtain ⟨x, hx, e⟩ := h
    have e := of_decide_eq_true e
    obtain ⟨j, hj, rfl⟩ := List.getElem_of_mem hx
    have h1 : posE l name = j := by
      rcases Nat.lt_trichotomy (posE l name) j with h | h | h
      · have hp : posE l name < l.length := by omega
        have h2 := List.pairwise_iff_getElem.1 hl.2 _ _ hp hj h
        have h3 := posE_ge hl.2 (Nat.le_refl (posE l name)) hp
        rw [e] at h2
        rw [h2] at h3; cases h3
      · exact h
      · have := posE_lt h hj
        rw [e, ltB_irrefl] at this
        cases this
    unfold hasE
    rw [h1, List.getD_eq_getElem?_getD, List.getElem?_eq_getElem hj]
    simp [hj, e]
/-- what the document finds: the number, or 0 -/
def findN (l : List Ent) (name : List UInt8) : Int := if hasE l name = true then (l.getD (posE l name) ([], 0)).2 else 0
set_option maxHeartbeats 1000000 in
set_option maxRecDepth 100000 in
theorem rfind20_any (A : Option Addr) (n c : Nat) (l : List Ent) (name : List UInt8) (w : World) (h : Ents w A n l) (hn : n ≤ 1000000) (hl : EntsOk l) :
    Calls Tryz.prog 91 #[.slice A n c, .string (str name)] w fun e w' => e = .returned (.int .i64 (findN l name)) ∧ w = w' := by
  obtain ⟨rfl, h2⟩ := h
  have HNo := Lib.hid (show (∀ (j : Nat) (h : j < l.length), l[j].1 ≠ name) → findN l name = 0 from fun h => by
    unfold findN
    rw [hasE_mem hl, if_neg]
    rw [List.any_eq_true]
    rintro ⟨x, hx, e⟩
    obtain ⟨j, hj, rfl⟩ := List.getElem_of_mem hx
    exact h j hj (of_decide_eq_true e))
  have HYes := Lib.hid (show ∀ (k : Nat) (hk : k < l.length), (∀ (j : Nat) (h : j < l.length), j < k → l[j].1 ≠ name) → l[k].1 = name → findN l name = l[k].2 from fun k hk h0 h1 => by
    have hh : hasE l name = true := by rw [hasE_mem hl, List.any_eq_true]; exact ⟨_, List.getElem_mem hk, decide_eq_true h1⟩
    unfold findN
    rw [if_pos hh]
    unfold hasE at hh
    simp only [Bool.and_eq_true, decide_eq_true_eq] at hh
    rw [List.getD_eq_getElem?_getD, List.getElem?_eq_getElem hh.1] at hh ⊢
    simp only [Option.getD_some] at hh ⊢
    have : posE l name = k := by
      rcases Nat.lt_trichotomy (posE l name) k with h | h | h
      · exact absurd hh.2 (h0 _ hh.1 h)
      · exact h
      · have := posE_lt h hk
        rw [h1, ltB_irrefl] at this; cases this
    subst this
    rfl)
  have hls : (l.length : Int) ≤ 1000000 := by omega
  clear hl
  go_enter Tryz.func91, Tryz.ntmps91
  go_wp2_with fail
  go_loop [5, 8] (fun _ t => ∃ k : Nat, k ≤ l.length ∧ t = .int .i64 k ∧ ∀ (j : Nat) (h : j < l.length), j < k → l[j].1 ≠ name) (fun _ t => l.length - (intOf t).toNat)
  case atStart => exact ⟨0, by omega, rfl, fun j _ h => by omega⟩
  case round =>
    obtain ⟨k, hk, rfl, hno⟩ := hrel
    have HO := Lib.hid hno
    clear hno
    by_cases hlt : k < l.length
    · obtain ⟨b, o, rfl, hcell⟩ := h2 (by omega)
      obtain ⟨c0, c1⟩ := hcell k hlt
      have HY := Lib.hid (HYes.out k hlt HO.out)
      have hki : (k : Int) < (l.length : Int) := by omega
      have HN := Lib.hid (show l[k].1 ≠ name → ∀ (j : Nat) (h : j < l.length), j < k + 1 → l[j].1 ≠ name from fun h j hj hlt2 => by
        by_cases e : j < k
        · exact HO.out j hj e
        · obtain rfl : j = k := by omega
          exact h)
      clear hcell
      generalize l[k] = y at *
      by_cases hy : y.1 = name
      · have d1 : (str y.1).toList = (str name).toList := by rw [hy]
        have d2 : ((str y.1).toList == (str name).toList) = true := by rw [hy]; simp
        have HE := Lib.hid (HY.out hy)
        clear hy HY HN HYes HNo HO
        go_wp2_with fail
        go_ret
        rw [HE.out]
        exact ⟨rfl, rfl⟩
      · have d1 : ¬ (str y.1).toList = (str name).toList := by rw [str_toList, str_toList]; exact hy
        have d2 : ((str y.1).toList == (str name).toList) = false := by rw [str_toList, str_toList]; simpa using hy
        have HE := Lib.hid (HN.out hy)
        clear hy HY HN HYes HNo HO
        go_wp2_with fail
        go_round
        case rel => exact ⟨k + 1, by omega, by go_num, HE.out⟩
        case measure => simp [intOf]; omega
    · obtain rfl : k = l.length := by omega
      have HE := Lib.hid (HNo.out (fun j h => HO.out j h h))
      go_wp2_with fail
      go_ret
      rw [HE.out]
      exact ⟨rfl, rfl⟩
end Go.Proofs.YtnoofjddikhopaaGreat
/- The document's paths: Names. -/
namespace Go.Proofs.YtnoofjddikhopaaGreat
set_option linter.unusedVariables false
set_option linter.unusedSimpArgs false
open Go.RowKit
theorem seg_cut23 : ∀ (q : List UInt8) (m : Nat), m ≤ q.length → (∀ j, j < m → q[j]? ≠ some 47) → (q[m]? = some 47 ∨ m = q.length) → segP q = q.take m ∧ restP q = q.drop m
  | [], m, h, _, _ => by
    obtain rfl : m = 0 := by simpa using h
    exact ⟨rfl, rfl⟩
  | c :: q, 0, _, _, h => by
    have hc : c = 47 := by
      rcases h with h | h
      · simpa using h
      · simp at h
    subst hc
    simp [segP, restP]
  | c :: q, m + 1, hm, hn, h => by
    have hc : c ≠ 47 := by have := hn 0 (by omega); simpa using this
    have ih := seg_cut23 q m (by simpa using hm) (fun j hj => by have := hn (j + 1) (by omega); simpa using this) (by simpa using h)
    have h1 : (c != 47) = true := by simpa using hc
    unfold segP restP at *
    rw [List.takeWhile_cons, List.dropWhile_cons, if_pos h1, if_pos h1, ih.1, ih.2]
    exact ⟨rfl, rfl⟩
/-- where the names' loop stands -/
def NamesAt (p : List UInt8) (i f : Nat) (ps : List (List UInt8)) : Prop :=
  (1 ≤ f ∧ i ≤ p.length ∧ f ≤ i ∧ (∀ j, f ≤ j → j < i → p[j]? ≠ some 47) ∧ ps ++ partsP (47 :: p.drop f) = partsP p) ∨ (i = p.length + 1 ∧ ps = partsP p)
theorem namesAt_start {q : List UInt8} : NamesAt (47 :: q) 1 1 [] := .inl ⟨by omega, by simp, by omega, fun j h1 h2 => by omega, rfl⟩
theorem namesAt_cut {p : List UInt8} {i f : Nat} {ps : List (List UInt8)} (h : NamesAt p i f ps) (hi : i ≤ p.length) (hs : p[i]? = some 47 ∨ i = p.length) : f ≤ i ∧ NamesAt p (i + 1) (i + 1) (ps ++ [(p.drop f).take (i - f)]) := by
  rcases h with ⟨h1, h2, h3, h4, h5⟩ | ⟨h1, _⟩
  · refine ⟨h3, ?_⟩
    obtain ⟨s1, s2⟩ := seg_cut23 (p.drop f) (i - f) (by simp; omega) (fun j hj => by rw [List.getElem?_drop]; exact h4 (f + j) (by omega) (by omega)) (by
      rw [List.getElem?_drop, show f + (i - f) = i by omega, List.length_drop]
      rcases hs with h | h
      · exact .inl h
      · exact .inr (by omega))
    rw [partsP_cons, s1, s2, List.drop_drop, show f + (i - f) = i by omega] at h5
    by_cases hl : i = p.length
    · refine .inr ⟨by omega, ?_⟩
      rw [← h5, hl, List.drop_length, partsP_nil]
    · have hi2 : i < p.length := by omega
      have h47 : p[i] = 47 := by
        rcases hs with h | h
        · rw [List.getElem?_eq_getElem hi2] at h; exact Option.some.inj h
        · omega
      refine .inl ⟨by omega, by omega, by omega, fun j h1 h2 => by omega, ?_⟩
      rw [List.drop_eq_getElem_cons hi2, h47] at h5
      rw [← h5, List.append_assoc]; rfl
  · omega
theorem namesAt_on {p : List UInt8} {i f : Nat} {ps : List (List UInt8)} (h : NamesAt p i f ps) (hi : i < p.length) (hs : p[i] ≠ 47) : NamesAt p (i + 1) f ps := by
  rcases h with ⟨h1, h2, h3, h4, h5⟩ | ⟨h1, _⟩
  · refine .inl ⟨h1, by omega, by omega, fun j j1 j2 => ?_, h5⟩
    by_cases e : j = i
    · subst e; rw [List.getElem?_eq_getElem hi]; simpa using hs
    · exact h4 j j1 (by omega)
  · omega
theorem namesAt_len {p : List UInt8} {i f : Nat} {ps : List (List UInt8)} (h : NamesAt p i f ps) : ps.length ≤ p.length := by
  have := (partsP_len p.length p (Nat.le_refl _)).1
  rcases h with ⟨_, _, _, _, h⟩ | ⟨_, h⟩
  · have := congrArg List.length h; rw [List.length_append] at this; omega
  · rw [h]; exact this
theorem namesAt_end {p : List UInt8} {i f : Nat} {ps : List (List UInt8)} (h : NamesAt p i f ps) (hi : p.length < i) : ps = partsP p := by
  rcases h with ⟨_, h, _⟩ | ⟨_, h⟩
  · omega
  · exact h
def namesOk (p : List UInt8) : Bool := decide (p.head? = some 47) && ((pathP p).all mayD && decide ((pathP p).length ≤ 8))
theorem parts_25 : ∀ (n : Nat) (q : List UInt8), q.length ≤ n → (∀ x ∈ partsP (47 :: q), x.length ≤ 24) → (47 :: q).length ≤ 25 * (partsP (47 :: q)).length
  | n, q, hn, h => by
    rw [partsP_cons] at h ⊢
    have h1 := h _ List.mem_cons_self
    have hs := seg_len q
    rcases restP_head q with e | ⟨r, e⟩
    · rw [e] at hs ⊢
      rw [partsP_nil]
      simp at hs ⊢; omega
    · rw [e] at hs h ⊢
      simp only [List.length_cons] at hs
      cases n with
      | zero => omega
      | succ n =>
        have ih := parts_25 n r (by omega) (fun x hx => h x (List.mem_cons_of_mem _ hx))
        simp only [List.length_cons] at ih ⊢
        omega
theorem namesOk_may (p : List UInt8) : namesOk p = mayP p := by
  unfold namesOk mayP
  cases hp : decide (p.head? = some 47) with
  | false => rfl
  | true =>
    cases ha : (pathP p).all mayD && decide ((pathP p).length ≤ 8) with
    | false => simp
    | true =>
      rw [Bool.and_eq_true, decide_eq_true_eq] at ha
      have h1 := of_decide_eq_true hp
      have : p.length ≤ 200 := by
        cases p with
        | nil => simp
        | cons c q =>
          obtain rfl : c = 47 := by simpa using h1
          by_cases hq : (47 :: q : List UInt8) = [47]
          · rw [hq]; decide
          · unfold pathP at ha
            rw [if_neg hq] at ha
            have := parts_25 q.length q (Nat.le_refl _) (fun x hx => (mayD_len (List.all_eq_true.1 ha.1 x hx)).2)
            omega
      simp [this]
set_option maxHeartbeats 4000000 in
set_option maxRecDepth 100000 in
theorem rnames_any (p : List UInt8) (w : World) (hp : p.length ≤ 100000) :
    Calls Tryz.prog 20 #[.string (str p)] w fun e w' => ∃ u, e = .returned (.tuple #[u, .bool (mayP p)]) ∧ Ext w w' ∧ (mayP p = true → w'.ownsRow w.heap.size 9 1 u (pathP p).length (strL (pathP p))) := by
  rw [← namesOk_may]
  have hz := str_size
  have own0 := World.ownsRow_lit (base := w.heap.size) (e := 9) (size := 1) w #[] 0 (Nat.le_refl _) (by unfold maxLen; omega) rfl
  have x0 : Ext w (w.alloc (.cells #[] 9)) := (Ext.refl w).alloc _
  by_cases h1 : p = [47]
  · have HN := Lib.hid (show namesOk p = true by rw [h1]; rfl)
    have HP := Lib.hid (show pathP p = [] by rw [h1]; rfl)
    have d1 : (str p).toList = [47] := by rw [str_toList]; exact h1
    have d2 : ((str p).toList == [47]) = true := by rw [d1]; rfl
    have OW := Lib.hid own0
    clear h1 own0
    go_enter Tryz.func20, Tryz.ntmps20
    go_wp2_with fail
    go_ret2
    rw [HN.out, HP.out]
    exact ⟨_, rfl, x0, fun _ => OW.out⟩
  have d1 : ¬ (str p).toList = [47] := by rw [str_toList]; exact h1
  have d2 : ((str p).toList == [47]) = false := by rw [str_toList]; simpa using h1
  have HP := Lib.hid (show pathP p = partsP p by unfold pathP; rw [if_neg h1])
  by_cases h2 : p.head? = some 47
  case neg =>
    have HN := Lib.hid (show namesOk p = false by unfold namesOk; rw [decide_eq_false h2]; rfl)
    clear own0
    cases p with
    | nil =>
      have d3 : (str []).toList = [] := str_toList []
      go_enter Tryz.func20, Tryz.ntmps20
      go_wp2_with fail
      go_ret2
      rw [HN.out]
      exact ⟨_, rfl, x0, fun h => (by cases h)⟩
    | cons c q =>
      have d3 : ¬ (str (c :: q)).toList = [] := by rw [str_toList]; simp
      have d4 : ((str (c :: q)).toList == []) = false := by rw [str_toList]; rfl
      have d5 : (str (c :: q)).toList.isEmpty = false := by rw [str_toList]; rfl
      have hb0 : 0 < (str (c :: q)).size := by rw [str_size]; simp
      have hc0 : (str (c :: q))[0]'hb0 = c := rfl
      have hc : c ≠ 47 := by simpa using h2
      have hci : ((c.toNat : Int) != 47) = true := by
        have : c.toNat ≠ 47 := fun e => hc (UInt8.toNat_inj.1 e)
        simp; omega
      have hl0 : (0 : Int) < ((c :: q).length : Int) := by simp only [List.length_cons]; omega
      generalize hpq : c :: q = p at *
      clear h1 h2 hpq
      go_enter Tryz.func20, Tryz.ntmps20
      go_wp2_with fail
      go_ret2
      rw [HN.out]
      exact ⟨_, rfl, x0, fun h => (by cases h)⟩
  obtain ⟨q, hpq⟩ : ∃ q, p = 47 :: q := by
    cases p with
    | nil => simp at h2
    | cons c q => exact ⟨q, by simpa using h2⟩
  have HSt := Lib.hid (show NamesAt p 1 1 [] by rw [hpq]; exact namesAt_start)
  have HOk := Lib.hid (show namesOk p = ((partsP p).all mayD && decide ((partsP p).length ≤ 8)) by unfold namesOk; rw [HP.out, decide_eq_true h2]; rfl)
  have d3 : ¬ (str p).toList = [] := by rw [str_toList, hpq]; simp
  have d4 : ((str p).toList == []) = false := by rw [str_toList, hpq]; rfl
  have d5 : (str p).toList.isEmpty = false := by rw [str_toList, hpq]; rfl
  have hb0 : 0 < (str p).size := by rw [str_size, hpq]; simp
  have hc0 : (str p)[0]'hb0 = 47 := by subst hpq; rfl
  have hl0 : (0 : Int) < (p.length : Int) := by rw [str_size] at hb0; omega
  clear h1 h2 hpq
  go_enter Tryz.func20, Tryz.ntmps20
  go_upto_region 8 with fail
  clear d1 d2 d3 d4 d5 hc0 hb0
  generalize w.alloc (.cells #[] 9) = w1 at *
  go_loopw [4, 5, 6] (fun u ft it wx => ∃ (i f : Nat) (ps : List (List UInt8)), ft = .int .i64 f ∧ it = .int .i64 i ∧ NamesAt p i f ps ∧ i ≤ p.length + 1 ∧ f ≤ p.length + 1 ∧ Ext w wx ∧ wx.ownsRow w.heap.size 9 1 u ps.length (strL ps)) (fun _ _ it _ => p.length + 1 - (intOf it).toNat)
  case atStart => exact ⟨1, 1, [], rfl, rfl, HSt.out, by omega, by omega, x0, own0⟩
  case round =>
    clear own0 x0 HSt
    obtain ⟨i, f, ps, rfl, rfl, hat, hi1, hf1, xr, own⟩ := hrel
    have HA := Lib.hid hat
    have hpl := namesAt_len hat
    clear hat
    have hxs := xr.size
    by_cases hle : i ≤ p.length
    · have hii : (i : Int) ≤ (p.length : Int) := by omega
      have HCut := Lib.hid (fun hs => namesAt_cut HA.out hle hs)
      have hlow := Lib.hid (show ∀ u, wr.ownsRow w.heap.size 9 1 u ps.length (strL ps) → ∀ j, u.ownBlock = some j → w.heap.size ≤ j from fun u h j e => own_low h e)
      by_cases hl : i = p.length
      · obtain ⟨hfi, HC⟩ := HCut.out (.inr hl)
        have HN := Lib.hid HC
        have hx1 : (str p).extract f i = str ((p.drop f).take (i - f)) := str_ext _ _ _
        have hil : ((i : Int) == (p.length : Int)) = true := by simp; omega
        have hfi2 : (f : Int) ≤ (i : Int) := by omega
        clear HC HCut hl
        generalize (p.drop f).take (i - f) = s at *
        go_wp2_with (first
          | (at_builtin; refine wp_app_strs w.heap.size rfl _ _ rfl rfl rfl (own_ext own ((Ext.refl wr).alloc _)) (strs_new1 wr s) (by omega) (by simp; omega) (by omega) ?_; intro u4 w4 own4 g4))
        have x4 : Ext w w4 := (xr.alloc _).grown g4 (fun j e => hlow.out _ own j e)
        go_roundw
        case rel => exact ⟨i + 1, i + 1, ps ++ [s], by go_num, by go_num, HN.out, by omega, by omega, x4, by rw [List.length_append]; exact own4⟩
        case measure => simp [intOf]; omega
      · have hlt : i < p.length := by omega
        have hil : ((i : Int) == (p.length : Int)) = false := by simp; omega
        have hili : (i : Int) < (p.length : Int) := by omega
        have hb : i < (str p).size := by rw [str_size]; exact hlt
        have hci : (str p)[i]'hb = p[i] := rfl
        have HS := Lib.hid (fun h : p[i] = 47 => HCut.out (.inl ((List.getElem?_eq_getElem hlt).trans (congrArg some h))))
        have HO := Lib.hid (fun h : p[i] ≠ 47 => namesAt_on HA.out hlt h)
        have hcb := p[i].toNat_lt
        generalize p[i] = c at *
        clear HCut hl
        by_cases hc : c = 47
        · obtain ⟨hfi, HC⟩ := HS.out hc
          have HN := Lib.hid HC
          have hx1 : (str p).extract f i = str ((p.drop f).take (i - f)) := str_ext _ _ _
          have hfi2 : (f : Int) ≤ (i : Int) := by omega
          have hc47 : ((c.toNat : Int) == 47) = true := by rw [hc]; rfl
          clear HC HS HO hc
          generalize (p.drop f).take (i - f) = s at *
          go_wp2_with (first
            | (at_builtin; refine wp_app_strs w.heap.size rfl _ _ rfl rfl rfl (own_ext own ((Ext.refl wr).alloc _)) (strs_new1 wr s) (by omega) (by simp; omega) (by omega) ?_; intro u4 w4 own4 g4))
          have x4 : Ext w w4 := (xr.alloc _).grown g4 (fun j e => hlow.out _ own j e)
          go_roundw
          case rel => exact ⟨i + 1, i + 1, ps ++ [s], by go_num, by go_num, HN.out, by omega, by omega, x4, by rw [List.length_append]; exact own4⟩
          case measure => simp [intOf]; omega
        · have HN := Lib.hid (HO.out hc)
          have hc47 : ((c.toNat : Int) == 47) = false := by
            have : c.toNat ≠ 47 := fun e => hc (UInt8.toNat_inj.1 e)
            simp; omega
          clear HS HO hc
          go_wp2_with fail
          go_roundw
          case rel => exact ⟨i + 1, f, ps, rfl, by go_num, HN.out, by omega, by omega, xr, own⟩
          case measure => simp [intOf]; omega
    · have hii : ¬ (i : Int) ≤ (p.length : Int) := by omega
      have hps := namesAt_end HA.out (by omega)
      have HBd := Lib.hid (show ∀ x ∈ ps, x.length ≤ p.length from fun x hx => (partsP_len p.length p (Nat.le_refl _)).2 x (by rw [← hps]; exact hx))
      rw [← hps] at HOk HP
      clear HA hps
      obtain ⟨A4, c4, rfl⟩ : ∃ A c, u4 = .slice A ps.length c := by
        rcases own.2 with ⟨rfl, h0⟩ | ⟨g, cap, cur, rfl, _⟩
        · exact ⟨none, 0, by rw [h0]⟩
        · exact ⟨_, _, rfl⟩
      have hst := Strs.own own
      have OW := Lib.hid own
      clear own
      go_upto_region 14 with fail
      go_loop [7] (fun t => ∃ k : Nat, k ≤ ps.length ∧ t = .int .i64 k ∧ ∀ (j : Nat) (h : j < ps.length), j < k → mayD ps[j] = true) (fun t => ps.length - (intOf t).toNat)
      case atStart => exact ⟨0, by omega, rfl, fun j _ h => by omega⟩
      case round =>
        obtain ⟨k, hk, rfl, hok⟩ := hrel
        have HO := Lib.hid hok
        clear hok
        by_cases hlt : k < ps.length
        · obtain ⟨b, o, rfl, hcell⟩ := hst.2 (by omega)
          have hck := hcell k hlt
          have hki : (k : Int) < (ps.length : Int) := by omega
          have hbd : ps[k].length ≤ 1000000000 := by have := HBd.out ps[k] (List.getElem_mem hlt); omega
          have HM := Lib.hid (fun w => rmay20_any ps[k] w hbd)
          have HNo := Lib.hid (show mayD ps[k] = false → ps.all mayD = false from fun h => List.all_eq_false.2 ⟨ps[k], List.getElem_mem hlt, by rw [h]; decide⟩)
          have HN := Lib.hid (show mayD ps[k] = true → ∀ (j : Nat) (h : j < ps.length), j < k + 1 → mayD ps[j] = true from fun h j hj hlt2 => by
            by_cases e : j < k
            · exact HO.out j hj e
            · obtain rfl : j = k := by omega
              exact h)
          generalize ps[k] = s at *
          cases hm : mayD s with
          | false =>
            rw [hm] at HM
            have HF := Lib.hid (HOk.out.trans (by rw [HNo.out hm, Bool.false_and]))
            clear hm HNo HN HO hcell hst
            go_wp2_with (go_at_call 47; refine (HM.out _).mono ?_; rintro e w5 ⟨rfl, rfl⟩)
            go_ret2
            rw [HF.out]
            exact ⟨_, rfl, xr, fun h => (by cases h)⟩
          | true =>
            rw [hm] at HM
            have HY := Lib.hid (HN.out hm)
            clear hm HNo HN HO hcell
            go_wp2_with (go_at_call 47; refine (HM.out _).mono ?_; rintro e w5 ⟨rfl, rfl⟩)
            go_round
            case rel => exact ⟨k + 1, by omega, by go_num, HY.out⟩
            case measure => simp [intOf]; omega
        · obtain rfl : k = ps.length := by omega
          have hall : ps.all mayD = true := by rw [List.all_eq_true]; intro c hc; obtain ⟨j, hj, rfl⟩ := List.getElem_of_mem hc; exact HO.out j hj hj
          have HF := Lib.hid (HOk.out.trans (by rw [hall, Bool.true_and]))
          have hd8 : decide ((ps.length : Int) ≤ 8) = decide (ps.length ≤ 8) := by rw [Bool.eq_iff_iff]; simp; omega
          clear hall HO hst
          go_wp2_with fail
          go_ret2
          rw [HF.out, HP.out]
          exact ⟨_, by rw [← hd8]; rfl, xr, fun _ => OW.out⟩
end Go.Proofs.YtnoofjddikhopaaGreat
/- The document's paths and files: Find, walk, file, Read. -/
namespace Go.Proofs.YtnoofjddikhopaaGreat
set_option linter.unusedVariables false
set_option linter.unusedSimpArgs false
open Go.RowKit
/-- dir.Find, of any blocks -/
def dfX (v : List (List UInt8)) (I : Option Int) (k : Int) (name : List UInt8) : Int × Int := match I with
  | some I => dfindP v I k name
  | none => badD k name
theorem findX_df (v : List (List UInt8)) (I : Option Int) (p : List UInt8) : findX v I p = findD (dfX v I) p := by
  cases I <;> rfl
theorem dfX_eq (v : List (List UInt8)) (I : Option Int) (k : Int) (name : List UInt8) : dfX v I k name = if mayD name = false then (0, 7) else if (listX v I k).2 ≠ 0 then (0, (listX v I k).2) else if findN (listX v I k).1 name = 0 then (0, 9) else (findN (listX v I k).1 name, 0) := by
  cases I with
  | none =>
    unfold dfX badD listX
    by_cases hm : mayD name = false
    · rw [if_pos hm, if_pos hm]
    · rw [if_neg hm, if_neg hm, if_pos (show (3 : Int) ≠ 0 by decide)]
  | some I =>
    unfold dfX dfindP listX
    simp only
    by_cases hm : mayD name = false
    · rw [if_pos hm, if_pos hm]
    · rw [if_neg hm, if_neg hm]
      by_cases he : (dlistP v I k).2 ≠ 0
      · rw [if_pos he, if_pos he]
      · rw [if_neg he, if_neg he]
        unfold findN
        by_cases hh : hasE (dlistP v I k).1 name = true
        · rw [if_pos hh, if_pos hh]
          have hh2 := hh
          unfold hasE at hh2
          simp only [Bool.and_eq_true, decide_eq_true_eq] at hh2
          have := (dlist_ents v I k).1 _ (List.getElem_mem hh2.1)
          rw [if_neg]
          rw [List.getD_eq_getElem?_getD, List.getElem?_eq_getElem hh2.1]
          simp only [Option.getD_some]
          omega
        · rw [if_neg hh, if_neg hh, if_pos rfl]
theorem listX_ents (v : List (List UInt8)) (I : Option Int) (k : Int) : EntsOk (listX v I k).1 ∧ (listX v I k).1.length ≤ 280 := by
  cases I with
  | none => exact ⟨⟨fun x hx => absurd hx List.not_mem_nil, List.Pairwise.nil⟩, by simp [listX]⟩
  | some I => exact ⟨dlist_ents v I k, dlist_len v I k⟩
set_option maxHeartbeats 1000000 in
set_option maxRecDepth 100000 in
theorem rdfind_any (A : Option Addr) (n c : Nat) (v : List (List UInt8)) (I : Option Int) (k : Int) (name : List UInt8) (w : World) (hv : Strs w A n v) (hn : n ≤ 9223372036854775807) (hg : GoodX v I) (hnl : name.length ≤ 1000000000) :
    Calls Tryz.prog 48 #[.slice A n c, .int .i64 k, .string (str name)] w fun e w' => e = .returned (.tuple #[.int .i64 (dfX v I k name).1, .int .i64 (dfX v I k name).2]) ∧ Ext w w' := by
  have HM := Lib.hid (fun w => rmay20_any name w hnl)
  have HL := Lib.hid (fun w h => rdlist_any A n c v I k w h hn hg)
  have HV := Lib.hid hv
  obtain ⟨hle, hll⟩ := listX_ents v I k
  have HP := Lib.hid (dfX_eq v I k name)
  cases hm : mayD name with
  | false =>
    rw [hm, if_pos rfl] at HP
    rw [hm] at HM
    go_enter Tryz.func48, Tryz.ntmps48
    go_wp2_with (go_at_call 47; refine (HM.out _).mono ?_; rintro e w1 ⟨rfl, rfl⟩)
    go_ret2
    rw [HP.out]
    exact ⟨rfl, Ext.refl _⟩
  | true =>
  rw [hm, if_neg (by simp)] at HP
  rw [hm] at HM
  by_cases he : (listX v I k).2 = 0
  case neg =>
    rw [if_pos he] at HP
    have de : ((listX v I k).2 != 0) = true := by simpa using he
    clear he hm hle hll hv
    generalize listX v I k = R at *
    go_enter Tryz.func48, Tryz.ntmps48
    go_wp2_with (first
      | (go_at_call 47; refine (HM.out _).mono ?_; rintro e w1 ⟨rfl, rfl⟩)
      | (go_at_call 72; refine (HL.out _ HV.out).mono ?_; rintro e w2 ⟨u, rfl, x2, own2⟩; clear own2))
    go_ret2
    rw [HP.out]
    exact ⟨rfl, x2⟩
  rw [if_neg (fun h => h he)] at HP
  rw [he] at HL
  clear he hm hv
  generalize (listX v I k).1 = l at *
  have HF := Lib.hid (fun A c w h => rfind20_any A l.length c l name w h (by omega) hle)
  clear hle
  by_cases h0 : findN l name = 0
  · rw [if_pos h0] at HP
    rw [h0] at HF
    clear h0
    go_enter Tryz.func48, Tryz.ntmps48
    go_wp2_with (first
      | (go_at_call 47; refine (HM.out _).mono ?_; rintro e w1 ⟨rfl, rfl⟩)
      | (go_at_call 72; refine (HL.out _ HV.out).mono ?_; rintro e w2 ⟨u, rfl, x2, own2⟩; obtain ⟨A2, cap2, rfl, st2⟩ := (own2 trivial).form; have HS := Lib.hid st2; clear own2 st2)
      | (go_at_call 91; refine (HF.out A2 cap2 _ HS.out).mono ?_; rintro e w3 ⟨rfl, rfl⟩))
    go_ret2
    rw [HP.out]
    exact ⟨rfl, x2⟩
  · rw [if_neg h0] at HP
    have d0 : (findN l name == 0) = false := by simpa using h0
    clear h0
    generalize findN l name = z at *
    go_enter Tryz.func48, Tryz.ntmps48
    go_wp2_with (first
      | (go_at_call 47; refine (HM.out _).mono ?_; rintro e w1 ⟨rfl, rfl⟩)
      | (go_at_call 72; refine (HL.out _ HV.out).mono ?_; rintro e w2 ⟨u, rfl, x2, own2⟩; obtain ⟨A2, cap2, rfl, st2⟩ := (own2 trivial).form; have HS := Lib.hid st2; clear own2 st2)
      | (go_at_call 91; refine (HF.out A2 cap2 _ HS.out).mono ?_; rintro e w3 ⟨rfl, rfl⟩))
    go_ret2
    rw [HP.out]
    exact ⟨rfl, x2⟩
theorem stepsD_take (dd : Int → List UInt8 → Int × Int) (l : List (List UInt8)) (k : Nat) (hk : k < l.length) (m : Int) (h : stepsD dd 1 (l.take k) = (m, 0)) :
    stepsD dd 1 (l.take (k + 1)) = if (dd m l[k]).2 ≠ 0 then (0, (dd m l[k]).2) else ((dd m l[k]).1, 0) := by
  rw [List.take_succ_eq_append_getElem hk]
  exact stepsD_snoc dd _ 1 m l[k] h
set_option maxHeartbeats 1000000 in
set_option maxRecDepth 100000 in
theorem rwalk1_any (A B : Option Addr) (n c m d : Nat) (v : List (List UInt8)) (I : Option Int) (l : List (List UInt8)) (w : World) (hv : Strs w A n v) (hn : n ≤ 9223372036854775807) (hg : GoodX v I) (hl : Strs w B m l) (hm : m ≤ 1000000) (hnl : ∀ x ∈ l, x.length ≤ 1000000000) :
    Calls Tryz.prog 21 #[.slice A n c, .slice B m d] w fun e w' => e = .returned (.tuple #[.int .i64 (stepsD (dfX v I) 1 l).1, .int .i64 (stepsD (dfX v I) 1 l).2]) ∧ Ext w w' := by
  have HD := Lib.hid (fun k (x : List UInt8) w h hx => rdfind_any A n c v I k x w h hn hg hx)
  have HV := Lib.hid hv
  obtain ⟨rfl, hl2⟩ := hl
  have HT := Lib.hid (stepsD_take (dfX v I) l)
  have HSt := Lib.hid (fun k (R : Int × Int) (h : stepsD (dfX v I) 1 (l.take k) = R) (h0 : R.2 ≠ 0) => stepsD_stop (dfX v I) (l.take k) (l.drop k) 1 R h h0)
  have HTD := Lib.hid (fun k => List.take_append_drop k l)
  have hls : (l.length : Int) ≤ 1000000 := by omega
  clear hg hv
  generalize dfX v I = dd at *
  go_enter Tryz.func21, Tryz.ntmps21
  go_upto_region 3 with fail
  go_loopw [6, 7, 8, 9] (fun a t _ _ wx => ∃ (k : Nat) (z : Int), k ≤ l.length ∧ t = .int .i64 k ∧ a = .int .i64 z ∧ stepsD dd 1 (l.take k) = (z, 0) ∧ Ext w wx) (fun _ t _ _ _ => l.length - (intOf t).toNat)
  case atStart => exact ⟨0, 1, by omega, rfl, rfl, by simp [stepsD], Ext.refl _⟩
  case round =>
    obtain ⟨k, z, hk, rfl, rfl, hst, xr⟩ := hrel
    have HS := Lib.hid hst
    clear hst
    by_cases hlt : k < l.length
    · obtain ⟨b, o, rfl, hcell⟩ := hl2 (by omega)
      have hck := xr.keep (hcell k hlt)
      have hki : (k : Int) < (l.length : Int) := by omega
      have HN := Lib.hid (HT.out k hlt z HS.out)
      have HDk := Lib.hid (fun w h => HD.out z l[k] w h (hnl _ (List.getElem_mem hlt)))
      have HR := Lib.hid (fun R h h0 => HSt.out (k + 1) R h h0)
      have HE := Lib.hid (HTD.out (k + 1))
      clear hcell
      generalize l[k] = x at *
      generalize dd z x = R at *
      by_cases h0 : R.2 = 0
      · rw [h0, if_neg (fun h => h rfl)] at HN
        rw [h0] at HDk
        clear h0 HR HE
        go_wp2_with (go_at_call 48; refine (HDk.out _ (HV.out.ext xr)).mono ?_; rintro e w2 ⟨rfl, x2⟩)
        go_roundw
        case rel => exact ⟨k + 1, R.1, by omega, by go_num, rfl, HN.out, xr.trans x2⟩
        case measure => simp [intOf]; omega
      · rw [if_pos h0] at HN
        have d0 : (R.2 != 0) = true := by simpa using h0
        have HF := Lib.hid (show stepsD dd 1 l = (0, R.2) by
          have := HR.out _ HN.out h0
          rw [HE.out] at this; exact this)
        clear h0 HR HE HN
        go_wp2_with (go_at_call 48; refine (HDk.out _ (HV.out.ext xr)).mono ?_; rintro e w2 ⟨rfl, x2⟩)
        go_ret2
        rw [HF.out]
        exact ⟨rfl, xr.trans x2⟩
    · obtain rfl : k = l.length := by omega
      have HF := Lib.hid (show stepsD dd 1 l = (z, 0) by have := HS.out; rw [List.take_length] at this; exact this)
      clear HS
      go_wp2_with fail
      go_ret2
      rw [HF.out]
      exact ⟨rfl, xr⟩
set_option maxHeartbeats 1000000 in
set_option maxRecDepth 100000 in
theorem rfindp_any (A : Option Addr) (n c : Nat) (v : List (List UInt8)) (I : Option Int) (p : List UInt8) (w : World) (hv : Strs w A n v) (hn : n ≤ 9223372036854775807) (hg : GoodX v I) (hp : p.length ≤ 100000) :
    Calls Tryz.prog 7 #[.slice A n c, .string (str p)] w fun e w' => e = .returned (.tuple #[.int .i64 (findX v I p).1, .int .i64 (findX v I p).2]) ∧ Ext w w' := by
  have HN := Lib.hid (fun w => rnames_any p w hp)
  have hpl := pathP_len p
  have HV := Lib.hid hv
  have HW := Lib.hid (fun B d w hv h => rwalk1_any A B n c (pathP p).length d v I (pathP p) w hv hn hg h (by omega) (fun x hx => by have := hpl.2 x hx; omega))
  rw [findX_df]
  unfold findD
  cases hm : mayP p with
  | false =>
    rw [hm] at HN
    rw [if_pos rfl]
    clear hpl
    go_enter Tryz.func7, Tryz.ntmps7
    go_wp2_with (go_at_call 20; refine (HN.out _).mono ?_; rintro e w1 ⟨u, rfl, x1, o1⟩; clear o1)
    go_ret2
    exact ⟨rfl, x1⟩
  | true =>
    rw [hm] at HN
    rw [if_neg (by simp)]
    clear hpl
    generalize pathP p = l at *
    generalize stepsD (dfX v I) 1 l = R at *
    go_enter Tryz.func7, Tryz.ntmps7
    go_wp2_with (first
      | (go_at_call 20; refine (HN.out _).mono ?_; rintro e w1 ⟨u, rfl, x1, o1⟩; obtain ⟨A4, c4, rfl⟩ : ∃ A c, u = .slice A l.length c := (by
          rcases (o1 rfl).2 with ⟨rfl, h0⟩ | ⟨g, cap, cur, rfl, _⟩
          · exact ⟨none, 0, by rw [h0]⟩
          · exact ⟨_, _, rfl⟩); have HS := Lib.hid (Strs.own (o1 rfl)); clear o1)
      | (go_at_call 21; refine (HW.out A4 c4 _ (HV.out.ext x1) HS.out).mono ?_; rintro e w2 ⟨rfl, x2⟩))
    go_ret2
    exact ⟨rfl, x1.trans x2⟩
/-- why that is no file, of any blocks -/
def fileX (v : List (List UInt8)) (I : Option Int) (k : Int) : Int := match I with
  | some I => fileE v I k
  | none => 3
set_option maxHeartbeats 1000000 in
set_option maxRecDepth 100000 in
theorem rfile_any (A : Option Addr) (n c : Nat) (v : List (List UInt8)) (I : Option Int) (k : Int) (w : World) (hv : Strs w A n v) (hn : n ≤ 9223372036854775807) (hg : GoodX v I) :
    Calls Tryz.prog 24 #[.slice A n c, .int .i64 k] w fun e w' => e = .returned (.int .i64 (fileX v I k)) ∧ Ext w w' := by
  have HV := Lib.hid hv
  cases I with
  | none =>
    have HG := Lib.hid (fun w h => riget_bad A n c v k w h hn hg)
    unfold fileX
    clear hv hg
    go_enter Tryz.func24, Tryz.ntmps24
    go_wp2_with (first
      | (go_at_call 55; refine (HG.out _ HV.out).mono ?_; rintro e w1 ⟨rfl, x1⟩)
      | (refine wp_st_ino (.tmp 5) (.tmp 11) rfl rfl w1.heap.size _ zero12 61 rfl rfl (Box.new _ _ _) rfl rfl ?_; intro w2 b2 g2))
    go_ret
    exact ⟨rfl, (x1.alloc _).grown g2 (fun k e => by cases e; exact x1.size)⟩
  | some I =>
    have hg' : Good v I := hg
    unfold fileX
    simp only
    by_cases h1 : k < 1 ∨ I < k
    · rw [show fileE v I k = 2 by unfold fileE; rw [if_pos h1]]
      have HG := Lib.hid (fun w h => riget_out A n c v I k w h hg' h1)
      clear hv hg hg' h1
      go_enter Tryz.func24, Tryz.ntmps24
      go_wp2_with (first
        | (go_at_call 55; refine (HG.out _ HV.out).mono ?_; rintro e w1 ⟨rfl, x1⟩)
        | (refine wp_st_ino (.tmp 5) (.tmp 11) rfl rfl w1.heap.size _ zero12 61 rfl rfl (Box.new _ _ _) rfl rfl ?_; intro w2 b2 g2))
      go_ret
      exact ⟨rfl, (x1.alloc _).grown g2 (fun k e => by cases e; exact x1.size)⟩
    · have HG := Lib.hid (fun w h => riget_yes A n c v I k w h hg' (by omega) (by omega))
      have HX := Lib.hid (inoAt_len v k)
      have HI := Lib.hid (fun w g (h : Box w g 61 (intVals (inoAt v k))) => ino_cell h (inoAt_len v k) (k := 0) (by omega))
      rw [show fileE v I k = if (inoAt v k).getD 0 0 ≠ 1 then 11 else 0 by unfold fileE; rw [if_neg h1]]
      generalize (inoAt v k).getD 0 0 = kd at *
      generalize inoAt v k = x at *
      clear hv hg hg' h1
      by_cases h2 : kd = 1
      · subst h2
        rw [if_neg (fun h => h rfl)]
        go_enter Tryz.func24, Tryz.ntmps24
        go_wp2_with (first
          | (go_at_call 55; refine (HG.out _ HV.out).mono ?_; rintro e w1 ⟨rfl, x1⟩)
          | (refine wp_st_ino (.tmp 5) (.tmp 11) rfl rfl w1.heap.size _ zero12 61 rfl rfl (Box.new _ _ _) HX.out rfl ?_; intro w2 b2 g2; have c0 := HI.out _ _ b2))
        go_ret
        exact ⟨rfl, (x1.alloc _).grown g2 (fun k e => by cases e; exact x1.size)⟩
      · rw [if_pos h2]
        have d2 : (kd != 1) = true := by simpa using h2
        clear h2
        go_enter Tryz.func24, Tryz.ntmps24
        go_wp2_with (first
          | (go_at_call 55; refine (HG.out _ HV.out).mono ?_; rintro e w1 ⟨rfl, x1⟩)
          | (refine wp_st_ino (.tmp 5) (.tmp 11) rfl rfl w1.heap.size _ zero12 61 rfl rfl (Box.new _ _ _) HX.out rfl ?_; intro w2 b2 g2; have c0 := HI.out _ _ b2))
        go_ret
        exact ⟨rfl, (x1.alloc _).grown g2 (fun k e => by cases e; exact x1.size)⟩
theorem readX_eq (v : List (List UInt8)) (I : Option Int) (k off size : Int) : readX v I k off size = if fileX v I k ≠ 0 then ([], fileX v I k) else readE v (I.getD 0) k off size := by
  cases I with
  | none => rfl
  | some I => rfl
set_option maxHeartbeats 1000000 in
set_option maxRecDepth 100000 in
theorem rreadX_any (A : Option Addr) (n c : Nat) (v : List (List UInt8)) (I : Option Int) (k off size : Int) (w : World) (hv : Strs w A n v) (hn : n ≤ 9223372036854775807) (hg : GoodX v I) (ho : off ≤ 9223372036854775807) (hs : size ≤ 9223372036854775807) :
    Calls Tryz.prog 9 #[.slice A n c, .int .i64 k, .int .i64 off, .int .i64 size] w fun e w' => e = .returned (.tuple #[.string (str (readX v I k off size).1), .int .i64 (readX v I k off size).2]) ∧ Ext w w' := by
  have HV := Lib.hid hv
  have HF := Lib.hid (fun w h => rfile_any A n c v I k w h hn hg)
  rw [readX_eq]
  by_cases h0 : fileX v I k = 0
  · rw [if_neg (fun h => h h0)]
    rw [h0] at HF
    cases I with
    | none => exact absurd (show (3 : Int) = 0 from h0) (by decide)
    | some I =>
      have hg' : Good v I := hg
      obtain ⟨k1, k2⟩ := file_in h0
      have HR := Lib.hid (fun w h => rread_any A n c v I k off size w h hg' k1 k2 ho hs)
      rw [show (some I).getD 0 = I from rfl]
      clear hv hg hg' h0
      generalize readE v I k off size = R at *
      go_enter Tryz.func9, Tryz.ntmps9
      go_wp2_with (first
        | (go_at_call 24; refine (HF.out _ HV.out).mono ?_; rintro e w1 ⟨rfl, x1⟩)
        | (go_at_call 25; refine (HR.out _ (HV.out.ext x1)).mono ?_; rintro e w2 ⟨rfl, x2⟩))
      go_ret2
      exact ⟨rfl, x1.trans x2⟩
  · rw [if_pos h0]
    have d0 : (fileX v I k != 0) = true := by simpa using h0
    clear hv hg h0
    generalize fileX v I k = z at *
    go_enter Tryz.func9, Tryz.ntmps9
    go_wp2_with (first
      | (go_at_call 24; refine (HF.out _ HV.out).mono ?_; rintro e w1 ⟨rfl, x1⟩))
    go_ret2
    exact ⟨rfl, x1⟩
end Go.Proofs.YtnoofjddikhopaaGreat
/- The document's walk through a volume. -/
namespace Go.Proofs.YtnoofjddikhopaaGreat
set_option linter.unusedVariables false
set_option linter.unusedSimpArgs false
open Go.RowKit
/-- all but rows of texts and of numbers, and one block, stays -/
def KSI (b : Option Nat) (w w' : World) : Prop := ∀ k o, w.heap[k]? = some o → some k ≠ b → (∀ c fz, o ≠ .cells c 9 fz) → (∀ c fz, o ≠ .cells c 3 fz) → w'.heap[k]? = some o
theorem KSI.refl (b : Option Nat) (w : World) : KSI b w w := fun _ _ h _ _ _ => h
theorem KSI.trans {b : Option Nat} {a c d : World} (h : KSI b a c) (k : KSI b c d) : KSI b a d := fun i o hi hb h1 h2 => k i o (h i o hi hb h1 h2) hb h1 h2
theorem KSI.ext {b : Option Nat} {w w' : World} (h : Ext w w') : KSI b w w' := fun k o hk _ _ _ => (Below.block h k (Array.getElem?_eq_some_iff.1 hk).1).trans hk
theorem KSI.weak {b : Option Nat} {w w' : World} (h : KSI none w w') : KSI b w w' := fun k o hk _ h1 h2 => h k o hk (by simp) h1 h2
theorem KSI.set {b : Nat} {a w : World} (h : KSI (some b) a w) (p : Addr) (hp : p.block = b) (v : Value) : KSI (some b) a (w.setCell p v) := by
  intro k x hk hb h1 h2
  have h3 := h k x hk hb h1 h2
  rw [Below.heap_setCell _ _ _ _ (fun e => hb (by rw [← hp, e]))]
  exact h3
theorem KSI.grown {b : Option Nat} {a w w' : World} {row : Option Nat} (h : KSI b a w) (hg : w.grownBy w' row) (hrow : ∀ g, row = some g → ∃ c t fz, w.heap[g]? = some (.cells c t fz) ∧ (t = 9 ∨ t = 3)) : KSI b a w' := by
  intro k x hk hb h1 h2
  have h3 := h k x hk hb h1 h2
  have hlt : k < w.heap.size := (Array.getElem?_eq_some_iff.1 h3).1
  rw [hg.block k hlt ?_]
  · exact h3
  · intro hk2
    obtain ⟨c, t, fz, hc, ht⟩ := hrow k hk2.symm
    rw [h3] at hc
    rcases ht with rfl | rfl
    · exact h1 c fz (Option.some.inj hc)
    · exact h2 c fz (Option.some.inj hc)
/-- with one block more that is new, nothing is lost -/
theorem KSI.new {b : Nat} {w w' : World} (h : KSI (some b) w w') (hb : w.heap.size ≤ b) : KSI none w w' := fun k o hk _ h1 h2 =>
  h k o hk (fun e => by have := (Array.getElem?_eq_some_iff.1 hk).1; injection e with e; omega) h1 h2
theorem own_ksi {b : Option Nat} {B z n : Nat} {e : TypeId} {w w' : World} {u : Value} {xs : List Value} (h : w.ownsRow B e z u n xs) (k : KSI b w w') (hne : ∀ g, b = some g → u.ownBlock ≠ some g) (h1 : e ≠ 9) (h2 : e ≠ 3) : w'.ownsRow B e z u n xs := by
  refine ⟨h.1, ?_⟩
  rcases h.2 with hc | ⟨g1, cap, cur, rfl, hb, hh, r⟩
  · exact .inl hc
  · exact .inr ⟨g1, cap, cur, rfl, hb, k g1 _ hh (fun e => hne g1 e.symm rfl) (fun c fz e => h1 (by cases e; rfl)) (fun c fz e => h2 (by cases e; rfl)), r⟩
theorem box_ksi {b : Option Nat} {w w' : World} {g : Nat} {t : TypeId} {cs : Array Value} (h : Box w g t cs) (k : KSI b w w') (hne : b ≠ some g) (h1 : t ≠ 9) (h2 : t ≠ 3) : Box w' g t cs :=
  k g _ h (fun e => hne e.symm) (fun c fz e => h1 (by cases e; rfl)) (fun c fz e => h2 (by cases e; rfl))
theorem contains_take {l : List Int} {n : Int} {i : Nat} (h : i < l.length) (h1 : (l.take i).contains n = false) (h2 : l[i] ≠ n) : (l.take (i + 1)).contains n = false := by
  rw [List.take_succ_eq_append_getElem h]
  have h3 : n ∉ l.take i := by simpa using h1
  have : n ∉ l.take i ++ [l[i]] := fun hm => (List.mem_append.1 hm).elim h3 (fun e => h2 (List.mem_singleton.1 e).symm)
  simpa using this
set_option maxHeartbeats 1000000 in
set_option maxRecDepth 100000 in
theorem rin_any (B : Nat) (u : Value) (l : List Int) (n : Int) (w : World) (h : w.ownsRow B 3 1 u l.length (numsL l)) (hl : l.length ≤ 1000000) :
    Calls Tryz.prog 73 #[u, .int .i64 n] w fun e w' => e = .returned (.bool (l.contains n)) ∧ w = w' := by
  have HC := Lib.hid (fun i (h : i < l.length) h1 h2 => contains_take (n := n) h h1 h2)
  have HM := Lib.hid (fun i (h : i < l.length) (e : l[i] = n) => show l.contains n = true by rw [← e]; simp)
  have HT := Lib.hid (show (l.take l.length) = l from List.take_length)
  obtain ⟨A, cap, rfl, hcell⟩ : ∃ A cap, u = .slice A l.length cap ∧ ∀ i, (hi : i < l.length) → ∃ b o, A = some ⟨b, o, none⟩ ∧ w.cell? ⟨b, o + i, none⟩ = some (.int .i64 l[i]) := by
    rcases h.2 with ⟨rfl, h0⟩ | ⟨g, cap, cur, rfl, _⟩
    · exact ⟨none, 0, by rw [h0], fun i hi => by omega⟩
    · exact ⟨_, cap, rfl, fun i hi => ⟨g, 0, rfl, by rw [Nat.zero_add]; exact (h.cellAt i (by omega)).trans (by simp [numsL, hi])⟩⟩
  clear h
  go_enter Tryz.func73, Tryz.ntmps73
  go_upto_region 2 with fail
  go_loopw [5] (fun t wx => ∃ i : Nat, i ≤ l.length ∧ t = .int .i64 i ∧ (l.take i).contains n = false ∧ w = wx) (fun t _ => l.length - (intOf t).toNat)
  case atStart => exact ⟨0, by omega, rfl, by simp, rfl⟩
  case round =>
    obtain ⟨i, hi, rfl, hc, rfl⟩ := hrel
    have HC0 := Lib.hid hc
    clear hc
    by_cases hlt : i < l.length
    · obtain ⟨b, o, rfl, hci⟩ := hcell i hlt
      have hii : (i : Int) < (l.length : Int) := by omega
      have HCi := Lib.hid (HC.out i hlt HC0.out)
      have HMi := Lib.hid (HM.out i hlt)
      clear hcell
      generalize l[i] = y at *
      by_cases hy : y = n
      · have HR := Lib.hid (HMi.out hy)
        have d0 : (y == n) = true := by simpa using hy
        clear hy
        go_wp2_with fail
        go_ret
        rw [HR.out]
        exact ⟨rfl, rfl⟩
      · have HR := Lib.hid (HCi.out hy)
        have d0 : (y == n) = false := by simpa using hy
        clear hy
        go_wp2_with fail
        go_roundw
        case rel => exact ⟨i + 1, by omega, by go_num, HR.out, trivial⟩
        case measure => simp [intOf]; omega
    · obtain rfl : i = l.length := by omega
      have HR := Lib.hid (show l.contains n = false by have := HC0.out; rw [HT.out] at this; exact this)
      go_wp2_with fail
      go_ret
      rw [HR.out]
      exact ⟨rfl, rfl⟩
/-- the document's state of a walk, as rows of the call's own -/
def WIn (B : Nat) (w : World) (up ug : Value) (s : WalkS) : Prop := w.ownsRow B 9 1 up s.paths.length (strL s.paths) ∧ w.ownsRow B 3 1 ug s.gone.length (numsL s.gone)
theorem WIn.ext {B : Nat} {w w' : World} {up ug : Value} {s : WalkS} (h : WIn B w up ug s) (x : Ext w w') : WIn B w' up ug s := ⟨own_ext h.1 x, own_ext h.2 x⟩
structure RIntoK (W0 : World) (A : Option Addr) (n c : Nat) (v : List (List UInt8)) (I : Int) (d : Nat) (f : WalkS → Int → List UInt8 → WalkS) : Prop where
  calls : ∀ (s : WalkS) (k : Nat) (path : List UInt8) (w : World) (up ug : Value), (k : Int) ∉ s.gone → k ≤ 64 → potW s ≤ 18200 → potG s ≤ 65 → path.length ≤ 25 * d → Ext W0 w → WIn W0.heap.size w up ug s →
    Calls Tryz.prog 31 #[.slice A n c, .agg #[up, ug], .int .i64 (k : Int), .string (str path), .int .i64 (d : Int)] w fun e w' => ∃ up' ug', e = .returned (.agg #[up', ug']) ∧ WIn W0.heap.size w' up' ug' (f s k path) ∧ Ext W0 w' ∧ KSI none w w'
  pot : ∀ s k p, k ∉ s.gone → 0 ≤ k → k ≤ 64 → potW (f s k p) ≤ potW s
  potg : ∀ s k p, k ∉ s.gone → 0 ≤ k → k ≤ 64 → potG (f s k p) ≤ potG s
theorem wvSize : (Tryz.prog.info? 55).map (·.size) = some 2 := by kernel_rfl
theorem own_one {w : World} {B z n : Nat} {e : TypeId} {u : Value} {xs : List Value} (h : w.ownsRow B e z u n xs) : u.oneCell' = true := by
  rcases h.2 with ⟨rfl, _⟩ | ⟨g, cap, cur, rfl, _⟩ <;> rfl
theorem wv_one {B : Nat} {w : World} {up ug : Value} {s : WalkS} (h : WIn B w up ug s) : (#[up, ug] : Array Value).all (·.oneCell') = true := by
  simp [own_one h.1, own_one h.2]
theorem KSI.put {b : Nat} {a w w' : World} (h : KSI (some b) a w) (hg : w.grownBy w' (some b)) : KSI (some b) a w' := by
  intro k x hk hb h1 h2
  have h3 := h k x hk hb h1 h2
  have hlt : k < w.heap.size := (Array.getElem?_eq_some_iff.1 h3).1
  rw [hg.block k hlt hb]
  exact h3
theorem own_kindS {w : World} {B z n : Nat} {u : Value} {xs : List Value} (h : w.ownsRow B 9 z u n xs) : ∀ g, u.ownBlock = some g → ∃ c t fz, w.heap[g]? = some (.cells c t fz) ∧ (t = 9 ∨ t = 3) := fun g hg => by
  obtain ⟨c, fz, h⟩ := own_kind h g hg
  exact ⟨c, _, fz, h, .inl rfl⟩
theorem own_kindI {w : World} {B z n : Nat} {u : Value} {xs : List Value} (h : w.ownsRow B 3 z u n xs) : ∀ g, u.ownBlock = some g → ∃ c t fz, w.heap[g]? = some (.cells c t fz) ∧ (t = 9 ∨ t = 3) := fun g hg => by
  obtain ⟨c, fz, h⟩ := own_kind h g hg
  exact ⟨c, _, fz, h, .inr rfl⟩
theorem own_two {w w' : World} {B B' z z' n n' : Nat} {e e' : TypeId} {u u' : Value} {xs xs' : List Value} (h : w.ownsRow B e z u n xs) (h' : w.ownsRow B' e' z' u' n' xs') (hne : e ≠ e') (hg : w.grownBy w' u'.ownBlock) : w'.ownsRow B e z u n xs := by
  refine h.kept hg ?_
  cases hu : u.ownBlock with
  | none => exact .inl rfl
  | some g =>
    refine .inr (fun e2 => ?_)
    obtain ⟨c, fz, h1⟩ := own_kind h g hu
    obtain ⟨c', fz', h2⟩ := own_kind h' g e2.symm
    rw [h1] at h2
    injection h2 with h2
    injection h2 with _ h2 _
    exact hne h2
set_option maxHeartbeats 8000000 in
set_option maxRecDepth 100000 in
theorem rinto_gen (W0 : World) (A : Option Addr) (n c : Nat) (v : List (List UInt8)) (I : Int) (hv : Strs W0 A n v) (hn : n ≤ 9223372036854775807) (hg : Good v I) (kk : Option (WalkS → Int → List UInt8 → WalkS)) (d : Nat) (hd : d ≤ 7) (hk1 : ∀ f, kk = some f → d < 7 ∧ RIntoK W0 A n c v I (d + 1) f) (hk2 : kk = none → d = 7)
    (s : WalkS) (k : Nat) (path : List UInt8) (w : World) (up ug : Value) (hkg : (k : Int) ∉ s.gone) (hk64 : k ≤ 64) (hpot : potW s ≤ 18200) (hpg : potG s ≤ 65) (hpl : path.length ≤ 25 * d) (hx : Ext W0 w) (hw : WIn W0.heap.size w up ug s) :
    Calls Tryz.prog 31 #[.slice A n c, .agg #[up, ug], .int .i64 (k : Int), .string (str path), .int .i64 (d : Int)] w fun e w' => ∃ up' ug', e = .returned (.agg #[up', ug']) ∧ WIn W0.heap.size w' up' ug' ((dlistP v I k).1.foldl (stepW v I path kk) ⟨s.paths, s.gone ++ [(k : Int)]⟩) ∧ Ext W0 w' ∧ KSI none w w' := by
  have hI64 : I ≤ 64 := (plan_bd hg.plan).2.2.2.1
  have hp1 := pot_in hkg (by omega) (by omega : (k : Int) ≤ 64)
  have hp2 := potG_in hkg (by omega) (by omega : (k : Int) ≤ 64) s.paths
  have HPot := Lib.hid (fun l => pot_fold (v := v) (I := I) (path := path) (k := kk) (fun f e s n p a b c => (hk1 f e).2.pot s n p a b c) hI64 l ⟨s.paths, s.gone ++ [(k : Int)]⟩)
  have HPotG := Lib.hid (fun l => potG_fold (v := v) (I := I) (path := path) (k := kk) (fun f e s n p a b c => (hk1 f e).2.potg s n p a b c) hI64 l ⟨s.paths, s.gone ++ [(k : Int)]⟩)
  have HFo := Lib.hid (fun l s j h => foldW v I path kk l s j h)
  have HL := Lib.hid (fun w h => rdlist_any A n c v (some I) k w h hn hg)
  have hll := dlist_len v I k
  have hle := Lib.hid (dlist_ents v I k)
  have hbad := Lib.hid (fun h => dlist_bad (v := v) (I := I) (k := k) h)
  rw [show listX v (some I) k = dlistP v I k from rfl] at HL
  have HGo := Lib.hid (fun q w h hq => riget_out A n c v I q w h hg hq)
  have HGy := Lib.hid (fun q w h h1 h2 => riget_yes A n c v I q w h hg h1 h2)
  have HK1 := Lib.hid hk1
  have HK2 := Lib.hid hk2
  have HV := Lib.hid hv
  have hgl : s.gone.length ≤ 65 := by have : s.gone.length ≤ potG s := by unfold potG; omega
                                      omega
  have hX := hx.size
  obtain ⟨s1, hs1⟩ : ∃ s1 : WalkS, s1 = ⟨s.paths, s.gone ++ [(k : Int)]⟩ := ⟨_, rfl⟩
  have hq1 : potW s1 + 280 ≤ 18200 := by rw [hs1]; omega
  have hg1 : potG s1 ≤ 65 := by rw [hs1]; omega
  have HS1 := Lib.hid hs1
  rw [← hs1] at HPot HPotG ⊢
  have b6 := (Box.new w 55 #[up, ug]).ext ((Ext.refl _).alloc (.cells #[.slice none 0 0, .slice none 0 0] 55))
  have b10 := Box.new (w.alloc (.cells #[up, ug] 55)) 55 #[.slice none 0 0, .slice none 0 0]
  rw [World.size_alloc] at b10
  have x2 : Ext w ((w.alloc (.cells #[up, ug] 55)).alloc (.cells #[.slice none 0 0, .slice none 0 0] 55)) := ((Ext.refl w).alloc _).alloc _
  clear hs1 hp1 hp2 hkg hk1 hk2 hpot hpg hv
  generalize dlistP v I k = R at *
  obtain ⟨l, er⟩ := R
  simp only at HL hll hle hbad ⊢
  go_enter Tryz.func31, Tryz.ntmps31
  go_upto_region 1 with fail
  have hw2 := hw.ext x2
  have HX2 := Lib.hid (hx.trans x2)
  have HE2 := Lib.hid x2
  clear hx x2 hw
  generalize (w.alloc (.cells #[up, ug] 55)).alloc (.cells #[.slice none 0 0, .slice none 0 0] 55) = w2 at *
  obtain ⟨g6, hg6e⟩ : ∃ g6, w.heap.size = g6 := ⟨_, rfl⟩
  rw [hg6e] at b6 b10 ⊢
  have hg6 : W0.heap.size ≤ g6 := by omega
  have HG6 := Lib.hid hg6e
  clear hg6e hX
  have c61 : w2.cell? ⟨g6, 1, none⟩ = some ug := b6.cell 1
  have owng := own_ext hw2.2 ((Ext.refl w2).alloc (.cells #[.int .i64 (k : Int)] 3))
  have ownp := own_ext hw2.1 ((Ext.refl w2).alloc (.cells #[.int .i64 (k : Int)] 3))
  have bb6 := b6.ext ((Ext.refl w2).alloc (.cells #[.int .i64 (k : Int)] 3))
  have bb10 := b10.ext ((Ext.refl w2).alloc (.cells #[.int .i64 (k : Int)] 3))
  have hsz2 : W0.heap.size ≤ (w2.alloc (.cells #[.int .i64 (k : Int)] 3)).heap.size := by have := HX2.out.size; simp; omega
  go_upto_region 2 with (refine wp_app_int (y := (k : Int)) rfl (.tmp 18) (.tmp 20) rfl rfl rfl owng (Box.new _ _ _) (by omega) hsz2 ?_; intro un w3 ownN g3; have c3 := (bb6.grown g3 (own_ne owng bb6 (by decide))).cell 1; have f3 := (bb6.grown g3 (own_ne owng bb6 (by decide))).frozen 1; obtain ⟨gn, cn, rfl, hgn⟩ := own_form ownN (by omega))
  have b6' := (bb6.grown g3 (own_ne owng bb6 (by decide)))
  have hp3 := own_two ownp owng (by decide) g3
  have b64 := b6'.set 1 (.slice (some ⟨gn, 0, none⟩) (s.gone.length + 1) cn)
  have HW4 := Lib.hid (show WIn W0.heap.size (w3.setCell ⟨g6, 1, none⟩ (.slice (some ⟨gn, 0, none⟩) (s.gone.length + 1) cn)) up (.slice (some ⟨gn, 0, none⟩) (s.gone.length + 1) cn) s1 from by
    rw [HS1.out]
    refine ⟨own_setBox hp3 b6' (by decide) _, ?_⟩
    have e := own_setBox (i := 1) ownN b6' (by decide) (.slice (some ⟨gn, 0, none⟩) (s.gone.length + 1) cn)
    rw [show (s.gone ++ [(k : Int)]).length = s.gone.length + 1 by simp]
    exact e)
  have HB4 := Lib.hid (show Box (w3.setCell ⟨g6, 1, none⟩ (.slice (some ⟨gn, 0, none⟩) (s.gone.length + 1) cn)) g6 55 #[up, .slice (some ⟨gn, 0, none⟩) (s.gone.length + 1) cn] from b64)
  have HX4 := Lib.hid (((HX2.out.alloc (.cells #[.int .i64 (k : Int)] 3)).grown g3 (fun j e => own_low owng e)).setCell (p := ⟨g6, 1, none⟩) hg6 (.slice (some ⟨gn, 0, none⟩) (s.gone.length + 1) cn))
  have HK4 := Lib.hid (show KSI (some g6) w2 (w3.setCell ⟨g6, 1, none⟩ (.slice (some ⟨gn, 0, none⟩) (s.gone.length + 1) cn)) from ((KSI.ext ((Ext.refl w2).alloc _)).grown g3 (own_kindI owng)).set ⟨g6, 1, none⟩ rfl _)
  have HB10 := Lib.hid b10
  clear c61 owng ownp bb6 bb10 hsz2 g3 c3 f3 b6' hp3 b64 ownN b6 b10 hw2
  generalize (.slice (some ⟨gn, 0, none⟩) (s.gone.length + 1) cn : Value) = g1 at *
  generalize w3.setCell ⟨g6, 1, none⟩ g1 = w4 at *
  by_cases her : er = 0
  case neg =>
    have hl0 := hbad.out her
    subst hl0
    have de : (er != 0) = true := by simpa using her
    clear her
    go_wp2_with (first
      | (go_at_call 72; refine (HL.out _ (HV.out.ext HX4.out)).mono ?_; rintro e w5 ⟨u, rfl, x5, _⟩; have hb5 := HB4.out.ext x5; have hb15 := (box_ksi HB10.out HK4.out (by simp) (by decide) (by decide)).ext x5)
      | (refine wp_ld 55 (.tmp 6) rfl rfl g6 _ 55 _ rfl hb5 Tryz.underlying55 rfl wvSize ?_)
      | (refine wp_st 55 (.tmp 10) (.tmp 31) rfl rfl (g6 + 1) #[up, g1] _ 55 rfl rfl hb15 wvSize rfl (wv_one HW4.out) ?_; intro w9 b9 g9))
    have hW9 : WIn W0.heap.size w9 up g1 s1 := ⟨(own_ext HW4.out.1 x5).kept g9 (.inr (own_ne (own_ext HW4.out.1 x5) hb15 (by decide)).symm), (own_ext HW4.out.2 x5).kept g9 (.inr (own_ne (own_ext HW4.out.2 x5) hb15 (by decide)).symm)⟩
    have x9 : Ext W0 w9 := (HX4.out.trans x5).grown g9 (fun j e => by cases e; omega)
    have k9 : KSI none w w9 := by
      have h1 : KSI (some g6) w w5 := ((KSI.ext HE2.out).trans HK4.out).trans (KSI.ext x5)
      have h2 := h1.new (by have := HG6.out; omega)
      intro q o hq h3 h4 h5
      have h6 := h2 q o hq h3 h4 h5
      have hlt : q < w.heap.size := (Array.getElem?_eq_some_iff.1 hq).1
      rw [g9.block q (Array.getElem?_eq_some_iff.1 h6).1 (fun e => by injection e with e; have := HG6.out; omega)]
      exact h6
    refine bodyPost_ret (results_cell1 rfl _ _ (g6 + 1) _ _ _ rfl b9 Tryz.underlying55 rfl wvSize) rfl ⟨up, g1, rfl, hW9, x9, k9⟩
  subst her
  clear hbad
  go_upto_region 5 with (go_at_call 72; refine (HL.out _ (HV.out.ext HX4.out)).mono ?_; rintro e w5 ⟨u, rfl, x5, own5⟩; obtain ⟨A2, cap2, rfl, st2⟩ := (own5 (by first | rfl | trivial)).form; have HO5 := Lib.hid (own5 (by first | rfl | trivial)); clear own5 st2)
  have HX5 := Lib.hid (HX4.out.trans x5)
  have HB5 := Lib.hid (HB4.out.ext x5)
  have HB15 := Lib.hid ((box_ksi HB10.out HK4.out (by simp) (by decide) (by decide)).ext x5)
  have HW5 := Lib.hid (HW4.out.ext x5)
  have HK5 := Lib.hid (show KSI (some g6) w w5 from ((KSI.ext HE2.out).trans HK4.out).trans (KSI.ext x5))
  have HNe := Lib.hid (show (Value.slice A2 l.length cap2).ownBlock ≠ some g6 from (own_ne HO5.out HB5.out (by decide)).symm)
  clear x5 HB10 HK4 HE2 HB4 HW4 HL HS1
  go_upto_region 6 with fail
  go_loopw [13, 14, 15, 16] (fun t _ _ _ wx => ∃ (j : Nat) (uq gq : Value), j ≤ l.length ∧ t = .int .i64 j ∧ WIn W0.heap.size wx uq gq ((l.take j).foldl (stepW v I path kk) s1) ∧ Box wx g6 55 #[uq, gq] ∧ Ext W0 wx ∧ KSI (some g6) w5 wx) (fun t _ _ _ _ => l.length - (intOf t).toNat)
  case atStart => exact ⟨0, up, g1, by omega, rfl, by simpa using HW5.out, HB5.out, HX5.out, KSI.refl _ _⟩
  case round =>
    obtain ⟨j, uq, gq, hj, rfl, hWj, hBj, xj, kj⟩ := hrel
    have HWj := Lib.hid hWj
    have HBj := Lib.hid hBj
    have HXj := Lib.hid xj
    have HKj := Lib.hid kj
    have hW0r : W0.heap.size ≤ wr.heap.size := xj.size
    clear hWj hBj xj kj
    by_cases hlt : j < l.length
    · have HF := Lib.hid (HFo.out l s1 j hlt)
      have hpj := HPot.out (l.take j)
      have hpg := HPotG.out (l.take j)
      rw [List.length_take, Nat.min_eq_left hj] at hpj
      have hex := hle.out.1 _ (List.getElem_mem hlt)
      have own3 : OwnE wr w4.heap.size (.slice A2 l.length cap2) l := own_ksi HO5.out HKj.out (fun g e => by cases e; exact HNe.out) (by decide) (by decide)
      obtain ⟨A3, cap3, e3, st3⟩ := own3.form
      injection e3 with e31 _ e33
      subst e31 e33
      obtain ⟨b, o, rfl, hcell⟩ := st3.2 (by omega)
      have hc1 := (hcell j hlt).1
      have hc2 := (hcell j hlt).2
      clear hcell st3 own3 HFo HPot HPotG
      obtain ⟨x, hxe⟩ : ∃ x, l[j] = x := ⟨_, rfl⟩
      rw [hxe] at hc1 hc2 hex HF
      have HEj := Lib.hid (show l[j]? = some x by rw [List.getElem?_eq_getElem hlt, hxe])
      clear hxe
      generalize (l.take j).foldl (stepW v I path kk) s1 = sj at *
      obtain ⟨q, hq⟩ : ∃ q : Nat, x.2 = (q : Int) := ⟨x.2.toNat, by omega⟩
      obtain ⟨name, ino⟩ := x
      simp only at hc1 hc2 hex hq
      subst hq
      have hnl := mayD_len hex.1
      have h47 : ∀ p : List UInt8, str p ++ ⟨#[47]⟩ = str (p ++ [47]) := fun p => str_app p [47]
      have hap := str_app
      have hz := str_size
      have hq64 : q ≤ 64 := by omega
      have hpb : (path ++ 47 :: name).length ≤ 25 * (d + 1) := by simp; omega
      clear hex
      have hji : (j : Int) < (l.length : Int) := by omega
      have cu : wr.cell? ⟨g6, 0, none⟩ = some uq := HBj.out.cell 0
      have st4 := strs_new1 wr (path ++ 47 :: name)
      have own4 := own_ext HWj.out.1 ((Ext.refl wr).alloc (.cells #[.string (str (path ++ 47 :: name))] 9))
      have owg4 := own_ext HWj.out.2 ((Ext.refl wr).alloc (.cells #[.string (str (path ++ 47 :: name))] 9))
      have bx4 := HBj.out.ext ((Ext.refl wr).alloc (.cells #[.string (str (path ++ 47 :: name))] 9))
      have hsz4 : W0.heap.size ≤ (wr.alloc (.cells #[.string (str (path ++ 47 :: name))] 9)).heap.size := by simp; omega
      have k4 : KSI (some g6) wr (wr.alloc (.cells #[.string (str (path ++ 47 :: name))] 9)) := KSI.ext ((Ext.refl wr).alloc _)
      have X4 : Ext W0 (wr.alloc (.cells #[.string (str (path ++ 47 :: name))] 9)) := HXj.out.alloc _
      have hpp : sj.paths.length ≤ 18200 := by have : sj.paths.length ≤ potW sj := by unfold potW; omega
                                               omega
      have hgg : sj.gone.length ≤ 65 := by have : sj.gone.length ≤ potG sj := by unfold potG; omega
                                           omega
      go_upto_region 10 with (at_builtin; refine wp_app_strs W0.heap.size rfl _ _ rfl rfl rfl own4 st4 (by omega) hsz4 (by omega) ?_; intro un wn ownN gn; have bn := bx4.grown gn (own_ne own4 bx4 (by decide)); have c60 : wn.cell? ⟨g6, 0, none⟩ = some uq := bn.cell 0; have f60 := bn.frozen 0; obtain ⟨gb, cb, rfl, _⟩ := own_form ownN (by omega))
      have owgn := own_two owg4 own4 (by decide) gn
      have HWn := Lib.hid (show WIn W0.heap.size (wn.setCell ⟨g6, 0, none⟩ (.slice (some ⟨gb, 0, none⟩) (sj.paths.length + 1) cb)) (.slice (some ⟨gb, 0, none⟩) (sj.paths.length + 1) cb) gq ⟨sj.paths ++ [path ++ 47 :: name], sj.gone⟩ from by
        refine ⟨?_, own_setBox owgn bn (by decide) _⟩
        have e := own_setBox (i := 0) ownN bn (by decide) (.slice (some ⟨gb, 0, none⟩) (sj.paths.length + 1) cb)
        rw [show (sj.paths ++ [path ++ 47 :: name]).length = sj.paths.length + 1 by simp]
        exact e)
      have HBn := Lib.hid (show Box (wn.setCell ⟨g6, 0, none⟩ (.slice (some ⟨gb, 0, none⟩) (sj.paths.length + 1) cb)) g6 55 #[.slice (some ⟨gb, 0, none⟩) (sj.paths.length + 1) cb, gq] from bn.set 0 _)
      have HXn := Lib.hid ((X4.grown gn (fun k e => own_low own4 e)).setCell (p := ⟨g6, 0, none⟩) hg6 (.slice (some ⟨gb, 0, none⟩) (sj.paths.length + 1) cb))
      have HKn := Lib.hid (HKj.out.trans (show KSI (some g6) wr (wn.setCell ⟨g6, 0, none⟩ (.slice (some ⟨gb, 0, none⟩) (sj.paths.length + 1) cb)) from (k4.grown gn (own_kindS own4)).set ⟨g6, 0, none⟩ rfl _))
      have hp6 : potW ⟨sj.paths ++ [path ++ 47 :: name], sj.gone⟩ ≤ 18200 := by
        have : potW ⟨sj.paths ++ [path ++ 47 :: name], sj.gone⟩ = potW sj + 1 := by unfold potW; simp; omega
        omega
      have hp7 : potG ⟨sj.paths ++ [path ++ 47 :: name], sj.gone⟩ ≤ 65 := by
        have : potG ⟨sj.paths ++ [path ++ 47 :: name], sj.gone⟩ = potG sj := rfl
        omega
      have c2n : (wn.setCell ⟨g6, 0, none⟩ (.slice (some ⟨gb, 0, none⟩) (sj.paths.length + 1) cb)).cell? ⟨b, o + j * 2 + 1, none⟩ = some (.int .i64 (q : Int)) := by
        have own6 : OwnE (wn.setCell ⟨g6, 0, none⟩ (.slice (some ⟨gb, 0, none⟩) (sj.paths.length + 1) cb)) w4.heap.size (.slice (some ⟨b, o, none⟩) l.length cap2) l := own_ksi HO5.out HKn.out (fun g e => by cases e; exact HNe.out) (by decide) (by decide)
        obtain ⟨A6, cap6, e6, st6⟩ := own6.form
        injection e6 with e61 _ _
        subst e61
        obtain ⟨b', o', e', hc6⟩ := st6.2 (by omega)
        cases e'
        have h6 := (hc6 j hlt).2
        rw [show l[j] = (name, (q : Int)) from Option.some.inj ((List.getElem?_eq_getElem hlt).symm.trans HEj.out)] at h6
        exact h6
      clear own4 owg4 bx4 hsz4 k4 X4 st4 cu hc1 hc2 owgn bn c60 f60 ownN gn
      generalize (.slice (some ⟨gb, 0, none⟩) (sj.paths.length + 1) cb : Value) = un at *
      generalize wn.setCell ⟨g6, 0, none⟩ un = w6 at *
      have HSt := Lib.hid (show stepW v I path kk sj (name, (q : Int)) = match kk with
        | none => ⟨sj.paths ++ [path ++ 47 :: name], sj.gone⟩
        | some f => if isDirP v I (q : Int) && !sj.gone.contains (q : Int) then f ⟨sj.paths ++ [path ++ 47 :: name], sj.gone⟩ (q : Int) (path ++ 47 :: name) else ⟨sj.paths ++ [path ++ 47 :: name], sj.gone⟩ from by unfold stepW; cases kk <;> rfl)
      have HW6 := HWn
      have HB6 := HBn
      have HX6 := HXn
      have HK6 := HKn
      clear HWn HBn HXn HKn HWj HBj HXj HKj HEj
      have hwd : IntKind.i64.wrap ((d : Int) + 1) = (d : Int) + 1 := by rw [IntKind.wrap_i64]; omega
      by_cases hin : (q : Int) < 1 ∨ I < (q : Int)
      · have HGx := Lib.hid (fun w h => HGo.out (q : Int) w h hin)
        have hnd : isDirP v I (q : Int) = false := by unfold isDirP; rw [decide_eq_false (by omega)]; rfl
        have HS2 := Lib.hid (show stepW v I path kk sj (name, (q : Int)) = ⟨sj.paths ++ [path ++ 47 :: name], sj.gone⟩ by
          rw [HSt.out]
          cases kk with
          | none => rfl
          | some f => simp only [hnd]; simp)
        clear HSt hnd hin HGo HGy HK1 HK2 hap h47 hz
        go_upto_region 11 with (first
          | (go_at_call 55; refine (HGx.out _ (HV.out.ext HX6.out)).mono ?_; rintro e w7 ⟨rfl, x7⟩)
          | (refine wp_st_ino (.tmp 15) (.tmp 60) rfl rfl w7.heap.size _ zero12 61 rfl rfl (Box.new _ _ _) rfl rfl ?_; intro w8 b8 g8))
        have x8 : Ext w6 w8 := (x7.alloc (.cells (intVals zero12) 61)).grown g8 (fun k e => by cases e; exact x7.size)
        clear x7 g8 b8
        refine wp_region_later (by kernel_rfl) (by kernel_rfl) ?_
        repeat (go_big_quiet_step (fail))
        refine wpQuiet_nil ?_
        rintro w9 ⟨y, rfl⟩
        have X9 := x8.trans y.ext
        go_wp2_with fail
        go_roundw
        case rel => exact ⟨j + 1, un, gq, by omega, by go_num, by rw [HF.out, HS2.out]; exact HW6.out.ext X9, HB6.out.ext X9, HX6.out.trans X9, HK6.out.trans (KSI.ext X9)⟩
        case measure => simp [intOf]; omega
      · have HGx := Lib.hid (fun w h => HGy.out (q : Int) w h (by omega) (by omega))
        have hl12 : (inoAt v (q : Int)).length = 12 := rfl
        have hx12 : (intVals (inoAt v (q : Int)))[0]? = some (.int .i64 ((inoAt v (q : Int)).getD 0 0)) := rfl
        have HDe := Lib.hid (show isDirP v I (q : Int) = decide ((inoAt v (q : Int)).getD 0 0 = 2) by unfold isDirP; rw [decide_eq_true (by omega)]; rfl)
        clear hin HGo HGy hap h47 hz
        generalize (inoAt v (q : Int)).getD 0 0 = kd at *
        generalize inoAt v (q : Int) = xs at *
        go_upto_region 11 with (first
          | (go_at_call 55; refine (HGx.out _ (HV.out.ext HX6.out)).mono ?_; rintro e w7 ⟨rfl, x7⟩)
          | (refine wp_st_ino (.tmp 15) (.tmp 60) rfl rfl w7.heap.size _ zero12 61 rfl rfl (Box.new _ _ _) hl12 rfl ?_; intro w8 b8 g8))
        have x8 : Ext w6 w8 := (x7.alloc (.cells (intVals zero12) 61)).grown g8 (fun k e => by cases e; exact x7.size)
        have ck : ∀ y : Later w8, y.now.cell? ⟨w7.heap.size, 0, none⟩ = some (.int .i64 kd) := fun y => y.ext.keep ((b8.cell 0).trans hx12)
        have cq8 : ∀ y : Later w8, y.now.cell? ⟨b, o + j * 2 + 1, none⟩ = some (.int .i64 (q : Int)) := fun y => (x8.trans y.ext).keep c2n
        have cg8 : ∀ y : Later w8, y.now.cell? ⟨g6, 1, none⟩ = some gq := fun y => (HB6.out.ext (x8.trans y.ext)).cell 1
        have HIn := Lib.hid (fun y : Later w8 => rin_any W0.heap.size gq sj.gone (q : Int) y.now (own_ext HW6.out.2 (x8.trans y.ext)) (by omega))
        clear x7 g8 b8 HGx
        by_cases hkd : kd = 2
        case neg =>
          have dk : (kd == 2) = false := by simpa using hkd
          have hnd : isDirP v I (q : Int) = false := by rw [HDe.out]; exact decide_eq_false hkd
          have HS2 := Lib.hid (show stepW v I path kk sj (name, (q : Int)) = ⟨sj.paths ++ [path ++ 47 :: name], sj.gone⟩ by
            rw [HSt.out]
            cases kk with
            | none => rfl
            | some f => simp only [hnd]; simp)
          clear HSt hnd hkd HK1 HK2 HIn
          refine wp_region_later (by kernel_rfl) (by kernel_rfl) ?_
          repeat (go_big_quiet_step (fail))
          refine wpQuiet_nil ?_
          rintro w9 ⟨y, rfl⟩
          clear ck cq8 cg8
          have X9 := x8.trans y.ext
          go_wp2_with fail
          go_roundw
          case rel => exact ⟨j + 1, un, gq, by omega, by go_num, by rw [HF.out, HS2.out]; exact HW6.out.ext X9, HB6.out.ext X9, HX6.out.trans X9, HK6.out.trans (KSI.ext X9)⟩
          case measure => simp [intOf]; omega
        have dk : (kd == 2) = true := by simpa using hkd
        have hnd : isDirP v I (q : Int) = true := by rw [HDe.out]; exact decide_eq_true hkd
        cases hc : sj.gone.contains (q : Int) with
        | true =>
          have HS2 := Lib.hid (show stepW v I path kk sj (name, (q : Int)) = ⟨sj.paths ++ [path ++ 47 :: name], sj.gone⟩ by
            rw [HSt.out]
            cases kk with
            | none => rfl
            | some f => simp only [hc]; simp)
          rw [hc] at HIn
          clear HSt hnd hkd HK1 HK2 hc
          refine wp_region_later (by kernel_rfl) (by kernel_rfl) ?_
          repeat (go_big_quiet_step (exact later_of_same (HIn.out _)))
          refine wpQuiet_nil ?_
          rintro w9 ⟨y, rfl⟩
          clear ck cq8 cg8 HIn
          have X9 := x8.trans y.ext
          go_wp2_with fail
          go_roundw
          case rel => exact ⟨j + 1, un, gq, by omega, by go_num, by rw [HF.out, HS2.out]; exact HW6.out.ext X9, HB6.out.ext X9, HX6.out.trans X9, HK6.out.trans (KSI.ext X9)⟩
          case measure => simp [intOf]; omega
        | false =>
          have hnc : (q : Int) ∉ sj.gone := by simpa using hc
          rw [hc] at HIn
          cases kk with
          | none =>
            have hd7 := HK2.out rfl
            have hd8 : decide ((d : Int) < 7) = false := by rw [hd7]; rfl
            have HS2 := Lib.hid HSt.out
            simp only at HS2
            clear HSt hnd hkd HK1 HK2 hc hd7
            refine wp_region_later (by kernel_rfl) (by kernel_rfl) ?_
            repeat (go_big_quiet_step (exact later_of_same (HIn.out _)))
            refine wpQuiet_nil ?_
            rintro w9 ⟨y, rfl⟩
            clear ck cq8 cg8 HIn
            have X9 := x8.trans y.ext
            go_wp2_with fail
            go_roundw
            case rel => exact ⟨j + 1, un, gq, by omega, by go_num, by rw [HF.out, HS2.out]; exact HW6.out.ext X9, HB6.out.ext X9, HX6.out.trans X9, HK6.out.trans (KSI.ext X9)⟩
            case measure => simp [intOf]; omega
          | some f =>
            obtain ⟨hd8', hF⟩ := HK1.out f rfl
            have hd8 : decide ((d : Int) < 7) = true := decide_eq_true (Int.ofNat_lt.2 hd8')
            have HS2 := Lib.hid HSt.out
            simp only [hnd, hc, Bool.not_false, Bool.and_true, if_true] at HS2
            have HC := Lib.hid (fun w uu gg h1 h2 => hF.calls ⟨sj.paths ++ [path ++ 47 :: name], sj.gone⟩ q (path ++ 47 :: name) w uu gg hnc hq64 hp6 hp7 (by have := hpb; simpa using this) h1 h2)
            rw [show ((d + 1 : Nat) : Int) = (d : Int) + 1 by omega] at HC
            clear HSt hnd hkd HK1 HK2 hc hd8' hF
            refine wp_region_later (by kernel_rfl) (by kernel_rfl) ?_
            repeat (go_big_quiet_step (exact later_of_same (HIn.out _)))
            refine wpQuiet_nil ?_
            rintro w9 ⟨y, rfl⟩
            have X9 := Lib.hid (x8.trans y.ext)
            have cq7 := cq8 y
            have HB9 := Lib.hid (HB6.out.ext X9.out)
            have HW9a := Lib.hid (HW6.out.ext X9.out)
            have HX9a := Lib.hid (HX6.out.trans X9.out)
            have HK9a := Lib.hid (HK6.out.trans (KSI.ext X9.out))
            clear ck cq8 cg8 HIn HB6 HW6 HX6 HK6 x8 X9
            generalize y.now = w9 at *
            have HB6 := HB9
            have HW6 := HW9a
            have HX6 := HX9a
            have HK6 := HK9a
            clear HB9 HW9a HX9a HK9a
            go_upto_region 12 with fail
            refine wp_region_web' 10 [[], [], [], [], [2, 3], [4], [5], [], [], [8]] (listV [isV (.slice A n c), isV (.agg #[un, gq]), isV (.slice (some ⟨b, o, none⟩) l.length cap2), isV (.int .i64 (j : Int)), isV (.pointer (some ⟨b, o + j * 2, none⟩)), isV (.pointer (some ⟨b, o + j * 2 + 1, none⟩)), isV (.int .i64 (q : Int)), isV (.string (str (path ++ 47 :: name))), isV (.int .i64 (d : Int)), isV (.int .i64 ((d : Int) + 1))]) (by kernel_rfl) (by kernel_rfl) (listV_ext (fun p hp => by simp only [List.mem_cons, List.not_mem_nil, or_false] at hp; rcases hp with rfl | rfl | rfl | rfl | rfl | rfl | rfl | rfl | rfl | rfl <;> first | exact lasts_is _)) (fun us => ?_)
            simp only [List.take_succ_cons, List.take_zero, List.drop_succ_cons, List.drop_zero]
            rw [webWalk]
            refine And.intro (fun w' hx hd => ?_) ?_
            · clear hd
              refine web_of_list 84 rfl (by simp) rfl ?_
              go_wp2_with fail
              exact ⟨Ext.refl _, rfl⟩
            simp only [Act.put, List.setIfInBounds_toArray, List.set_cons_zero, List.set_cons_succ]
            rw [webWalk]
            refine And.intro (fun w' hx hd => ?_) ?_
            · clear hd
              refine web_of_list 85 rfl (by simp [Act.put]) rfl ?_
              go_wp2_with (refine wp_ld 55 (.tmp 6) rfl rfl g6 _ 55 _ rfl (HB6.out.ext hx) Tryz.underlying55 rfl wvSize ?_)
              exact ⟨Ext.refl _, rfl⟩
            simp only [Act.put, List.setIfInBounds_toArray, List.set_cons_zero, List.set_cons_succ]
            rw [webWalk]
            refine And.intro (fun w' hx hd => ?_) ?_
            · clear hd
              refine web_of_list 86 rfl (by simp [Act.put]) rfl ?_
              go_wp2_with fail
              exact ⟨Ext.refl _, rfl⟩
            simp only [Act.put, List.setIfInBounds_toArray, List.set_cons_zero, List.set_cons_succ]
            rw [webWalk]
            refine And.intro (fun w' hx hd => ?_) ?_
            · clear hd
              refine web_of_list 87 rfl (by simp [Act.put]) rfl ?_
              go_wp2_with fail
              exact ⟨Ext.refl _, rfl⟩
            simp only [Act.put, List.setIfInBounds_toArray, List.set_cons_zero, List.set_cons_succ]
            rw [webWalk]
            refine And.intro (fun w' hx hd => ?_) ?_
            · have h2 := hd 2 (by simp)
              have h3 := hd 3 (by simp)
              clear hd
              generalize us 2 = u2 at *
              generalize us 3 = u3 at *
              obtain rfl : u2 = .slice (some ⟨b, o, none⟩) l.length cap2 := h2
              obtain rfl : u3 = .int .i64 (j : Int) := h3
              refine web_of_list 88 rfl (by simp [Act.put]) rfl ?_
              go_wp2_with fail
              exact ⟨Ext.refl _, rfl⟩
            simp only [Act.put, List.setIfInBounds_toArray, List.set_cons_zero, List.set_cons_succ]
            rw [webWalk]
            refine And.intro (fun w' hx hd => ?_) ?_
            · have h4 := hd 4 (by simp)
              clear hd
              generalize us 4 = u4 at *
              obtain rfl : u4 = .pointer (some ⟨b, o + j * 2, none⟩) := h4
              refine web_of_list 89 rfl (by simp [Act.put]) rfl ?_
              go_wp2_with fail
              exact ⟨Ext.refl _, rfl⟩
            simp only [Act.put, List.setIfInBounds_toArray, List.set_cons_zero, List.set_cons_succ]
            rw [webWalk]
            refine And.intro (fun w' hx hd => ?_) ?_
            · have h5 := hd 5 (by simp)
              clear hd
              generalize us 5 = u5 at *
              obtain rfl : u5 = .pointer (some ⟨b, o + j * 2 + 1, none⟩) := h5
              have cq' := hx.keep cq7
              refine web_of_list 90 rfl (by simp [Act.put]) rfl ?_
              go_wp2_with fail
              exact ⟨Ext.refl _, rfl⟩
            simp only [Act.put, List.setIfInBounds_toArray, List.set_cons_zero, List.set_cons_succ]
            rw [webWalk]
            refine And.intro (fun w' hx hd => ?_) ?_
            · clear hd
              refine web_of_list 91 rfl (by simp [Act.put]) rfl ?_
              go_wp2_with fail
              exact ⟨Ext.refl _, rfl⟩
            simp only [Act.put, List.setIfInBounds_toArray, List.set_cons_zero, List.set_cons_succ]
            rw [webWalk]
            refine And.intro (fun w' hx hd => ?_) ?_
            · clear hd
              refine web_of_list 92 rfl (by simp [Act.put]) rfl ?_
              go_wp2_with fail
              exact ⟨Ext.refl _, rfl⟩
            simp only [Act.put, List.setIfInBounds_toArray, List.set_cons_zero, List.set_cons_succ]
            rw [webWalk]
            refine And.intro (fun w' hx hd => ?_) ?_
            · have h8 := hd 8 (by simp)
              clear hd
              generalize us 8 = u8 at *
              obtain rfl : u8 = .int .i64 (d : Int) := h8
              refine web_of_list 93 rfl (by simp [Act.put]) rfl ?_
              go_wp2_with fail
              exact ⟨Ext.refl _, rfl⟩
            simp only [Act.put, List.setIfInBounds_toArray, List.set_cons_zero, List.set_cons_succ]
            rw [webWalk]
            intro w' hx hv
            have h0 := hv 0 (by omega)
            have h1 := hv 1 (by omega)
            have h6 := hv 6 (by omega)
            have h7 := hv 7 (by omega)
            have h9 := hv 9 (by omega)
            clear hv
            generalize us 0 = u0 at *
            generalize us 1 = u1 at *
            generalize us 2 = u2 at *
            generalize us 3 = u3 at *
            generalize us 4 = u4 at *
            generalize us 5 = u5 at *
            generalize us 6 = u6 at *
            generalize us 7 = u7 at *
            generalize us 8 = u8 at *
            generalize us 9 = u9 at *
            obtain rfl : u0 = .slice A n c := h0
            obtain rfl : u1 = .agg #[un, gq] := h1
            obtain rfl : u6 = .int .i64 (q : Int) := h6
            obtain rfl : u7 = .string (str (path ++ 47 :: name)) := h7
            obtain rfl : u9 = .int .i64 ((d : Int) + 1) := h9
            have HW7 := Lib.hid hx
            clear hx cq7
            go_wp2_with (first
              | (go_at_call 31; refine (HC.out _ _ _ (HX6.out.trans HW7.out) (HW6.out.ext HW7.out)).mono ?_; rintro e w8 ⟨uz, gz, rfl, hW8, x8, k8⟩; have HB8 := Lib.hid (box_ksi (HB6.out.ext HW7.out) k8 (by simp) (by decide) (by decide)))
              | (refine wp_st 55 (.tmp 6) (.tmp 94) rfl rfl g6 #[uz, gz] _ 55 rfl rfl HB8.out wvSize rfl (wv_one hW8) ?_; intro w9 b9 g9))
            have HW9 := Lib.hid (show WIn W0.heap.size w9 uz gz _ from ⟨hW8.1.kept g9 (.inr (own_ne hW8.1 HB8.out (by decide)).symm), hW8.2.kept g9 (.inr (own_ne hW8.2 HB8.out (by decide)).symm)⟩)
            have HX9 := Lib.hid (x8.grown g9 (fun k e => by cases e; exact hg6))
            have HK9 := Lib.hid (show KSI (some g6) w5 w9 from ((HK6.out.trans (KSI.ext HW7.out)).trans k8.weak).put g9)
            have HB9 := Lib.hid b9
            go_roundw
            case rel => exact ⟨j + 1, uz, gz, by omega, by go_num, by rw [HF.out, HS2.out]; exact HW9.out, HB9.out, HX9.out, HK9.out⟩
            case measure => simp [intOf]; omega
    · obtain rfl : j = l.length := by omega
      rw [List.take_length] at HWj
      have hb15 := box_ksi HB15.out HKj.out (by simp) (by decide) (by decide)
      go_wp2_with (first
        | (refine wp_ld 55 (.tmp 6) rfl rfl g6 _ 55 _ rfl HBj.out Tryz.underlying55 rfl wvSize ?_)
        | (refine wp_st 55 (.tmp 10) (.tmp 95) rfl rfl (g6 + 1) #[uq, gq] _ 55 rfl rfl hb15 wvSize rfl (wv_one HWj.out) ?_; intro w9 b9 g9))
      have hW9 : WIn W0.heap.size w9 uq gq _ := ⟨HWj.out.1.kept g9 (.inr (own_ne HWj.out.1 hb15 (by decide)).symm), HWj.out.2.kept g9 (.inr (own_ne HWj.out.2 hb15 (by decide)).symm)⟩
      have x9 : Ext W0 w9 := HXj.out.grown g9 (fun j e => by cases e; omega)
      have k9 : KSI none w w9 := by
        have h1 : KSI (some g6) w wr := HK5.out.trans HKj.out
        have h2 := h1.new (by have := HG6.out; omega)
        intro q o hq h3 h4 h5
        have h6 := h2 q o hq h3 h4 h5
        have hlt : q < w.heap.size := (Array.getElem?_eq_some_iff.1 hq).1
        rw [g9.block q (Array.getElem?_eq_some_iff.1 h6).1 (fun e => by injection e with e; have := HG6.out; omega)]
        exact h6
      refine bodyPost_ret (results_cell1 rfl _ _ (g6 + 1) _ _ _ rfl b9 Tryz.underlying55 rfl wvSize) rfl ⟨uq, gq, rfl, hW9, x9, k9⟩
theorem rinto_any (W0 : World) (A : Option Addr) (n c : Nat) (v : List (List UInt8)) (I : Int) (hv : Strs W0 A n v) (hn : n ≤ 9223372036854775807) (hg : Good v I) (r : Nat) : ∀ d, r + d = 7 → RIntoK W0 A n c v I d (intoP v I r) := by
  have hI64 : I ≤ 64 := (plan_bd hg.plan).2.2.2.1
  induction r with
  | zero =>
    intro d hd
    refine ⟨fun s k path w up ug a1 a2 a3 a4 a5 a6 a7 => ?_, fun s k p a b c => pot_into hI64 0 s k p a b c, fun s k p a b c => potG_into hI64 0 s k p a b c⟩
    exact rinto_gen W0 A n c v I hv hn hg none d (by omega) (fun f e => by cases e) (fun _ => by omega) s k path w up ug a1 a2 a3 a4 a5 a6 a7
  | succ r ih =>
    intro d hd
    refine ⟨fun s k path w up ug a1 a2 a3 a4 a5 a6 a7 => ?_, fun s k p a b c => pot_into hI64 (r + 1) s k p a b c, fun s k p a b c => potG_into hI64 (r + 1) s k p a b c⟩
    exact rinto_gen W0 A n c v I hv hn hg (some (intoP v I r)) d (by omega) (fun f e => by cases e; exact ⟨by omega, ih (d + 1) (by omega)⟩) (fun e => by cases e) s k path w up ug a1 a2 a3 a4 a5 a6 a7
set_option maxHeartbeats 1000000 in
set_option maxRecDepth 100000 in
theorem rinto_bad (A : Option Addr) (n c : Nat) (v : List (List UInt8)) (w : World) (hv : Strs w A n v) (hn : n ≤ 9223372036854775807) (hbd : ∀ I, ¬ Good v I) :
    Calls Tryz.prog 31 #[.slice A n c, .agg #[.slice none 0 0, .slice none 0 0], .int .i64 1, .string (str []), .int .i64 0] w fun e w' => ∃ ug', e = .returned (.agg #[.slice none 0 0, ug']) ∧ Ext w w' := by
  have HL := Lib.hid (fun w h => rdlist_any A n c v none 1 w h hn hbd)
  rw [show listX v none 1 = ([], 3) from rfl] at HL
  simp only at HL
  have HV := Lib.hid hv
  have b6 := (Box.new w 55 #[.slice none 0 0, .slice none 0 0]).ext ((Ext.refl _).alloc (.cells #[.slice none 0 0, .slice none 0 0] 55))
  have b10 := Box.new (w.alloc (.cells #[.slice none 0 0, .slice none 0 0] 55)) 55 #[.slice none 0 0, .slice none 0 0]
  rw [World.size_alloc] at b10
  have x2 : Ext w ((w.alloc (.cells #[.slice none 0 0, .slice none 0 0] 55)).alloc (.cells #[.slice none 0 0, .slice none 0 0] 55)) := ((Ext.refl w).alloc _).alloc _
  clear hv
  go_enter Tryz.func31, Tryz.ntmps31
  go_upto_region 1 with fail
  have HX2 := Lib.hid x2
  clear x2
  generalize (w.alloc (.cells #[.slice none 0 0, .slice none 0 0] 55)).alloc (.cells #[.slice none 0 0, .slice none 0 0] 55) = w2 at *
  obtain ⟨g6, hg6e⟩ : ∃ g6, w.heap.size = g6 := ⟨_, rfl⟩
  rw [hg6e] at b6 b10 ⊢
  have HG6 := Lib.hid hg6e
  clear hg6e
  have c61 : w2.cell? ⟨g6, 1, none⟩ = some (.slice none 0 0) := b6.cell 1
  have bb6 := b6.ext ((Ext.refl w2).alloc (.cells #[.int .i64 (1 : Int)] 3))
  have bb10 := b10.ext ((Ext.refl w2).alloc (.cells #[.int .i64 (1 : Int)] 3))
  go_upto_region 2 with (refine wp_app_int (B := (w2.alloc (.cells #[.int .i64 (1 : Int)] 3)).heap.size) (l := []) (y := (1 : Int)) rfl (.tmp 18) (.tmp 20) rfl rfl rfl (World.ownsRow_nil _ _ _ _) (Box.new _ _ _) (by omega) (Nat.le_refl _) ?_; intro un w3 ownN g3; have c3 := (bb6.grown g3 (fun e => by cases e)).cell 1; have f3 := (bb6.grown g3 (fun e => by cases e)).frozen 1; obtain ⟨gn, cn, rfl, hgn⟩ := own_form ownN (by omega))
  have b6' := bb6.grown g3 (fun e => by cases e)
  have b10' := bb10.grown g3 (fun e => by cases e)
  have b64 := b6'.set 1 (.slice (some ⟨gn, 0, none⟩) 1 cn)
  have HB4 := Lib.hid (show Box (w3.setCell ⟨g6, 1, none⟩ (.slice (some ⟨gn, 0, none⟩) 1 cn)) g6 55 #[.slice none 0 0, .slice (some ⟨gn, 0, none⟩) 1 cn] from b64)
  have HB10 := Lib.hid (b10'.setOther (show g6 + 1 ≠ g6 by omega) (i := 1) (.slice (some ⟨gn, 0, none⟩) 1 cn))
  have HX4 := Lib.hid (((HX2.out.alloc (.cells #[.int .i64 (1 : Int)] 3)).grown g3 (fun j e => by cases e)).setCell (p := ⟨g6, 1, none⟩) (show w.heap.size ≤ g6 from Nat.le_of_eq HG6.out) (.slice (some ⟨gn, 0, none⟩) 1 cn))
  clear c61 bb6 bb10 g3 c3 f3 b6' b10' b64 ownN b6 b10
  have h1 : (Value.slice (some ⟨gn, 0, none⟩) 1 cn).oneCell' = true := rfl
  generalize (.slice (some ⟨gn, 0, none⟩) 1 cn : Value) = g1 at *
  generalize w3.setCell ⟨g6, 1, none⟩ g1 = w4 at *
  go_wp2_with (first
    | (go_at_call 72; refine (HL.out _ (HV.out.ext HX4.out)).mono ?_; rintro e w5 ⟨u, rfl, x5, _⟩; have hb5 := HB4.out.ext x5; have hb15 := HB10.out.ext x5)
    | (refine wp_ld 55 (.tmp 6) rfl rfl g6 _ 55 _ rfl hb5 Tryz.underlying55 rfl wvSize ?_)
    | (refine wp_st 55 (.tmp 10) (.tmp 31) rfl rfl (g6 + 1) #[.slice none 0 0, g1] _ 55 rfl rfl hb15 wvSize rfl (by simp [h1, show (Value.slice none 0 0).oneCell' = true from rfl]) ?_; intro w9 b9 g9))
  have x9 : Ext w w9 := (HX4.out.trans x5).grown g9 (fun j e => by cases e; have := HG6.out; omega)
  refine bodyPost_ret (results_cell1 rfl _ _ (g6 + 1) _ _ _ rfl b9 Tryz.underlying55 rfl wvSize) rfl ⟨g1, rfl, x9⟩
theorem wv_paths (Au : Option Addr) (n c : Nat) (g : Value) (w : World) : (Instr.field 55 (.agg #[.slice Au n c, g]) 0).run Tryz.prog w = .ok (.slice Au n c) w := by kernel_rfl
set_option maxHeartbeats 1000000 in
set_option maxRecDepth 100000 in
theorem rwalk_any (A : Option Addr) (n c : Nat) (v : List (List UInt8)) (I : Option Int) (w : World) (hv : Strs w A n v) (hn : n ≤ 9223372036854775807) (hg : GoodX v I) :
    Calls Tryz.prog 14 #[.slice A n c] w fun e w' => ∃ u, e = .returned u ∧ Ext w w' ∧ w'.ownsRow w.heap.size 9 1 u (walkX v I).length (strL (walkX v I)) := by
  have HE : Hid (Calls Tryz.prog 31 #[.slice A n c, .agg #[.slice none 0 0, .slice none 0 0], .int .i64 1, .string (str []), .int .i64 0] w fun e w' => ∃ Au cu ug, e = .returned (.agg #[.slice Au (walkX v I).length cu, ug]) ∧ Ext w w' ∧ w'.ownsRow w.heap.size 9 1 (.slice Au (walkX v I).length cu) (walkX v I).length (strL (walkX v I))) := Lib.hid (by
    cases I with
    | none =>
      refine (rinto_bad A n c v w hv hn hg).mono ?_
      rintro e w' ⟨ug, rfl, x⟩
      exact ⟨none, 0, _, rfl, x, World.ownsRow_nil _ _ _ _⟩
    | some I =>
      have := (rinto_any w A n c v I hv hn hg 7 0 rfl).calls ⟨[], []⟩ 1 [] w (.slice none 0 0) (.slice none 0 0) (by simp) (by omega) (Nat.le_of_eq pot_nil) (Nat.le_of_eq potG_nil) (by simp) (Ext.refl w) ⟨World.ownsRow_nil _ _ _ _, World.ownsRow_nil _ _ _ _⟩
      refine this.mono ?_
      rintro e w' ⟨up, ug, rfl, h, x, _⟩
      obtain ⟨Au, cu, rfl, _⟩ := own_slice h.1
      exact ⟨Au, cu, ug, rfl, x, h.1⟩)
  clear hv hg
  generalize walkX v I = P at *
  have hfd := wv_paths
  go_enter Tryz.func14, Tryz.ntmps14
  go_wp2_with (go_at_call 31; refine HE.out.mono ?_; rintro e w3 ⟨Au, cu, ug, rfl, x3, own3⟩; have HO := Lib.hid own3; clear own3)
  go_ret
  exact ⟨_, rfl, x3, HO.out⟩
end Go.Proofs.YtnoofjddikhopaaGreat
/- The document's Format, Make at any numbers; are two volumes the same? -/
namespace Go.Proofs.YtnoofjddikhopaaGreat
set_option linter.unusedVariables false
set_option linter.unusedSimpArgs false
open Go.RowKit
set_option maxHeartbeats 400000 in
theorem rplan_e (B I : Int) (w : World) (h : planB B I = false) :
    Calls Tryz.prog 65 #[.int .i64 B, .int .i64 I] w fun e w' => e = .returned (.tuple #[noGeom, .int .i64 (planE B I)]) ∧ Ext w w' := by
  have hp : B < 16 ∨ (16 ≤ B ∧ 223 < B) ∨ (16 ≤ B ∧ B ≤ 223 ∧ I < 4) ∨ (16 ≤ B ∧ B ≤ 223 ∧ 4 ≤ I ∧ 64 < I) ∨ (16 ≤ B ∧ B ≤ 223 ∧ 4 ≤ I ∧ I ≤ 64 ∧ B ≤ 3 + (I + 1) / 2) := by
    have : ¬ (16 ≤ B ∧ B ≤ 223 ∧ 4 ≤ I ∧ I ≤ 64 ∧ 3 + (I + 1) / 2 < B) := by simpa [planB] using h
    omega
  clear h
  rcases hp with hp | hp | hp | hp | hp
  case' inr.inr.inr.inr =>
    rw [show planE B I = 10 by unfold planE; rw [if_neg (by omega), if_pos (by omega)]]
    have d1 : decide (B < 16) = false := by simp; omega
    have d2 : decide (223 < B) = false := by simp; omega
    have d3 : decide (I < 4) = false := by simp; omega
    have d4 : decide (64 < I) = false := by simp; omega
    go_enter Tryz.func65, Tryz.ntmps65
    go_wp2_with fail
    exact bodyPost_ret (v := .tuple #[noGeom, .int .i64 10]) (by simp [results, Tryz.results65, go_sem, noGeom]) rfl ⟨rfl, ((Ext.refl _).alloc _).alloc _⟩
  case' inl =>
    have d1 : decide (B < 16) = true := by simp; omega
  case' inr.inl =>
    have d1 : decide (B < 16) = false := by simp; omega
    have d2 : decide (223 < B) = true := by simp; omega
  case' inr.inr.inl =>
    have d1 : decide (B < 16) = false := by simp; omega
    have d2 : decide (223 < B) = false := by simp; omega
    have d3 : decide (I < 4) = true := by simp; omega
  case' inr.inr.inr.inl =>
    have d1 : decide (B < 16) = false := by simp; omega
    have d2 : decide (223 < B) = false := by simp; omega
    have d3 : decide (I < 4) = false := by simp; omega
    have d4 : decide (64 < I) = true := by simp; omega
  all_goals
    rw [show planE B I = 2 by unfold planE; rw [if_pos (by omega)]]
    go_enter Tryz.func65, Tryz.ntmps65
    go_wp2_with fail
    exact bodyPost_ret (v := .tuple #[noGeom, .int .i64 2]) (by simp [results, Tryz.results65, go_sem, noGeom]) rfl ⟨rfl, (Ext.refl _).alloc _⟩
def bareN (b : Nat) (I : Int) (k : Nat) : List (List UInt8) := headL (b : Int) I :: List.replicate k (zs 128)
set_option maxHeartbeats 2000000 in
set_option maxRecDepth 100000 in
theorem rformat_yes (b : Nat) (I : Int) (w : World) (h : planB (b : Int) I = true) :
    Calls Tryz.prog 28 #[.int .i64 (b : Int), .int .i64 I] w fun e w' => ∃ u, e = .returned (.tuple #[u, .int .i64 0]) ∧ Ext w w' ∧ w'.ownsRow w.heap.size 9 1 u b (strL (fmtV (b : Int) I)) := by
  have hp := plan_bd h
  have HP := Lib.hid h
  have HH := Lib.hid (fun w => rhead_any (b : Int) I w h)
  obtain ⟨dd, hdd⟩ : ∃ dd : Nat, 3 + (I + 1) / 2 = (dd : Int) := ⟨(3 + (I + 1) / 2).toNat, by omega⟩
  have hd35 : dd ≤ 35 := by omega
  have hdb : dd < b := by omega
  have hb223 : b ≤ 223 := by omega
  have hb16 : 16 ≤ b := by omega
  have HF := Lib.hid (show fmtV (b : Int) I = (bareN b I (b - 1)).set 2 (flips (zs 128) dd) from by
    unfold fmtV dataOf bareN
    rw [Int.toNat_natCast, hdd, Int.toNat_natCast]
    obtain ⟨m, rfl⟩ : ∃ m, b = m + 1 := ⟨b - 1, by omega⟩
    rw [List.replicate_succ, List.set_cons_zero, Nat.add_sub_cancel])
  have HS := Lib.hid (fun k => show bareN b I (k + 1) = bareN b I k ++ [zs 128] by simp [bareN, List.replicate_succ'])
  have HL := Lib.hid (fun k => show (bareN b I k).length = k + 1 by simp [bareN])
  have H0 := Lib.hid (show [headL (b : Int) I] = bareN b I 0 from rfl)
  have H2 := Lib.hid (fun k => show (bareN b I (k + 2)).getD 2 [] = zs 128 from rfl)
  have HR := Lib.hid (fun (k : Nat) (hk : k < 1024) w => rturn_any k (flips (zs 128) k) w (by rw [flips_len, zs_len]) hk)
  have hn := Lib.hid (fun k => show flips (zs 128) (k + 1) = flipL (flips (zs 128) k) k from rfl)
  have HPl := Lib.hid (fun w => rplan_yes (b : Int) I w h)
  unfold geomV at HH HPl
  rw [hdd] at HH HPl
  clear hp hdd h
  generalize headL (b : Int) I = H at HH H0
  generalize fmtV (b : Int) I = FV at *
  go_enter Tryz.func28, Tryz.ntmps28
  go_wp2_with (first
    | (go_at_call 65; refine (HPl.out _).mono ?_; rintro e w1 ⟨rfl, x1⟩)
    | (go_at_call 66; refine (HH.out _).mono ?_; rintro e w2 ⟨rfl, x2⟩))
  have o3 : (w2.alloc (.cells #[.string (str H)] 9)).ownsRow w.heap.size 9 1 (.slice (some ⟨w2.heap.size, 0, none⟩) 1 1) 1 (strL (bareN b I 0)) := by
    rw [← H0.out]; exact World.ownsRow_lit w2 #[.string (str H)] 1 (((x1.alloc _).trans x2).size) (by decide) rfl
  have x3 := ((x1.alloc _).trans x2).alloc (.cells #[.string (str H)] 9)
  have b3 := ((Box.new w1 81 #[.int .i64 (b : Int), .int .i64 I, .int .i64 1, .int .i64 2, .int .i64 3, .int .i64 (dd : Int)]).ext x2).ext ((Ext.refl w2).alloc (.cells #[.string (str H)] 9))
  have hlt : w1.heap.size < w2.heap.size := by have := x2.size; simp at this; omega
  generalize w2.alloc (.cells #[.string (str H)] 9) = w3 at o3 x3 b3 ⊢
  generalize w2.heap.size = g2 at *
  generalize w1.heap.size = g1 at *
  clear x1 x2 HP HH H0 HPl
  go_loopw [8, 9] (fun u t wx => ∃ k : Nat, 1 ≤ k ∧ k ≤ b ∧ t = .int .i64 k ∧ Ext w wx ∧ wx.ownsRow w.heap.size 9 1 u k (strL (bareN b I (k - 1))) ∧ Box wx g1 81 #[.int .i64 (b : Int), .int .i64 I, .int .i64 1, .int .i64 2, .int .i64 3, .int .i64 (dd : Int)]) (fun _ t _ => b - (intOf t).toNat)
  case atStart => exact ⟨1, by omega, by omega, rfl, x3, o3, b3⟩
  case round =>
    obtain ⟨k, hk1, hk, rfl, xk, ok, bk⟩ := hrel
    have hxs := xk.size
    have hok := own_ext ok ((Ext.refl wr).alloc (.cells #[.string (str (zs 128))] 9))
    have hst := strs_new1 wr (zs 128)
    by_cases hlt : k < b
    · have HB := Lib.hid (HS.out (k - 1))
      have hki : (k : Int) < (b : Int) := by omega
      have hsz : w.heap.size ≤ (wr.alloc (.cells #[.string (str (zs 128))] 9)).heap.size := by simp; omega
      go_wp2_with (first
        | (go_at_call 67; refine (rzeros_any 128 _ (by omega)).mono ?_; rintro e w' ⟨rfl, rfl⟩)
        | (at_builtin; refine wp_app_strs w.heap.size rfl _ _ rfl rfl rfl hok hst (by omega) hsz (by omega) ?_; intro u' w4 own4 g4))
      have nk := own_ne ok bk (by decide)
      have x4 : Ext w w4 := (xk.alloc _).grown g4 (fun j e => own_low ok e)
      go_roundw
      case rel => exact ⟨k + 1, by omega, by omega, by go_num, x4, by rw [show k + 1 - 1 = k - 1 + 1 by omega, HB.out]; exact own4, (bk.ext ((Ext.refl wr).alloc _)).grown g4 nk⟩
      case measure => simp [intOf]; omega
    · obtain rfl : k = b := by omega
      obtain ⟨g, cap, rfl, hgW, _⟩ := Strs.own' ok (by omega)
      have nk := own_ne ok bk (by decide)
      have hlen := Lib.hid (HL.out (k - 1))
      have h2 := Lib.hid (H2.out (k - 1 - 2))
      have l2 := zs_len 128
      rw [show k - 1 - 2 + 2 = k - 1 by omega] at h2
      generalize bareN k I (k - 1) = B at *
      generalize zs 128 = z at *
      clear hok hst HS HL H2
      go_wp2_with fail
      go_loopw [10] (fun t wx => ∃ i : Nat, i ≤ dd ∧ t = .int .i64 i ∧ Ext w wx ∧ wx.ownsRow w.heap.size 9 1 (.slice (some ⟨g, 0, none⟩) k cap) k (strL (B.set 2 (flips z i))) ∧ Box wx g1 81 #[.int .i64 (k : Int), .int .i64 I, .int .i64 1, .int .i64 2, .int .i64 3, .int .i64 (dd : Int)]) (fun t _ => dd - (intOf t).toNat)
      case atStart =>
        refine ⟨0, by omega, rfl, xk, ?_, bk⟩
        rw [show B.set 2 (flips z 0) = B from ?_]
        · exact ok
        · have hl := hlen.out
          rw [show flips z 0 = B[2]'(by omega) from ?_, List.set_getElem_self]
          rw [← h2.out, List.getD_eq_getElem?_getD, List.getElem?_eq_getElem (by omega)]; rfl
      case round =>
        obtain ⟨i, hi, rfl, xi, oi, bi⟩ := hrel
        have d5 : wr.cell? ⟨g1, 5, none⟩ = some (.int .i64 (dd : Int)) := bi.cell 5
        have d2 : wr.cell? ⟨g, 2, none⟩ = some (.string (str (flips z i))) := (oi.cellAt 2 (by omega)).trans (by have hl := hlen.out; rw [strL_getD _ 2 (by rw [List.length_set]; omega), getD_set_eq' _ _ (by omega)])
        by_cases hlt : i < dd
        · have hii : (i : Int) < (dd : Int) := by omega
          go_wp2_with fail
          refine (HR.out i (by omega) _).mono ?_
          rintro e w5 ⟨rfl, x5⟩
          have o5 := own_ext oi x5
          have e2 := x5.keep d2
          have kf := o5.frozenAt 2
          go_wp2_with fail
          go_roundw
          case rel =>
            refine ⟨i + 1, by omega, by go_num, (xi.trans x5).setCell hgW _, ?_, ?_⟩
            · have hs := (o5.stored 2 (.string (str (flipL (flips z i) i)))).1
              rw [hn.out, show strL (B.set 2 (flipL (flips z i) i)) = (strL (B.set 2 (flips z i))).set 2 (.string (str (flipL (flips z i) i))) by simp [strL, List.map_set]]
              exact hs
            · exact (bi.ext x5).grown (o5.stored 2 _).2 nk
          case measure => simp [intOf]; omega
        · obtain rfl : i = dd := by omega
          go_wp2_with fail
          go_ret2
          exact ⟨_, rfl, xi, by rw [HF.out]; exact oi⟩
set_option maxHeartbeats 1000000 in
theorem rformat_no (B I : Int) (w : World) (h : planB B I = false) :
    Calls Tryz.prog 28 #[.int .i64 B, .int .i64 I] w fun e w' => e = .returned (.tuple #[.slice none 0 0, .int .i64 (planE B I)]) ∧ Ext w w' := by
  have HP := Lib.hid (fun w => rplan_e B I w h)
  have hz := planE_no h
  have d0 : (planE B I != 0) = true := by simpa using hz
  unfold noGeom at HP
  generalize planE B I = z at *
  go_enter Tryz.func28, Tryz.ntmps28
  go_wp2_with (go_at_call 65; refine (HP.out _).mono ?_; rintro e w1 ⟨rfl, x1⟩)
  go_ret2
  exact ⟨rfl, x1.alloc _⟩
set_option maxHeartbeats 1000000 in
set_option maxRecDepth 100000 in
theorem rnew_dir (A : Option Addr) (n c : Nat) (v : List (List UInt8)) (I : Int) (w : World) (hv : Strs w A n v) (hg : Good v I) (hj : (inoAt v 1).getD 0 0 = 0) :
    Calls Tryz.prog 29 #[.slice A n c, .int .i64 2, .int .i64 0] w fun e w' => ∃ u, e = .returned (.tuple #[u, .int .i64 1, .int .i64 0]) ∧ Ext w w' ∧ w'.ownsRow w.heap.size 9 1 u n (strL (putAt v 1 [2, 1, 0, 0, 0, 0, 0, 0, 0, 0, 0, 0])) := by
  have hpl := plan_bd hg.plan
  have HO := Lib.hid (fun w h => rof_yes A n c v I w h hg)
  have HG := Lib.hid (fun w h => riget_yes A n c v I 1 w h hg (by omega) (by omega))
  have HF : FitI 2 1 0 0 0 0 0 0 0 0 0 0 := by constructor <;> omega
  have HP := Lib.hid (fun w h => riput_yes A n c v I 1 2 1 0 0 0 0 0 0 0 0 0 0 w h hg (by omega) (by omega) HF)
  have e12 : inoV [2, 1, 0, 0, 0, 0, 0, 0, 0, 0, 0, 0] = .agg #[.int .i64 2, .int .i64 1, .int .i64 0, .int .i64 0, .int .i64 0, .int .i64 0, .int .i64 0, .int .i64 0, .int .i64 0, .int .i64 0, .int .i64 0, .int .i64 0] := rfl
  rw [e12] at HP
  clear e12
  have HJ := Lib.hid hj
  have hxl := inoAt_len v 1
  clear hj HF
  go_enter Tryz.func29, Tryz.ntmps29
  go_wp2_with fail
  refine (HO.out _ hv).mono ?_
  rintro e w1 ⟨rfl, x1⟩
  rw [geomV_eq]
  go_wp2_with (refine wp_st_geom (.tmp 9) (.tmp 19) rfl rfl w1.heap.size _ [0, 0, 0, 0, 0, 0] 81 rfl rfl (Box.new _ _ _) rfl rfl ?_; intro w2 b2 g2; have x2 : Ext w w2 := (x1.alloc _).grown g2 (fun k e => by cases e; exact x1.size))
  go_loopw [11] (fun t wx => t = .int .i64 1 ∧ Ext w wx ∧ Box wx w1.heap.size 81 (intVals [v.length, I, 1, 2, 3, 3 + (I + 1) / 2])) (fun t _ => 0)
  case atStart => exact ⟨rfl, x2, b2⟩
  case round =>
    obtain ⟨rfl, xm, bm⟩ := hrel
    have c1 : wr.cell? ⟨w1.heap.size, 1, none⟩ = some (.int .i64 I) := bm.cell 1
    have dm : (1 : Int) ≤ I := by omega
    generalize inoAt v 1 = x at *
    obtain ⟨kd, HK⟩ : ∃ kd, Hid (x.getD 0 0 = kd) := ⟨_, Lib.hid rfl⟩
    have hb : (kd == 0) = true := by rw [← HK.out]; simpa using HJ.out
    go_wp2_with (first
      | (go_at_call 55; refine (HG.out _ (hv.ext xm)).mono ?_; rintro e w3 ⟨rfl, x3⟩)
      | (refine wp_st_ino (.tmp 12) (.tmp 48) rfl rfl w3.heap.size _ zero12 61 rfl rfl (Box.new _ _ _) hxl rfl ?_; intro w4 b4 g4; have x4 : Ext w w4 := ((xm.trans x3).alloc _).grown g4 (fun k e => by cases e; exact (xm.trans x3).size); have c0 : w4.cell? ⟨w3.heap.size, 0, none⟩ = some (.int .i64 kd) := by rw [← HK.out]; exact b4.at 0 (by omega))
      | (go_at_call 70; refine (HP.out _ (hv.ext x4)).mono ?_; rintro e w5 ⟨u, rfl, x5, own5⟩))
    go_ret3
    exact ⟨u, rfl, x4.trans x5, own_base own5 x4.size⟩
/-- a slice with these texts -/
def RowR (R : List (List UInt8) × Int) (e : Ending) (w' : World) : Prop := ∃ A n c, e = .returned (.tuple #[.slice A n c, .int .i64 R.2]) ∧ Strs w' A n R.1
set_option maxHeartbeats 1000000 in
set_option maxRecDepth 100000 in
theorem rmake_any (B I : Int) (w : World) :
    Calls Tryz.prog 11 #[.int .i64 B, .int .i64 I] w fun e w' => RowR (mkP B I) e w' ∧ Ext w w' := by
  cases h : planB B I with
  | false =>
    have HP := Lib.hid (fun w => rformat_no B I w h)
    have hz := planE_no h
    have HM := Lib.hid (show mkP B I = ([], planE B I) by unfold mkP; rw [if_pos hz])
    have d0 : (planE B I != 0) = true := by simpa using hz
    clear hz
    generalize planE B I = z at *
    go_enter Tryz.func11, Tryz.ntmps11
    go_wp2_with (go_at_call 28; refine (HP.out _).mono ?_; rintro e w1 ⟨rfl, x1⟩)
    go_ret2
    rw [HM.out]
    exact ⟨⟨_, _, _, rfl, rfl, fun h => by omega⟩, x1.alloc _⟩
  | true =>
    have hp := plan_bd h
    obtain ⟨b, rfl⟩ : ∃ b : Nat, B = (b : Int) := ⟨B.toNat, by omega⟩
    have HP := Lib.hid (fun w => rformat_yes b I w h)
    have hg := good_fmtV h
    have HN := Lib.hid (fun A n c w hv => rnew_dir A n c (fmtV (b : Int) I) I w hv hg (by rw [ino_fmtV h (by omega) (by omega)]; rfl))
    rw [show putAt (fmtV (b : Int) I) 1 [2, 1, 0, 0, 0, 0, 0, 0, 0, 0, 0, 0] = mkV (b : Int) I from rfl] at HN
    have HM := Lib.hid (show mkP (b : Int) I = (mkV (b : Int) I, 0) by unfold mkP; rw [if_neg (by rw [planE_yes h]; simp)])
    have hb0 : 0 < b := by omega
    clear h hg hp
    generalize fmtV (b : Int) I = F at *
    generalize mkV (b : Int) I = M at *
    go_enter Tryz.func11, Tryz.ntmps11
    go_upto_region 2 with (go_at_call 28; refine (HP.out _).mono ?_; rintro e w1 ⟨u, rfl, x1, own1⟩; obtain ⟨g1, c1, rfl, hg1, s1⟩ := Strs.own' own1 (by omega))
    have HN1 := Lib.hid (HN.out _ _ c1 _ s1)
    have HX1 := Lib.hid x1
    clear own1 s1 x1 HN HP
    go_wp2_with (first
      | (go_at_call 29; refine HN1.out.mono ?_; rintro e w2 ⟨u2, rfl, x2, own2⟩; obtain ⟨g2, c2, rfl, hg2, s2⟩ := Strs.own' own2 (by omega); have HS2 := Lib.hid s2; clear s2 own2))
    go_ret2
    rw [HM.out]
    exact ⟨⟨_, _, _, rfl, HS2.out⟩, HX1.out.trans x2⟩
set_option maxHeartbeats 1000000 in
set_option maxRecDepth 100000 in
theorem rsame_yes (A B : Option Addr) (n c m d : Nat) (l : List (List UInt8)) (w : World) (ha : Strs w A n l) (hb : Strs w B m l) (hn : n ≤ 1000000) :
    Calls Tryz.prog 12 #[.slice A n c, .slice B m d] w fun e w' => e = .returned (.bool true) ∧ Ext w w' := by
  obtain ⟨rfl, ha2⟩ := ha
  obtain ⟨rfl, hb2⟩ := hb
  go_enter Tryz.func12, Tryz.ntmps12
  go_upto_region 4 with fail
  go_loopw [5] (fun t wx => ∃ i : Nat, i ≤ l.length ∧ t = .int .i64 i ∧ Ext w wx) (fun t _ => l.length - (intOf t).toNat)
  case atStart => exact ⟨0, by omega, rfl, Ext.refl _⟩
  case round =>
    obtain ⟨i, hi, rfl, xi⟩ := hrel
    by_cases hlt : i < l.length
    · obtain ⟨b1, o1, rfl, hc1⟩ := ha2 (by omega)
      obtain ⟨b2, o2, rfl, hc2⟩ := hb2 (by omega)
      have k1 : ∀ y : Later wr, y.now.cell? ⟨b1, o1 + i, none⟩ = some (.string (str l[i])) := fun y => (xi.trans y.ext).keep (hc1 i hlt)
      have k2 : ∀ y : Later wr, y.now.cell? ⟨b2, o2 + i, none⟩ = some (.string (str l[i])) := fun y => (xi.trans y.ext).keep (hc2 i hlt)
      have hii : (i : Int) < (l.length : Int) := by omega
      clear hc1 hc2 ha2 hb2
      generalize l[i] = s at *
      go_wp2_with fail
      refine wp_region_later (by kernel_rfl) (by kernel_rfl) ?_
      repeat (go_big_quiet_step (fail))
      refine wpQuiet_nil ?_
      rintro w9 ⟨y, rfl⟩
      clear k1 k2
      go_wp2_with fail
      go_roundw
      case rel => exact ⟨i + 1, by omega, by go_num, xi.trans y.ext⟩
      case measure => simp [intOf]; omega
    · obtain rfl : i = l.length := by omega
      go_wp2_with fail
      go_ret
      exact ⟨rfl, xi⟩
end Go.Proofs.YtnoofjddikhopaaGreat
