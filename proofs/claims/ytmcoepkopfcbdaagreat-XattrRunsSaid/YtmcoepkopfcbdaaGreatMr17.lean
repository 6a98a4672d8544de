/- The document's inodes and geometry besides: Get of a number that is none, Take of a full volume, Give. -/
import Derived.Test.YtmcoepkopfcbdaaGreatMr15
import Derived.Test.YtmcoepkopfcbdaaGreatMr16
import Derived.BigQuiet
namespace Go.Proofs.YtmcoepkopfcbdaaGreat
set_option linter.unusedVariables false
open Go.RowKit

set_option maxHeartbeats 1000000 in
set_option maxRecDepth 100000 in
theorem riget_no (A : Option Addr) (n c : Nat) (v : List (List UInt8)) (I k : Int) (w : World) (hv : Strs w A n v) (hg : Good v I) (hk : k < 1 ∨ I < k) :
    Calls Tryz.prog 30 #[.slice A n c, .int .i64 k] w fun e w' => e = .returned (.tuple #[.agg (intVals zero12), .int .i64 2]) ∧ Ext w w' := by
  have HO := Lib.hid (fun w h => rof_yes A n c v I w h hg)
  have hd : decide (k < 1) = true ∨ decide (k < 1) = false ∧ decide (I < k) = true := by simp; omega
  clear hk
  rcases hd with d1 | ⟨d1, d2⟩
  all_goals
    go_enter Tryz.func30, Tryz.ntmps30
    go_wp2_with fail
    refine (HO.out _ (hv.ext ((Ext.refl _).alloc _))).mono ?_
    rintro e w1 ⟨rfl, x1⟩
    rw [geomV_eq]
    have x0 : Ext w w1 := ((Ext.refl w).alloc _).trans x1
    have bR : Box w1 w.heap.size 42 (intVals zero12) := (Box.new w 42 _).ext x1
    have hlt := bR.lt
    clear x1
    go_wp2_with (first
      | (refine wp_st_geom (.tmp 6) (.tmp 12) rfl rfl w1.heap.size _ [0, 0, 0, 0, 0, 0] 68 rfl rfl (Box.new _ _ _) rfl rfl ?_; intro w2 b2 g2; have x2 : Ext w w2 := (x0.alloc _).grown g2 (fun k e => by cases e; exact x0.size); have c1 : w2.cell? ⟨w1.heap.size, 1, none⟩ = some (.int .i64 I) := b2.cell 1)
      | (refine wp_st_ino (.tmp 4) (.tmp 26) rfl rfl w.heap.size zero12 zero12 42 rfl rfl ((bR.ext ((Ext.refl _).alloc _)).grown g2 (by simp; omega)) rfl rfl ?_; intro w4 b4 g4))
    refine bodyPost_ret (results_cell2 rfl _ _ w.heap.size _ _ _ (.int .i64 2) rfl rfl b4 Tryz.underlying42 rfl inoSize) rfl ⟨rfl, ?_⟩
    exact x2.grown g4 (fun k e => by cases e; exact Nat.le_refl _)
set_option maxHeartbeats 1000000 in
set_option maxRecDepth 100000 in
theorem rtake_no (A : Option Addr) (n c : Nat) (v : List (List UInt8)) (I : Int) (w : World) (hv : Strs w A n v) (hg : Good v I)
    (hi3 : ∀ j : Nat, 3 + (I + 1) / 2 ≤ (j : Int) → j < v.length → bitB (v.getD 2 []) j = true) :
    Calls Tryz.prog 31 #[.slice A n c] w fun e w' => e = .returned (.tuple #[.slice none 0 0, .int .i64 0, .int .i64 10]) ∧ Ext w w' := by
  have hpl := plan_bd hg.plan
  have HO := Lib.hid (fun w h => rof_yes A n c v I w h hg)
  have hv' := hv
  obtain ⟨rfl, hv2⟩ := hv
  obtain ⟨b, o, rfl, hcell⟩ := hv2 (by omega)
  have l2 : (v.getD 2 []).length = 128 := by rw [List.getD_eq_getElem?_getD, List.getElem?_eq_getElem (by omega)]; exact hg.all 2 (by omega)
  go_enter Tryz.func31, Tryz.ntmps31
  go_wp2_with fail
  refine (HO.out _ hv').mono ?_
  rintro e w1 ⟨rfl, x1⟩
  unfold geomV
  go_wp2_with fail
  have bx := Box.new w1 68 #[.int .i64 v.length, .int .i64 I, .int .i64 1, .int .i64 2, .int .i64 3, .int .i64 (3 + (I + 1) / 2)]
  have x2 := x1.alloc (.cells #[.int .i64 v.length, .int .i64 I, .int .i64 1, .int .i64 2, .int .i64 3, .int .i64 (3 + (I + 1) / 2)] 68)
  generalize w1.alloc (.cells #[.int .i64 v.length, .int .i64 I, .int .i64 1, .int .i64 2, .int .i64 3, .int .i64 (3 + (I + 1) / 2)] 68) = W at bx x2 ⊢
  have d0 : W.cell? ⟨w1.heap.size, 0, none⟩ = some (.int .i64 v.length) := bx.cell 0
  have d5 : W.cell? ⟨w1.heap.size, 5, none⟩ = some (.int .i64 (3 + (I + 1) / 2)) := bx.cell 5
  have c2 : W.cell? ⟨b, o + 2, none⟩ = some (.string (str (v.getD 2 []))) := by
    have := x2.keep (hcell 2 (by omega))
    rw [List.getD_eq_getElem?_getD, List.getElem?_eq_getElem (by omega)]; exact this
  have hn2 : (2 : Int) < (v.length : Int) := by omega
  generalize hm2 : v.getD 2 [] = m2 at *
  clear hm2
  go_loop [7] (fun t => ∃ m : Nat, m ≤ v.length ∧ 3 + (I + 1) / 2 ≤ (m : Int) ∧ t = .int .i64 m) (fun t => v.length - (intOf t).toNat)
  case atStart => exact ⟨(3 + (I + 1) / 2).toNat, by omega, by omega, by rw [Int.toNat_of_nonneg (by omega)]⟩
  case round =>
    obtain ⟨m, hm, hm0, rfl⟩ := hrel
    by_cases hlt : m < v.length
    · have HB := Lib.hid (fun w => rbit_any m m2 w l2 (by omega))
      have hmv : (m : Int) < (v.length : Int) := by omega
      have hbit := Lib.hid (hi3 m hm0 hlt)
      go_wp2_with (go_at_call 40; refine (HB.out _).mono ?_; rintro e w' ⟨rfl, rfl⟩; rw [hbit.out])
      go_round
      case rel => exact ⟨m + 1, by omega, by omega, by go_num⟩
      case measure => simp [intOf]; omega
    · obtain rfl : m = v.length := by omega
      go_wp2_with fail
      go_ret3
      exact ⟨rfl, x2⟩
set_option maxHeartbeats 1000000 in
set_option maxRecDepth 100000 in
theorem rgive_yes (A : Option Addr) (n c i : Nat) (v : List (List UInt8)) (I : Int) (w : World) (hv : Strs w A n v) (hg : Good v I) (hi0 : 3 + (I + 1) / 2 ≤ (i : Int)) (hi1 : i < v.length) (hi2 : bitB (v.getD 2 []) i = true) :
    Calls Tryz.prog 38 #[.slice A n c, .int .i64 i] w fun e w' => ∃ u, e = .returned (.tuple #[u, .int .i64 0]) ∧ Ext w w' ∧
      w'.ownsRow w.heap.size 9 1 u n (strL (givenV v i)) := by
  have hpl := plan_bd hg.plan
  have HO := Lib.hid (fun w h => rof_yes A n c v I w h hg)
  have hv' := hv
  obtain ⟨rfl, hv2⟩ := hv
  obtain ⟨b, o, rfl, hcell⟩ := hv2 (by omega)
  have l2 : (v.getD 2 []).length = 128 := by rw [List.getD_eq_getElem?_getD, List.getElem?_eq_getElem (by omega)]; exact hg.all 2 (by omega)
  have hbit := Lib.hid hi2
  have HT := Lib.hid (show givenV v i = v.set 2 (flipL (v.getD 2 []) i) from rfl)
  have hc2 := hcell 2 (by omega)
  have hc2' : w.cell? ⟨b, o + 2, none⟩ = some (.string (str (v.getD 2 []))) := by
    rw [List.getD_eq_getElem?_getD, List.getElem?_eq_getElem (by omega)]; exact hc2
  generalize hm2 : v.getD 2 [] = m2 at *
  clear hm2 hc2 hcell hi2 hv2
  have HB := Lib.hid (fun w => rbit_any i m2 w l2 (by omega))
  have HR := Lib.hid (fun w => rturn_any i m2 w l2 (by omega))
  have HW := Lib.hid (fun w h => rwith_any (some ⟨b, o, none⟩) v.length c 2 v (flipL m2 i) w h (by omega) (by omega))
  have hn2 : (2 : Int) < (v.length : Int) := by omega
  have q1 : ¬ (i : Int) < 3 + (I + 1) / 2 := by omega
  have q2 : (i : Int) < (v.length : Int) := by omega
  go_enter Tryz.func38, Tryz.ntmps38
  go_wp2_with fail
  refine (HO.out _ hv').mono ?_
  rintro e w1 ⟨rfl, x1⟩
  unfold geomV
  have x2 := x1.alloc (.cells #[.int .i64 v.length, .int .i64 I, .int .i64 1, .int .i64 2, .int .i64 3, .int .i64 (3 + (I + 1) / 2)] 68)
  have c2 := x2.keep hc2'
  go_wp2_with (first
    | (go_at_call 40; refine (HB.out _).mono ?_; rintro e w' ⟨rfl, rfl⟩; rw [hbit.out])
    | (go_at_call 44; refine (HR.out _).mono ?_; rintro e w3 ⟨rfl, x3⟩))
  refine (HW.out _ (hv'.ext (x2.trans x3))).mono ?_
  rintro e w4 ⟨u, rfl, x4, own4⟩
  have hsz := (x2.trans x3).size
  go_wp2_with fail
  go_ret2
  rw [HT.out]
  exact ⟨u, rfl, (x2.trans x3).trans x4, own_base own4 hsz⟩
end Go.Proofs.YtmcoepkopfcbdaaGreat
/- The document's attributes of a file: List, on a volume that is Fine. -/
namespace Go.Proofs.YtmcoepkopfcbdaaGreat
set_option linter.unusedVariables false
open Go.RowKit

set_option maxHeartbeats 2000000 in
set_option maxRecDepth 100000 in
theorem rlist21_any (A : Option Addr) (n c : Nat) (v : List (List UInt8)) (I k : Int) (w : World) (hv : Strs w A n v) (hf : Fine v I) :
    Calls Tryz.prog 26 #[.slice A n c, .int .i64 k] w fun e w' => ∃ u, e = .returned (.tuple #[u, .int .i64 (openP v I k).2.2]) ∧ Ext w w' ∧ OwnA w' w.heap.size u (openP v I k).2.1 := by
  have hg := hf.good
  have hpl := plan_bd hg.plan
  by_cases hk : k < 1 ∨ I < k
  · have HV := Lib.hid (show openP v I k = (zero12, [], 2) from if_pos hk)
    have HI := Lib.hid (fun w h => riget_no A n c v I k w h hg hk)
    clear hk
    go_enter Tryz.func26, Tryz.ntmps26
    go_wp2_with fail
    refine (HI.out _ hv).mono ?_
    rintro e w1 ⟨rfl, x1⟩
    go_wp2_with (refine wp_st_ino (.tmp 6) (.tmp 16) rfl rfl w1.heap.size _ zero12 42 rfl rfl (Box.new _ _ _) rfl rfl ?_; intro w2 b2 g2; have x2 : Ext w w2 := (x1.alloc _).grown g2 (fun k e => by cases e; exact x1.size))
    go_ret2
    rw [HV.out]
    exact ⟨_, rfl, x2, OwnA.nil _ _⟩
  have HI := Lib.hid (fun w h => riget_yes A n c v I k w h hg (by omega) (by omega))
  have hxl := inoAt_len v k
  have HOP := Lib.hid (show (inoAt v k).getD 0 0 = 0 → openP v I k = (zero12, [], 9) from fun h => by unfold openP; rw [if_neg hk, if_pos h])
  have HOK := Lib.hid (fun h => fine_open (k := k) hf (by omega) (by omega) h)
  have HFA := Lib.hid (fun h1 h2 => hf.att k (by omega) (by omega) h1 h2)
  clear hk
  by_cases c1 : (inoAt v k).getD 0 0 = 0
  · have HV := Lib.hid (HOP.out c1)
    have d1 : ((inoAt v k).getD 0 0 == 0) = true := by simpa using c1
    clear c1 HOP HOK HFA
    generalize inoAt v k = x at *
    generalize hx0 : x.getD 0 0 = kind at *
    have H0 := Lib.hid hx0
    clear hx0
    go_enter Tryz.func26, Tryz.ntmps26
    go_wp2_with fail
    refine (HI.out _ hv).mono ?_
    rintro e w1 ⟨rfl, x1⟩
    go_wp2_with (refine wp_st_ino (.tmp 6) (.tmp 16) rfl rfl w1.heap.size _ zero12 42 rfl rfl (Box.new _ _ _) hxl rfl ?_; intro w2 b2 g2; have x2 : Ext w w2 := (x1.alloc _).grown g2 (fun k e => by cases e; exact x1.size); have c0 := b2.at 0 (by omega); rw [H0.out] at c0)
    go_ret2
    rw [HV.out]
    exact ⟨_, rfl, x2, OwnA.nil _ _⟩
  obtain ⟨o1, o2, o3⟩ := HOK.out c1
  have hfa := HFA.out c1
  have d1 : ((inoAt v k).getD 0 0 == 0) = false := by simpa using c1
  clear c1 HOP HOK HFA
  have HV := Lib.hid o1
  clear o1
  unfold extraOf at *
  by_cases c2 : (inoAt v k).getD 11 0 = 0
  · have HN := Lib.hid (o2 c2)
    have d2 : ((inoAt v k).getD 11 0 == 0) = true := by simpa using c2
    clear o2 o3 hfa c2
    generalize inoAt v k = x at *
    generalize hx0 : x.getD 0 0 = kind at *
    generalize hx11 : x.getD 11 0 = ext at *
    have H0 := Lib.hid hx0
    have H11 := Lib.hid hx11
    clear hx0 hx11
    go_enter Tryz.func26, Tryz.ntmps26
    go_wp2_with fail
    refine (HI.out _ hv).mono ?_
    rintro e w1 ⟨rfl, x1⟩
    go_wp2_with (refine wp_st_ino (.tmp 6) (.tmp 16) rfl rfl w1.heap.size _ zero12 42 rfl rfl (Box.new _ _ _) hxl rfl ?_; intro w2 b2 g2; have x2 : Ext w w2 := (x1.alloc _).grown g2 (fun k e => by cases e; exact x1.size); have c0 := b2.at 0 (by omega); have c11 := b2.at 11 (by omega); rw [H0.out] at c0; rw [H11.out] at c11)
    go_ret2
    rw [HV.out, HN.out]
    exact ⟨_, rfl, x2, OwnA.nil _ _⟩
  obtain ⟨a1, a2, _⟩ := hfa c2
  obtain ⟨a3, a4⟩ := o3 c2
  have d2 : ((inoAt v k).getD 11 0 == 0) = false := by simpa using c2
  have hub := used_bd a2
  clear o2 o3 hfa c2 a2
  obtain ⟨hv1, hv2⟩ := hv
  obtain ⟨b, o, rfl, hcell⟩ := hv2 (by omega)
  have hv' : Strs w (some ⟨b, o, none⟩) n v := ⟨hv1, fun _ => ⟨b, o, rfl, hcell⟩⟩
  generalize hL : attsOf v I k = L at *
  clear hL
  generalize inoAt v k = x at *
  generalize hx0 : x.getD 0 0 = kind at *
  generalize hx11 : x.getD 11 0 = ext at *
  have H0 := Lib.hid hx0
  have H11 := Lib.hid hx11
  clear hx0 hx11
  obtain ⟨i, rfl⟩ : ∃ i : Nat, ext = i := ⟨ext.toNat, by omega⟩
  simp only [Int.toNat_natCast] at a4 hub
  obtain ⟨_, hi, hbit⟩ := hub
  have hi' : i < v.length := by omega
  have hc : w.cell? ⟨b, o + i, none⟩ = some (.string (str (blockL (rowA L)))) := by
    rw [hcell i hi', ← a4, List.getD_eq_getElem?_getD, List.getElem?_eq_getElem hi']; rfl
  have HOF := Lib.hid (fun w h => rof_yes (some ⟨b, o, none⟩) n c v I w h hg)
  have HU := Lib.hid (fun w h => rused_yes (some ⟨b, o, none⟩) n c i v I w h hg hi')
  rw [hbit] at HU
  have HT := Lib.hid (fun w => rof21_yes L w a3)
  unfold dataOf at a1
  have d3 : ¬ (i : Int) < 3 + (I + 1) / 2 := by omega
  have hn : n = v.length := hv1
  subst hn
  have hc' := Lib.hid hc
  clear hcell hv2 a4 hbit hc hv1
  go_enter Tryz.func26, Tryz.ntmps26
  go_wp2_with fail
  refine (HI.out _ hv').mono ?_
  rintro e w1 ⟨rfl, x1⟩
  go_wp2_with (refine wp_st_ino (.tmp 6) (.tmp 16) rfl rfl w1.heap.size _ zero12 42 rfl rfl (Box.new _ _ _) hxl rfl ?_; intro w2 b2 g2; have x2 : Ext w w2 := (x1.alloc _).grown g2 (fun k e => by cases e; exact x1.size); have c0 := b2.at 0 (by omega); have c11 := b2.at 11 (by omega); rw [H0.out] at c0; rw [H11.out] at c11)
  refine (HOF.out _ (hv'.ext x2)).mono ?_
  rintro e w3 ⟨rfl, x3⟩
  rw [geomV_eq]
  have b3 := b2.ext x3
  have hb3 := b3.lt
  clear c0 c11
  go_wp2_with (refine wp_st_geom (.tmp 8) (.tmp 30) rfl rfl w3.heap.size _ [0, 0, 0, 0, 0, 0] 68 rfl rfl (Box.new _ _ _) rfl rfl ?_; intro w4 b4 g4; have x4 : Ext w w4 := ((x2.trans x3).alloc _).grown g4 (fun k e => by cases e; exact (x2.trans x3).size); have b5 := (b3.ext ((Ext.refl _).alloc _)).grown g4 (by simp; omega); have c11 := b5.at 11 (by omega); rw [H11.out] at c11; have e5 : w4.cell? ⟨w3.heap.size, 5, none⟩ = some (.int .i64 (3 + (I + 1) / 2)) := b4.cell 5)
  refine (HU.out _ (hv'.ext x4)).mono ?_
  rintro e w5 ⟨rfl, x5⟩
  have b6 := b5.ext x5
  have c11' := b6.at 11 (by omega)
  rw [H11.out] at c11'
  have hcw := (x4.trans x5).keep hc'.out
  clear c11
  go_wp2_with fail
  refine (HT.out _).mono ?_
  rintro e w6 ⟨u, rfl, x6, own6⟩
  go_wp2_with fail
  go_ret2
  rw [HV.out]
  exact ⟨_, rfl, (x4.trans x5).trans x6, own_base own6 (x4.trans x5).size⟩
end Go.Proofs.YtmcoepkopfcbdaaGreat
/- The document's lists of attributes: without, with. -/
namespace Go.Proofs.YtmcoepkopfcbdaaGreat
set_option linter.unusedVariables false
open Go.RowKit

theorem filt_snoc (l : List Att) (y : Att) (p : Att → Bool) : (l ++ [y]).filter p = l.filter p ++ if p y then [y] else [] := by
  rw [List.filter_append]; cases h : p y <;> simp [h]
def neA (name : List UInt8) (y : Att) : Bool := y.1 != name
theorem delA_eq (l : List Att) (name : List UInt8) : delA l name = l.filter (neA name) := rfl
def ltA (x y : Att) : Bool := ltB y.1 x.1
def gtA (x y : Att) : Bool := ltB x.1 y.1
theorem insA_del (l : List Att) (x : Att) : (delA l x.1).filter (ltA x) ++ [x] ++ (delA l x.1).filter (gtA x) = insA l x := by
  unfold insA delA
  rw [List.filter_filter, List.filter_filter, List.append_assoc]
  congr 1
  · apply List.filter_congr
    intro y _
    unfold ltA
    cases h : ltB y.1 x.1 with
    | false => rfl
    | true => have := ltB_ne h; simp [this]
  · rw [List.singleton_append]
    congr 1
    apply List.filter_congr
    intro y _
    unfold gtA
    cases h : ltB x.1 y.1 with
    | false => rfl
    | true => have := ltB_ne h; simpa using fun e : y.1 = x.1 => this e.symm
theorem own0 (w : World) : OwnA (w.alloc (.cells #[] 49)) w.heap.size (.slice (some ⟨w.heap.size, 0, none⟩) 0 0) [] := World.ownsRow_lit w #[] 0 (Nat.le_refl _) (by decide) rfl
set_option maxHeartbeats 1000000 in
set_option maxRecDepth 100000 in
theorem rwithout_any (A : Option Addr) (n c : Nat) (l : List Att) (name : List UInt8) (w : World) (hs : Atts w A n l) (hn : n ≤ 1000) :
    Calls Tryz.prog 37 #[.slice A n c, .string (str name)] w fun e w' => ∃ u, e = .returned (.tuple #[u, .bool (decide ((delA l name).length < l.length))]) ∧ Ext w w' ∧ OwnA w' w.heap.size u (delA l name) := by
  obtain rfl := hs.1
  go_enter Tryz.func37, Tryz.ntmps37
  go_wp2_with fail
  go_loopw [6, 8, 12] (fun u _ i wr => ∃ m : Nat, m ≤ l.length ∧ i = .int .i64 m ∧ Ext w wr ∧ OwnA wr w.heap.size u ((l.take m).filter (neA name))) (fun _ _ i _ => l.length - (intOf i).toNat)
  case atStart => exact ⟨0, by omega, rfl, (Ext.refl _).alloc _, own0 w⟩
  case round =>
    obtain ⟨m, hm, rfl, xm, om⟩ := hrel
    have xms := xm.size
    by_cases hml : m < l.length
    · obtain ⟨b, o, rfl, hc⟩ := hs.2 (by omega)
      have k1 := xm.keep (hc m hml).1
      have k2 := xm.keep (hc m hml).2
      have HT := Lib.hid (take_snoc' l m hml)
      clear hc
      generalize l[m] = y at *
      have omA := own_ext om (((Ext.refl wr).alloc (.cells #[.string (str y.1), .string (str y.2)] 49)).alloc (.cells #[.string (str y.1), .string (str y.2)] 49))
      have bxA := Box.new (wr.alloc (.cells #[.string (str y.1), .string (str y.2)] 49)) 49 #[.string (str y.1), .string (str y.2)]
      rw [World.size_alloc] at bxA
      have hBs : w.heap.size ≤ ((wr.alloc (.cells #[.string (str y.1), .string (str y.2)] 49)).alloc (.cells #[.string (str y.1), .string (str y.2)] 49)).heap.size := by simp; omega
      have hdl : ((l.take m).filter (neA name)).length ≤ 1000000 := by have := List.length_filter_le (neA name) (l.take m); rw [List.length_take] at this; omega
      cases hy : neA name y with
      | false =>
        have Hy := Lib.hid hy
        have hyy : ((str y.1).toList != (str name).toList) = false := by rw [str_toList, str_toList]; exact hy
        have hyy2 : ((str y.1).toList == (str name).toList) = true := by rw [str_toList, str_toList]; unfold neA at hy; simpa using hy
        clear hy
        go_wp2_with fail
        go_roundw
        case rel => exact ⟨m + 1, by omega, by go_num, xm.alloc _, by rw [HT.out, filt_snoc]; rw [show (neA name y) = false from Hy.out]; rw [if_neg (by simp), List.append_nil]; exact own_ext om ((Ext.refl wr).alloc _)⟩
        case measure => simp [intOf]; omega
      | true =>
        have Hy := Lib.hid hy
        have hyy : ((str y.1).toList != (str name).toList) = true := by rw [str_toList, str_toList]; exact hy
        have hyy2 : ((str y.1).toList == (str name).toList) = false := by rw [str_toList, str_toList]; unfold neA at hy; simpa using hy
        clear hy
        go_wp2_with (refine wp_app_att (y := y) rfl (.tmp 20) (.tmp 22) rfl rfl rfl omA bxA (by omega) hBs ?_; intro u' w14 own14 g14)
        have x14 : Ext w w14 := ((xm.alloc _).alloc _).grown g14 (fun k e => own_low om e)
        go_wp2_with fail
        go_roundw
        case rel => exact ⟨m + 1, by omega, by go_num, x14, by rw [HT.out, filt_snoc]; rw [show (neA name y) = true from Hy.out]; rw [if_pos rfl]; exact OwnA.snoc own14 rfl⟩
        case measure => simp [intOf]; omega
    · obtain rfl : m = l.length := by omega
      rw [List.take_length] at om
      obtain ⟨A4, d4, rfl, at4⟩ := OwnA.form om
      rw [← delA_eq] at om
      go_wp2_with fail
      go_ret2
      refine ⟨_, ?_, xm, om⟩
      rw [← delA_eq]
      simp
set_option maxHeartbeats 2000000 in
set_option maxRecDepth 100000 in
theorem rwith21_any (A : Option Addr) (n c : Nat) (l : List Att) (x : Att) (w : World) (hs : Atts w A n l) (hn : n ≤ 1000) :
    Calls Tryz.prog 29 #[.slice A n c, .agg #[.string (str x.1), .string (str x.2)]] w fun e w' => ∃ u, e = .returned u ∧ Ext w w' ∧ OwnA w' w.heap.size u (insA l x) := by
  obtain rfl := hs.1
  have HW := Lib.hid (fun w h => rwithout_any A l.length c l x.1 w h hn)
  have HI := Lib.hid (insA_del l x)
  have hdl0 : (delA l x.1).length ≤ 1000 := by have := List.length_filter_le (fun y : Att => y.1 != x.1) l; unfold delA; omega
  go_enter Tryz.func29, Tryz.ntmps29
  go_wp2_with fail
  have bx0 := Box.new w 49 #[.string (str x.1), .string (str x.2)]
  have x0 := (Ext.refl w).alloc (.cells #[.string (str x.1), .string (str x.2)] 49)
  generalize hw0 : w.alloc (.cells #[.string (str x.1), .string (str x.2)] 49) = w0 at *
  clear hw0
  refine (HW.out _ (hs.ext x0)).mono ?_
  rintro e w1 ⟨u, rfl, x1, own1⟩
  obtain ⟨A1, c1, rfl, at1⟩ := OwnA.form own1
  have bx1 := bx0.ext x1
  have x01 := x0.trans x1
  have hw1 := x01.size
  clear x0 x1 own1 HW bx0
  generalize delA l x.1 = R at *
  go_wp2_with fail
  go_loopw [7, 9, 22] (fun u _ i wr => ∃ m : Nat, m ≤ R.length ∧ i = .int .i64 m ∧ Ext w1 wr ∧ OwnA wr w1.heap.size u ((R.take m).filter (ltA x))) (fun _ _ i _ => R.length - (intOf i).toNat)
  case atStart => exact ⟨0, by omega, rfl, (Ext.refl _).alloc _, own0 w1⟩
  case round =>
    obtain ⟨m, hm, rfl, xm, om⟩ := hrel
    have xms := xm.size
    by_cases hml : m < R.length
    · obtain ⟨b, o, rfl, hc⟩ := at1.2 (by omega)
      have k1 := xm.keep (hc m hml).1
      have k2 := xm.keep (hc m hml).2
      have HT := Lib.hid (take_snoc' R m hml)
      clear hc
      generalize R[m] = y at *
      have bx2 := bx1.ext xm
      have hblt := bx2.lt
      have n1 : wr.cell? ⟨w.heap.size, 0, none⟩ = some (.string (str x.1)) := bx2.cell 0
      have n2 : wr.cell? ⟨w.heap.size, 1, none⟩ = some (.string (str x.2)) := bx2.cell 1
      have omA := own_ext om (((Ext.refl wr).alloc (.cells #[.string (str y.1), .string (str y.2)] 49)).alloc (.cells #[.string (str y.1), .string (str y.2)] 49))
      have bxA := Box.new (wr.alloc (.cells #[.string (str y.1), .string (str y.2)] 49)) 49 #[.string (str y.1), .string (str y.2)]
      rw [World.size_alloc] at bxA
      have hBs : w1.heap.size ≤ ((wr.alloc (.cells #[.string (str y.1), .string (str y.2)] 49)).alloc (.cells #[.string (str y.1), .string (str y.2)] 49)).heap.size := by simp; omega
      have hdl : ((R.take m).filter (ltA x)).length ≤ 1000000 := by have := List.length_filter_le (ltA x) (R.take m); rw [List.length_take] at this; omega
      cases hy : ltA x y with
      | false =>
        have Hy := Lib.hid hy
        have hyy : Op.bytesLess (str y.1).toList (str x.1).toList = false := by rw [str_toList, str_toList]; exact hy
        clear hy
        go_wp2_with fail
        go_roundw
        case rel => exact ⟨m + 1, by omega, by go_num, xm.alloc _, by rw [HT.out, filt_snoc]; rw [show (ltA x y) = false from Hy.out]; rw [if_neg (by simp), List.append_nil]; exact own_ext om ((Ext.refl wr).alloc _)⟩
        case measure => simp [intOf]; omega
      | true =>
        have Hy := Lib.hid hy
        have hyy : Op.bytesLess (str y.1).toList (str x.1).toList = true := by rw [str_toList, str_toList]; exact hy
        clear hy
        go_wp2_with (refine wp_app_att (y := y) rfl (.tmp 31) (.tmp 33) rfl rfl rfl omA bxA (by omega) hBs ?_; intro u' w14 own14 g14)
        have x14 : Ext w1 w14 := ((xm.alloc _).alloc _).grown g14 (fun k e => own_low om e)
        go_wp2_with fail
        go_roundw
        case rel => exact ⟨m + 1, by omega, by go_num, x14, by rw [HT.out, filt_snoc]; rw [show (ltA x y) = true from Hy.out]; rw [if_pos rfl]; exact OwnA.snoc own14 rfl⟩
        case measure => simp [intOf]; omega
    · obtain rfl : m = R.length := by omega
      rw [List.take_length] at om
      have bx2 := bx1.ext xm
      have hblt := bx2.lt
      have n1 : wr.cell? ⟨w.heap.size, 0, none⟩ = some (.string (str x.1)) := bx2.cell 0
      have n2 : wr.cell? ⟨w.heap.size, 1, none⟩ = some (.string (str x.2)) := bx2.cell 1
      have omA := own_ext om ((Ext.refl wr).alloc (.cells #[.string (str x.1), .string (str x.2)] 49))
      have bxA := Box.new wr 49 #[.string (str x.1), .string (str x.2)]
      have hBs : w1.heap.size ≤ (wr.alloc (.cells #[.string (str x.1), .string (str x.2)] 49)).heap.size := by simp; omega
      have hfl : (R.filter (ltA x)).length ≤ 1000 := by have := List.length_filter_le (ltA x) R; omega
      go_wp2_with (refine wp_app_att (y := x) rfl (.tmp 36) (.tmp 38) rfl rfl rfl omA bxA (by omega) hBs ?_; intro u' w3 own3 g3)
      have x3 : Ext w1 w3 := (xm.alloc _).grown g3 (fun k e => own_low om e)
      have own4 : OwnA w3 w1.heap.size u' (R.filter (ltA x) ++ [x] ++ ([] : List Att).filter (gtA x)) := by rw [List.filter_nil, List.append_nil]; exact OwnA.snoc own3 rfl
      clear own3 g3 omA bxA hBs om n1 n2 bx2 xm
      generalize R.filter (ltA x) = F at *
      go_wp2_with fail
      go_loopw [7, 11, 42] (fun u _ i wr => ∃ m : Nat, m ≤ R.length ∧ i = .int .i64 m ∧ Ext w1 wr ∧ OwnA wr w1.heap.size u (F ++ [x] ++ (R.take m).filter (gtA x))) (fun _ _ i _ => R.length - (intOf i).toNat)
      case atStart => exact ⟨0, by omega, rfl, x3, own4⟩
      case round =>
        obtain ⟨m, hm, rfl, xm, om⟩ := hrel
        have xms := xm.size
        by_cases hml : m < R.length
        · obtain ⟨b, o, rfl, hc⟩ := at1.2 (by omega)
          have k1 := xm.keep (hc m hml).1
          have k2 := xm.keep (hc m hml).2
          have HT := Lib.hid (take_snoc' R m hml)
          clear hc
          generalize R[m] = y at *
          have bx2 := bx1.ext xm
          have hblt := bx2.lt
          have n1 : wr.cell? ⟨w.heap.size, 0, none⟩ = some (.string (str x.1)) := bx2.cell 0
          have n2 : wr.cell? ⟨w.heap.size, 1, none⟩ = some (.string (str x.2)) := bx2.cell 1
          have omA := own_ext om (((Ext.refl wr).alloc (.cells #[.string (str y.1), .string (str y.2)] 49)).alloc (.cells #[.string (str y.1), .string (str y.2)] 49))
          have bxA := Box.new (wr.alloc (.cells #[.string (str y.1), .string (str y.2)] 49)) 49 #[.string (str y.1), .string (str y.2)]
          rw [World.size_alloc] at bxA
          have hBs : w1.heap.size ≤ ((wr.alloc (.cells #[.string (str y.1), .string (str y.2)] 49)).alloc (.cells #[.string (str y.1), .string (str y.2)] 49)).heap.size := by simp; omega
          have hdl : (F ++ [x] ++ (R.take m).filter (gtA x)).length ≤ 1000000 := by have := List.length_filter_le (gtA x) (R.take m); rw [List.length_take] at this; simp only [List.length_append, List.length_cons, List.length_nil]; omega
          cases hy : gtA x y with
          | false =>
            have Hy := Lib.hid hy
            have hyy : (Op.bytesLess (str y.1).toList (str x.1).toList || (str y.1).toList == (str x.1).toList) = true := by
              rw [str_toList, str_toList]
              cases h2 : ltB y.1 x.1 with
              | true => rw [show Op.bytesLess y.1 x.1 = true from h2]; rfl
              | false => rw [ltB_tri _ _ h2 hy]; simp
            clear hy
            go_wp2_with fail
            go_roundw
            case rel => exact ⟨m + 1, by omega, by go_num, xm.alloc _, by rw [HT.out, filt_snoc]; rw [show (gtA x y) = false from Hy.out]; rw [if_neg (by simp), List.append_nil]; exact own_ext om ((Ext.refl wr).alloc _)⟩
            case measure => simp [intOf]; omega
          | true =>
            have Hy := Lib.hid hy
            have hyy : Op.bytesLess (str y.1).toList (str x.1).toList = false := by rw [str_toList, str_toList]; exact ltB_asymm _ _ hy
            have hyy2 : ((str y.1).toList == (str x.1).toList) = false := by rw [str_toList, str_toList]; have := ltB_ne hy; simpa using fun e : y.1 = x.1 => this e.symm
            clear hy
            go_wp2_with (refine wp_app_att (y := y) rfl (.tmp 51) (.tmp 53) rfl rfl rfl omA bxA (by omega) hBs ?_; intro u' w14 own14 g14)
            have x14 : Ext w1 w14 := ((xm.alloc _).alloc _).grown g14 (fun k e => own_low om e)
            go_wp2_with fail
            go_roundw
            case rel => exact ⟨m + 1, by omega, by go_num, x14, by rw [HT.out, filt_snoc]; rw [show (gtA x y) = true from Hy.out]; rw [if_pos rfl, ← List.append_assoc]; exact OwnA.snoc own14 rfl⟩
            case measure => simp [intOf]; omega
        · obtain rfl : m = R.length := by omega
          rw [List.take_length] at om
          rw [HI.out] at om
          go_wp2_with fail
          go_ret
          exact ⟨_, rfl, x01.trans xm, own_base om hw1⟩
end Go.Proofs.YtmcoepkopfcbdaaGreat
/- The document's attributes: Set, on a volume that is Fine. -/
namespace Go.Proofs.YtmcoepkopfcbdaaGreat
set_option linter.unusedVariables false
open Go.RowKit

theorem sumL_app (a b : List (List UInt8)) : sumL (a ++ b) = sumL a + sumL b := by simp [sumL]
theorem flatA_app (a b : List Att) : flatA (a ++ b) = flatA a ++ flatA b := by simp [flatA]
theorem sum_filter (p : Att → Bool) : ∀ l : List Att, sumL (flatA (l.filter p)) ≤ sumL (flatA l)
  | [] => Nat.le_refl _
  | x :: l => by
    have ih := sum_filter p l
    have e : sumL (flatA (x :: l)) = sumL [x.1, x.2] + sumL (flatA l) := by rw [← sumL_app]; rfl
    rw [e, List.filter_cons]
    split
    · have e2 : sumL (flatA (x :: l.filter p)) = sumL [x.1, x.2] + sumL (flatA (l.filter p)) := by rw [← sumL_app]; rfl
      omega
    · omega
theorem sum_ins (l : List Att) (x : Att) : sumL (flatA (insA l x)) ≤ 2 * sumL (flatA l) + (x.1.length + x.2.length + 8) := by
  unfold insA
  have h1 := sum_filter (fun y => ltB y.1 x.1) l
  have h2 := sum_filter (fun y => ltB x.1 y.1) l
  have e : sumL (flatA (x :: l.filter fun y => ltB x.1 y.1)) = sumL [x.1, x.2] + sumL (flatA (l.filter fun y => ltB x.1 y.1)) := by rw [← sumL_app]; rfl
  have e2 : sumL [x.1, x.2] = x.1.length + x.2.length + 8 := by simp [sumL]; omega
  rw [flatA_app, sumL_app, e, e2]
  omega
theorem fitI_of {k l o s d0 d1 d2 d3 d4 d5 n e : Int} (h : fitsB [k, l, o, s, d0, d1, d2, d3, d4, d5, n, e] = true) : FitI k l o s d0 d1 d2 d3 d4 d5 n e := by
  have f := fun k => fit_at h k
  have p1 : (256 : Int) ^ 1 = 256 := rfl
  have p2 : (256 : Int) ^ 2 = 65536 := rfl
  have p4 : (256 : Int) ^ 4 = 4294967296 := rfl
  have a0 : 0 ≤ k ∧ k < 256 ^ 1 := f 0
  have a1 : 0 ≤ o ∧ o < 256 ^ 1 := f 1
  have a2 : 0 ≤ l ∧ l < 256 ^ 2 := f 2
  have a3 : 0 ≤ s ∧ s < 256 ^ 4 := f 3
  have a4 : 0 ≤ d0 ∧ d0 < 256 ^ 2 := f 4
  have a5 : 0 ≤ d1 ∧ d1 < 256 ^ 2 := f 5
  have a6 : 0 ≤ d2 ∧ d2 < 256 ^ 2 := f 6
  have a7 : 0 ≤ d3 ∧ d3 < 256 ^ 2 := f 7
  have a8 : 0 ≤ d4 ∧ d4 < 256 ^ 2 := f 8
  have a9 : 0 ≤ d5 ∧ d5 < 256 ^ 2 := f 9
  have a10 : 0 ≤ n ∧ n < 256 ^ 2 := f 10
  have a11 : 0 ≤ e ∧ e < 256 ^ 2 := f 11
  rw [p1] at a0 a1
  rw [p2] at a2 a4 a5 a6 a7 a8 a9 a10 a11
  rw [p4] at a3
  constructor <;> omega
theorem riput_list (A : Option Addr) (m c : Nat) (v : List (List UInt8)) (I j : Int) (x : List Int) (w : World) (hv : Strs w A m v) (hg : Good v I) (hk1 : 1 ≤ j) (hk2 : j ≤ I) (hx : x.length = 12) (h : fitsB x = true) :
    Calls Tryz.prog 32 #[.slice A m c, .int .i64 j, .agg (intVals x)] w fun r w' => ∃ u, r = .returned (.tuple #[u, .int .i64 0]) ∧ Ext w w' ∧ w'.ownsRow w.heap.size 9 1 u m (strL (putAt v j x)) := by
  obtain ⟨k, l, o, s, d0, d1, d2, d3, d4, d5, n, e, rfl⟩ : ∃ k l o s d0 d1 d2 d3 d4 d5 n e : Int, x = [k, l, o, s, d0, d1, d2, d3, d4, d5, n, e] := by
    match x, hx with
    | [k, l, o, s, d0, d1, d2, d3, d4, d5, n, e], _ => exact ⟨k, l, o, s, d0, d1, d2, d3, d4, d5, n, e, rfl⟩
  exact riput_yes A m c v I j k l o s d0 d1 d2 d3 d4 d5 n e w hv hg hk1 hk2 (fitI_of h)
set_option maxHeartbeats 2000000 in
set_option maxRecDepth 100000 in
theorem rset21_any (A : Option Addr) (n c : Nat) (v : List (List UInt8)) (I k : Int) (name value : List UInt8) (w : World) (hv : Strs w A n v) (hf : Fine v I) (hn : name.length ≤ 1000) (hl : value.length ≤ 1000) :
    Calls Tryz.prog 8 #[.slice A n c, .int .i64 k, .string (str name), .string (str value)] w fun e w' => ∃ u, e = .returned (.tuple #[u, .int .i64 (setP v I k name value).2]) ∧ Ext w w' ∧ w'.ownsRow w.heap.size 9 1 u (setP v I k name value).1.length (strL (setP v I k name value).1) := by
  have hg := hf.good
  have hpl := plan_bd hg.plan
  have HL := Lib.hid (fun w h => rlist21_any A n c v I k w h hf)
  have HM := Lib.hid (fun w => rmay_any name w (by omega))
  have hsm := openP_small v I k
  have hsu := sum_short _ (short_open v I k)
  have hsi := sum_ins (openP v I k).2.1 (name, value)
  simp only at hsi
  by_cases he : (openP v I k).2.2 = 0
  case neg =>
    have HS := Lib.hid (show setP v I k name value = ([], (openP v I k).2.2) by unfold setP; rw [if_pos he])
    have d1 : ((openP v I k).2.2 != 0) = true := by simpa using he
    clear he hsm hsu hsi
    generalize openP v I k = op at *
    go_enter Tryz.func8, Tryz.ntmps8
    go_wp2_with fail
    refine (HL.out _ hv).mono ?_
    rintro e w1 ⟨u, rfl, x1, own1⟩
    go_wp2_with fail
    go_ret2
    rw [HS.out]
    exact ⟨_, rfl, x1, World.ownsRow_nil _ _ _ _⟩
  obtain ⟨hk1, hk2, hop1, hkind, hex⟩ := open_ok he
  have HSP : Hid (setP v I k name value = if mayB name = false then (([] : List (List UInt8)), (7 : Int)) else
      if 126 < (rowA (insA (openP v I k).2.1 (name, value))).length then (([] : List (List UInt8)), (6 : Int)) else
      if extraOf (inoAt v k) ≠ 0 then (v.set (extraOf (inoAt v k)).toNat (blockL (rowA (insA (openP v I k).2.1 (name, value)))), 0) else
      match takeI v I with
      | none => ([], 10)
      | some i => ((putAt (takenV v i) k ((inoAt v k).set 11 i)).set i (blockL (rowA (insA (openP v I k).2.1 (name, value)))), 0)) := by
    show setP v I k name value = _
    unfold setP
    rw [if_neg (by simpa using he), hop1]
    rfl
  have HIG := Lib.hid (fun w h => riget_yes A n c v I k w h hg hk1 hk2)
  rw [he] at HL
  have hex2 : extraOf (inoAt v k) ≠ 0 → dataOf I ≤ extraOf (inoAt v k) ∧ usedB v (extraOf (inoAt v k)) = true := fun h => by
    rcases hex with ⟨h2, _⟩ | ⟨_, h3, h4, _⟩
    · exact absurd h2 h
    · exact ⟨h3, h4⟩
  clear he hop1 hkind hex
  generalize (openP v I k).2.1 = L at *
  cases hm : mayB name with
  | false =>
    have HS := Lib.hid (show setP v I k name value = ([], 7) by rw [HSP.out, if_pos hm])
    rw [hm] at HM
    clear hm HSP hex2 hsi hsu
    go_enter Tryz.func8, Tryz.ntmps8
    go_wp2_with fail
    refine (HL.out _ hv).mono ?_
    rintro e w1 ⟨u, rfl, x1, own1⟩
    go_wp2_with fail
    refine (HM.out _).mono ?_
    rintro e w2 ⟨rfl, rfl⟩
    go_wp2_with fail
    go_ret2
    rw [HS.out]
    exact ⟨_, rfl, x1, World.ownsRow_nil _ _ _ _⟩
  | true =>
    rw [hm] at HM
    have hrl := rowL_len (flatA (insA L (name, value)))
    have HRL := Lib.hid (show (rowA (insA L (name, value))).length ≤ 1000000 by unfold rowA; omega)
    have HSUM := Lib.hid (show sumL (flatA (insA L (name, value))) ≤ 1000000000 by omega)
    have hIl : (insA L (name, value)).length ≤ 2 * 126 + 1 := by
      unfold insA
      have h1 := List.length_filter_le (fun y : Att => ltB y.1 name) L
      have h2 := List.length_filter_le (fun y : Att => ltB name y.1) L
      simp only [List.length_append, List.length_cons]; omega
    clear hsi hsu hrl
    have HW := Lib.hid (fun A2 c2 w h => rwith21_any A2 L.length c2 L (name, value) w h (by omega))
    have HB := Lib.hid (fun A2 n2 c2 w (h : Atts w A2 n2 (insA L (name, value))) => rbytes21_any A2 n2 c2 (insA L (name, value)) w h HSUM.out (by have := h.1; omega))
    have hz := str_size
    have HSP2 := Lib.hid (HSP.out.trans (if_neg (by rw [hm]; simp)))
    clear hm HSP HSUM
    have hxl := inoAt_len v k
    have hfi := inoAt_fits v k
    generalize insA L (name, value) = L2 at *
    have hrl := HRL.out
    generalize hrr : rowA L2 = r at *
    clear hrr
    generalize inoAt v k = x at *
    generalize hee : extraOf x = ext at *
    have H11 : Hid (x.getD 11 0 = ext) := hee
    clear hee
    by_cases c1 : 126 < r.length
    · have HS := Lib.hid (HSP2.out.trans (if_pos c1))
      clear HSP2 hex2
      go_enter Tryz.func8, Tryz.ntmps8
      go_wp2_with fail
      refine (HL.out _ hv).mono ?_
      rintro e w1 ⟨u, rfl, x1, own1⟩
      obtain ⟨A2, c2, rfl, at2⟩ := OwnA.form own1
      go_wp2_with fail
      refine (HM.out _).mono ?_
      rintro e w2 ⟨rfl, rfl⟩
      go_wp2_with fail
      refine (HW.out _ _ _ at2).mono ?_
      rintro e w3 ⟨u3, rfl, x3, own3⟩
      obtain ⟨A3, c3, rfl, at3⟩ := OwnA.form own3
      go_wp2_with fail
      refine (HB.out _ _ _ _ at3).mono ?_
      rintro e w4 ⟨rfl, x4⟩
      go_wp2_with fail
      go_ret2
      rw [HS.out]
      exact ⟨_, rfl, (x1.trans x3).trans x4, World.ownsRow_nil _ _ _ _⟩
    have HSP3 := Lib.hid (HSP2.out.trans (if_neg c1))
    have HBL := Lib.hid (fun w => rblock21_any r w (by omega))
    clear HSP2
    have HNV := Lib.hid hv.1
    by_cases c2 : ext = 0
    case neg =>
      have HS := Lib.hid (HSP3.out.trans (if_pos c2))
      have d2 : (ext == 0) = false := by simpa using c2
      obtain ⟨q1, q2⟩ := hex2 c2
      have hub := used_bd q2
      clear HSP3 hex2 c2 q2
      obtain ⟨i, rfl⟩ : ∃ i : Nat, ext = i := ⟨ext.toNat, by omega⟩
      have hi : i < v.length := by omega
      have HWI := Lib.hid (fun w h => rwith_any A n c i v (blockL r) w h hi (by have := HNV.out; omega))
      clear hub
      go_enter Tryz.func8, Tryz.ntmps8
      go_wp2_with fail
      refine (HL.out _ hv).mono ?_
      rintro e w1 ⟨u, rfl, x1, own1⟩
      obtain ⟨A2, c2, rfl, at2⟩ := OwnA.form own1
      go_wp2_with fail
      refine (HM.out _).mono ?_
      rintro e w2 ⟨rfl, rfl⟩
      go_wp2_with fail
      refine (HW.out _ _ _ at2).mono ?_
      rintro e w3 ⟨u3, rfl, x3, own3⟩
      obtain ⟨A3, c3, rfl, at3⟩ := OwnA.form own3
      go_wp2_with fail
      refine (HB.out _ _ _ _ at3).mono ?_
      rintro e w4 ⟨rfl, x4⟩
      have xa := (x1.trans x3).trans x4
      go_wp2_with fail
      refine (HIG.out _ (hv.ext xa)).mono ?_
      rintro e w5 ⟨rfl, x5⟩
      have xb := xa.trans x5
      go_wp2_with (refine wp_st_ino (.tmp 13) (.tmp 43) rfl rfl w5.heap.size _ zero12 42 rfl rfl (Box.new _ _ _) hxl rfl ?_; intro w6 b6 g6; have x6 : Ext w w6 := (xb.alloc _).grown g6 (fun k e => by cases e; exact xb.size); have c11 := b6.at 11 (by omega); rw [H11.out] at c11)
      have kc : ∀ y : Later w6, y.now.cell? ⟨w5.heap.size, 11, none⟩ = some (.int .i64 i) := fun y => y.ext.keep c11
      clear c11
      refine wp_region_later_tail 5 (by kernel_rfl) (by kernel_rfl) ?_
      simp only [List.take_succ_cons, List.take_zero, List.drop_succ_cons, List.drop_zero]
      repeat (go_big_quiet_step ((exact later_of (HBL.out _))))
      refine wpQuiet_nil ?_
      rintro w7 ⟨y7, rfl⟩
      clear kc
      go_wp2_with fail
      refine (HWI.out _ (hv.ext (x6.trans y7.ext))).mono ?_
      rintro e w8 ⟨u8, rfl, x8, own8⟩
      go_wp2_with fail
      go_ret2
      rw [HS.out]
      refine ⟨_, rfl, (x6.trans y7.ext).trans x8, ?_⟩
      have := own_base own8 (x6.trans y7.ext).size
      rw [List.length_set, ← HNV.out]
      exact this
    have HSP4 := Lib.hid (HSP3.out.trans (if_neg (by simpa using c2)))
    have d2 : (ext == 0) = true := by simpa using c2
    clear HSP3 hex2 c2
    cases ht : takeI v I with
    | none =>
      have HS := Lib.hid (show setP v I k name value = ([], 10) by rw [HSP4.out, ht])
      have HT := Lib.hid (fun w h => rtake_no A n c v I w h hg (takeI_none ht))
      clear HSP4 ht
      go_enter Tryz.func8, Tryz.ntmps8
      go_wp2_with fail
      refine (HL.out _ hv).mono ?_
      rintro e w1 ⟨u, rfl, x1, own1⟩
      obtain ⟨A2, c2, rfl, at2⟩ := OwnA.form own1
      go_wp2_with fail
      refine (HM.out _).mono ?_
      rintro e w2 ⟨rfl, rfl⟩
      go_wp2_with fail
      refine (HW.out _ _ _ at2).mono ?_
      rintro e w3 ⟨u3, rfl, x3, own3⟩
      obtain ⟨A3, c3, rfl, at3⟩ := OwnA.form own3
      go_wp2_with fail
      refine (HB.out _ _ _ _ at3).mono ?_
      rintro e w4 ⟨rfl, x4⟩
      have xa := (x1.trans x3).trans x4
      go_wp2_with fail
      refine (HIG.out _ (hv.ext xa)).mono ?_
      rintro e w5 ⟨rfl, x5⟩
      have xb := xa.trans x5
      go_wp2_with (refine wp_st_ino (.tmp 13) (.tmp 43) rfl rfl w5.heap.size _ zero12 42 rfl rfl (Box.new _ _ _) hxl rfl ?_; intro w6 b6 g6; have x6 : Ext w w6 := (xb.alloc _).grown g6 (fun k e => by cases e; exact xb.size); have c11 := b6.at 11 (by omega); rw [H11.out] at c11)
      refine (HT.out _ (hv.ext x6)).mono ?_
      rintro e w7 ⟨rfl, x7⟩
      clear c11
      go_wp2_with fail
      go_ret2
      rw [HS.out]
      exact ⟨_, rfl, x6.trans x7, World.ownsRow_nil _ _ _ _⟩
    | some i =>
      have HS := Lib.hid (show setP v I k name value = ((putAt (takenV v i) k (x.set 11 i)).set i (blockL r), 0) by rw [HSP4.out, ht])
      obtain ⟨t1, t2, t3, t4⟩ := takeI_some ht
      have hgt := hg.taken ht
      have HT := Lib.hid (fun w h => rtake_yes A n c i v I w h hg t1 t2 t3 t4)
      have HPU := Lib.hid (fun A2 c2 w h => riput_list A2 n c2 (takenV v i) I k (x.set 11 i) w h hgt hk1 hk2 (by simp [hxl]) (fits_set hfi hxl (by omega) (by omega)))
      have hpn : (putAt (takenV v i) k (x.set 11 i)).length = v.length := by rw [putAt_len, takenV_len]
      have HWI := Lib.hid (fun A2 c2 w h => rwith_any A2 n c2 i (putAt (takenV v i) k (x.set 11 i)) (blockL r) w h (by omega) (by have := HNV.out; omega))
      have HPN := Lib.hid hpn
      clear HSP4 ht t1 t3 t4 hgt hpn
      go_enter Tryz.func8, Tryz.ntmps8
      go_wp2_with fail
      refine (HL.out _ hv).mono ?_
      rintro e w1 ⟨u, rfl, x1, own1⟩
      obtain ⟨A2, c2, rfl, at2⟩ := OwnA.form own1
      go_wp2_with fail
      refine (HM.out _).mono ?_
      rintro e w2 ⟨rfl, rfl⟩
      go_wp2_with fail
      refine (HW.out _ _ _ at2).mono ?_
      rintro e w3 ⟨u3, rfl, x3, own3⟩
      obtain ⟨A3, c3, rfl, at3⟩ := OwnA.form own3
      go_wp2_with fail
      refine (HB.out _ _ _ _ at3).mono ?_
      rintro e w4 ⟨rfl, x4⟩
      have xa := (x1.trans x3).trans x4
      go_wp2_with fail
      refine (HIG.out _ (hv.ext xa)).mono ?_
      rintro e w5 ⟨rfl, x5⟩
      have xb := xa.trans x5
      go_wp2_with (refine wp_st_ino (.tmp 13) (.tmp 43) rfl rfl w5.heap.size _ zero12 42 rfl rfl (Box.new _ _ _) hxl rfl ?_; intro w6 b6 g6; have x6 : Ext w w6 := (xb.alloc _).grown g6 (fun k e => by cases e; exact xb.size); have c11 := b6.at 11 (by omega); rw [H11.out] at c11)
      refine (HT.out _ (hv.ext x6)).mono ?_
      rintro e w7 ⟨u7, rfl, x7, own7⟩
      clear c11
      obtain ⟨A7, c7, rfl, s7⟩ := own_strs own7
      have b7 := b6.ext x7
      have hf7 := b7.frozen 11
      have hc7 := b7.at 11 (by omega)
      have b8 := b7.set 11 (.int .i64 (i : Int))
      rw [intVals_set] at b8
      go_wp2_with (refine wp_ld_ino (.tmp 13) rfl rfl w5.heap.size _ 42 rfl b8 (by simp [hxl]) ?_)
      have xs8 := (x6.trans x7).setCell (p := ⟨w5.heap.size, 11, none⟩) xb.size (.int .i64 (i : Int))
      have st8 := s7.setFar (p := ⟨w5.heap.size, 11, none⟩) (own_far own7 b7 (by decide)) (.int .i64 (i : Int))
      generalize hw8 : w7.setCell ⟨w5.heap.size, 11, none⟩ (.int .i64 (i : Int)) = w8 at *
      clear hw8 hf7 hc7
      refine (HPU.out _ _ _ st8).mono ?_
      rintro e w9 ⟨u9, rfl, x9, own9⟩
      obtain ⟨A9, c9, rfl, s9⟩ := own_strs own9
      have b9 := b8.ext x9
      have c11 := b9.at 11 (by simp [hxl])
      rw [show (x.set 11 (i : Int)).getD 11 0 = i from extra_set x hxl i] at c11
      have kc : ∀ y : Later w9, y.now.cell? ⟨w5.heap.size, 11, none⟩ = some (.int .i64 i) := fun y => y.ext.keep c11
      clear c11
      go_wp2_with fail
      refine wp_region_later_tail 5 (by kernel_rfl) (by kernel_rfl) ?_
      simp only [List.take_succ_cons, List.take_zero, List.drop_succ_cons, List.drop_zero]
      repeat (go_big_quiet_step ((exact later_of (HBL.out _))))
      refine wpQuiet_nil ?_
      rintro w10 ⟨y10, rfl⟩
      clear kc
      go_wp2_with fail
      refine (HWI.out _ _ _ (s9.ext y10.ext)).mono ?_
      rintro e w11 ⟨u11, rfl, x11, own11⟩
      go_wp2_with fail
      go_ret2
      rw [HS.out]
      have xF := (xs8.trans x9).trans y10.ext
      refine ⟨_, rfl, xF.trans x11, ?_⟩
      have := own_base own11 xF.size
      rw [List.length_set, HPN.out, ← HNV.out]
      exact this
end Go.Proofs.YtmcoepkopfcbdaaGreat
/- The document's attributes: Drop, on a volume that is Fine. -/
namespace Go.Proofs.YtmcoepkopfcbdaaGreat
set_option linter.unusedVariables false
open Go.RowKit

theorem del_lt {l : List Att} {name : List UInt8} (h : 0 ≤ idxA l name) : (delA l name).length < l.length := by
  rcases idxA_cases l name with ⟨e, _⟩ | ⟨i, hi, _, hn⟩
  · omega
  · unfold delA
    refine List.length_filter_lt_length_iff_exists.2 ⟨l[i], List.getElem_mem hi, ?_⟩
    simp [hn]
set_option maxHeartbeats 2000000 in
set_option maxRecDepth 100000 in
theorem rdrop21_any (A : Option Addr) (n c : Nat) (v : List (List UInt8)) (I k : Int) (name : List UInt8) (w : World) (hv : Strs w A n v) (hf : Fine v I) :
    Calls Tryz.prog 10 #[.slice A n c, .int .i64 k, .string (str name)] w fun e w' => ∃ u, e = .returned (.tuple #[u, .int .i64 (dropP v I k name).2]) ∧ Ext w w' ∧ w'.ownsRow w.heap.size 9 1 u (dropP v I k name).1.length (strL (dropP v I k name).1) := by
  have hg := hf.good
  have hpl := plan_bd hg.plan
  have HL := Lib.hid (fun w h => rlist21_any A n c v I k w h hf)
  have hsm := openP_small v I k
  have hsu := sum_short _ (short_open v I k)
  by_cases he : (openP v I k).2.2 = 0
  case neg =>
    have HS := Lib.hid (show dropP v I k name = ([], (openP v I k).2.2) by unfold dropP; rw [if_pos he])
    have d1 : ((openP v I k).2.2 != 0) = true := by simpa using he
    clear he hsm hsu
    generalize openP v I k = op at *
    go_enter Tryz.func10, Tryz.ntmps10
    go_wp2_with fail
    refine (HL.out _ hv).mono ?_
    rintro e w1 ⟨u, rfl, x1, own1⟩
    go_wp2_with fail
    go_ret2
    rw [HS.out]
    exact ⟨_, rfl, x1, World.ownsRow_nil _ _ _ _⟩
  obtain ⟨hk1, hk2, hop1, hkind, hex⟩ := open_ok he
  have hri := rising_open v I k
  have hsh : extraOf (inoAt v k) ≠ 0 → (rowA (openP v I k).2.1).length ≤ 126 := fun h => by
    have := fine_open hf hk1 hk2 hkind
    have e : (openP v I k).2.1 = attsOf v I k := rfl
    rw [e]; exact (this.2.2 h).1.short
  have HDP : Hid (dropP v I k name = if idxA (openP v I k).2.1 name < 0 then (([] : List (List UInt8)), (9 : Int)) else
      if 1 < (openP v I k).2.1.length then (v.set (extraOf (inoAt v k)).toNat (blockL (rowA (delA (openP v I k).2.1 name))), 0) else
      (putAt (givenV v (extraOf (inoAt v k)).toNat) k ((inoAt v k).set 11 0), 0)) := by
    show dropP v I k name = _
    unfold dropP
    rw [if_neg (by simpa using he), hop1]
  have HIG := Lib.hid (fun w h => riget_yes A n c v I k w h hg hk1 hk2)
  rw [he] at HL
  have hex2 : 0 ≤ idxA (openP v I k).2.1 name → dataOf I ≤ extraOf (inoAt v k) ∧ usedB v (extraOf (inoAt v k)) = true ∧ extraOf (inoAt v k) ≠ 0 := fun h => by
    rcases hex with ⟨h2, h3⟩ | ⟨h2, h3, h4, _⟩
    · rw [h3] at h; exact absurd (show (0 : Int) ≤ -1 from h) (by decide)
    · exact ⟨h3, h4, h2⟩
  clear he hop1 hkind hex
  generalize (openP v I k).2.1 = L at *
  have HW := Lib.hid (fun A2 c2 w h => rwithout_any A2 L.length c2 L name w h (by omega))
  by_cases hi : idxA L name < 0
  · have HS := Lib.hid (HDP.out.trans (if_pos hi))
    have hdn : delA L name = L := del_nil hi
    rw [hdn, show decide (L.length < L.length) = false by simp] at HW
    clear hi HDP hex2 hdn hsu
    go_enter Tryz.func10, Tryz.ntmps10
    go_wp2_with fail
    refine (HL.out _ hv).mono ?_
    rintro e w1 ⟨u, rfl, x1, own1⟩
    obtain ⟨A2, c2, rfl, at2⟩ := OwnA.form own1
    go_wp2_with fail
    refine (HW.out _ _ _ at2).mono ?_
    rintro e w2 ⟨u2, rfl, x2, own2⟩
    go_wp2_with fail
    go_ret2
    rw [HS.out]
    exact ⟨_, rfl, x1.trans x2, World.ownsRow_nil _ _ _ _⟩
  obtain ⟨q1, q2, q3⟩ := hex2 (by omega)
  have hlt := del_lt (l := L) (name := name) (by omega)
  rw [show decide ((delA L name).length < L.length) = true by simpa using hlt] at HW
  have HDP2 := Lib.hid (HDP.out.trans (if_neg hi))
  have hr126 := hsh q3
  have HD1 := Lib.hid (show L.length ≤ 1 → delA L name = [] from del_one (by omega))
  have HD2 := Lib.hid (show 1 < L.length → delA L name ≠ [] from del_more hri)
  have hrd : (rowA (delA L name)).length ≤ 126 := Nat.le_trans (rowA_filter _ _) hr126
  have hsd : sumL (flatA (delA L name)) ≤ 1000000000 := Nat.le_trans (sum_filter _ _) (by omega)
  have HB := Lib.hid (fun A2 n2 c2 w (h : Atts w A2 n2 (delA L name)) => rbytes21_any A2 n2 c2 (delA L name) w h hsd (by have := h.1; omega))
  have hub := used_bd q2
  have hxl := inoAt_len v k
  have hfi := inoAt_fits v k
  clear hi HDP hex2 hsh hsu q2 hsd hri
  generalize delA L name = D at *
  have HBL := Lib.hid (fun w => rblock21_any (rowA D) w hrd)
  generalize hrr : rowA D = r at *
  clear hrr
  generalize inoAt v k = x at *
  generalize hee : extraOf x = ext at *
  have H11 : Hid (x.getD 11 0 = ext) := hee
  clear hee
  obtain ⟨i, rfl⟩ : ∃ i : Nat, ext = i := ⟨ext.toNat, by omega⟩
  simp only [Int.toNat_natCast] at hub HDP2
  obtain ⟨_, hi1, hbit⟩ := hub
  have hi : i < v.length := by omega
  have HNV := Lib.hid hv.1
  by_cases c1 : 1 < L.length
  · have HS := Lib.hid (HDP2.out.trans (if_pos c1))
    have hD := HD2.out c1
    have hD1 : 0 < D.length := List.length_pos_iff.2 hD
    have hD2 : (0 : Int) < (D.length : Int) := by omega
    have HWI := Lib.hid (fun w h => rwith_any A n c i v (blockL r) w h hi (by have := HNV.out; omega))
    clear HDP2 hbit HD1 HD2 hD
    go_enter Tryz.func10, Tryz.ntmps10
    go_wp2_with fail
    refine (HL.out _ hv).mono ?_
    rintro e w1 ⟨u, rfl, x1, own1⟩
    obtain ⟨A2, c2, rfl, at2⟩ := OwnA.form own1
    go_wp2_with fail
    refine (HW.out _ _ _ at2).mono ?_
    rintro e w2 ⟨u2, rfl, x2, own2⟩
    obtain ⟨A3, c3, rfl, at3⟩ := OwnA.form own2
    have xa := x1.trans x2
    go_wp2_with fail
    refine (HIG.out _ (hv.ext xa)).mono ?_
    rintro e w5 ⟨rfl, x5⟩
    have xb := xa.trans x5
    go_wp2_with (refine wp_st_ino (.tmp 12) (.tmp 37) rfl rfl w5.heap.size _ zero12 42 rfl rfl (Box.new _ _ _) hxl rfl ?_; intro w6 b6 g6; have x6 : Ext w5 w6 := ((Ext.refl w5).alloc _).grown g6 (fun k e => by cases e; exact Nat.le_refl _); have c11 := b6.at 11 (by omega); rw [H11.out] at c11)
    have kc : ∀ y : Later w6, y.now.cell? ⟨w5.heap.size, 11, none⟩ = some (.int .i64 i) := fun y => y.ext.keep c11
    have at6 := at3.ext (x5.trans x6)
    have HB2 := Lib.hid (fun y : Later w6 => HB.out _ _ c3 _ (at6.ext y.ext))
    clear c11
    refine wp_region_later_tail 6 (by kernel_rfl) (by kernel_rfl) ?_
    simp only [List.take_succ_cons, List.take_zero, List.drop_succ_cons, List.drop_zero]
    repeat (go_big_quiet_step ((first | exact later_of (HBL.out _) | exact later_of (HB2.out _))))
    refine wpQuiet_nil ?_
    rintro w7 ⟨y7, rfl⟩
    have xc := (xb.trans x6).trans y7.ext
    clear kc
    go_wp2_with fail
    refine (HWI.out _ (hv.ext xc)).mono ?_
    rintro e w8 ⟨u8, rfl, x8, own8⟩
    go_wp2_with fail
    go_ret2
    rw [HS.out]
    refine ⟨_, rfl, xc.trans x8, ?_⟩
    have := own_base own8 xc.size
    rw [List.length_set, ← HNV.out]
    exact this
  have HS := Lib.hid (HDP2.out.trans (if_neg c1))
  obtain rfl := HD1.out (by omega)
  have hgg : Good (givenV v i) I := hg.flip (by omega) hi
  have HG := Lib.hid (fun w h => rgive_yes A n c i v I w h hg q1 hi hbit)
  have HPU := Lib.hid (fun A2 c2 w h => riput_list A2 n c2 (givenV v i) I k (x.set 11 0) w h hgg hk1 hk2 (by simp [hxl]) (fits_set hfi hxl (by omega) (by omega)))
  have HPN := Lib.hid (show (putAt (givenV v i) k (x.set 11 0)).length = v.length by rw [putAt_len]; unfold givenV; rw [List.length_set])
  clear HDP2 hbit HD1 HD2 hgg HBL HB c1 hrd
  have hl0 : ([] : List Att).length = 0 := rfl
  go_enter Tryz.func10, Tryz.ntmps10
  go_wp2_with fail
  refine (HL.out _ hv).mono ?_
  rintro e w1 ⟨u, rfl, x1, own1⟩
  obtain ⟨A2, c2, rfl, at2⟩ := OwnA.form own1
  go_wp2_with fail
  refine (HW.out _ _ _ at2).mono ?_
  rintro e w2 ⟨u2, rfl, x2, own2⟩
  obtain ⟨A3, c3, rfl, at3⟩ := OwnA.form own2
  have xa := x1.trans x2
  go_wp2_with fail
  refine (HIG.out _ (hv.ext xa)).mono ?_
  rintro e w5 ⟨rfl, x5⟩
  have xb := xa.trans x5
  go_wp2_with (refine wp_st_ino (.tmp 12) (.tmp 37) rfl rfl w5.heap.size _ zero12 42 rfl rfl (Box.new _ _ _) hxl rfl ?_; intro w6 b6 g6; have x6 : Ext w w6 := (xb.alloc _).grown g6 (fun k e => by cases e; exact xb.size); have c11 := b6.at 11 (by omega); rw [H11.out] at c11)
  refine (HG.out _ (hv.ext x6)).mono ?_
  rintro e w7 ⟨u7, rfl, x7, own7⟩
  clear c11
  obtain ⟨A7, c7, rfl, s7⟩ := own_strs own7
  have b7 := b6.ext x7
  have hf7 := b7.frozen 11
  have hc7 := b7.at 11 (by omega)
  have b8 := b7.set 11 (.int .i64 0)
  rw [intVals_set] at b8
  go_wp2_with (refine wp_ld_ino (.tmp 12) rfl rfl w5.heap.size _ 42 rfl b8 (by simp [hxl]) ?_)
  have xs8 := (x6.trans x7).setCell (p := ⟨w5.heap.size, 11, none⟩) xb.size (.int .i64 0)
  have st8 := s7.setFar (p := ⟨w5.heap.size, 11, none⟩) (own_far own7 b7 (by decide)) (.int .i64 0)
  generalize hw8 : w7.setCell ⟨w5.heap.size, 11, none⟩ (.int .i64 0) = w8 at *
  clear hw8 hf7 hc7
  refine (HPU.out _ _ _ st8).mono ?_
  rintro e w9 ⟨u9, rfl, x9, own9⟩
  go_wp2_with fail
  go_ret2
  rw [HS.out]
  refine ⟨_, rfl, xs8.trans x9, ?_⟩
  have := own_base own9 xs8.size
  rw [HPN.out, ← HNV.out]
  exact this
end Go.Proofs.YtmcoepkopfcbdaaGreat
/- The walk of XattrRuns. -/
namespace Go.Proofs.YtmcoepkopfcbdaaGreat
set_option linter.unusedVariables false
open Go.RowKit

set_option maxHeartbeats 1000000 in
set_option maxRecDepth 100000 in
theorem same01_yes (A B : Option Addr) (n c d : Nat) (l : List (List UInt8)) (w : World) (ha : Strs w A n l) (hb : Strs w B n l) (hn : n ≤ 1000000) :
    Calls Tryz.prog 11 #[.slice A n c, .slice B n d] w fun e w' => e = .returned (.bool true) ∧ Ext w w' := by
  obtain ⟨rfl, ha2⟩ := ha
  have HA := Lib.hid ha2
  have HB := Lib.hid hb.2
  clear ha2 hb
  go_enter Tryz.func11, Tryz.ntmps11
  go_wp2_with fail
  go_loopw [5, 13] (fun _ i wx => ∃ k : Nat, k ≤ l.length ∧ i = .int .i64 k ∧ Ext w wx) (fun _ i _ => l.length - (intOf i).toNat)
  case atStart => exact ⟨0, by omega, rfl, Ext.refl _⟩
  case round =>
    obtain ⟨k, hk, rfl, xk⟩ := hrel
    by_cases hlt : k < l.length
    · obtain ⟨b, o, rfl, hc⟩ := HA.out (by omega)
      obtain ⟨b', o', rfl, hc'⟩ := HB.out (by omega)
      have c1 := xk.keep (hc k hlt)
      have c3 := xk.keep (hc' k hlt)
      have hki : (k : Int) < (l.length : Int) := by omega
      clear hc hc'
      generalize l[k] = y at *
      go_wp2_with fail
      go_quiet (fail)
      go_wp2_with fail
      go_roundw
      case rel => exact ⟨k + 1, by omega, by go_num, xk.drewN _⟩
      case measure => simp [intOf]; omega
    · obtain rfl : k = l.length := by omega
      go_wp2_with fail
      go_ret
      exact ⟨rfl, xk⟩
theorem dropP_err {v : List (List UInt8)} {I k : Int} {name : List UInt8} (h : (dropP v I k name).2 ≠ 0) : (dropP v I k name).1 = [] := by
  unfold dropP at *
  by_cases h1 : (openP v I k).2.2 = 0
  · rw [if_neg (by simpa using h1)] at h ⊢
    by_cases h2 : idxA (openP v I k).2.1 name < 0
    · rw [if_pos h2]
    · rw [if_neg h2] at h
      split at h <;> exact absurd rfl h
  · rw [if_pos h1]
theorem dropP_yes {v : List (List UInt8)} {I k : Int} {name : List UInt8} (hf : Fine v I) (h : (dropP v I k name).2 = 0) : DropOk v (dropP v I k name).1 I k name := by
  have h1 : (openP v I k).2.2 = 0 := by
    unfold dropP at h
    by_cases h1 : (openP v I k).2.2 = 0
    · exact h1
    · rw [if_pos h1] at h; exact h
  have h2 : 0 ≤ idxA (openP v I k).2.1 name := by
    unfold dropP at h
    rw [if_neg (by simpa using h1)] at h
    by_cases h2 : idxA (openP v I k).2.1 name < 0
    · rw [if_pos h2] at h; exact absurd h (by decide)
    · omega
  obtain ⟨a1, a2, _, a4, _⟩ := open_ok h1
  exact (dropP_ok hf a1 a2 a4 h2).2
theorem Sets.drop {v : List (List UInt8)} {k : Int} {name : List UInt8} (h : Sets v) (hs : (dropP v 6 k name).2 = 0) : Sets (dropP v 6 k name).1 := by
  have hd := dropP_yes h.fine hs
  exact ⟨hd.fine, by rw [hd.len, h.len], fun j h1 h2 => by rw [hd.kinds j h1 (by omega)]; exact h.live j h1 h2⟩
theorem drop_any (A : Option Addr) (n c : Nat) (v : List (List UInt8)) (I k : Int) (name : List UInt8) (w : World) (hv : Strs w A n v) (hf : Fine v I) :
    Calls Tryz.prog 9 #[.slice A n c, .int .i64 k, .string (str name)] w fun e w' => ∃ u, e = .returned (.tuple #[u, .int .i64 (dropP v I k name).2]) ∧ Ext w w' ∧ w'.ownsRow w.heap.size 9 1 u (dropP v I k name).1.length (strL (dropP v I k name).1) := by
  by_cases he : (openP v I k).2.2 = 0
  · by_cases hi : idxA (openP v I k).2.1 name < 0
    · refine (drop_none A n c v I k name w hv hf.good he hi).mono ?_
      rintro e w' ⟨rfl, hx⟩
      have : dropP v I k name = ([], 9) := by unfold dropP; rw [if_neg (by simpa using he), if_pos hi]
      rw [this]
      exact ⟨_, rfl, hx, World.ownsRow_nil _ _ _ _⟩
    · obtain ⟨a1, a2, _, a4, _⟩ := open_ok he
      have hd := dropP_ok hf a1 a2 a4 (name := name) (by unfold attsOf; omega)
      refine (drop_fine A n c v I k name w hv hf a1 a2 a4 (by unfold attsOf; omega)).mono ?_
      rintro e w' ⟨u, rfl, hx, ho⟩
      rw [hd.1, hd.2.len]
      exact ⟨u, rfl, hx, ho⟩
  · refine (drop_err A n c v I k name w hv hf.good he).mono ?_
    rintro e w' ⟨rfl, hx⟩
    have : dropP v I k name = ([], (openP v I k).2.2) := by unfold dropP; rw [if_pos he]
    rw [this]
    exact ⟨_, rfl, hx, World.ownsRow_nil _ _ _ _⟩
/-- what an act makes of a volume -/
def actP (v : List (List UInt8)) (y : ActT) : List (List UInt8) × Int := if y.1 = 1 then dropP v 6 y.2.1 y.2.2.1 else setP v 6 y.2.1 y.2.2.1 y.2.2.2
theorem actP_len {v : List (List UInt8)} (h : Sets v) (y : ActT) : ((actP v y).2 = 0 → Sets (actP v y).1) ∧ (actP v y).1.length ≤ 24 := by
  have hx : ((actP v y).2 = 0 → Sets (actP v y).1) ∧ ((actP v y).2 ≠ 0 → (actP v y).1 = []) := by
    unfold actP
    split
    · exact ⟨fun e => h.drop e, dropP_err⟩
    · exact ⟨fun e => h.set e, setP_err⟩
  refine ⟨hx.1, ?_⟩
  by_cases e : (actP v y).2 = 0
  · rw [(hx.1 e).len]; omega
  · rw [hx.2 e]; simp
set_option maxHeartbeats 8000000 in
set_option maxRecDepth 100000 in
theorem runs_any (A : Option Addr) (n c : Nat) (l : List ActT) (w : World) (hs : Acts w A n l) (hn : n ≤ 9223372036854775806) :
    Calls Tryz.prog 3 #[.slice A n c] w fun e w' => e = .returned (.bool true) ∧ Ext w w' := by
  have HGR := Lib.hid (fun w h => great_any A n c l w h hn)
  go_enter Tryz.func3, Tryz.ntmps3
  go_wp2_with (go_at_call 4; refine (alive_any _).mono ?_; rintro e w1 ⟨rfl, x1⟩)
  refine (HGR.out _ (hs.ext x1)).mono ?_
  rintro e w2 ⟨rfl, x2⟩
  clear HGR
  have xc := x1.trans x2
  clear x1 x2
  cases hg : greatB l with
  | true =>
    go_wp2_with fail
    go_ret
    exact ⟨rfl, xc⟩
  | false =>
    obtain ⟨hl20, hall⟩ := great_small hg
    have Hall := Lib.hid hall
    clear hg hall
    obtain ⟨rfl, hs2⟩ := hs
    have HS := Lib.hid (fun h => hs2 h)
    clear hs2
    go_wp2_with fail
    refine (begin_any _).mono ?_
    rintro e w3 ⟨u3, rfl, x3, own3⟩
    have x4 := xc.trans x3
    have own4 := own_base own3 xc.size
    have hB := Lib.hid sets_beg
    generalize begV 3 = V0 at hB own4
    clear x3 xc own3
    go_wp2_with fail
    go_loopw [3, 5, 6, 7, 8, 9, 17] (fun t _ _ _ _ _ i wx => ∃ (k : Nat) (v : List (List UInt8)), k ≤ l.length ∧ i = .int .i64 k ∧ Sets v ∧ Ext w wx ∧ wx.ownsRow w.heap.size 9 1 t 24 (strL v)) (fun _ _ _ _ _ _ i _ => l.length - (intOf i).toNat)
    case atStart => exact ⟨0, V0, by omega, rfl, hB.out, x4, own4⟩
    case round =>
      clear own4 x4 hB
      obtain ⟨k, v, hk, rfl, hf, xk, ok⟩ := hrel
      obtain ⟨g, cp, rfl, hgW, sk⟩ := Strs.own' ok (by omega)
      by_cases hlt : k < l.length
      · obtain ⟨b, o, rfl, hc⟩ := HS.out (by omega)
        obtain ⟨c0, c1, c2, c3⟩ := Acts.cells (fun j v hj => xk.keep (hc j v hj)) k hlt
        obtain ⟨ln, lv⟩ := Hall.out l[k] (List.getElem_mem hlt)
        clear hc
        generalize l[k] = y at *
        have HP := Lib.hid (fun w h => set_any (some ⟨g, 0, none⟩) 24 cp v 6 y.2.1 y.2.2.1 y.2.2.2 w h hf.fine.good (by omega) (by omega))
        have HR := Lib.hid (fun w h => rset21_any (some ⟨g, 0, none⟩) 24 cp v 6 y.2.1 y.2.2.1 y.2.2.2 w h hf.fine (by omega) (by omega))
        have HQ := Lib.hid (fun w h => drop_any (some ⟨g, 0, none⟩) 24 cp v 6 y.2.1 y.2.2.1 w h hf.fine)
        have HT := Lib.hid (fun w h => rdrop21_any (some ⟨g, 0, none⟩) 24 cp v 6 y.2.1 y.2.2.1 w h hf.fine)
        obtain ⟨ha1, ha2⟩ := actP_len hf y
        have HA1 := Lib.hid ha1
        clear ha1
        have bA := Box.new wr 28 (actL y).toArray
        by_cases hk1 : y.1 = 1
        · have hap : actP v y = dropP v 6 y.2.1 y.2.2.1 := if_pos hk1
          rw [hap] at HA1 ha2
          have d1 : (y.1 == 1) = true := by simpa using hk1
          clear hap hk1
          generalize dropP v 6 y.2.1 y.2.2.1 = R at *
          generalize setP v 6 y.2.1 y.2.2.1 y.2.2.2 = S at *
          obtain ⟨R1, R2⟩ := R
          obtain ⟨S1, S2⟩ := S
          simp only at HA1 ha2 HP HR HQ HT
          go_wp2_with fail
          have xA := (Ext.refl wr).alloc (.cells (actL y).toArray 28)
          refine (HP.out _ (sk.ext xA)).mono ?_
          rintro e w5 ⟨u5, rfl, x5, own5⟩
          have bB := bA.ext x5
          have xB := xA.trans x5
          have rbB0 : w5.cell? ⟨wr.heap.size, 0, none⟩ = some (.int .i64 y.1) := bB.cell 0
          have rbB1 : w5.cell? ⟨wr.heap.size, 1, none⟩ = some (.int .i64 y.2.1) := bB.cell 1
          have rbB2 : w5.cell? ⟨wr.heap.size, 2, none⟩ = some (.string (str y.2.2.1)) := bB.cell 2
          have rbB3 : w5.cell? ⟨wr.heap.size, 3, none⟩ = some (.string (str y.2.2.2)) := bB.cell 3
          go_wp2_with fail
          refine (HR.out _ (sk.ext xB)).mono ?_
          rintro e w6 ⟨u6, rfl, x6, own6⟩
          have bC := bB.ext x6
          have xC := xB.trans x6
          clear rbB0 rbB1 rbB2 rbB3
          have rbC0 : w6.cell? ⟨wr.heap.size, 0, none⟩ = some (.int .i64 y.1) := bC.cell 0
          have rbC1 : w6.cell? ⟨wr.heap.size, 1, none⟩ = some (.int .i64 y.2.1) := bC.cell 1
          have rbC2 : w6.cell? ⟨wr.heap.size, 2, none⟩ = some (.string (str y.2.2.1)) := bC.cell 2
          have rbC3 : w6.cell? ⟨wr.heap.size, 3, none⟩ = some (.string (str y.2.2.2)) := bC.cell 3
          go_wp2_with fail
          refine (HQ.out _ (sk.ext xC)).mono ?_
          rintro e w7 ⟨u7, rfl, x7, own7⟩
          have bD := bC.ext x7
          have xD := xC.trans x7
          clear rbC0 rbC1 rbC2 rbC3 own5 own6
          have rbD0 : w7.cell? ⟨wr.heap.size, 0, none⟩ = some (.int .i64 y.1) := bD.cell 0
          have rbD1 : w7.cell? ⟨wr.heap.size, 1, none⟩ = some (.int .i64 y.2.1) := bD.cell 1
          have rbD2 : w7.cell? ⟨wr.heap.size, 2, none⟩ = some (.string (str y.2.2.1)) := bD.cell 2
          have rbD3 : w7.cell? ⟨wr.heap.size, 3, none⟩ = some (.string (str y.2.2.2)) := bD.cell 3
          go_wp2_with fail
          refine (HT.out _ (sk.ext xD)).mono ?_
          rintro e w8 ⟨u8, rfl, x8, own8⟩
          have xE := xD.trans x8
          clear rbD0 rbD1 rbD2 rbD3
          obtain ⟨A7, c7, rfl, s7⟩ := own_strs own7
          obtain ⟨A8, c8, rfl, s8⟩ := own_strs own8
          have own9 := own_ext (own_base own7 (Nat.le_trans xk.size xC.size)) x8
          have HSM := Lib.hid (fun w h1 h2 => same01_yes A7 A8 R1.length c7 c8 R1 w h1 h2 (by omega))
          have s9 := s7.ext x8
          go_wp2_with fail
          refine (HSM.out _ s9 s8).mono ?_
          rintro e w9 ⟨rfl, x9⟩
          by_cases he : R2 = 0
          · have hf2 := HA1.out he
            have hlen := hf2.len
            have d2 : (R2 == 0) = true := by simpa using he
            clear he
            go_wp2_with fail
            go_roundw
            case rel => exact ⟨k + 1, R1, by omega, by go_num, hf2, xk.trans (xE.trans x9), by rw [← hlen]; exact own_ext own9 x9⟩
            case measure => simp [intOf]; omega
          · have d2 : (R2 == 0) = false := by simpa using he
            clear he
            go_wp2_with fail
            go_roundw
            case rel => exact ⟨k + 1, v, by omega, by go_num, hf, xk.trans (xE.trans x9), own_ext ok (xE.trans x9)⟩
            case measure => simp [intOf]; omega
        · have hap : actP v y = setP v 6 y.2.1 y.2.2.1 y.2.2.2 := if_neg hk1
          rw [hap] at HA1 ha2
          have d1 : (y.1 == 1) = false := by simpa using hk1
          clear hap hk1 HQ HT
          generalize setP v 6 y.2.1 y.2.2.1 y.2.2.2 = R at *
          obtain ⟨R1, R2⟩ := R
          simp only at HA1 ha2 HP HR
          go_wp2_with fail
          have xA := (Ext.refl wr).alloc (.cells (actL y).toArray 28)
          refine (HP.out _ (sk.ext xA)).mono ?_
          rintro e w5 ⟨u5, rfl, x5, own5⟩
          have bB := bA.ext x5
          have xB := xA.trans x5
          have rbB0 : w5.cell? ⟨wr.heap.size, 0, none⟩ = some (.int .i64 y.1) := bB.cell 0
          have rbB1 : w5.cell? ⟨wr.heap.size, 1, none⟩ = some (.int .i64 y.2.1) := bB.cell 1
          have rbB2 : w5.cell? ⟨wr.heap.size, 2, none⟩ = some (.string (str y.2.2.1)) := bB.cell 2
          have rbB3 : w5.cell? ⟨wr.heap.size, 3, none⟩ = some (.string (str y.2.2.2)) := bB.cell 3
          go_wp2_with fail
          refine (HR.out _ (sk.ext xB)).mono ?_
          rintro e w6 ⟨u6, rfl, x6, own6⟩
          have bC := bB.ext x6
          have xC := xB.trans x6
          clear rbB0 rbB1 rbB2 rbB3
          have rbC0 : w6.cell? ⟨wr.heap.size, 0, none⟩ = some (.int .i64 y.1) := bC.cell 0
          have rbC1 : w6.cell? ⟨wr.heap.size, 1, none⟩ = some (.int .i64 y.2.1) := bC.cell 1
          have rbC2 : w6.cell? ⟨wr.heap.size, 2, none⟩ = some (.string (str y.2.2.1)) := bC.cell 2
          have rbC3 : w6.cell? ⟨wr.heap.size, 3, none⟩ = some (.string (str y.2.2.2)) := bC.cell 3
          obtain ⟨A7, c7, rfl, s7⟩ := own_strs own5
          obtain ⟨A8, c8, rfl, s8⟩ := own_strs own6
          have own9 := own_ext (own_base own5 (Nat.le_trans xk.size xA.size)) x6
          have HSM := Lib.hid (fun w h1 h2 => same01_yes A7 A8 R1.length c7 c8 R1 w h1 h2 (by omega))
          have s9 := s7.ext x6
          have xE := xC
          go_wp2_with fail
          refine (HSM.out _ s9 s8).mono ?_
          rintro e w9 ⟨rfl, x9⟩
          by_cases he : R2 = 0
          · have hf2 := HA1.out he
            have hlen := hf2.len
            have d2 : (R2 == 0) = true := by simpa using he
            clear he
            go_wp2_with fail
            go_roundw
            case rel => exact ⟨k + 1, R1, by omega, by go_num, hf2, xk.trans (xE.trans x9), by rw [← hlen]; exact own_ext own9 x9⟩
            case measure => simp [intOf]; omega
          · have d2 : (R2 == 0) = false := by simpa using he
            clear he
            go_wp2_with fail
            go_roundw
            case rel => exact ⟨k + 1, v, by omega, by go_num, hf, xk.trans (xE.trans x9), own_ext ok (xE.trans x9)⟩
            case measure => simp [intOf]; omega
      · obtain rfl : k = l.length := by omega
        go_wp2_with fail
        go_ret
        exact ⟨rfl, xk⟩
end Go.Proofs.YtmcoepkopfcbdaaGreat
