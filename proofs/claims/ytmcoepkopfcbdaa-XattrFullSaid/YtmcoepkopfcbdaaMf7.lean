/- The document's geometry: Of on a volume that is one. -/
import Derived.Test.YtmcoepkopfcbdaaMf6
import Derived.Test.YtmcoepkopfcbdaaMf2
namespace Go.Proofs.Ytmcoepkopfcbdaa
open Go.RowKit

theorem rget2_at (p q : UInt8) (B : Int) (w : World) (h : (p.toNat : Int) + 256 * q.toNat = B) :
    Calls Try.prog 58 #[.string (str [p, q])] w fun e w' => e = .returned (.int .u64 B) ∧ w = w' := by
  subst h; exact rget2 p q w
set_option maxHeartbeats 1000000 in
set_option maxRecDepth 100000 in
theorem rof_yes (A : Option Addr) (n c : Nat) (v : List (List UInt8)) (I : Int) (w : World) (hv : Strs w A n v) (hg : Good v I) :
    Calls Try.prog 30 #[.slice A n c] w fun e w' => e = .returned (.tuple #[geomV v.length I, .int .i64 0]) ∧ Ext w w' := by
  have hpl := plan_bd hg.plan
  obtain ⟨rfl, hv2⟩ := hv
  obtain ⟨b, o, rfl, hcell⟩ := hv2 (by omega)
  have hlt : b < w.heap.size := World.block_lt_of_cell? w _ (hcell 0 (by omega))
  have hz := str_size
  go_enter Try.func30, Try.ntmps30
  go_wp2_with fail
  generalize hw1 : w.alloc _ = w1
  have x1 : Ext w w1 := by rw [← hw1]; exact (Ext.refl _).alloc _
  have r1 : Box w1 w.heap.size 66 (intVals [0, 0, 0, 0, 0, 0]) := by rw [← hw1]; exact Box.new _ _ _
  clear hw1
  go_loop [5, 15] (fun _ i => ∃ k : Nat, k ≤ v.length ∧ i = .int .i64 k) (fun _ i => v.length - (intOf i).toNat)
  case atStart => exact ⟨0, by omega, rfl⟩
  case round =>
    obtain ⟨k, hk, rfl⟩ := hrel
    by_cases hlt2 : k < v.length
    · have hck : w1.cell? ⟨b, o + k, none⟩ = some (.string (str v[k])) := x1.keep (hcell k hlt2)
      have hlk : ((v[k].length : Int) != 128) = false := by rw [hg.all k hlt2]; rfl
      go_wp2_with fail
      go_round
      case rel => exact ⟨k + 1, by omega, by go_num⟩
      case measure => simp [intOf]; omega
    · have hb1 : b < w1.heap.size := Nat.lt_of_lt_of_le hlt x1.size
      have hv0 : v[0]'(by omega) = headL v.length I := by
        have := hg.head; rw [List.getD_eq_getElem?_getD, List.getElem?_eq_getElem (by omega)] at this; exact this
      have c0 : w1.cell? ⟨b, o, none⟩ = some (.string (str (headL v.length I))) := by
        have := x1.keep (hcell 0 (by omega)); rw [hv0] at this; exact this
      have e68 := head_68 v.length I
      have zH : (str (headL v.length I)).size = 128 := by rw [str_size, headL_len]
      have gI := fun w => rget2_at _ _ I w (two_back I (by omega) (by omega))
      have HP := Lib.hid hg.plan
      have HF : ∀ w, Hid (Calls Try.prog 39 #[.agg #[.int .i64 v.length, .int .i64 I, .int .i64 1, .int .i64 2, .int .i64 3, .int .i64 (3 + (I + 1) / 2)]] w fun e w' => e = .returned (.string (str (headL v.length I))) ∧ Ext w w') := fun w => Lib.hid (rhead_any v.length I w hg.plan)
      have hgl := Lib.hid hg
      have c2v : ∀ wx, Ext w wx → wx.cell? ⟨b, o + 2, none⟩ = some (.string (str (v.getD 2 []))) := fun wx xx => by
        have := xx.keep (hcell 2 (by omega))
        rw [List.getD_eq_getElem?_getD, List.getElem?_eq_getElem (by omega)]; exact this
      have C2 := Lib.hid c2v
      have l2 : (v.getD 2 []).length = 128 := by rw [List.getD_eq_getElem?_getD, List.getElem?_eq_getElem (by omega)]; exact hg.all 2 (by omega)
      clear c2v hcell hv0 hg
      generalize headL v.length I = H at *
      generalize b8 (I % 256) = r at *
      generalize b8 (I / 256) = s at *
      have hn0 : 0 < v.length := by omega
      have hn1 : (0 : Int) < (v.length : Int) := by omega
      have hn2 : (2 : Int) < (v.length : Int) := by omega
      have GI := Lib.hid gI
      clear gI hz
      have wI : IntKind.i64.wrap I = I := by rw [IntKind.wrap_i64]; omega
      go_wp2_with (first
        | (go_at_call 58; refine (GI.out _).mono ?_; rintro e w' ⟨rfl, rfl⟩)
        | (go_at_call 38; refine (rplan_yes _ _ _ HP.out).mono ?_; rintro e wp ⟨rfl, xp⟩; unfold geomV))
      have bc := Box.new wp 66 (intVals [(v.length : Int), I, 1, 2, 3, 3 + (I + 1) / 2])
      have xc := (x1.trans xp).alloc (.cells (intVals [(v.length : Int), I, 1, 2, 3, 3 + (I + 1) / 2]) 66)
      have rc := (r1.ext xp).ext ((Ext.refl wp).alloc (.cells (intVals [(v.length : Int), I, 1, 2, 3, 3 + (I + 1) / 2]) 66))
      have cc := (xp.alloc (.cells (intVals [(v.length : Int), I, 1, 2, 3, 3 + (I + 1) / 2]) 66)).keep c0
      change Box (wp.alloc (.cells #[.int .i64 v.length, .int .i64 I, .int .i64 1, .int .i64 2, .int .i64 3, .int .i64 (3 + (I + 1) / 2)] 66)) _ _ _ at bc
      change Ext w (wp.alloc (.cells #[.int .i64 v.length, .int .i64 I, .int .i64 1, .int .i64 2, .int .i64 3, .int .i64 (3 + (I + 1) / 2)] 66)) at xc
      change Box (wp.alloc (.cells #[.int .i64 v.length, .int .i64 I, .int .i64 1, .int .i64 2, .int .i64 3, .int .i64 (3 + (I + 1) / 2)] 66)) _ _ _ at rc
      change (wp.alloc (.cells #[.int .i64 v.length, .int .i64 I, .int .i64 1, .int .i64 2, .int .i64 3, .int .i64 (3 + (I + 1) / 2)] 66)).cell? _ = _ at cc
      generalize wp.alloc (.cells #[.int .i64 v.length, .int .i64 I, .int .i64 1, .int .i64 2, .int .i64 3, .int .i64 (3 + (I + 1) / 2)] 66) = wc at bc xc rc cc ⊢
      generalize wp.heap.size = g at bc ⊢
      clear xp x1 r1 c0
      have c0 : ∀ x : Later wc, x.now.cell? ⟨b, o, none⟩ = some (.string (str H)) := fun x => x.ext.keep cc
      have q0 : ∀ x : Later wc, x.now.cell? ⟨g, 0, none⟩ = some (.int .i64 v.length) := fun x => (bc.ext x.ext).cell 0
      have q1 : ∀ x : Later wc, x.now.cell? ⟨g, 1, none⟩ = some (.int .i64 I) := fun x => (bc.ext x.ext).cell 1
      have q2 : ∀ x : Later wc, x.now.cell? ⟨g, 2, none⟩ = some (.int .i64 1) := fun x => (bc.ext x.ext).cell 2
      have q3 : ∀ x : Later wc, x.now.cell? ⟨g, 3, none⟩ = some (.int .i64 2) := fun x => (bc.ext x.ext).cell 3
      have q4 : ∀ x : Later wc, x.now.cell? ⟨g, 4, none⟩ = some (.int .i64 3) := fun x => (bc.ext x.ext).cell 4
      have q5 : ∀ x : Later wc, x.now.cell? ⟨g, 5, none⟩ = some (.int .i64 (3 + (I + 1) / 2)) := fun x => (bc.ext x.ext).cell 5
      refine wp_region_later (by kernel_rfl) (by kernel_rfl) ?_
      repeat (go_big_quiet_step ((exact later_of ((HF _).out))))
      refine wpQuiet_nil ?_
      rintro w5 ⟨x5, rfl⟩
      have xw5 := xc.trans x5.ext
      have e2 := C2.out _ xw5
      have d0 := q0 x5; have d5 := q5 x5
      have b5 := bc.ext x5.ext
      have r5 := rc.ext x5.ext
      clear q0 q1 q2 q3 q4 q5 c0 cc HF C2 bc rc xc
      go_wp2_with fail
      go_loop [8] (fun t => ∃ m : Nat, m ≤ 1024 ∧ t = .int .i64 m) (fun t => 1024 - (intOf t).toNat)
      case atStart => exact ⟨0, by omega, rfl⟩
      case round =>
        obtain ⟨m, hm, rfl⟩ := hrel
        have HB := Lib.hid (fun (hm2 : m < 1024) w => rbit_any m (v.getD 2 []) w l2 hm2)
        by_cases hm2 : m < 1024
        · by_cases m1 : (m : Int) < 3 + (I + 1) / 2
          · have hbit := Lib.hid (hgl.out.low m m1)
            have m3' : ¬ (v.length : Int) ≤ m := by omega
            have m3'' : decide ((v.length : Int) ≤ m) = false := by simpa using m3'
            go_wp2_with (go_at_call 31; refine (HB.out hm2 _).mono ?_; rintro e w' ⟨rfl, rfl⟩; rw [hbit.out])
            go_round
            case rel => exact ⟨m + 1, by omega, by go_num⟩
            case measure => simp [intOf]; omega
          · have m1' : decide ((m : Int) < 3 + (I + 1) / 2) = false := by simpa using m1
            by_cases m3 : v.length ≤ m
            · have hbit := Lib.hid (hgl.out.high m hm2 m3)
              have m3' : (v.length : Int) ≤ m := by omega
              go_wp2_with (go_at_call 31; refine (HB.out hm2 _).mono ?_; rintro e w' ⟨rfl, rfl⟩; rw [hbit.out])
              go_round
              case rel => exact ⟨m + 1, by omega, by go_num⟩
              case measure => simp [intOf]; omega
            · have m3' : ¬ (v.length : Int) ≤ m := by omega
              have m3'' : decide ((v.length : Int) ≤ m) = false := by simpa using m3'
              go_wp2_with (go_at_call 31; refine (HB.out hm2 _).mono ?_; rintro e w' ⟨rfl, rfl⟩)
              go_round
              case rel => exact ⟨m + 1, by omega, by go_num⟩
              case measure => simp [intOf]; omega
        · go_wp2_with (first
            | (refine wp_ld_geom (.tmp 6) rfl rfl g _ 66 rfl b5 rfl ?_)
            | (refine wp_st_geom (.tmp 2) (.tmp 77) rfl rfl w.heap.size _ [0, 0, 0, 0, 0, 0] 66 rfl rfl r5 rfl rfl ?_; intro w6 b6 g6))
          have xF := xw5.grown g6 (fun k e => by cases e; exact Nat.le_refl _)
          exact bodyPost_ret (v := .tuple #[geomV v.length I, .int .i64 0]) (results_cell2 Try.results30 _ _ _ _ _ _ _ rfl rfl b6 Try.underlying66 rfl geomSize) rfl ⟨rfl, xF⟩
end Go.Proofs.Ytmcoepkopfcbdaa
/- The document's geometry: Used, Room, Take. -/
namespace Go.Proofs.Ytmcoepkopfcbdaa
open Go.RowKit

set_option maxHeartbeats 1000000 in
set_option maxRecDepth 100000 in
theorem rused_yes (A : Option Addr) (n c i : Nat) (v : List (List UInt8)) (I : Int) (w : World) (hv : Strs w A n v) (hg : Good v I) (hi : i < v.length) :
    Calls Try.prog 17 #[.slice A n c, .int .i64 i] w fun e w' => e = .returned (.bool (bitB (v.getD 2 []) i)) ∧ Ext w w' := by
  have hpl := plan_bd hg.plan
  have HO := Lib.hid (fun w h => rof_yes A n c v I w h hg)
  have hv' := hv
  obtain ⟨rfl, hv2⟩ := hv
  obtain ⟨b, o, rfl, hcell⟩ := hv2 (by omega)
  have l2 : (v.getD 2 []).length = 128 := by rw [List.getD_eq_getElem?_getD, List.getElem?_eq_getElem (by omega)]; exact hg.all 2 (by omega)
  have HB := Lib.hid (fun w => rbit_any i (v.getD 2 []) w l2 (by omega))
  go_enter Try.func17, Try.ntmps17
  go_wp2_with fail
  refine (HO.out _ hv').mono ?_
  rintro e w1 ⟨rfl, x1⟩
  unfold geomV
  have x2 := x1.alloc (.cells #[.int .i64 v.length, .int .i64 I, .int .i64 1, .int .i64 2, .int .i64 3, .int .i64 (3 + (I + 1) / 2)] 66)
  have c2 : (w1.alloc (.cells #[.int .i64 v.length, .int .i64 I, .int .i64 1, .int .i64 2, .int .i64 3, .int .i64 (3 + (I + 1) / 2)] 66)).cell? ⟨b, o + 2, none⟩ = some (.string (str (v.getD 2 []))) := by
    have := x2.keep (hcell 2 (by omega))
    rw [List.getD_eq_getElem?_getD, List.getElem?_eq_getElem (by omega)]; exact this
  have hi2 : (i : Int) < (v.length : Int) := by omega
  have hn2 : (2 : Int) < (v.length : Int) := by omega
  clear hcell
  go_wp2_with (go_at_call 31; refine (HB.out _).mono ?_; rintro e w' ⟨rfl, rfl⟩)
  go_ret
  exact ⟨rfl, x2⟩
/-- how many blocks aren't taken, among the first ones -/
def roomF (m : List UInt8) : Nat → Nat
  | 0 => 0
  | k + 1 => roomF m k + if bitB m k then 0 else 1
def roomN (v : List (List UInt8)) : Nat := roomF (v.getD 2 []) v.length
theorem roomF_le (m : List UInt8) (k : Nat) : roomF m k ≤ k := by
  induction k with
  | zero => exact Nat.le_refl _
  | succ k ih => simp only [roomF]; split <;> omega
set_option maxHeartbeats 1000000 in
set_option maxRecDepth 100000 in
theorem rroom_yes (A : Option Addr) (n c : Nat) (v : List (List UInt8)) (I : Int) (w : World) (hv : Strs w A n v) (hg : Good v I) :
    Calls Try.prog 9 #[.slice A n c] w fun e w' => e = .returned (.int .i64 (roomN v : Int)) ∧ Ext w w' := by
  have hpl := plan_bd hg.plan
  have HO := Lib.hid (fun w h => rof_yes A n c v I w h hg)
  have HU := Lib.hid (fun i w h hi => rused_yes A n c i v I w h hg hi)
  obtain rfl := hv.1
  have HE := Lib.hid (show roomN v = roomF (v.getD 2 []) v.length from rfl)
  have HS := Lib.hid (fun k => show roomF (v.getD 2 []) (k + 1) = roomF (v.getD 2 []) k + if bitB (v.getD 2 []) k then 0 else 1 from rfl)
  have HL := Lib.hid (roomF_le (v.getD 2 []))
  generalize v.getD 2 [] = m at HU HE HS HL
  go_enter Try.func9, Try.ntmps9
  go_wp2_with fail
  go_loopw [3, 4, 5, 6, 9] (fun s _ _ _ t wx => ∃ k : Nat, k ≤ v.length ∧ s = .int .i64 (roomF m k : Int) ∧ t = .int .i64 k ∧ Ext w wx) (fun _ _ _ _ t _ => v.length - (intOf t).toNat)
  case atStart => exact ⟨0, by omega, rfl, rfl, Ext.refl _⟩
  case round =>
    obtain ⟨k, hk, rfl, rfl, xk⟩ := hrel
    have hl := HL.out k
    generalize hr : roomF m k = r at *
    have HR := Lib.hid hr
    clear hr
    by_cases hlt : k < v.length
    · have hkv : (k : Int) < (v.length : Int) := by omega
      go_wp2_with fail
      refine (HO.out _ (hv.ext xk)).mono ?_
      rintro e w1 ⟨rfl, x1⟩
      unfold geomV
      have x2 := (xk.trans x1).alloc (.cells #[.int .i64 v.length, .int .i64 I, .int .i64 1, .int .i64 2, .int .i64 3, .int .i64 (3 + (I + 1) / 2)] 66)
      have HV := Lib.hid (hv.ext x2)
      have hs := HS.out k
      rw [HR.out] at hs
      cases hb : bitB m k
      all_goals
        rw [hb] at hs
        have H1 := Lib.hid hb
        have H2 := Lib.hid hs
        clear hb hs
        go_wp2_with (go_at_call 17; refine (HU.out k _ HV.out hlt).mono ?_; rintro e w3 ⟨rfl, x3⟩; rw [H1.out])
        go_roundw
        case rel => exact ⟨k + 1, by omega, by rw [H2.out]; go_num, by go_num, x2.trans x3⟩
        case measure => simp [intOf]; omega
    · obtain rfl : k = v.length := by omega
      go_wp2_with fail
      go_ret
      exact ⟨by rw [HE.out, HR.out]; rfl, xk⟩
end Go.Proofs.Ytmcoepkopfcbdaa
/- The document's geometry: Take. -/
namespace Go.Proofs.Ytmcoepkopfcbdaa
open Go.RowKit

set_option maxHeartbeats 1000000 in
set_option maxRecDepth 100000 in
theorem rtake_yes (A : Option Addr) (n c i : Nat) (v : List (List UInt8)) (I : Int) (w : World) (hv : Strs w A n v) (hg : Good v I) (hi0 : 3 + (I + 1) / 2 ≤ (i : Int)) (hi1 : i < v.length) (hi2 : bitB (v.getD 2 []) i = false)
    (hi3 : ∀ j : Nat, 3 + (I + 1) / 2 ≤ (j : Int) → j < i → bitB (v.getD 2 []) j = true) :
    Calls Try.prog 10 #[.slice A n c] w fun e w' => ∃ u, e = .returned (.tuple #[u, .int .i64 i, .int .i64 0]) ∧ Ext w w' ∧
      w'.ownsRow w.heap.size 9 1 u n (strL (takenV v i)) := by
  have hpl := plan_bd hg.plan
  have HO := Lib.hid (fun w h => rof_yes A n c v I w h hg)
  have hv' := hv
  obtain ⟨rfl, hv2⟩ := hv
  obtain ⟨b, o, rfl, hcell⟩ := hv2 (by omega)
  have l2 : (v.getD 2 []).length = 128 := by rw [List.getD_eq_getElem?_getD, List.getElem?_eq_getElem (by omega)]; exact hg.all 2 (by omega)
  go_enter Try.func10, Try.ntmps10
  go_wp2_with fail
  refine (HO.out _ hv').mono ?_
  rintro e w1 ⟨rfl, x1⟩
  unfold geomV
  go_wp2_with fail
  have bx := Box.new w1 66 #[.int .i64 v.length, .int .i64 I, .int .i64 1, .int .i64 2, .int .i64 3, .int .i64 (3 + (I + 1) / 2)]
  have x2 := x1.alloc (.cells #[.int .i64 v.length, .int .i64 I, .int .i64 1, .int .i64 2, .int .i64 3, .int .i64 (3 + (I + 1) / 2)] 66)
  generalize w1.alloc (.cells #[.int .i64 v.length, .int .i64 I, .int .i64 1, .int .i64 2, .int .i64 3, .int .i64 (3 + (I + 1) / 2)] 66) = W at bx x2 ⊢
  have d0 : W.cell? ⟨w1.heap.size, 0, none⟩ = some (.int .i64 v.length) := bx.cell 0
  have d5 : W.cell? ⟨w1.heap.size, 5, none⟩ = some (.int .i64 (3 + (I + 1) / 2)) := bx.cell 5
  have c2 : W.cell? ⟨b, o + 2, none⟩ = some (.string (str (v.getD 2 []))) := by
    have := x2.keep (hcell 2 (by omega))
    rw [List.getD_eq_getElem?_getD, List.getElem?_eq_getElem (by omega)]; exact this
  have hn2 : (2 : Int) < (v.length : Int) := by omega
  have HT := Lib.hid (show takenV v i = (v.set 2 (flipL (v.getD 2 []) i)).set i (zs 128) from rfl)
  generalize hm2 : v.getD 2 [] = m2 at *
  clear hm2
  go_loop [7] (fun t => ∃ m : Nat, m ≤ i ∧ 3 + (I + 1) / 2 ≤ (m : Int) ∧ t = .int .i64 m) (fun t => i - (intOf t).toNat)
  case atStart => exact ⟨(3 + (I + 1) / 2).toNat, by omega, by omega, by rw [Int.toNat_of_nonneg (by omega)]⟩
  case round =>
    obtain ⟨m, hm, hm0, rfl⟩ := hrel
    have HB := Lib.hid (fun w => rbit_any m m2 w l2 (by omega))
    have hmv : (m : Int) < (v.length : Int) := by omega
    by_cases hlt : m < i
    · have hbit := Lib.hid (hi3 m hm0 hlt)
      go_wp2_with (go_at_call 31; refine (HB.out _).mono ?_; rintro e w' ⟨rfl, rfl⟩; rw [hbit.out])
      go_round
      case rel => exact ⟨m + 1, by omega, by omega, by go_num⟩
      case measure => simp [intOf]; omega
    · obtain rfl : m = i := by omega
      have hbit := Lib.hid hi2
      have HR := Lib.hid (fun w => rturn_any m m2 w l2 (by omega))
      have HW := Lib.hid (fun w h => rwith_any (some ⟨b, o, none⟩) v.length c 2 v (flipL m2 m) w h (by omega) (by omega))
      have HW2 := Lib.hid (fun g cap w h => rwith_any (some ⟨g, 0, none⟩) v.length cap m (v.set 2 (flipL m2 m)) (zs 128) w h (by simp; omega) (by omega))
      clear hi2 hi3
      go_wp2_with (first
        | (go_at_call 31; refine (HB.out _).mono ?_; rintro e w' ⟨rfl, rfl⟩; rw [hbit.out])
        | (go_at_call 33; refine (HR.out _).mono ?_; rintro e w3 ⟨rfl, x3⟩))
      refine (HW.out _ (hv'.ext (x2.trans x3))).mono ?_
      rintro e w4 ⟨u, rfl, x4, own4⟩
      obtain ⟨g, cap, rfl, hgW, s4⟩ := Strs.own' own4 (by omega)
      go_wp2_with (go_at_call 34; refine (rzeros_any 128 _ (by omega)).mono ?_; rintro e w' ⟨rfl, rfl⟩)
      refine (HW2.out g cap _ s4).mono ?_
      rintro e w6 ⟨u, rfl, x6, own6⟩
      go_wp2_with fail
      go_ret3
      refine ⟨_, rfl, (x2.trans x3).trans (x4.trans x6), ?_⟩
      rw [HT.out]
      exact own_base own6 ((x2.trans x3).trans x4).size
end Go.Proofs.Ytmcoepkopfcbdaa
/- The document's geometry: Format of 24 blocks and 6 inodes. -/
namespace Go.Proofs.Ytmcoepkopfcbdaa
open Go.RowKit

theorem strs_new1 (w : World) (s : List UInt8) : Strs (w.alloc (.cells #[.string (str s)] 9)) (some ⟨w.heap.size, 0, none⟩) 1 [s] := by
  refine ⟨rfl, fun _ => ⟨w.heap.size, 0, rfl, fun j hj => ?_⟩⟩
  rcases (show j = 0 by simpa using hj) with rfl
  exact (Box.new w 9 #[.string (str s)]).cell 0
def bareV (k : Nat) : List (List UInt8) := headL 24 6 :: List.replicate k (zs 128)
def flips (m : List UInt8) : Nat → List UInt8
  | 0 => m
  | k + 1 => flipL (flips m k) k
theorem flips_len (m : List UInt8) (k : Nat) : (flips m k).length = m.length := by
  induction k with
  | zero => rfl
  | succ k ih => rw [flips, flipL_len, ih]
def formatV : List (List UInt8) := (bareV 23).set 2 (flips (zs 128) 6)

set_option maxHeartbeats 1000000 in
set_option maxRecDepth 100000 in
theorem rformat_one (w : World) :
    Calls Try.prog 18 #[.int .i64 24, .int .i64 6] w fun e w' => ∃ u, e = .returned (.tuple #[u, .int .i64 0]) ∧ Ext w w' ∧ w'.ownsRow w.heap.size 9 1 u 24 (strL formatV) := by
  have HP := Lib.hid (show planB 24 6 = true by decide)
  have HH := Lib.hid (fun w => rhead_any 24 6 w (by decide))
  have HF := Lib.hid (show formatV = (bareV 23).set 2 (flips (zs 128) 6) from rfl)
  have HS := Lib.hid (fun k => show bareV (k + 1) = bareV k ++ [zs 128] by simp [bareV, List.replicate_succ'])
  have HL := Lib.hid (fun k => show (bareV k).length = k + 1 by simp [bareV])
  have H0 := Lib.hid (show [headL 24 6] = bareV 0 from rfl)
  have H2 := Lib.hid (fun k => show (bareV (k + 2)).getD 2 [] = zs 128 from rfl)
  have HR := Lib.hid (fun (k : Nat) (hk : k < 1024) w => rturn_any k (flips (zs 128) k) w (by rw [flips_len, zs_len]) hk)
  have hn := Lib.hid (fun k => show flips (zs 128) (k + 1) = flipL (flips (zs 128) k) k from rfl)
  unfold geomV at HH
  generalize headL 24 6 = H at HH H0
  go_enter Try.func18, Try.ntmps18
  go_wp2_with (first
    | (go_at_call 38; refine (rplan_yes _ _ _ HP.out).mono ?_; rintro e w1 ⟨rfl, x1⟩; unfold geomV)
    | (go_at_call 39; refine (HH.out _).mono ?_; rintro e w2 ⟨rfl, x2⟩))
  have o3 : (w2.alloc (.cells #[.string (str H)] 9)).ownsRow w.heap.size 9 1 (.slice (some ⟨w2.heap.size, 0, none⟩) 1 1) 1 (strL (bareV 0)) := by
    rw [← H0.out]; exact World.ownsRow_lit w2 #[.string (str H)] 1 (((x1.alloc _).trans x2).size) (by decide) rfl
  have x3 := ((x1.alloc _).trans x2).alloc (.cells #[.string (str H)] 9)
  have b3 := ((Box.new w1 66 #[.int .i64 24, .int .i64 6, .int .i64 1, .int .i64 2, .int .i64 3, .int .i64 6]).ext x2).ext ((Ext.refl w2).alloc (.cells #[.string (str H)] 9))
  have hlt : w1.heap.size < w2.heap.size := by have := x2.size; simp at this; omega
  generalize w2.alloc (.cells #[.string (str H)] 9) = w3 at o3 x3 b3 ⊢
  generalize w2.heap.size = g2 at *
  generalize w1.heap.size = g1 at *
  clear x1 x2 HP HH H0
  go_loopw [8, 9] (fun u t wx => ∃ k : Nat, 1 ≤ k ∧ k ≤ 24 ∧ t = .int .i64 k ∧ Ext w wx ∧ wx.ownsRow w.heap.size 9 1 u k (strL (bareV (k - 1))) ∧ Box wx g1 66 #[.int .i64 24, .int .i64 6, .int .i64 1, .int .i64 2, .int .i64 3, .int .i64 6]) (fun _ t _ => 24 - (intOf t).toNat)
  case atStart => exact ⟨1, by omega, by omega, rfl, x3, o3, b3⟩
  case round =>
    obtain ⟨k, hk1, hk, rfl, xk, ok, bk⟩ := hrel
    have hxs := xk.size
    have hok := own_ext ok ((Ext.refl wr).alloc (.cells #[.string (str (zs 128))] 9))
    have hst := strs_new1 wr (zs 128)
    by_cases hlt : k < 24
    · have HB := Lib.hid (HS.out (k - 1))
      have hsz : w.heap.size ≤ (wr.alloc (.cells #[.string (str (zs 128))] 9)).heap.size := by simp; omega
      go_wp2_with (first
        | (go_at_call 34; refine (rzeros_any 128 _ (by omega)).mono ?_; rintro e w' ⟨rfl, rfl⟩)
        | (at_builtin; refine wp_app_strs w.heap.size rfl _ _ rfl rfl rfl hok hst (by omega) hsz (by omega) ?_; intro u' w4 own4 g4))
      have nk := own_ne ok bk (by decide)
      have x4 : Ext w w4 := (xk.alloc _).grown g4 (fun j e => own_low ok e)
      go_roundw
      case rel => exact ⟨k + 1, by omega, by omega, by go_num, x4, by rw [show k + 1 - 1 = k - 1 + 1 by omega, HB.out]; exact own4, (bk.ext ((Ext.refl wr).alloc _)).grown g4 nk⟩
      case measure => simp [intOf]; omega
    · obtain rfl : k = 24 := by omega
      rw [show 24 - 1 = 23 from rfl] at ok
      rw [show ((24 : Nat) : Int) = 24 from rfl]
      obtain ⟨g, cap, rfl, hgW, _⟩ := Strs.own' ok (by omega)
      have nk := own_ne ok bk (by decide)
      have hlen := HL.out 23
      have h2 := H2.out 21
      have l2 := zs_len 128
      generalize bareV 23 = B at *
      generalize zs 128 = z at *
      clear hok hst HS HL H2
      go_wp2_with fail
      go_loopw [10] (fun t wx => ∃ i : Nat, i ≤ 6 ∧ t = .int .i64 i ∧ Ext w wx ∧ wx.ownsRow w.heap.size 9 1 (.slice (some ⟨g, 0, none⟩) 24 cap) 24 (strL (B.set 2 (flips z i))) ∧ Box wx g1 66 #[.int .i64 24, .int .i64 6, .int .i64 1, .int .i64 2, .int .i64 3, .int .i64 6]) (fun t _ => 6 - (intOf t).toNat)
      case atStart =>
        refine ⟨0, by omega, rfl, xk, ?_, bk⟩
        rw [show B.set 2 (flips z 0) = B from ?_]
        · exact ok
        · rw [show flips z 0 = B[2]'(by omega) from ?_, List.set_getElem_self]
          rw [← h2, List.getD_eq_getElem?_getD, List.getElem?_eq_getElem (by omega)]; rfl
      case round =>
        obtain ⟨i, hi, rfl, xi, oi, bi⟩ := hrel
        have d5 : wr.cell? ⟨g1, 5, none⟩ = some (.int .i64 6) := bi.cell 5
        have d2 : wr.cell? ⟨g, 2, none⟩ = some (.string (str (flips z i))) := (oi.cellAt 2 (by omega)).trans (by simp [strL, hlen])
        by_cases hlt : i < 6
        · go_wp2_with fail
          refine (HR.out i (by omega) _).mono ?_
          rintro e w5 ⟨rfl, x5⟩
          have o5 := own_ext oi x5
          have e2 := x5.keep d2
          have kf := o5.frozenAt 2
          go_wp2_with fail
          go_roundw
          case rel =>
            refine ⟨i + 1, by omega, by go_num, (xi.trans x5).setCell hgW _, ?_, ?_⟩
            · have hs := (o5.stored 2 (.string (str (flipL (flips z i) i)))).1
              rw [hn.out, show strL (B.set 2 (flipL (flips z i) i)) = (strL (B.set 2 (flips z i))).set 2 (.string (str (flipL (flips z i) i))) by simp [strL, List.map_set]]
              exact hs
            · exact (bi.ext x5).grown (o5.stored 2 _).2 nk
          case measure => simp [intOf]; omega
        · obtain rfl : i = 6 := by omega
          go_wp2_with fail
          go_ret2
          exact ⟨_, rfl, xi, by rw [HF.out]; exact oi⟩
end Go.Proofs.Ytmcoepkopfcbdaa
/- The document's inodes: word, two, within. -/
namespace Go.Proofs.Ytmcoepkopfcbdaa
open Go.RowKit

theorem fnum2 (s : List UInt8) (i : Nat) (h : i + 1 < s.length) : fnum s i 2 = (s[i].toNat : Int) + 256 * (s[i + 1].toNat : Int) := by
  unfold fnum
  rw [List.drop_eq_getElem_cons (by omega), List.drop_eq_getElem_cons (i := i + 1) (by omega)]
  simp only [List.take_succ_cons, List.take_zero, numL]; omega
set_option maxHeartbeats 400000 in
set_option maxRecDepth 100000 in
theorem rword_any (s : List UInt8) (i : Nat) (w : World) (h : i + 1 < s.length) (h2 : s.length ≤ 1000) :
    Calls Try.prog 59 #[.string (str s), .int .i64 i] w fun e w' => e = .returned (.int .i64 (fnum s i 2)) ∧ Ext w w' := by
  have hz := str_size
  have H := Lib.hid (fnum2 s i h)
  have t1 : (i : Int) < (s.length : Int) := by omega
  have t2 : (i : Int) + 1 < (s.length : Int) := by omega
  have t3 : ((i : Int) + 1).toNat = i + 1 := by omega
  have a0 : (str s)[i]'(by rw [str_size]; omega) = s[i] := rfl
  have a1 : (str s)[i + 1]'(by rw [str_size]; omega) = s[i + 1] := rfl
  have b0 := s[i].toNat_lt
  have b1 := s[i + 1].toNat_lt
  generalize s[i] = p at *
  generalize s[i + 1] = q at *
  have w0 : IntKind.i64.wrap (p.toNat : Int) = p.toNat := IntWalk.i64_in _ (by omega)
  have w1 : IntKind.i64.wrap (q.toNat : Int) = q.toNat := IntWalk.i64_in _ (by omega)
  go_enter Try.func59, Try.ntmps59
  go_wp2_with fail
  refine wp_region_later (by kernel_rfl) (by kernel_rfl) ?_
  repeat (go_big_quiet_step (fail))
  refine wpQuiet_nil ?_
  rintro w2 ⟨x, rfl⟩
  go_wp2_with fail
  go_ret
  exact ⟨by rw [H.out]; rfl, x.ext⟩
set_option maxHeartbeats 400000 in
theorem rwithin_any (n m : Int) (w : World) :
    Calls Try.prog 87 #[.int .i64 n, .int .i64 m] w fun e w' => e = .returned (.bool (decide (0 ≤ n ∧ n ≤ m))) ∧ w = w' := by
  by_cases h0 : 0 ≤ n
  · go_enter Try.func87, Try.ntmps87
    go_wp2_with fail
    go_ret
    exact ⟨ret_bool (by simp [h0]), rfl⟩
  · have h1 : decide (0 ≤ n) = false := by simpa using h0
    go_enter Try.func87, Try.ntmps87
    go_wp2_with fail
    go_ret
    exact ⟨ret_bool (by simp; try omega), rfl⟩
theorem conv_two (w : World) (x y : Int) : (convert 22 9 (.slice (some ⟨w.heap.size, 0, none⟩) 2 2)).run Try.prog (w.alloc (.cells #[.int .u8 x, .int .u8 y] 5)) = .ok (.string (str [b8 x, b8 y])) (w.alloc (.cells #[.int .u8 x, .int .u8 y] 5)) :=
  conv_row w [x, y] #[.int .u8 x, .int .u8 y] 5 2 2 rfl (fun i hi => by
    rcases (show i = 0 ∨ i = 1 by simp at hi; omega) with rfl | rfl <;> rfl)
set_option maxHeartbeats 400000 in
set_option maxRecDepth 100000 in
theorem rtwo_any (n : Int) (w : World) (h0 : 0 ≤ n) (h1 : n ≤ 65535) :
    Calls Try.prog 88 #[.int .i64 n] w fun e w' => e = .returned (.string (str (putL n 2))) ∧ Ext w w' := by
  have H := Lib.hid (show putL n 2 = [b8 (n % 256), b8 (n / 256 % 256)] from rfl)
  have k1 := conv_two w (n % 256) (n / 256 % 256)
  have u1 : IntKind.u8.wrap (n % 256) = n % 256 := by rw [IntKind.wrap_u8]; omega
  have u2 : IntKind.u8.wrap (n / 256 % 256) = n / 256 % 256 := by rw [IntKind.wrap_u8]; omega
  go_enter Try.func88, Try.ntmps88
  go_wp2_with fail
  go_ret
  exact ⟨by rw [H.out]; rfl, (Ext.refl _).alloc _⟩
end Go.Proofs.Ytmcoepkopfcbdaa
/- The document's inodes: Fits, Bytes. -/
namespace Go.Proofs.Ytmcoepkopfcbdaa
open Go.RowKit

/-- the twelve numbers of an inode that fits -/
structure FitI (k l o s d0 d1 d2 d3 d4 d5 n e : Int) : Prop where
  k : 0 ≤ k ∧ k ≤ 255
  o : 0 ≤ o ∧ o ≤ 255
  l : 0 ≤ l ∧ l ≤ 65535
  s : 0 ≤ s ∧ s ≤ 4294967295
  n : 0 ≤ n ∧ n ≤ 65535
  e : 0 ≤ e ∧ e ≤ 65535
  d0 : 0 ≤ d0 ∧ d0 ≤ 65535
  d1 : 0 ≤ d1 ∧ d1 ≤ 65535
  d2 : 0 ≤ d2 ∧ d2 ≤ 65535
  d3 : 0 ≤ d3 ∧ d3 ≤ 65535
  d4 : 0 ≤ d4 ∧ d4 ≤ 65535
  d5 : 0 ≤ d5 ∧ d5 ≤ 65535
theorem rwithin_yes (n m : Int) (w : World) (h : 0 ≤ n ∧ n ≤ m) :
    Calls Try.prog 87 #[.int .i64 n, .int .i64 m] w fun e w' => e = .returned (.bool true) ∧ w = w' := by
  refine (rwithin_any n m w).mono ?_
  rintro e w' ⟨rfl, rfl⟩
  exact ⟨by rw [decide_eq_true h], rfl⟩
set_option maxHeartbeats 1000000 in
set_option maxRecDepth 100000 in
theorem rfits_yes (k l o s d0 d1 d2 d3 d4 d5 n e : Int) (w : World) (h : FitI k l o s d0 d1 d2 d3 d4 d5 n e) :
    Calls Try.prog 61 #[inoV [k, l, o, s, d0, d1, d2, d3, d4, d5, n, e]] w fun r w' => r = .returned (.bool true) ∧ Ext w w' := by
  have H := Lib.hid h
  clear h
  show Calls _ _ #[.agg #[.int .i64 k, .int .i64 l, .int .i64 o, .int .i64 s, .int .i64 d0, .int .i64 d1, .int .i64 d2, .int .i64 d3, .int .i64 d4, .int .i64 d5, .int .i64 n, .int .i64 e]] _ _
  go_enter Try.func61, Try.ntmps61
  go_wp2_with (go_at_call 87; refine (rwithin_yes _ _ _ (by first | exact H.out.k | exact H.out.o | exact H.out.l | exact H.out.s | exact H.out.n | exact H.out.e | exact H.out.d0 | exact H.out.d1 | exact H.out.d2 | exact H.out.d3 | exact H.out.d4 | exact H.out.d5)).mono ?_; rintro e w' ⟨rfl, rfl⟩)
  refine wp_loop_rounds 7 ?_
  rw [rounds_succ]
  go_wp2_with (go_at_call 87; refine (rwithin_yes _ _ _ (by first | exact H.out.k | exact H.out.o | exact H.out.l | exact H.out.s | exact H.out.n | exact H.out.e | exact H.out.d0 | exact H.out.d1 | exact H.out.d2 | exact H.out.d3 | exact H.out.d4 | exact H.out.d5)).mono ?_; rintro e w' ⟨rfl, rfl⟩)
  rw [rounds_succ]
  go_wp2_with (go_at_call 87; refine (rwithin_yes _ _ _ (by first | exact H.out.k | exact H.out.o | exact H.out.l | exact H.out.s | exact H.out.n | exact H.out.e | exact H.out.d0 | exact H.out.d1 | exact H.out.d2 | exact H.out.d3 | exact H.out.d4 | exact H.out.d5)).mono ?_; rintro e w' ⟨rfl, rfl⟩)
  rw [rounds_succ]
  go_wp2_with (go_at_call 87; refine (rwithin_yes _ _ _ (by first | exact H.out.k | exact H.out.o | exact H.out.l | exact H.out.s | exact H.out.n | exact H.out.e | exact H.out.d0 | exact H.out.d1 | exact H.out.d2 | exact H.out.d3 | exact H.out.d4 | exact H.out.d5)).mono ?_; rintro e w' ⟨rfl, rfl⟩)
  rw [rounds_succ]
  go_wp2_with (go_at_call 87; refine (rwithin_yes _ _ _ (by first | exact H.out.k | exact H.out.o | exact H.out.l | exact H.out.s | exact H.out.n | exact H.out.e | exact H.out.d0 | exact H.out.d1 | exact H.out.d2 | exact H.out.d3 | exact H.out.d4 | exact H.out.d5)).mono ?_; rintro e w' ⟨rfl, rfl⟩)
  rw [rounds_succ]
  go_wp2_with (go_at_call 87; refine (rwithin_yes _ _ _ (by first | exact H.out.k | exact H.out.o | exact H.out.l | exact H.out.s | exact H.out.n | exact H.out.e | exact H.out.d0 | exact H.out.d1 | exact H.out.d2 | exact H.out.d3 | exact H.out.d4 | exact H.out.d5)).mono ?_; rintro e w' ⟨rfl, rfl⟩)
  rw [rounds_succ]
  go_wp2_with (go_at_call 87; refine (rwithin_yes _ _ _ (by first | exact H.out.k | exact H.out.o | exact H.out.l | exact H.out.s | exact H.out.n | exact H.out.e | exact H.out.d0 | exact H.out.d1 | exact H.out.d2 | exact H.out.d3 | exact H.out.d4 | exact H.out.d5)).mono ?_; rintro e w' ⟨rfl, rfl⟩)
  rw [rounds_succ]
  go_wp2_with (go_at_call 87; refine (rwithin_yes _ _ _ (by first | exact H.out.k | exact H.out.o | exact H.out.l | exact H.out.s | exact H.out.n | exact H.out.e | exact H.out.d0 | exact H.out.d1 | exact H.out.d2 | exact H.out.d3 | exact H.out.d4 | exact H.out.d5)).mono ?_; rintro e w' ⟨rfl, rfl⟩)
  go_ret
  exact ⟨rfl, (Ext.refl _).alloc _⟩
end Go.Proofs.Ytmcoepkopfcbdaa
/- A region that draws its order: one head operation (number m) may come at any time and yields new memory; those behind it in the list given read it; all others yield one value from every later world. One walk in the order GIVEN serves. -/
namespace Go.Proofs.Ytmcoepkopfcbdaa
open Go.RowKit

section
variable {P : Program} {ops : Array Oper} {md : Region.Mode} {w0 : World} {V : World → Value → Prop}

/-- the operations named may come in this order, each free of those that do not wait for it -/
def orderB (md : Region.Mode) (ops : Array Oper) (g n : Nat) : List Nat → Array Bool → Bool
  | [], s => Region.seqB md ops g n s
  | k :: ks, s => (decide (k < n) && (Region.ready md ops s).contains k && Region.free md ops s k) && orderB md ops g n ks (s.setIfInBounds k true)
/-- the same, up to the point where nothing but m may come -/
def orderM (md : Region.Mode) (ops : Array Oper) (g n m : Nat) (ks2 : List Nat) : List Nat → Array Bool → Bool
  | [], s => (Region.ready md ops s == [m]) && orderB md ops g n ks2 (s.setIfInBounds m true)
  | k :: ks, s => (decide (k < n) && decide (k ≠ m) && (Region.ready md ops s).contains k && Region.free md ops s k) && orderM md ops g n m ks2 ks (s.setIfInBounds k true)
/-- the operations of these numbers -/
def Named (ops : Array Oper) : List Nat → List Oper → Prop
  | [], l => l = []
  | k :: ks, l => ∃ o l', l = o :: l' ∧ ops[k]? = some o ∧ Named ops ks l'
def pickL (l : List Oper) (ks : List Nat) : List Oper := ks.filterMap fun k => l[k]?
theorem named_pick (l : List Oper) (ks : List Nat) (h : ks.all (fun k => decide (k < l.length)) = true) : Named l.toArray ks (pickL l ks) := by
  induction ks with
  | nil => rfl
  | cons k ks ih =>
    simp only [List.all_cons, Bool.and_eq_true, decide_eq_true_eq] at h
    refine ⟨l[k]'h.1, pickL l ks, ?_, by simp [h.1], ih h.2⟩
    simp [pickL, h.1]

theorem headQ_order {C : World → Prop} {n g : Nat} {Lq : Act → Prop} (hsel : Region.noSelect ops = true) (hs : Region.sinkB md ops n = true) (hc : Region.chainB md ops n = true) (hn : n < ops.size) :
    ∀ (ks : List Nat) (l : List Oper) (s : Array Bool) (a : Act), Named ops ks l → HeadInv md ops n s → orderB md ops g n ks s = true → wpQuiet P ops C Lq l a →
    headQ P md ops C n (fun s' a' => Region.seqB md ops g n s' = true ∧ Lq a') ks.length s a := by
  intro ks
  induction ks with
  | nil =>
    intro l s a hN _ hB h
    subst hN
    exact ⟨hB, h⟩
  | cons k ks ih =>
    intro l s a hN inv hB h
    obtain ⟨o, l', rfl, h0, hN'⟩ := hN
    simp only [orderB, Bool.and_eq_true, decide_eq_true_eq] at hB
    obtain ⟨⟨⟨hkn, hr⟩, hf⟩, hB'⟩ := hB
    have hr' : k ∈ Region.ready md ops s := by simpa using hr
    have hst : qOp P ops C k (wpQuiet P ops C Lq l') a := by unfold qOp; simp only [h0]; exact h
    obtain ⟨v, hy, hK⟩ := yieldsIn_of_qOp h0 hst
    exact headQ_first h0 (Region.noSelect_spec hsel) hs hc hn hkn (fun s' a' hL => seqB_ready hL.1) ks.length s a inv (Region.free_spec h0 hf) hr' hy
      (ih l' _ _ hN' (inv.set hr' hkn) hB' hK)
/-- the floating operation (number m) has not come yet -/
def pendM (P : Program) (md : Region.Mode) (ops : Array Oper) (w0 : World) (V : World → Value → Prop) (n m : Nat) (o0 : Oper) (L : Value → Array Bool → Act → Prop) : Nat → Array Bool → Act → Prop
  | 0, _, _ => False
  | f + 1, s, a => Region.ready md ops s ≠ [] ∧ ∀ i ∈ Region.ready md ops s, i < n ∧
      (i = m → looseAt P o0 a w0 V ∧ ∀ u, (∃ w, V w u) → headQ P md ops (cls w0 (fun w => V w u)) n (L u) f (s.setIfInBounds i true) (a.put o0.dst u)) ∧
      (i ≠ m → qOp P ops (cls w0 fun _ => True) i (pendM P md ops w0 V n m o0 L f (s.setIfInBounds i true)) a)

theorem any_of_pendM {n m g : Nat} {o0 : Oper} {L : Value → Array Bool → Act → Prop} {Q : Exit → Act → World → Prop} (h0 : ops[m]? = some o0) (hg0 : o0.guard = none)
    (hL : ∀ u s a w, cls w0 (fun w => V w u) w → L u s a → wpAny P md ops Q g s a w) :
    ∀ (f : Nat) (s : Array Bool) (a : Act) (w : World), Ext w0 w → pendM P md ops w0 V n m o0 L f s a → wpAny P md ops Q (f + g) s a w := by
  intro f
  induction f with
  | zero => intro s a w _ h; exact h.elim
  | succ f ih =>
    intro s a w hw h
    rw [show f + 1 + g = (f + g) + 1 by omega]
    refine ⟨fun h0 => absurd h0 h.1, fun i hi => ?_⟩
    obtain ⟨hin, h1, h2⟩ := h.2 i hi
    by_cases e : i = m
    · obtain ⟨hl, hd⟩ := h1 e
      have hi0 : ops[i]? = some o0 := by rw [e]; exact h0
      unfold wpOp
      simp only [hi0]
      have hwant : Region.wanted o0 (yielded ops a.tmps) = true := by simp [Region.wanted, hg0]
      rw [if_pos hwant]
      exact Or.inl (wp_of_loose hw hl fun u w' hx hv => any_of_headQ (hL u) f _ _ w' ⟨hx, hv⟩ (hd u ⟨w', hv⟩))
    · exact wpOp_of_qOp (C := cls w0 fun _ => True) ⟨hw, trivial⟩ (fun a' w' hw' h' => ih _ a' w' hw'.1 h') (h2 e)

theorem pendM_first {n m i : Nat} {oi o0 : Oper} {v : Value} {L : Value → Array Bool → Act → Prop} (hV : ∀ u w w', Ext w w' → V w u → V w' u) (h0 : ops[m]? = some o0)
    (hi : ops[i]? = some oi) (hsel : ∀ (j : Nat) (o : Oper) cs b, ops[j]? = some o → o.op ≠ .select cs b)
    (hs : Region.sinkB md ops n = true) (hc : Region.chainB md ops n = true) (hn : n < ops.size) (hin : i < n) (him : i ≠ m)
    (hdone : ∀ u s a, L u s a → ∀ j ∈ Region.ready md ops s, n ≤ j) :
    ∀ (f : Nat) (s : Array Bool) (a : Act), HeadInv md ops n s →
      (∀ j oj, ops[j]? = some oj → j ≠ i → s.getD j true = false → (∀ e ∈ oj.after, Region.binds md e = true → e.on ≠ i) → oi.apart ops oj = true) →
      i ∈ Region.ready md ops s → YC P ops w0 oi v a →
      pendM P md ops w0 V n m o0 L f (s.setIfInBounds i true) (a.put oi.dst v) → pendM P md ops w0 V n m o0 L (f + 1) s a := by
  intro f
  induction f with
  | zero => intro s a _ _ _ _ H; exact H.elim
  | succ f ih =>
    intro s a inv hfree hr hy H
    have hun := (mem_ready.1 hr).1
    refine ⟨List.ne_nil_of_mem hr, fun j hj => ?_⟩
    have hjn : j < n := Nat.lt_of_not_le fun h => absurd hj (tail_waits hs hc hn inv _ i rfl hin hun j h)
    obtain ⟨hjun, oj, hoj, hall⟩ := mem_ready.1 hj
    have hnot : j ≠ i → ∀ e ∈ oj.after, Region.binds md e = true → e.on ≠ i := fun _ e he hb heq => by
      have h1 := hall e he hb
      rw [heq, getD_both hun] at h1
      cases h1
    have hfree' : j ≠ i → ∀ k ok, ops[k]? = some ok → k ≠ i → (s.setIfInBounds j true).getD k true = false → (∀ e ∈ ok.after, Region.binds md e = true → e.on ≠ i) → oi.apart ops ok = true := fun _ k ok hk hki hu hno => by
      refine hfree k ok hk hki ?_ hno
      by_cases hjk : j = k
      · subst hjk; exact hjun
      · rw [getD_set_ne true hjk] at hu; exact hu
    refine ⟨hjn, fun e => ?_, fun e => ?_⟩
    · have hji : j ≠ i := fun e' => him (e' ▸ e)
      have hj0 : oj = o0 := Option.some.inj (by rw [← hoj, ← h0, e])
      subst hj0
      obtain ⟨k1, k2, k3⟩ := Oper.apart_spec (hfree j oj hoj hji hjun (hnot hji))
      obtain ⟨_, hq, _⟩ := H.2 j (ready_mono hj hji)
      obtain ⟨hl, hd⟩ := hq e
      refine ⟨fun x => ?_, fun u hu => ?_⟩
      · have := hl x
        rwa [execOp_put oj (fun cs b => hsel j oj cs b hoj) a oi.dst v k1] at this
      · have hy' : YC P ops w0 oi v (a.put oj.dst u) := hy.of_same (execOp_put oi (fun cs b => hsel i oi cs b hi) a oj.dst u k3) (wanted_put oi a oj.dst u k3)
        refine headQ_first hi hsel hs hc hn hin (hdone u) f (s.setIfInBounds j true) (a.put oj.dst u) (inv.set hj hjn) (hfree' hji) (ready_mono hr (Ne.symm hji)) (hy'.yields (hV u)) ?_
        rw [Array.setIfInBounds_comm _ _ hji, ← Act.put_comm a v u k2]
        exact hd u hu
    · by_cases hji : j = i
      · subst hji
        have : oj = oi := Option.some.inj (hoj.symm.trans hi)
        subst this
        exact (hy.yields (S := fun _ => True) (fun _ _ _ _ => trivial)).qOp hi H
      · have h2 := qOp_putC hoj (hfree j oj hoj hji hjun (hnot hji)) (fun cs b => hsel i oi cs b hi) (fun cs b => hsel j oj cs b hoj) hy ((H.2 j (ready_mono hj hji)).2.2 e)
        refine qOp_mono (fun a' h3 => ih (s.setIfInBounds j true) a' (inv.set hj hjn) (hfree' hji) (ready_mono hr (Ne.symm hji)) h3.1 ?_) h2
        rw [Array.setIfInBounds_comm _ _ hji]; exact h3.2


theorem pendM_order {n m g : Nat} {o0 : Oper} {T : Value → Act → Prop} (hV : ∀ u w w', Ext w w' → V w u → V w' u) (h0 : ops[m]? = some o0) (hmn : m < n)
    (hsel : Region.noSelect ops = true) (hs : Region.sinkB md ops n = true) (hc : Region.chainB md ops n = true) (hn : n < ops.size) (ks2 : List Nat) (l2 : List Oper) (hN2 : Named ops ks2 l2) :
    ∀ (ks : List Nat) (l : List Oper) (s : Array Bool) (a : Act), Named ops ks l → HeadInv md ops n s →
    orderM md ops g n m ks2 ks s = true → wpCalm P ops w0 (fun a => looseAt P o0 a w0 V ∧ ∀ u, (∃ w, V w u) → wpQuiet P ops (cls w0 fun w => V w u) (T u) l2 (a.put o0.dst u)) l a →
    pendM P md ops w0 V n m o0 (fun u s' a' => Region.seqB md ops g n s' = true ∧ T u a') (ks.length + 1 + ks2.length) s a := by
  intro ks
  induction ks with
  | nil =>
    intro l s a hN inv hB h
    subst hN
    simp only [orderM, Bool.and_eq_true, beq_iff_eq] at hB
    obtain ⟨hr, hB'⟩ := hB
    have hrm : m ∈ Region.ready md ops s := by rw [hr]; simp
    rw [show ([] : List Nat).length + 1 + ks2.length = ks2.length + 1 by simp; omega]
    refine ⟨by rw [hr]; simp, fun i hi => ?_⟩
    rw [hr, List.mem_singleton] at hi
    subst hi
    exact ⟨hmn, fun _ => ⟨h.1, fun u hu => headQ_order hsel hs hc hn ks2 l2 _ _ hN2 (inv.set hrm hmn) hB' (h.2 u hu)⟩, fun e => absurd rfl e⟩
  | cons k ks ih =>
    intro l s a hN inv hB h
    obtain ⟨o, l', rfl, h1, hN'⟩ := hN
    simp only [orderM, Bool.and_eq_true, decide_eq_true_eq] at hB
    obtain ⟨⟨⟨⟨hkn, hkm⟩, hr⟩, hf⟩, hB'⟩ := hB
    have hr' : k ∈ Region.ready md ops s := by simpa using hr
    obtain ⟨v, hy, hK⟩ := yc_of_calm h
    rw [show (k :: ks).length + 1 + ks2.length = (ks.length + 1 + ks2.length) + 1 by simp; omega]
    exact pendM_first hV h0 h1 (Region.noSelect_spec hsel) hs hc hn hkn hkm (fun u s' a' hL => seqB_ready hL.1) _ s a inv (Region.free_spec h1 hf) hr' hy
      (ih l' _ _ hN' (inv.set hr' hkn) hB' hK)

theorem wp_region_drift {id : Nat} {Q : Exit → Act → World → Prop} {a : Act} {w : World} {l : List Oper} (n m : Nat) (ks1 ks2 : List Nat) (V : World → Value → Prop) (hV : ∀ u w w', Ext w w' → V w u → V w' u) (o0 : Oper)
    (hm : P.follows .mixedOrders = true) (hsel : Region.noSelect l.toArray = true) (hs : Region.sinkB .any l.toArray n = true) (hc : Region.chainB .any l.toArray n = true) (hn : n < l.toArray.size) (hmn : m < n) (hlen : ks1.length + 1 + ks2.length = n)
    (hB : orderM .any l.toArray (l.toArray.size - n) n m ks2 ks1 (Array.replicate l.toArray.size false) = true) (h0 : l[m]? = some o0) (hg0 : o0.guard = none) (hN1 : ks1.all (fun k => decide (k < l.length)) = true) (hN2 : ks2.all (fun k => decide (k < l.length)) = true)
    (h : wpCalm P l.toArray w (fun a' => looseAt P o0 a' w V ∧ ∀ u, (∃ w, V w u) → wpQuiet P l.toArray (cls w fun w' => V w' u) (fun a'' => ∀ w', cls w (fun w' => V w' u) w' → wpList P l.toArray Q (l.drop n) a'' w') (pickL l ks2) (a'.put o0.dst u)) (pickL l ks1) a) : (Code.region id l.toArray true).wp P Q a w := by
  have hdl : (l.drop n).length = l.toArray.size - n := by simp
  have inv0 : HeadInv .any l.toArray n (Array.replicate l.toArray.size false) :=
    ⟨by simp, fun j oj _ hl => (by rw [getD_replicate_false] at hl; cases hl), fun t _ ht => getD_in (by simpa using ht) (getD_replicate_false _ _)⟩
  have H := pendM_order (md := .any) (g := l.toArray.size - n) hV (o0 := o0) (by simpa using h0) hmn hsel hs hc hn ks2 _ (named_pick l ks2 hN2) ks1 _ _ a (named_pick l ks1 hN1) inv0 hB h
  refine wp_region_any hm ?_
  have key := any_of_pendM (Q := Q) (g := l.toArray.size - n) (by simpa using h0) hg0 (fun u s a' w' hw' hL => by
    have := wpAny_of_seq (md := .any) (Q' := Q) (l.drop n) n s a' w' (fun j => by simp [List.getElem?_drop]) (by rw [hdl]; exact hL.1) (hL.2 w' hw')
    rwa [hdl] at this) _ _ _ _ ((Ext.refl w).drew) H
  rw [hlen, show n + (l.toArray.size - n) = l.toArray.size by omega] at key
  exact key
end
theorem wpCalm_plain {P : Program} {ops : Array Oper} {w0 : World} {Q : Act → Prop} {a : Act} {o : Oper} {rest : List Oper} (hg : o.guard = none) (v : Value) (h : ∀ x : Later w0, calmUpon P x.now v ((execOp a.eval o).run P x.now)) (hK : wpCalm P ops w0 Q rest (a.put o.dst v)) : wpCalm P ops w0 Q (o :: rest) a := by
  unfold wpCalm
  rw [if_pos (by simp [Region.wanted, hg])]
  exact ⟨v, h, hK⟩
theorem wpCalm_then {P : Program} {ops : Array Oper} {w0 : World} {Q : Act → Prop} {l : List Oper} {a : Act} (a1 : Act) (h1 : wpCalm P ops w0 (fun a' => a' = a1) l a) (h2 : Q a1) : wpCalm P ops w0 Q l a := by
  induction l generalizing a with
  | nil => rw [show a = a1 from h1]; exact h2
  | cons o l ih =>
    unfold wpCalm at h1 ⊢
    split
    · rename_i h
      rw [if_pos h] at h1
      obtain ⟨v, hv, hn⟩ := h1
      exact ⟨v, hv, ih hn⟩
    · rename_i h
      rw [if_neg h] at h1
      exact ih h1
theorem wpQuiet_plain {P : Program} {ops : Array Oper} {C : World → Prop} {Q : Act → Prop} {a : Act} {o : Oper} {rest : List Oper} (hg : o.guard = none) (v : Value) (h : ∀ w, C w → o.quietAt P a C w v) (hK : wpQuiet P ops C Q rest (a.put o.dst v)) : wpQuiet P ops C Q (o :: rest) a := by
  unfold wpQuiet
  rw [if_pos (by simp [Region.wanted, hg])]
  exact ⟨v, h, hK⟩
theorem wpQuiet_then {P : Program} {ops : Array Oper} {C : World → Prop} {Q : Act → Prop} {l : List Oper} {a : Act} (a1 : Act) (h1 : wpQuiet P ops C (fun a' => a' = a1) l a) (h2 : Q a1) : wpQuiet P ops C Q l a := by
  induction l generalizing a with
  | nil => rw [show a = a1 from h1]; exact h2
  | cons o l ih =>
    unfold wpQuiet at h1 ⊢
    split
    · rename_i h
      rw [if_pos h] at h1
      obtain ⟨v, hv, hn⟩ := h1
      exact ⟨v, hv, ih hn⟩
    · rename_i h
      rw [if_neg h] at h1
      exact ih h1
end Go.Proofs.Ytmcoepkopfcbdaa
/- The document's inodes: Bytes. -/
namespace Go.Proofs.Ytmcoepkopfcbdaa
open Go.RowKit

theorem conv_box2 (w : World) (g : Nat) (x y : Int) (h : Box w g 5 #[.int .u8 x, .int .u8 y]) : (convert 22 9 (.slice (some ⟨g, 0, none⟩) 2 2)).run Try.prog w = .ok (.string (str [b8 x, b8 y])) w := by
  refine run_convert_bytes_arg (P := Try.prog) _ 22 5 Try.underlying22 Try.underlying5 _ _ _ 2 [x, y] rfl (fun i hi => ?_) 9 Try.underlying9
  rcases (show i = 0 ∨ i = 1 by simp at hi; omega) with rfl | rfl
  · exact h.cell 0
  · exact h.cell 1
theorem keepA {W : World} {b o : Nat} {v : Value} (ob : Obj) (h : W.cell? ⟨b, o, none⟩ = some v) : (W.alloc ob).cell? ⟨b, o, none⟩ = some v := ((Ext.refl W).alloc ob).keep h
theorem keepAD {W : World} {b o : Nat} {v : Value} (ob : Obj) (h : W.cell? ⟨b, o, none⟩ = some v) : (W.alloc ob).drew.cell? ⟨b, o, none⟩ = some v := keepA ob h
theorem keepD {W : World} {p : Addr} {v : Value} (h : W.cell? p = some v) : W.drew.cell? p = some v := h
theorem putL4 (s : Int) (h : 0 ≤ s) : putL s 4 = putL (s % 65536) 2 ++ putL (s / 65536) 2 := by
  have e1 : s % 65536 % 256 = s % 256 := by omega
  have e2 : s % 65536 / 256 % 256 = s / 256 % 256 := by omega
  have e3 : s / 256 / 256 % 256 = s / 65536 % 256 := by omega
  have e4 : s / 256 / 256 / 256 % 256 = s / 65536 / 256 % 256 := by omega
  simp only [putL, e1, e2, e3, e4, List.cons_append, List.nil_append]
theorem inoB_parts (k l o s d0 d1 d2 d3 d4 d5 n e : Int) (h : FitI k l o s d0 d1 d2 d3 d4 d5 n e) :
    inoB [k, l, o, s, d0, d1, d2, d3, d4, d5, n, e] = [b8 k, b8 o] ++ putL l 2 ++ putL (s % 65536) 2 ++ putL (s / 65536) 2 ++ (putL d0 2 ++ (putL d1 2 ++ (putL d2 2 ++ (putL d3 2 ++ (putL d4 2 ++ (putL d5 2 ++ (putL n 2 ++ putL e 2))))))) := by
  have e1 : k % 256 = k := by have := h.k; omega
  have e2 : o % 256 = o := by have := h.o; omega
  show putL k 1 ++ (putL o 1 ++ (putL l 2 ++ (putL s 4 ++ (putL d0 2 ++ (putL d1 2 ++ (putL d2 2 ++ (putL d3 2 ++ (putL d4 2 ++ (putL d5 2 ++ (putL n 2 ++ (putL e 2 ++ []))))))))))) = _
  rw [putL4 s h.s.1, show putL k 1 = [b8 k] by simp [putL, e1], show putL o 1 = [b8 o] by simp [putL, e2], List.append_nil]
  simp only [List.append_assoc, List.cons_append, List.nil_append]
set_option maxHeartbeats 2000000 in
set_option maxRecDepth 100000 in
theorem rbytes_yes (k l o s d0 d1 d2 d3 d4 d5 n e : Int) (w : World) (h : FitI k l o s d0 d1 d2 d3 d4 d5 n e) :
    Calls Try.prog 62 #[inoV [k, l, o, s, d0, d1, d2, d3, d4, d5, n, e]] w fun r w' => r = .returned (.string (str (inoB [k, l, o, s, d0, d1, d2, d3, d4, d5, n, e] ++ zs 40))) ∧ Ext w w' := by
  have H := Lib.hid h
  have HB := Lib.hid (inoB_parts k l o s d0 d1 d2 d3 d4 d5 n e h)
  obtain ⟨hk0, hk1⟩ := h.k; obtain ⟨ho0, ho1⟩ := h.o; obtain ⟨hl0, hl1⟩ := h.l; obtain ⟨hs0, hs1⟩ := h.s
  clear h
  show Calls _ _ #[.agg #[.int .i64 k, .int .i64 l, .int .i64 o, .int .i64 s, .int .i64 d0, .int .i64 d1, .int .i64 d2, .int .i64 d3, .int .i64 d4, .int .i64 d5, .int .i64 n, .int .i64 e]] _ _
  have hap := str_app
  have tm : s.tmod 65536 = s % 65536 := Int.tmod_eq_emod_of_nonneg hs0
  have td : s.tdiv 65536 = s / 65536 := Int.tdiv_eq_ediv_of_nonneg hs0
  have T1 := Lib.hid (fun w => rtwo_any l w (by omega) (by omega))
  have T2 := Lib.hid (fun w => rtwo_any (s % 65536) w (by omega) (by omega))
  have T3 := Lib.hid (fun w => rtwo_any (s / 65536) w (by omega) (by omega))
  have u1 : IntKind.u8.wrap k = k := by rw [IntKind.wrap_u8]; omega
  have u2 : IntKind.u8.wrap o = o := by rw [IntKind.wrap_u8]; omega
  have u3 : IntKind.i64.wrap (s / 65536) = s / 65536 := IntWalk.i64_in _ (by omega)
  go_enter Try.func62, Try.ntmps62
  go_wp2_with fail
  have b1 := Box.new w 49 #[.int .i64 k, .int .i64 l, .int .i64 o, .int .i64 s, .int .i64 d0, .int .i64 d1, .int .i64 d2, .int .i64 d3, .int .i64 d4, .int .i64 d5, .int .i64 n, .int .i64 e]
  have x1 := (Ext.refl w).alloc (.cells #[.int .i64 k, .int .i64 l, .int .i64 o, .int .i64 s, .int .i64 d0, .int .i64 d1, .int .i64 d2, .int .i64 d3, .int .i64 d4, .int .i64 d5, .int .i64 n, .int .i64 e] 49)
  generalize w.alloc (.cells #[.int .i64 k, .int .i64 l, .int .i64 o, .int .i64 s, .int .i64 d0, .int .i64 d1, .int .i64 d2, .int .i64 d3, .int .i64 d4, .int .i64 d5, .int .i64 n, .int .i64 e] 49) = w1 at b1 x1 ⊢
  generalize w.heap.size = g at b1 ⊢
  have lp1 := putL_len l 2
  have lp2 := putL_len (s % 65536) 2
  have lp3 := putL_len (s / 65536) 2
  have hz := str_size
  generalize putL l 2 = p1 at *
  generalize putL (s % 65536) 2 = p2 at *
  generalize putL (s / 65536) 2 = p3 at *
  go_cut [3] (fun s3 wx => s3 = .string (str ([b8 k, b8 o] ++ p1 ++ p2 ++ p3)) ∧ Ext w1 wx)
  case first =>
    have c0 : w1.cell? ⟨g, 0, none⟩ = some (.int .i64 k) := b1.cell 0
    have c1 : w1.cell? ⟨g, 1, none⟩ = some (.int .i64 l) := b1.cell 1
    have c2 : w1.cell? ⟨g, 2, none⟩ = some (.int .i64 o) := b1.cell 2
    have c3 : w1.cell? ⟨g, 3, none⟩ = some (.int .i64 s) := b1.cell 3
    have q0 : ∀ x : Later w1, x.now.cell? ⟨g, 0, none⟩ = some (.int .i64 k) := fun x => x.ext.keep c0
    have q1 : ∀ x : Later w1, x.now.cell? ⟨g, 1, none⟩ = some (.int .i64 l) := fun x => x.ext.keep c1
    have q2 : ∀ x : Later w1, x.now.cell? ⟨g, 2, none⟩ = some (.int .i64 o) := fun x => x.ext.keep c2
    have q3 : ∀ x : Later w1, x.now.cell? ⟨g, 3, none⟩ = some (.int .i64 s) := fun x => x.ext.keep c3
    clear b1 c0 c1 c2 c3
    refine wp_region_drift 22 6 [0, 1, 2, 3, 4, 5, 8, 9, 10, 12, 13, 14, 15, 17, 18, 19, 20] [7, 11, 16, 21] (fun wx u => ∃ q, u = .slice (some ⟨q, 0, none⟩) 2 2 ∧ Box wx q 5 #[.int .u8 k, .int .u8 o]) (fun u wx wy xy hx => by obtain ⟨q, h1, h2⟩ := hx; exact ⟨q, h1, h2.ext xy⟩) _ (by kernel_rfl) (by kernel_rfl) (by kernel_rfl) (by kernel_rfl) (by decide) (by decide) rfl (by kernel_rfl) rfl rfl (by kernel_rfl) (by kernel_rfl) ?_
    simp only [pickL, List.filterMap_cons, List.filterMap_nil, List.getElem?_cons_succ, List.getElem?_cons_zero, List.drop_succ_cons, List.drop_zero]
    apply wpCalm_then
    case h1 =>
      repeat (refine wpCalm_plain rfl ?_ (fun x => ?_) ?_; rotate_left; (· (go_simp; (first | (with_reducible exact rfl) | (with_reducible exact T1.out _) | (with_reducible exact T2.out _) | (with_reducible exact T3.out _)))); (try dsimp only); (try simp only [Act.put, List.setIfInBounds_toArray, List.set_cons_zero, List.set_cons_succ]))
      exact wpCalm_nil rfl
    case h2 =>
      refine ⟨fun x => ?_, fun u hu => ?_⟩
      · go_simp
        exact ⟨(Ext.refl _).alloc _, Box.new _ _ _⟩
      · obtain ⟨_, q, rfl, _⟩ := hu
        try dsimp only
        simp only [Act.put, List.setIfInBounds_toArray, List.set_cons_zero, List.set_cons_succ]
        apply wpQuiet_then
        case h1 =>
          repeat (refine wpQuiet_plain rfl ?_ (fun wx hx => ?_) ?_; rotate_left; (· (obtain ⟨_, q', e, bx⟩ := hx; cases e; have hq := conv_box2 wx q k o bx; go_simp; (first | (with_reducible exact rfl)))); (try dsimp only); (try simp only [Act.put, List.setIfInBounds_toArray, List.set_cons_zero, List.set_cons_succ]))
          exact wpQuiet_nil rfl
        case h2 =>
          rintro wx ⟨xx, _⟩
          go_wp2_with fail
          go_meet
          exact ⟨by simp, xx⟩
  case rest =>
    obtain ⟨rfl, xc⟩ := hcut
    have bc := b1.ext xc
    have hA : ([b8 k, b8 o] ++ p1 ++ p2 ++ p3).length = 8 := by simp [lp1, lp2, lp3]
    generalize [b8 k, b8 o] ++ p1 ++ p2 ++ p3 = A0 at *
    have xw := x1.trans xc
    clear T1 T2 T3 b1 x1 xc lp1 lp2 lp3
    have D0 := Lib.hid (fun w => rtwo_any d0 w H.out.d0.1 H.out.d0.2)
    have l0 := putL_len d0 2
    generalize putL d0 2 = f0 at *
    have D1 := Lib.hid (fun w => rtwo_any d1 w H.out.d1.1 H.out.d1.2)
    have l1 := putL_len d1 2
    generalize putL d1 2 = f1 at *
    have D2 := Lib.hid (fun w => rtwo_any d2 w H.out.d2.1 H.out.d2.2)
    have l2 := putL_len d2 2
    generalize putL d2 2 = f2 at *
    have D3 := Lib.hid (fun w => rtwo_any d3 w H.out.d3.1 H.out.d3.2)
    have l3 := putL_len d3 2
    generalize putL d3 2 = f3 at *
    have D4 := Lib.hid (fun w => rtwo_any d4 w H.out.d4.1 H.out.d4.2)
    have l4 := putL_len d4 2
    generalize putL d4 2 = f4 at *
    have D5 := Lib.hid (fun w => rtwo_any d5 w H.out.d5.1 H.out.d5.2)
    have l5 := putL_len d5 2
    generalize putL d5 2 = f5 at *
    have DN := Lib.hid (fun w => rtwo_any n w H.out.n.1 H.out.n.2)
    have DE := Lib.hid (fun w => rtwo_any e w H.out.e.1 H.out.e.2)
    have ln := putL_len n 2
    have le := putL_len e 2
    generalize putL n 2 = fn at *
    generalize putL e 2 = fe at *
    go_wp2_with fail
    refine wp_loop_rounds 7 ?_
    have c0 : wc.cell? ⟨g, 4, none⟩ = some (.int .i64 d0) := bc.cell 4
    rw [rounds_succ]
    go_wp2_with (go_at_call 88; refine (D0.out _).mono ?_; rintro ee e0 ⟨rfl, y0⟩)
    have r0 := bc.ext y0
    have z0 := xw.trans y0
    clear bc xw c0 y0
    have c1 : e0.cell? ⟨g, 5, none⟩ = some (.int .i64 d1) := r0.cell 5
    rw [rounds_succ]
    go_wp2_with (go_at_call 88; refine (D1.out _).mono ?_; rintro ee e1 ⟨rfl, y1⟩)
    have r1 := r0.ext y1
    have z1 := z0.trans y1
    clear r0 z0 c1 y1
    have c2 : e1.cell? ⟨g, 6, none⟩ = some (.int .i64 d2) := r1.cell 6
    rw [rounds_succ]
    go_wp2_with (go_at_call 88; refine (D2.out _).mono ?_; rintro ee e2 ⟨rfl, y2⟩)
    have r2 := r1.ext y2
    have z2 := z1.trans y2
    clear r1 z1 c2 y2
    have c3 : e2.cell? ⟨g, 7, none⟩ = some (.int .i64 d3) := r2.cell 7
    rw [rounds_succ]
    go_wp2_with (go_at_call 88; refine (D3.out _).mono ?_; rintro ee e3 ⟨rfl, y3⟩)
    have r3 := r2.ext y3
    have z3 := z2.trans y3
    clear r2 z2 c3 y3
    have c4 : e3.cell? ⟨g, 8, none⟩ = some (.int .i64 d4) := r3.cell 8
    rw [rounds_succ]
    go_wp2_with (go_at_call 88; refine (D4.out _).mono ?_; rintro ee e4 ⟨rfl, y4⟩)
    have r4 := r3.ext y4
    have z4 := z3.trans y4
    clear r3 z3 c4 y4
    have c5 : e4.cell? ⟨g, 9, none⟩ = some (.int .i64 d5) := r4.cell 9
    rw [rounds_succ]
    go_wp2_with (go_at_call 88; refine (D5.out _).mono ?_; rintro ee e5 ⟨rfl, y5⟩)
    have r5 := r4.ext y5
    have z5 := z4.trans y5
    clear r4 z4 c5 y5
    rw [rounds_succ]
    go_wp2_with fail
    have q10 : ∀ x : Later e5, x.now.cell? ⟨g, 10, none⟩ = some (.int .i64 n) := fun x => (r5.ext x.ext).cell 10
    have q11 : ∀ x : Later e5, x.now.cell? ⟨g, 11, none⟩ = some (.int .i64 e) := fun x => (r5.ext x.ext).cell 11
    refine wp_region_later (by kernel_rfl) (by kernel_rfl) ?_
    repeat (go_big_quiet_step ((first | (with_reducible exact later_of (DN.out _)) | (with_reducible exact later_of (DE.out _)))))
    refine wpQuiet_nil ?_
    rintro w9 ⟨x9, rfl⟩
    have xF := z5.trans x9.ext
    clear q10 q11 r5 z5 DN DE
    have hBl : (A0 ++ (f0 ++ (f1 ++ (f2 ++ (f3 ++ (f4 ++ (f5 ++ (fn ++ fe)))))))).length = 24 := by simp [hA, l0, l1, l2, l3, l4, l5, ln, le]
    generalize A0 ++ (f0 ++ (f1 ++ (f2 ++ (f3 ++ (f4 ++ (f5 ++ (fn ++ fe))))))) = B at *
    have hk0 : (⟨#[0]⟩ : ByteArray) = str [0] := rfl
    go_wp2_with fail
    go_loop [3] (fun t => ∃ j : Nat, j ≤ 40 ∧ t = .string (str (B ++ zs j))) (fun t => 64 - sizeS t)
    case atStart => exact ⟨0, by omega, by rw [show zs 0 = [] from rfl, List.append_nil]⟩
    case round =>
      obtain ⟨j, hj, rfl⟩ := hrel
      have hl : (B ++ zs j).length = 24 + j := by rw [List.length_append, hBl, zs_len]
      have HZ := Lib.hid (show B ++ zs j ++ [0] = B ++ zs (j + 1) by rw [List.append_assoc, show zs (j + 1) = zs j ++ [0] from List.replicate_succ'])
      have HL := Lib.hid (show (B ++ zs (j + 1)).length = 24 + (j + 1) by rw [List.length_append, hBl, zs_len])
      have H40 := Lib.hid (fun (h : ¬ j < 40) => show B ++ zs j = B ++ zs 40 by rw [show j = 40 by omega])
      generalize B ++ zs j = Bj at *
      by_cases hlt : j < 40
      · go_wp2_with fail
        go_round
        case rel => exact ⟨j + 1, by omega, by rw [HZ.out]⟩
        case measure => rw [HZ.out]; simp [sizeS, str_size, hl, HL.out]; omega
      · go_wp2_with fail
        go_ret
        exact ⟨by rw [HB.out, ← H40.out hlt]; rfl, xF⟩
end Go.Proofs.Ytmcoepkopfcbdaa
