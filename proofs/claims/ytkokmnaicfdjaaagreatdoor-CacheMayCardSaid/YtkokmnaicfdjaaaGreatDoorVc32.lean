/- geom.Of at any blocks. -/
import Derived.Test.YtkokmnaicfdjaaaGreatDoorVc8
import Derived.Test.YtkokmnaicfdjaaaGreatDoorVc13
namespace Go.Proofs.YtkokmnaicfdjaaaGreatDoor
set_option linter.unusedVariables false
set_option linter.unusedSimpArgs false
open Go.RowKit

set_option maxHeartbeats 400000 in
theorem plan_all (B I : Int) : ∃ a0 a1 a2 a3 a4 a5 n : Int, (∀ w, Calls Tryz.prog 86 #[.int .i64 B, .int .i64 I] w fun e w' => e = .returned (.tuple #[.agg #[.int .i64 a0, .int .i64 a1, .int .i64 a2, .int .i64 a3, .int .i64 a4, .int .i64 a5], .int .i64 n]) ∧ Ext w w') ∧
    ((n = 0 ∧ planB B I = true ∧ a0 = B ∧ a1 = I ∧ a2 = 1 ∧ a3 = 2 ∧ a4 = 3 ∧ a5 = 3 + (I + 1) / 2) ∨ ((n = 2 ∨ n = 10) ∧ planB B I = false)) := by
  cases h : planB B I with
  | true => exact ⟨B, I, 1, 2, 3, _, 0, fun w => plan_yes B I w h, .inl ⟨rfl, rfl, rfl, rfl, rfl, rfl, rfl, rfl⟩⟩
  | false =>
    have hp : B < 16 ∨ 223 < B ∨ (16 ≤ B ∧ B ≤ 223 ∧ I < 4) ∨ (16 ≤ B ∧ B ≤ 223 ∧ 64 < I) ∨ (16 ≤ B ∧ B ≤ 223 ∧ 4 ≤ I ∧ I ≤ 64 ∧ B ≤ 3 + (I + 1) / 2) := by
      have : ¬ (16 ≤ B ∧ B ≤ 223 ∧ 4 ≤ I ∧ I ≤ 64 ∧ 3 + (I + 1) / 2 < B) := by simpa [planB] using h
      omega
    clear h
    rcases hp with hp | hp | hp | hp | hp
    case' inr.inr.inr.inr =>
      refine ⟨0, 0, 0, 0, 0, 0, 10, fun w => ?_, .inr ⟨.inr rfl, rfl⟩⟩
      go_enter Tryz.func86, Tryz.ntmps86
      go_wp2_with fail
      exact bodyPost_ret (v := .tuple #[noGeom, .int .i64 10]) (by simp [results, Tryz.results86, go_sem, noGeom]) rfl ⟨rfl, (Ext.refl _).alloc _⟩
    all_goals
      refine ⟨0, 0, 0, 0, 0, 0, 2, fun w => ?_, .inr ⟨.inl rfl, rfl⟩⟩
      go_enter Tryz.func86, Tryz.ntmps86
      go_wp2_with fail
      exact bodyPost_ret (v := .tuple #[noGeom, .int .i64 2]) (by simp [results, Tryz.results86, go_sem, noGeom]) rfl ⟨rfl, (Ext.refl _).alloc _⟩
set_option maxHeartbeats 4000000 in
set_option maxRecDepth 100000 in
theorem gof_any (A : Option Addr) (n c : Nat) (v : List (List UInt8)) (w : World) (hv : Strs w A n v) (hnk : n ≤ 9223372036854775807) :
    Calls Tryz.prog 39 #[.slice A n c] w fun e w' => OfR v e ∧ Ext w w' := by
  obtain ⟨rfl, hv2⟩ := hv
  have hz := str_size
  have r0 : Box (w.alloc (.cells #[.int .i64 0, .int .i64 0, .int .i64 0, .int .i64 0, .int .i64 0, .int .i64 0] 88)) w.heap.size 88 (intVals [0, 0, 0, 0, 0, 0]) := Box.new _ _ _
  have x0 : Ext w (w.alloc (.cells #[.int .i64 0, .int .i64 0, .int .i64 0, .int .i64 0, .int .i64 0, .int .i64 0] 88)) := (Ext.refl _).alloc _
  go_enter Tryz.func39, Tryz.ntmps39
  go_wp2_with fail
  generalize w.alloc (.cells #[.int .i64 0, .int .i64 0, .int .i64 0, .int .i64 0, .int .i64 0, .int .i64 0] 88) = w1 at *
  have x1 := x0
  have r1 := r0
  clear x0 r0
  go_loop [5, 12] (fun _ i => ∃ k : Nat, k ≤ v.length ∧ i = .int .i64 k ∧ ∀ (j : Nat) (h : j < v.length), j < k → v[j].length = 128) (fun _ i => v.length - (intOf i).toNat)
  case atStart => exact ⟨0, by omega, rfl, fun j h hk => by omega⟩
  case round =>
    obtain ⟨k, hk, rfl, hal⟩ := hrel
    have HAL := Lib.hid hal
    clear hal
    by_cases hlt2 : k < v.length
    · obtain ⟨b, o, rfl, hcell⟩ := hv2 (by omega)
      have hck : w1.cell? ⟨b, o + k, none⟩ = some (.string (str v[k])) := x1.keep (hcell k hlt2)
      by_cases hl : v[k].length = 128
      · have HN := Lib.hid (show ∀ (j : Nat) (h : j < v.length), j < k + 1 → v[j].length = 128 from fun j h hj => by
          by_cases e : j < k
          · exact HAL.out j h e
          · obtain rfl : j = k := by omega
            exact hl)
        have hlk : ((v[k].length : Int) != 128) = false := by rw [hl]; rfl
        clear hl hcell
        generalize v[k] = s at *
        go_wp2_with fail
        go_round
        case rel => exact ⟨k + 1, by omega, by go_num, HN.out⟩
        case measure => simp [intOf]; omega
      · have hlk : ((v[k].length : Int) != 128) = true := by simp; omega
        clear hl hcell
        generalize v[k] = s at *
        go_wp2_with (refine wp_st_geom (.tmp 2) (.tmp 19) rfl rfl w.heap.size [0, 0, 0, 0, 0, 0] [0, 0, 0, 0, 0, 0] 88 rfl rfl r1 rfl rfl ?_; intro w6 b6 g6)
        have xF := (x1).grown g6 (fun k e => by cases e; exact Nat.le_refl _)
        exact bodyPost_ret (v := .tuple #[noGeom, .int .i64 3]) (results_cell2 Tryz.results39 _ _ _ _ _ _ _ rfl rfl b6 Tryz.underlying88 rfl geomSize) rfl ⟨.inr rfl, xF⟩
    · obtain rfl : k = v.length := by omega
      have HALL := Lib.hid (fun (j : Nat) (h : j < v.length) => HAL.out j h h)
      clear HAL
      by_cases h16 : v.length < 16
      · have d16 : decide ((v.length : Int) < 16) = true := decide_eq_true (by omega)
        go_wp2_with (refine wp_st_geom (.tmp 2) (.tmp 24) rfl rfl w.heap.size [0, 0, 0, 0, 0, 0] [0, 0, 0, 0, 0, 0] 88 rfl rfl r1 rfl rfl ?_; intro w6 b6 g6)
        have xF := (x1).grown g6 (fun k e => by cases e; exact Nat.le_refl _)
        exact bodyPost_ret (v := .tuple #[noGeom, .int .i64 3]) (results_cell2 Tryz.results39 _ _ _ _ _ _ _ rfl rfl b6 Tryz.underlying88 rfl geomSize) rfl ⟨.inr rfl, xF⟩
      · have d16 : decide ((v.length : Int) < 16) = false := decide_eq_false (by omega)
        obtain ⟨b, o, rfl, hcell⟩ := hv2 (by omega)
        have c0 : w1.cell? ⟨b, o, none⟩ = some (.string (str (v.getD 0 []))) := by
          have := x1.keep (hcell 0 (by omega))
          rw [List.getD_eq_getElem?_getD, List.getElem?_eq_getElem (by omega)]; exact this
        have c0v : ∀ wx, Ext w wx → wx.cell? ⟨b, o, none⟩ = some (.string (str (v.getD 0 []))) := fun wx xx => by
          have := xx.keep (hcell 0 (by omega))
          rw [List.getD_eq_getElem?_getD, List.getElem?_eq_getElem (by omega)]; exact this
        have c2v : ∀ wx, Ext w wx → wx.cell? ⟨b, o + 2, none⟩ = some (.string (str (v.getD 2 []))) := fun wx xx => by
          have := xx.keep (hcell 2 (by omega))
          rw [List.getD_eq_getElem?_getD, List.getElem?_eq_getElem (by omega)]; exact this
        have hb : b < w.heap.size := World.block_lt_of_cell? w _ (hcell 0 (by omega))
        have C0 := Lib.hid c0v
        have C2 := Lib.hid c2v
        have l0 : (v.getD 0 []).length = 128 := by rw [List.getD_eq_getElem?_getD, List.getElem?_eq_getElem (by omega)]; exact HALL.out 0 (by omega)
        have l2 : (v.getD 2 []).length = 128 := by rw [List.getD_eq_getElem?_getD, List.getElem?_eq_getElem (by omega)]; exact HALL.out 2 (by omega)
        clear c0v c2v hcell hv2
        obtain ⟨p, q, hpq⟩ := len2 (l := ((v.getD 0 []).drop 4).take 2) (by rw [List.length_take, List.length_drop]; omega)
        obtain ⟨r, s, hrs⟩ := len2 (l := ((v.getD 0 []).drop 6).take 2) (by rw [List.length_take, List.length_drop]; omega)
        have e46 : (str (v.getD 0 [])).extract 4 6 = str [p, q] := by rw [str_ext]; exact congrArg str hpq
        have e68 : (str (v.getD 0 [])).extract 6 8 = str [r, s] := by rw [str_ext]; exact congrArg str hrs
        clear hpq hrs
        have pb := p.toNat_lt
        have qb := q.toNat_lt
        have rb := r.toNat_lt
        have sb := s.toNat_lt
        obtain ⟨B, hB⟩ : ∃ B : Int, (p.toNat : Int) + 256 * q.toNat = B := ⟨_, rfl⟩
        obtain ⟨I, hI⟩ : ∃ I : Int, (r.toNat : Int) + 256 * s.toNat = I := ⟨_, rfl⟩
        have GB := Lib.hid (fun w => get2_at p q B w hB)
        have GI := Lib.hid (fun w => get2_at r s I w hI)
        have wB : IntKind.i64.wrap B = B := by rw [IntKind.wrap_i64]; omega
        have wI : IntKind.i64.wrap I = I := by rw [IntKind.wrap_i64]; omega
        clear hB hI pb qb rb sb
        have zH : (str (v.getD 0 [])).size = 128 := by rw [str_size, l0]
        have hn0 : 0 < v.length := by omega
        have hn1 : (0 : Int) < (v.length : Int) := by omega
        obtain ⟨a0, a1, a2, a3, a4, a5, pn, hPl, hpl⟩ := plan_all B I
        have HPl := Lib.hid hPl
        have HPc := Lib.hid hpl
        clear hPl hpl
        obtain ⟨H, hH⟩ : ∃ H, H = v.getD 0 [] := ⟨_, rfl⟩
        rw [← hH] at c0 e46 e68 zH l0 C0
        have HHH := Lib.hid hH
        clear hH hz
        go_wp2_with fail
        go_cut [6, 7] (fun s6 s7 wx => ∃ g : Nat, s6 = .pointer (some ⟨g, 0, none⟩) ∧ s7 = .int .i64 pn ∧ w1.heap.size ≤ g ∧ Ext w1 wx ∧ Box wx g 88 #[.int .i64 a0, .int .i64 a1, .int .i64 a2, .int .i64 a3, .int .i64 a4, .int .i64 a5])
        case first =>
          have hb1 : b < w1.heap.size := Nat.lt_of_lt_of_le hb x1.size
          have cA : (w1.alloc (.cells #[.int .i64 0, .int .i64 0, .int .i64 0, .int .i64 0, .int .i64 0, .int .i64 0] 88)).cell? ⟨b, o, none⟩ = some (.string (str H)) := Ext.keep ((Ext.refl _).alloc _) c0
          have bne : ¬ b = w1.heap.size := by omega
          have bne' : ¬ w1.heap.size = b := by omega
          clear C0 C2 HALL r1
          go_region_held3 (fun w' => w'.cell? ⟨b, o, none⟩ = some (.string (str H)))
            (first | (with_reducible exact c0) | (with_reducible exact cB) | (with_reducible exact cA) | (with_reducible exact Ext.keep ((Ext.refl _).alloc _) cB) | go_keep) (first
            | (go_at_call_of 87 (str [p, q]); refine (GB.out _).mono ?_; rintro e w' ⟨rfl, rfl⟩)
            | (go_at_call_of 87 (str [r, s]); refine (GI.out _).mono ?_; rintro e w' ⟨rfl, rfl⟩)
            | (go_at_call 86; (with_reducible refine (HPl.out (World.drew (World.alloc w1 _))).mono ?_); rintro e w' ⟨rfl, hgp⟩; have HX := Lib.hid (((Ext.refl w1).alloc _).trans (Ext.undrew hgp)); have cB := Ext.keep hgp (show (World.drew (World.alloc w1 _)).cell? ⟨b, o, none⟩ = some (.string (str H)) from Ext.keep ((Ext.refl _).alloc _) c0); have bx := Box.ext (Box.new w1 88 #[.int .i64 0, .int .i64 0, .int .i64 0, .int .i64 0, .int .i64 0, .int .i64 0]) (Ext.undrew hgp); have y0 := bx.cell 0; have f0 := bx.frozen 0; have y1 := bx.cell 1; have f1 := bx.frozen 1; have y2 := bx.cell 2; have f2 := bx.frozen 2; have y3 := bx.cell 3; have f3 := bx.frozen 3; have y4 := bx.cell 4; have f4 := bx.frozen 4; have y5 := bx.cell 5; have f5 := bx.frozen 5; have BX := Lib.hid bx; clear bx; simp only [List.getElem?_toArray, List.getElem?_cons_zero, List.getElem?_cons_succ] at y0 y1 y2 y3 y4 y5)
            | (go_at_call 86; refine (HPl.out _).mono ?_; rintro e w' ⟨rfl, hgp⟩; have HX := Lib.hid (Ext.undrew hgp); have cB := Ext.keep hgp (show (World.drew w1).cell? ⟨b, o, none⟩ = some (.string (str H)) from c0)))
          · go_wp2_with fail
            go_meet
            exact ⟨w'.heap.size, rfl, rfl, HX.out.size, HX.out.alloc _, Box.new _ _ _⟩
          all_goals
            go_wp2_with fail
            go_meet
            refine ⟨w1.heap.size, rfl, rfl, Nat.le_refl _, ?_, ?_⟩
            · exact (((((HX.out.setCell (Nat.le_refl _) _).setCell (Nat.le_refl _) _).setCell (Nat.le_refl _) _).setCell (Nat.le_refl _) _).setCell (Nat.le_refl _) _).setCell (Nat.le_refl _) _
            · exact ((((((BX.out.set 0 _).set 1 _).set 2 _).set 3 _).set 4 _).set 5 _)
        case rest =>
          obtain ⟨g, rfl, rfl, hg6, xc, bc⟩ := hcut
          have xw := x1.trans xc
          have rc := r1.ext xc
          have c0' : ∀ x : Later wc, x.now.cell? ⟨b, o, none⟩ = some (.string (str H)) := fun x => C0.out _ (xw.trans x.ext)
          have q0 : ∀ x : Later wc, x.now.cell? ⟨g, 0, none⟩ = some (.int .i64 a0) := fun x => (bc.ext x.ext).cell 0
          have q1 : ∀ x : Later wc, x.now.cell? ⟨g, 1, none⟩ = some (.int .i64 a1) := fun x => (bc.ext x.ext).cell 1
          have q2 : ∀ x : Later wc, x.now.cell? ⟨g, 2, none⟩ = some (.int .i64 a2) := fun x => (bc.ext x.ext).cell 2
          have q3 : ∀ x : Later wc, x.now.cell? ⟨g, 3, none⟩ = some (.int .i64 a3) := fun x => (bc.ext x.ext).cell 3
          have q4 : ∀ x : Later wc, x.now.cell? ⟨g, 4, none⟩ = some (.int .i64 a4) := fun x => (bc.ext x.ext).cell 4
          have q5 : ∀ x : Later wc, x.now.cell? ⟨g, 5, none⟩ = some (.int .i64 a5) := fun x => (bc.ext x.ext).cell 5
          clear c0 e46 e68 wB wI d16 GB GI HPl hb
          rcases HPc.out with ⟨rfl, hp, e0, e1, rfl, rfl, rfl, e5⟩ | ⟨hpn, hp⟩
          · have e0' := e0.symm
            have e1' := e1.symm
            clear e0 e1
            subst e0' e1' e5
            have HP := Lib.hid hp
            clear hp
            by_cases hBl : B = (v.length : Int)
            · subst hBl
              have hpl2 := plan_bd HP.out
              have HF : ∀ w, Hid (Calls Tryz.prog 88 #[.agg #[.int .i64 v.length, .int .i64 I, .int .i64 1, .int .i64 2, .int .i64 3, .int .i64 (3 + (I + 1) / 2)]] w fun e w' => e = .returned (.string (str (headL v.length I))) ∧ Ext w w') := fun w => Lib.hid (first_any v.length I w HP.out)
              obtain ⟨HD, hHD⟩ : ∃ HD, HD = headL v.length I := ⟨_, rfl⟩
              rw [← hHD] at HF
              have HHD := Lib.hid hHD
              clear hHD
              by_cases hHe : H = HD
              · have HHe := Lib.hid hHe
                subst hHe
                go_wp2_with fail
                refine wp_region_later (by kernel_rfl) (by kernel_rfl) ?_
                repeat (go_big_quiet_step (exact later_of ((HF _).out)))
                refine wpQuiet_nil ?_
                rintro w5 ⟨x5, rfl⟩
                have xw5 := xw.trans x5.ext
                have r5 := rc.ext x5.ext
                have d0 := q0 x5; have d5 := q5 x5
                have b5 := bc.ext x5.ext
                have e2 := C2.out _ xw5
                clear q0 q1 q2 q3 q4 q5 c0' HF C0 C2 bc rc xw r1 x1 xc
                go_wp2_with fail
                go_loop [59] (fun t => ∃ m : Nat, m ≤ 1024 ∧ t = .int .i64 m ∧ ∀ i : Nat, i < m → ((i : Int) < 3 + (I + 1) / 2 → bitB (v.getD 2 []) i = true) ∧ (v.length ≤ i → bitB (v.getD 2 []) i = false)) (fun t => 1024 - (intOf t).toNat)
                case atStart => exact ⟨0, by omega, rfl, fun i hi => by omega⟩
                case round =>
                  obtain ⟨m, hm, rfl, hbits⟩ := hrel
                  have HBI := Lib.hid hbits
                  clear hbits
                  have HB := Lib.hid (fun (hm2 : m < 1024) w (h : w.cell? ⟨b, o + 2, none⟩ = some (.string (str (v.getD 2 [])))) => bit_any b o v.length c m (v.getD 2 []) w (by omega) h l2 hm2)
                  by_cases hm2 : m < 1024
                  · have HST := Lib.hid (show (((m : Int) < 3 + (I + 1) / 2 → bitB (v.getD 2 []) m = true) ∧ (v.length ≤ m → bitB (v.getD 2 []) m = false)) → ∀ i : Nat, i < m + 1 → ((i : Int) < 3 + (I + 1) / 2 → bitB (v.getD 2 []) i = true) ∧ (v.length ≤ i → bitB (v.getD 2 []) i = false) from fun h i hi => by
                      by_cases e : i < m
                      · exact HBI.out i e
                      · obtain rfl : i = m := by omega
                        exact h)
                    clear HBI
                    obtain ⟨bt, hbt⟩ : ∃ bt, bitB (v.getD 2 []) m = bt := ⟨_, rfl⟩
                    rw [hbt] at HST
                    have HBT := Lib.hid hbt
                    clear hbt
                    by_cases m1 : (m : Int) < 3 + (I + 1) / 2
                    · have m3' : ¬ (v.length : Int) ≤ m := by omega
                      have m3'' : decide ((v.length : Int) ≤ m) = false := by simpa using m3'
                      cases bt with
                      | true =>
                        go_wp2_with (go_at_call 89; refine (HB.out hm2 _ e2).mono ?_; rintro e w' ⟨rfl, rfl⟩; rw [HBT.out])
                        go_round
                        case rel => exact ⟨m + 1, by omega, by go_num, HST.out ⟨fun _ => by simp, fun h => by omega⟩⟩
                        case measure => simp [intOf]; omega
                      | false =>
                        go_wp2_with (first
                          | (go_at_call 89; refine (HB.out hm2 _ e2).mono ?_; rintro e w' ⟨rfl, rfl⟩; rw [HBT.out])
                          | (refine wp_st_geom (.tmp 2) (.tmp 82) rfl rfl w.heap.size [0, 0, 0, 0, 0, 0] [0, 0, 0, 0, 0, 0] 88 rfl rfl r5 rfl rfl ?_; intro w6 b6 g6))
                        have xF := xw5.grown g6 (fun k e => by cases e; exact Nat.le_refl _)
                        exact bodyPost_ret (v := .tuple #[noGeom, .int .i64 3]) (results_cell2 Tryz.results39 _ _ _ _ _ _ _ rfl rfl b6 Tryz.underlying88 rfl geomSize) rfl ⟨.inr rfl, xF⟩
                    · have m1' : decide ((m : Int) < 3 + (I + 1) / 2) = false := by simpa using m1
                      by_cases m3 : v.length ≤ m
                      · have m3' : (v.length : Int) ≤ m := by omega
                        cases bt with
                        | false =>
                          go_wp2_with (go_at_call 89; refine (HB.out hm2 _ e2).mono ?_; rintro e w' ⟨rfl, rfl⟩; rw [HBT.out])
                          go_round
                          case rel => exact ⟨m + 1, by omega, by go_num, HST.out ⟨fun h => by omega, fun _ => by simp⟩⟩
                          case measure => simp [intOf]; omega
                        | true =>
                          go_wp2_with (first
                            | (go_at_call 89; refine (HB.out hm2 _ e2).mono ?_; rintro e w' ⟨rfl, rfl⟩; rw [HBT.out])
                            | (refine wp_st_geom (.tmp 2) (.tmp 82) rfl rfl w.heap.size [0, 0, 0, 0, 0, 0] [0, 0, 0, 0, 0, 0] 88 rfl rfl r5 rfl rfl ?_; intro w6 b6 g6))
                          have xF := xw5.grown g6 (fun k e => by cases e; exact Nat.le_refl _)
                          exact bodyPost_ret (v := .tuple #[noGeom, .int .i64 3]) (results_cell2 Tryz.results39 _ _ _ _ _ _ _ rfl rfl b6 Tryz.underlying88 rfl geomSize) rfl ⟨.inr rfl, xF⟩
                      · have m3' : ¬ (v.length : Int) ≤ m := by omega
                        have m3'' : decide ((v.length : Int) ≤ m) = false := by simpa using m3'
                        go_wp2_with (go_at_call 89; refine (HB.out hm2 _ e2).mono ?_; rintro e w' ⟨rfl, rfl⟩)
                        go_round
                        case rel => exact ⟨m + 1, by omega, by go_num, HST.out ⟨fun h => by omega, fun h => by omega⟩⟩
                        case measure => simp [intOf]; omega
                  · obtain rfl : m = 1024 := by omega
                    have HG := Lib.hid (show Good v I from ⟨HALL.out, HP.out, by rw [← HHH.out, ← HHD.out], fun i hi => (HBI.out i (by omega)).1 hi, fun i hi hl => (HBI.out i hi).2 hl⟩)
                    have b5' : Box x5.now g 88 (intVals [(v.length : Int), I, 1, 2, 3, 3 + (I + 1) / 2]) := b5
                    clear b5
                    go_wp2_with (first
                      | (refine wp_ld_geom (.tmp 6) rfl rfl g _ 88 rfl b5' rfl ?_)
                      | (refine wp_st_geom (.tmp 2) (.tmp 84) rfl rfl w.heap.size [(v.length : Int), I, 1, 2, 3, 3 + (I + 1) / 2] [0, 0, 0, 0, 0, 0] 88 rfl rfl r5 rfl rfl ?_; intro w6 b6 g6))
                    have xF := xw5.grown g6 (fun k e => by cases e; exact Nat.le_refl _)
                    exact bodyPost_ret (v := .tuple #[geomV v.length I, .int .i64 0]) (results_cell2 Tryz.results39 _ _ _ _ _ _ _ rfl rfl b6 Tryz.underlying88 rfl geomSize) rfl ⟨.inl ⟨I, HG.out, rfl⟩, xF⟩
              · have hne : ((str H).toList == (str HD).toList) = false := by rw [str_toList, str_toList]; simpa using hHe
                have hne2 : ((str H).toList != (str HD).toList) = true := by rw [bne, hne]; rfl
                clear hHe
                go_wp2_with fail
                refine wp_region_later (by kernel_rfl) (by kernel_rfl) ?_
                repeat (go_big_quiet_step (exact later_of ((HF _).out)))
                refine wpQuiet_nil ?_
                rintro w5 ⟨x5, rfl⟩
                have xw5 := xw.trans x5.ext
                have r5 := rc.ext x5.ext
                go_wp2_with (refine wp_st_geom (.tmp 2) (.tmp 58) rfl rfl w.heap.size [0, 0, 0, 0, 0, 0] [0, 0, 0, 0, 0, 0] 88 rfl rfl r5 rfl rfl ?_; intro w6 b6 g6)
                have xF := xw5.grown g6 (fun k e => by cases e; exact Nat.le_refl _)
                exact bodyPost_ret (v := .tuple #[noGeom, .int .i64 3]) (results_cell2 Tryz.results39 _ _ _ _ _ _ _ rfl rfl b6 Tryz.underlying88 rfl geomSize) rfl ⟨.inr rfl, xF⟩
            · have hbn : (B != (v.length : Int)) = true := by simpa using hBl
              clear hBl
              go_wp2_with fail
              refine wp_region_later (by kernel_rfl) (by kernel_rfl) ?_
              repeat (go_big_quiet_step (fail))
              refine wpQuiet_nil ?_
              rintro w5 ⟨x5, rfl⟩
              have xw5 := xw.trans x5.ext
              have r5 := rc.ext x5.ext
              go_wp2_with (refine wp_st_geom (.tmp 2) (.tmp 58) rfl rfl w.heap.size [0, 0, 0, 0, 0, 0] [0, 0, 0, 0, 0, 0] 88 rfl rfl r5 rfl rfl ?_; intro w6 b6 g6)
              have xF := xw5.grown g6 (fun k e => by cases e; exact Nat.le_refl _)
              exact bodyPost_ret (v := .tuple #[noGeom, .int .i64 3]) (results_cell2 Tryz.results39 _ _ _ _ _ _ _ rfl rfl b6 Tryz.underlying88 rfl geomSize) rfl ⟨.inr rfl, xF⟩
          · have hbn : (pn != 0) = true := by rcases hpn with rfl | rfl <;> rfl
            clear hpn
            go_wp2_with fail
            refine wp_region_later (by kernel_rfl) (by kernel_rfl) ?_
            repeat (go_big_quiet_step (fail))
            refine wpQuiet_nil ?_
            rintro w5 ⟨x5, rfl⟩
            have xw5 := xw.trans x5.ext
            have r5 := rc.ext x5.ext
            go_wp2_with (refine wp_st_geom (.tmp 2) (.tmp 58) rfl rfl w.heap.size [0, 0, 0, 0, 0, 0] [0, 0, 0, 0, 0, 0] 88 rfl rfl r5 rfl rfl ?_; intro w6 b6 g6)
            have xF := xw5.grown g6 (fun k e => by cases e; exact Nat.le_refl _)
            exact bodyPost_ret (v := .tuple #[noGeom, .int .i64 3]) (results_cell2 Tryz.results39 _ _ _ _ _ _ _ rfl rfl b6 Tryz.underlying88 rfl geomSize) rfl ⟨.inr rfl, xF⟩
end Go.Proofs.YtkokmnaicfdjaaaGreatDoor
