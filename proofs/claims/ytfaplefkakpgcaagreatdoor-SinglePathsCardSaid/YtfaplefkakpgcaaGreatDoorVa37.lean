/- The document's machines, point by point: Check tells that a machine may be. -/
import Derived.Test.YtfaplefkakpgcaaGreatDoorVa23
import Derived.Test.YtfaplefkakpgcaaGreatDoorVa30
import Derived.Test.YtfaplefkakpgcaaGreatDoorVa21
namespace Go.Proofs.YtfaplefkakpgcaaGreatDoor
set_option linter.unusedVariables false
set_option linter.unusedSimpArgs false
open Go.RowKit
def CheckS (m : Mac) (d : MacD) (e : Ending) : Prop := ∃ n : Int, e = .returned (.int .i64 n) ∧ (n = 0 → StateOk m d)
set_option maxHeartbeats 40000000 in
set_option maxRecDepth 100000 in
theorem rcheck_ok (m : Mac) (d : MacD) (w : World) (h : MacIn w m d) (hrn : m.pr.n ≤ 1000) (hpn : m.pi.n ≤ 1000) :
    Calls Tryz.prog 19 #[.agg m.cells] w fun e w' => CheckS m d e ∧ Ext w w' := by
  have HP := Lib.hid (fun y w h => rprocess_ok m d y w h hrn hpn)
  have HDI := Lib.hid (fun w h => rdisk_any m d w h)
  obtain ⟨hf1, hf2⟩ := h.fr.strs
  obtain ⟨hr1, hr2⟩ := h.pr
  obtain ⟨hi1, hi2⟩ := h.pi.wrs
  have hfk := h.frk.2.1
  have hrk := h.prk.2.1
  have hik := h.pik.2.1
  unfold maxLen at hfk hrk hik
  have HF1 := Lib.hid hf1
  have HR1 := Lib.hid hr1
  have HI1 := Lib.hid hi1
  have hz := str_size
  clear hf1 hr1 hi1
  go_enter Tryz.func19, Tryz.ntmps19
  go_upto_region 1 with fail
  have xa : Ext w (w.alloc (.cells m.cells 38)) := (Ext.refl _).alloc _
  have bm := Box.new w 38 m.cells
  generalize w.alloc (.cells m.cells 38) = w1 at *
  have HM := Lib.hid (h.ext xa)
  clear h
  obtain ⟨k0, k1, k2, k3, k4, k5, k6, k7, k8, k9, k10, k11, k12, k13, k14, k15, k16⟩ := mac_cells bm
  clear k0 k11 k12 k13 k14 k15 k16
  go_upto_region 2 with fail
  go_cut [56] (fun s wx => BvP s (NumsOk m) ∧ w1 = wx)
  case first =>
    clear k4 k5 k7 k8 k10
    go_wp2_with fail
    all_goals
      go_meet
      first
        | exact ⟨BvP.yes, rfl⟩
        | exact ⟨BvP.of fun h => by
            simp only [Bool.or_eq_false_iff, decide_eq_false_iff_not] at h
            exact ⟨by omega, by omega, by omega, by omega, by omega⟩, rfl⟩
  case rest =>
  obtain ⟨⟨b56, rfl, hb56⟩, rfl⟩ := hcut
  have HB56 := Lib.hid hb56
  clear hb56
  cases b56 with
  | true =>
    go_wp2_with fail
    go_ret
    exact ⟨⟨2, rfl, fun h => by omega⟩, xa⟩
  | false =>
  clear k1 k2 k3 k6 k9
  go_upto_region 4 with fail
  go_cut [66] (fun s wx => BvP s (1 ≤ m.fr.n ∧ m.fr.n ≤ 64) ∧ w1 = wx)
  case first =>
    go_wp2_with fail
    all_goals
      go_meet
      first
        | exact ⟨BvP.yes, rfl⟩
        | exact ⟨BvP.of fun h => by
            simp only [Bool.or_eq_false_iff, decide_eq_false_iff_not] at h
            omega, rfl⟩
  case rest =>
  obtain ⟨⟨b66, rfl, hb66⟩, rfl⟩ := hcut
  have HB66 := Lib.hid hb66
  clear hb66
  cases b66 with
  | true =>
    go_wp2_with fail
    go_ret
    exact ⟨⟨6, rfl, fun h => by omega⟩, xa⟩
  | false =>
  go_wp2_with fail
  obtain ⟨fl, hfl⟩ : ∃ x, x = d.fr := ⟨_, rfl⟩
  rw [← hfl] at hf2 HF1
  have HFL := Lib.hid hfl
  clear hfl
  generalize m.fr.A = fA at *
  go_loop [70] (fun i => ∃ j : Nat, j ≤ m.fr.n ∧ i = .int .i64 j ∧ ∀ b ∈ fl.take j, b.length = 128) (fun i => m.fr.n - (intOf i).toNat)
  case atStart => exact ⟨0, by omega, rfl, by simp⟩
  case round =>
    obtain ⟨j, hj, rfl, hall⟩ := hrel
    have HALL := Lib.hid hall
    clear hall
    by_cases hlt : j < m.fr.n
    · obtain ⟨b, o, rfl, hcell⟩ := hf2 (by omega)
      have c1 := xa.keep (hcell j (by rw [← HF1.out]; exact hlt))
      have HAN := Lib.hid (fun (h : (fl[j]'(by rw [← HF1.out]; exact hlt)).length = 128) => show ∀ b ∈ fl.take (j + 1), b.length = 128 from fun b hb => by
        rw [List.take_succ_eq_append_getElem (by rw [← HF1.out]; exact hlt)] at hb
        rcases List.mem_append.1 hb with hb | hb
        · exact HALL.out b hb
        · rw [List.mem_singleton.1 hb]; exact h)
      generalize fl[j]'(by rw [← HF1.out]; exact hlt) = s at *
      have hjn : (j : Int) < (m.fr.n : Int) := by omega
      clear hcell
      by_cases hl : s.length = 128
      · have hl' : ((s.length : Int) != 128) = false := by rw [hl]; rfl
        have HAM := Lib.hid (HAN.out hl)
        clear hl
        go_wp2_with fail
        go_round
        case rel => exact ⟨j + 1, by omega, by go_num, HAM.out⟩
        case measure => simp [intOf]; omega
      · have hl' : ((s.length : Int) != 128) = true := by simp; omega
        go_wp2_with fail
        go_ret
        exact ⟨⟨3, rfl, fun h => by omega⟩, xa⟩
    · obtain rfl : j = m.fr.n := by omega
      have HFA := Lib.hid (show ∀ b ∈ d.fr, b.length = 128 by
        have h := HALL.out
        rw [List.take_of_length_le (by rw [← HF1.out]; exact Nat.le_refl _), HFL.out] at h
        exact h)
      clear HALL
      by_cases h8 : 8 < m.pr.n
      · go_wp2_with fail
        go_ret
        exact ⟨⟨6, rfl, fun h => by omega⟩, xa⟩
      · go_wp2_with fail
        clear k4 k5 k7 k8 k10
        have HPL := Lib.hid (show ∀ k (h : k < d.pr.length), ProcsK m d k → ProcOk m d d.pr[k] → (0 < k → (d.pr[k - 1]'(by omega)).pid < d.pr[k].pid) → ProcsK m d (k + 1) from fun k h h1 h2 h3 i hi hik => by
          by_cases e : i < k
          · exact h1 i hi e
          · obtain rfl : i = k := by omega
            exact ⟨h2, h3⟩)
        obtain ⟨l, hll⟩ : ∃ x, x = d.pr := ⟨_, rfl⟩
        rw [← hll] at hr2 HR1
        have HLL := Lib.hid hll
        clear hll
        generalize hrA : m.pr.A = A at hr2 ⊢
        have HRA := Lib.hid hrA
        clear hrA
        go_loopw [85] (fun i wx => ∃ k : Nat, k ≤ m.pr.n ∧ i = .int .i64 k ∧ Ext w1 wx ∧ ProcsK m d k) (fun i _ => m.pr.n - (intOf i).toNat)
        case atStart => exact ⟨0, by omega, rfl, Ext.refl _, fun i h hk => by omega⟩
        case round =>
          obtain ⟨k, hk, rfl, xk, hprk⟩ := hrel
          have HPRK := Lib.hid hprk
          clear hprk
          by_cases hlt : k < m.pr.n
          · obtain ⟨b, o, rfl, hcell⟩ := hr2 (by omega)
            have hlk : k < l.length := by rw [← HR1.out]; exact hlt
            have r1 := range_ext (pr_range hcell hlk) (xa.trans xk)
            have e0 : 0 < k → wr.cell? ⟨b, o + (k - 1) * 96, none⟩ = some (.int .i64 (l[k - 1]'(by omega)).pid) := fun h => (xa.trans xk).keep (pr_range hcell (k := k - 1) (by omega) 0 _ rfl)
            clear hcell
            have hkn : (k : Int) < (m.pr.n : Int) := by omega
            have HNX := Lib.hid (show ProcOk m d l[k] → (0 < k → (l[k - 1]'(by omega)).pid < l[k].pid) → ProcsK m d (k + 1) from by
              have he := HLL.out
              subst he
              exact HPL.out k hlk HPRK.out)
            generalize l[k] = y at *
            generalize hprv : l[k - 1]'(by omega) = prv at *
            clear hprv
            go_upto_region 17 with (first
              | (refine wp_ld_pr (.tmp 88) rfl rfl b (o + k * 96) y rfl r1 ?_)
              | (refine wp_st_pr (.tmp 7) (.tmp 89) rfl rfl wr.heap.size y _ 57 rfl rfl (Box.new _ _ _) rfl ?_; intro w2 b2 g2))
            have z2 : Ext wr w2 := ((Ext.refl wr).alloc _).grown g2 (fun j e => by cases e; exact Nat.le_refl _)
            have x2 := xk.trans z2
            have c0 : ∀ x : Later w2, x.now.cell? ⟨wr.heap.size, 0, none⟩ = some (.int .i64 y.pid) := fun x => (b2.ext x.ext).cell 0
            have k5 : ∀ x : Later w2, x.now.cell? ⟨w.heap.size, 5, none⟩ = some (.slice (some ⟨b, o, none⟩) m.pr.n m.pr.c) := fun x => by rw [← HRA.out]; exact ((bm.ext x2).ext x.ext).cell 5
            have rm : ∀ wx, (∃ x : Later w2, wx = x.now) → wx.rangeAt w.heap.size 0 m.cells.toList := fun wx ⟨x, hx⟩ => by rw [hx]; exact mac_range ((bm.ext x2).ext x.ext)
            have rp : ∀ wx, (∃ x : Later w2, wx = x.now) → wx.rangeAt wr.heap.size 0 (prL y) := fun wx ⟨x, hx⟩ => by rw [hx]; exact pr_range0 (b2.ext x.ext)
            have RM := Lib.hid rm
            have RP := Lib.hid rp
            have HPC : ∀ x : Later w2, Hid (Calls Tryz.prog 51 #[.agg m.cells, .agg (prL y).toArray] x.now fun e w' => ProcR m d y e ∧ Ext x.now w') := fun x => Lib.hid (HP.out y _ (HM.out.ext (x2.trans x.ext)))
            clear r1 g2 rm rp
            have E0 : 0 < k → ∀ x : Later w2, x.now.cell? ⟨b, o + (k - 1) * 96, none⟩ = some (.int .i64 prv.pid) := fun h x => x.ext.keep (z2.keep (e0 h))
            clear e0
            by_cases n3 : 0 < k
            · have d3 : decide ((0 : Int) < (k : Int)) = true := by simp; omega
              have E0' := E0 n3
              clear E0
              have E0 := E0'
              clear E0'
              have kk1 : (k : Int) - 1 = ((k - 1 : Nat) : Int) := by omega
              have kk2 : IntKind.i64.wrap ((k : Int) - 1) = ((k - 1 : Nat) : Int) := by rw [IntKind.wrap_i64]; omega
              have kk3 : ((k - 1 : Nat) : Int) < (m.pr.n : Int) := by omega
              by_cases n4 : y.pid ≤ prv.pid
              · have d4 : decide (y.pid ≤ prv.pid) = true := decide_eq_true n4
                simp only [Act.put]
                refine wp_region_later_tail 17 (by kernel_rfl) (by kernel_rfl) ?_
                simp only [List.take_succ_cons, List.take_zero, List.drop_succ_cons, List.drop_zero]
                repeat (first
                  | (go_big_quiet_want; refine quiet_ld_mac (.tmp 1) rfl w.heap.size rfl m RM.out ?_; simp only [Act.put, List.setIfInBounds_toArray, List.set_cons_zero, List.set_cons_succ]; go_big_quiet_on)
                  | (go_big_quiet_want; refine quiet_ld_pr (.tmp 7) rfl wr.heap.size rfl y RP.out ?_; simp only [Act.put, List.setIfInBounds_toArray, List.set_cons_zero, List.set_cons_succ]; go_big_quiet_on)
                  | go_big_quiet_step (fail))
                refine wpQuiet_nil ?_
                rintro w3 ⟨x3, rfl⟩
                clear c0 k5 E0
                go_wp2_with fail
                go_ret
                exact ⟨⟨3, rfl, fun h => by omega⟩, (xa.trans x2).trans x3.ext⟩
              · have d4 : decide (y.pid ≤ prv.pid) = false := decide_eq_false n4
                simp only [Act.put]
                refine wp_region_later_tail 17 (by kernel_rfl) (by kernel_rfl) ?_
                simp only [List.take_succ_cons, List.take_zero, List.drop_succ_cons, List.drop_zero]
                repeat (first
                  | (go_big_quiet_want; refine quiet_ld_mac (.tmp 1) rfl w.heap.size rfl m RM.out ?_; simp only [Act.put, List.setIfInBounds_toArray, List.set_cons_zero, List.set_cons_succ]; go_big_quiet_on)
                  | (go_big_quiet_want; refine quiet_ld_pr (.tmp 7) rfl wr.heap.size rfl y RP.out ?_; simp only [Act.put, List.setIfInBounds_toArray, List.set_cons_zero, List.set_cons_succ]; go_big_quiet_on)
                  | go_big_quiet_step (fail))
                refine wpQuiet_nil ?_
                rintro w3 ⟨x3, rfl⟩
                clear c0 k5 E0
                have HLT := Lib.hid (show prv.pid < y.pid by omega)
                go_wp2_with (go_at_call 51; refine (HPC x3).out.mono ?_; rintro e w4 ⟨⟨b4, rfl, hb4⟩, x4⟩; have HB4 := Lib.hid hb4; clear hb4; rcases b4 with _ | _)
                · go_ret
                  exact ⟨⟨3, rfl, fun h => by omega⟩, ((xa.trans x2).trans x3.ext).trans x4⟩
                · go_roundw
                  case rel => exact ⟨k + 1, by omega, by go_num, (x2.trans x3.ext).trans x4, HNX.out (HB4.out (by first | rfl | trivial)) (fun _ => HLT.out)⟩
                  case measure => simp [intOf]; omega
            · have d3 : decide ((0 : Int) < (k : Int)) = false := by simp; omega
              simp only [Act.put]
              refine wp_region_later_tail 17 (by kernel_rfl) (by kernel_rfl) ?_
              simp only [List.take_succ_cons, List.take_zero, List.drop_succ_cons, List.drop_zero]
              repeat (first
                | (go_big_quiet_want; refine quiet_ld_mac (.tmp 1) rfl w.heap.size rfl m RM.out ?_; simp only [Act.put, List.setIfInBounds_toArray, List.set_cons_zero, List.set_cons_succ]; go_big_quiet_on)
                | (go_big_quiet_want; refine quiet_ld_pr (.tmp 7) rfl wr.heap.size rfl y RP.out ?_; simp only [Act.put, List.setIfInBounds_toArray, List.set_cons_zero, List.set_cons_succ]; go_big_quiet_on)
                | go_big_quiet_step (fail))
              refine wpQuiet_nil ?_
              rintro w3 ⟨x3, rfl⟩
              clear c0 k5 E0
              go_wp2_with (go_at_call 51; refine (HPC x3).out.mono ?_; rintro e w4 ⟨⟨b4, rfl, hb4⟩, x4⟩; have HB4 := Lib.hid hb4; clear hb4; rcases b4 with _ | _)
              · go_ret
                exact ⟨⟨3, rfl, fun h => by omega⟩, ((xa.trans x2).trans x3.ext).trans x4⟩
              · go_roundw
                case rel => exact ⟨k + 1, by omega, by go_num, (x2.trans x3.ext).trans x4, HNX.out (HB4.out (by first | rfl | trivial)) (fun h => absurd h n3)⟩
                case measure => simp [intOf]; omega
          · obtain rfl : k = m.pr.n := by omega
            have HPR := Lib.hid (show ProcsK m d d.pr.length by
              have h := HPRK.out
              rw [HR1.out, HLL.out] at h
              exact h)
            have HPN := Lib.hid (show m.pr.n ≤ 8 by omega)
            have q8 : wr.cell? ⟨w.heap.size, 8, none⟩ = some (.slice m.pi.A m.pi.n m.pi.c) := (bm.ext xk).cell 8
            by_cases h64 : 64 < m.pi.n
            · go_wp2_with fail
              go_ret
              exact ⟨⟨6, rfl, fun h => by omega⟩, xa.trans xk⟩
            · go_wp2_with fail
              clear q8
              generalize wr = w5 at *
              have HPL2 := Lib.hid (show ∀ k (h : k < d.pi.length), PipesK m d.pi k → (1 ≤ d.pi[k].1 ∧ d.pi[k].1 < m.newPipe ∧ d.pi[k].2.length ≤ 64) → (0 < k → (d.pi[k - 1]'(by omega)).1 < d.pi[k].1) → PipesK m d.pi (k + 1) from fun k h h1 h2 h3 i hi hik => by
                by_cases e : i < k
                · exact h1 i hi e
                · obtain rfl : i = k := by omega
                  exact ⟨h2.1, h2.2.1, h2.2.2, h3⟩)
              obtain ⟨pl, hpl⟩ : ∃ x, x = d.pi := ⟨_, rfl⟩
              rw [← hpl] at hi2 HI1
              have HPLe := Lib.hid hpl
              clear hpl
              go_loopw [118] (fun i wx => ∃ k : Nat, k ≤ m.pi.n ∧ i = .int .i64 k ∧ Ext w1 wx ∧ PipesK m d.pi k) (fun i _ => m.pi.n - (intOf i).toNat)
              case atStart => exact ⟨0, by omega, rfl, xk, fun i h hk => by omega⟩
              case round =>
                clear xk
                obtain ⟨k, hk, rfl, xk, hpik⟩ := hrel
                have HPIK := Lib.hid hpik
                clear hpik
                by_cases hlt : k < m.pi.n
                · obtain ⟨b, o, hA, hcell⟩ := hi2 (by omega)
                  have hlk : k < pl.length := by rw [← HI1.out]; exact hlt
                  have e1 := (xa.trans xk).keep (hcell k hlk).1
                  have e2 := (xa.trans xk).keep (hcell k hlk).2
                  have e0 : 0 < k → wr.cell? ⟨b, o + (k - 1) * 2, none⟩ = some (.int .i64 (pl[k - 1]'(by omega)).1) := fun h => (xa.trans xk).keep (hcell (k - 1) (by omega)).1
                  have r8 : wr.cell? ⟨w.heap.size, 8, none⟩ = some (.slice m.pi.A m.pi.n m.pi.c) := (bm.ext xk).cell 8
                  have r9 : wr.cell? ⟨w.heap.size, 9, none⟩ = some (.int .i64 m.newPipe) := (bm.ext xk).cell 9
                  rw [hA] at r8
                  clear hcell
                  have hkn : (k : Int) < (m.pi.n : Int) := by omega
                  have HNX2 := Lib.hid (show (1 ≤ pl[k].1 ∧ pl[k].1 < m.newPipe ∧ pl[k].2.length ≤ 64) → (0 < k → (pl[k - 1]'(by omega)).1 < pl[k].1) → PipesK m d.pi (k + 1) from by
                    have he := HPLe.out
                    subst he
                    exact HPL2.out k hlk HPIK.out)
                  generalize pl[k] = y at *
                  generalize hprv : pl[k - 1]'(by omega) = prv at *
                  clear hprv
                  go_upto_region 25 with fail
                  have E1 : (wr.alloc (.cells #[.int .i64 y.1, .string (str y.2)] 95)).cell? ⟨w.heap.size, 8, none⟩ = some (.slice (some ⟨b, o, none⟩) m.pi.n m.pi.c) := ((Ext.refl wr).alloc _).keep r8
                  have E9 : (wr.alloc (.cells #[.int .i64 y.1, .string (str y.2)] 95)).cell? ⟨w.heap.size, 9, none⟩ = some (.int .i64 m.newPipe) := ((Ext.refl wr).alloc _).keep r9
                  have E0 : 0 < k → (wr.alloc (.cells #[.int .i64 y.1, .string (str y.2)] 95)).cell? ⟨b, o + (k - 1) * 2, none⟩ = some (.int .i64 prv.1) := fun h => ((Ext.refl wr).alloc _).keep (e0 h)
                  clear e0 e1 e2 r8 r9
                  by_cases n0 : y.1 < 1
                  · have d0 : decide (y.1 < 1) = true := decide_eq_true n0
                    clear E0
                    go_quiet (fail)
                    go_wp2_with fail
                    go_ret
                    exact ⟨⟨3, rfl, fun h => by omega⟩, (xa.trans xk).trans (((Ext.refl wr).alloc _).drewN _)⟩
                  · have d0 : decide (y.1 < 1) = false := decide_eq_false n0
                    by_cases n1 : m.newPipe ≤ y.1
                    · have d1 : decide (m.newPipe ≤ y.1) = true := decide_eq_true n1
                      clear E0
                      go_quiet (fail)
                      go_wp2_with fail
                      go_ret
                      exact ⟨⟨3, rfl, fun h => by omega⟩, (xa.trans xk).trans (((Ext.refl wr).alloc _).drewN _)⟩
                    · have d1 : decide (m.newPipe ≤ y.1) = false := decide_eq_false n1
                      by_cases n3 : 0 < k
                      · have d3 : decide ((0 : Int) < (k : Int)) = true := by simp; omega
                        have E0' := E0 n3
                        have kk1 : (k : Int) - 1 = ((k - 1 : Nat) : Int) := by omega
                        have kk2 : IntKind.i64.wrap ((k : Int) - 1) = ((k - 1 : Nat) : Int) := by rw [IntKind.wrap_i64]; omega
                        have kk3 : ((k - 1 : Nat) : Int) < (m.pi.n : Int) := by omega
                        clear E0
                        by_cases n4 : y.1 ≤ prv.1
                        · have d4 : decide (y.1 ≤ prv.1) = true := decide_eq_true n4
                          go_quiet (fail)
                          go_wp2_with fail
                          go_ret
                          exact ⟨⟨3, rfl, fun h => by omega⟩, (xa.trans xk).trans (((Ext.refl wr).alloc _).drewN _)⟩
                        · have d4 : decide (y.1 ≤ prv.1) = false := decide_eq_false n4
                          by_cases n2 : 64 < y.2.length
                          · have d2 : decide (64 < (y.2.length : Int)) = true := by simp; omega
                            go_quiet (fail)
                            go_wp2_with fail
                            go_ret
                            exact ⟨⟨3, rfl, fun h => by omega⟩, (xa.trans xk).trans (((Ext.refl wr).alloc _).drewN _)⟩
                          · have d2 : decide (64 < (y.2.length : Int)) = false := by simp; omega
                            have HN2 := Lib.hid (HNX2.out ⟨by omega, by omega, by omega⟩ (fun _ => by omega))
                            go_quiet (fail)
                            go_wp2_with fail
                            go_roundw
                            case rel => exact ⟨k + 1, by omega, by go_num, (xk.alloc _).drewN _, HN2.out⟩
                            case measure => simp [intOf]; omega
                      · have d3 : decide ((0 : Int) < (k : Int)) = false := by simp; omega
                        clear E0
                        by_cases n2 : 64 < y.2.length
                        · have d2 : decide (64 < (y.2.length : Int)) = true := by simp; omega
                          go_quiet (fail)
                          go_wp2_with fail
                          go_ret
                          exact ⟨⟨3, rfl, fun h => by omega⟩, (xa.trans xk).trans (((Ext.refl wr).alloc _).drewN _)⟩
                        · have d2 : decide (64 < (y.2.length : Int)) = false := by simp; omega
                          have HN2 := Lib.hid (HNX2.out ⟨by omega, by omega, by omega⟩ (fun h => absurd h n3))
                          go_quiet (fail)
                          go_wp2_with fail
                          go_roundw
                          case rel => exact ⟨k + 1, by omega, by go_num, (xk.alloc _).drewN _, HN2.out⟩
                          case measure => simp [intOf]; omega
                · obtain rfl : k = m.pi.n := by omega
                  have HPI := Lib.hid (show PipesK m d.pi d.pi.length by
                    have h := HPIK.out
                    rw [HI1.out, HPLe.out] at h
                    exact h)
                  have HPIN := Lib.hid (show m.pi.n ≤ 64 by omega)
                  obtain ⟨k0, k1, k2, k3, k4, k5, k6, k7, k8, k9, k10, k11, k12, k13, k14, k15, k16⟩ := mac_cells (bm.ext xk)
                  have bmk := bm.ext xk
                  clear k0 k1 k2 k3 k4 k5 k6 k8 k9 k11 k12 k13 k14 k15 k16
                  go_upto_region 28 with fail
                  go_cut [165] (fun s wx => BvP s (m.inn.length ≤ 65536 ∧ m.init.length ≤ 128) ∧ wr = wx)
                  case first =>
                    go_wp2_with fail
                    all_goals
                      go_meet
                      first
                        | exact ⟨BvP.yes, rfl⟩
                        | exact ⟨BvP.of fun h => by
                            simp only [Bool.or_eq_false_iff, decide_eq_false_iff_not] at h
                            omega, rfl⟩
                  case rest =>
                    obtain ⟨⟨b165, rfl, hb165⟩, rfl⟩ := hcut
                    have HB165 := Lib.hid hb165
                    clear hb165
                    cases b165 with
                    | true =>
                      go_wp2_with fail
                      go_ret
                      exact ⟨⟨6, rfl, fun h => by omega⟩, xa.trans xk⟩
                    | false =>
                      clear k7 k10
                      go_wp2_with (first
                        | (refine wp_ld_mac (.tmp 1) rfl rfl w.heap.size _ 38 rfl bmk rfl ?_)
                        | (go_at_call 52; refine (HDI.out _ (HM.out.ext xk)).mono ?_; rintro e w6 ⟨⟨n6, rfl, hn6⟩, x6⟩; have HN6 := Lib.hid hn6; clear hn6))
                      go_ret
                      refine ⟨⟨n6, rfl, fun h0 => ?_⟩, (xa.trans xk).trans x6⟩
                      exact ⟨⟨HB56.out (by first | rfl | trivial), HB66.out (by first | rfl | trivial), HFA.out, HPN.out, HPR.out, HPIN.out, HPI.out, HB165.out (by first | rfl | trivial)⟩, HN6.out h0⟩
end Go.Proofs.YtfaplefkakpgcaaGreatDoor
/- A machine that comes in, with its numbers as they are of their kinds. -/
namespace Go.Proofs.YtfaplefkakpgcaaGreatDoor
set_option linter.unusedVariables false
set_option linter.unusedSimpArgs false
open Go.ChangeShapes Go.WideShapes Go.ChangeAt Go.RowKit
theorem wf_u32 {m : Int} (h : (Lit.int .u32 m).wf = true) : 0 ≤ m ∧ m < 4294967296 := by
  unfold Lit.wf at h
  simp only [Bool.and_eq_true, decide_eq_true_eq, show IntKind.u32.min = 0 from rfl, show IntKind.u32.max = 4294967295 from rfl] at h
  omega
theorem wf_u64 {m : Int} (h : (Lit.int .u64 m).wf = true) : 0 ≤ m ∧ m < 18446744073709551616 := by
  unfold Lit.wf at h
  simp only [Bool.and_eq_true, decide_eq_true_eq, show IntKind.u64.min = 0 from rfl, show IntKind.u64.max = 18446744073709551615 from rfl] at h
  omega
theorem wf_i64 {m : Int} (h : (Lit.int .i64 m).wf = true) : N64 m := by
  unfold Lit.wf at h
  simp only [Bool.and_eq_true, decide_eq_true_eq, show IntKind.i64.min = -9223372036854775808 from rfl, show IntKind.i64.max = 9223372036854775807 from rfl] at h
  exact ⟨by omega, by omega⟩
def PrWf (y : PrT) : Prop := (∀ i < 16, 0 ≤ y.reg i ∧ y.reg i < 4294967296) ∧ (0 ≤ y.pc ∧ y.pc < 4294967296) ∧ (0 ≤ y.code ∧ y.code < 4294967296) ∧ (0 ≤ y.num ∧ y.num < 18446744073709551616)
section
variable {H : Type} {enc : TypeId × Value → H} {w : World} {base : Nat} {spare : Nat → Bool} {held : Bool}
theorem pr_leafs : (List.range 17).all (fun i => (leavesAt Tryz.prog 6 57).contains (3 + i, 45)) = true := by kernel_rfl
theorem prL_reg (a : PrT) {i : Nat} (hi : i < 16) : (prL a)[3 + i]? = some (.int .u32 (a.reg i)) := by
  have e : (prL a).drop 3 = (List.range 16).map (fun i => .int .u32 (a.reg i)) ++ ([.int .u32 a.pc] ++ (List.range 16).flatMap (pteL a) ++ (List.range 8).flatMap (fdL a) ++ [.bool a.mask, .int .u32 a.code, .int .i64 a.why, .int .u64 a.num]) := rfl
  rw [← List.getElem?_drop, e, List.getElem?_append_left (by simp; exact hi)]
  simp [hi]
theorem pr_inF {m : Nat} {cs : List Value} {y : DataW H × List MemPlace} (hl : cs.length = 96) (h : DataW.trod enc Tryz.prog w base spare held m 57 cs = some y) : ∃ a : { a : PrT // PrWf a }, cs = prL a.1 := by
  obtain ⟨a, rfl⟩ := pr_in hl h
  refine ⟨⟨a, fun i hi => ?_, ?_, ?_, ?_⟩, rfl⟩
  · obtain ⟨n, e, k⟩ := leaf_int (n := 6) (o := 3 + i) Tryz.underlying45 (List.all_eq_true.1 pr_leafs i (List.mem_range.2 (by omega))) h (by omega)
    rw [prL_reg a hi] at e
    injection e with e
    injection e with _ e
    rw [e]; exact wf_u32 k
  · obtain ⟨n, e, k⟩ := leaf_int (n := 6) (o := 19) Tryz.underlying45 (by kernel_rfl) h (by omega)
    have e2 : n = a.pc := by
      have e3 : some (Value.int .u32 a.pc) = some (.int .u32 n) := e
      injection e3 with e3
      injection e3 with _ e3
      exact e3.symm
    rw [← e2]; exact wf_u32 k
  · obtain ⟨n, e, k⟩ := leaf_int (n := 6) (o := 93) Tryz.underlying45 (by kernel_rfl) h (by omega)
    have e2 : n = a.code := by
      have e3 : some (Value.int .u32 a.code) = some (.int .u32 n) := e
      injection e3 with e3
      injection e3 with _ e3
      exact e3.symm
    rw [← e2]; exact wf_u32 k
  · obtain ⟨n, e, k⟩ := leaf_int (n := 6) (o := 95) Tryz.underlying31 (by kernel_rfl) h (by omega)
    have e2 : n = a.num := by
      have e3 : some (Value.int .u64 a.num) = some (.int .u64 n) := e
      injection e3 with e3
      injection e3 with _ e3
      exact e3.symm
    rw [← e2]; exact wf_u64 k
instance prWfInh : Inhabited { a : PrT // PrWf a } := ⟨⟨default, fun _ _ => ⟨Int.le_refl _, (by decide : (0 : Int) < 4294967296)⟩, ⟨Int.le_refl _, (by decide : (0 : Int) < 4294967296)⟩, ⟨Int.le_refl _, (by decide : (0 : Int) < 4294967296)⟩, ⟨Int.le_refl _, (by decide : (0 : Int) < 18446744073709551616)⟩⟩⟩
theorem prs_inF {fuel : Nat} {v : Value} {x : DataW H × List MemPlace} (h : DataW.trod enc Tryz.prog w base spare held fuel 32 [v] = some x) :
    ∃ (s : Sl) (l : List PrT), v = .slice s.A s.n s.c ∧ s.ok ∧ RowOf prL w s.A s.n l ∧ ∀ y ∈ l, PrWf y := by
  obtain ⟨A, n, c, l, e, h0, h1, h2, _⟩ := row_in (fun a : { a : PrT // PrWf a } => prL a.1) Tryz.underlying32 prCells (by omega) (fun m cs y => pr_inF) h
  refine ⟨⟨A, n, c⟩, l.map (·.1), e, ⟨h0, h1⟩, ⟨h2.1.trans (by rw [List.length_map]), fun hn => ?_⟩, fun y hy => ?_⟩
  · obtain ⟨b, o, k1, k2⟩ := h2.2 hn
    refine ⟨b, o, k1, fun j v hj => k2 j v ?_⟩
    rw [← hj, List.flatMap_map]
  · obtain ⟨a, _, rfl⟩ := List.mem_map.1 hy
    exact a.2
set_option maxRecDepth 100000 in
theorem mac_inF {fuel : Nat} {cs : List Value} {x : DataW H × List MemPlace} (hl : cs.length = 17) (h : DataW.trod enc Tryz.prog w base spare held fuel 38 cs = some x) :
    ∃ (m : Mac) (d : MacD), cs = m.cells.toList ∧ MacIn w m d ∧ MacFit m d := by
  obtain ⟨c0, e0, k0⟩ := mac_int (o := 0) Tryz.underlying31 rfl h (by omega)
  obtain ⟨c1, e1, _⟩ := mac_int (o := 1) Tryz.underlying3 rfl h (by omega)
  obtain ⟨c2, e2, k2⟩ := mac_int (o := 2) Tryz.underlying3 rfl h (by omega)
  obtain ⟨c3, e3, _⟩ := mac_int (o := 3) Tryz.underlying3 rfl h (by omega)
  obtain ⟨_, v4, _, e4, h4⟩ := mac_slice (o := 4) Tryz.underlying22 rfl h (by omega)
  obtain ⟨_, v5, _, e5, h5⟩ := mac_slice (o := 5) Tryz.underlying32 rfl h (by omega)
  obtain ⟨c6, e6, _⟩ := mac_int (o := 6) Tryz.underlying3 rfl h (by omega)
  obtain ⟨c7, e7, k7⟩ := mac_string (o := 7) rfl h (by omega)
  obtain ⟨_, v8, _, e8, h8⟩ := mac_slice (o := 8) Tryz.underlying33 rfl h (by omega)
  obtain ⟨c9, e9, _⟩ := mac_int (o := 9) Tryz.underlying3 rfl h (by omega)
  obtain ⟨c10, e10, k10⟩ := mac_string (o := 10) rfl h (by omega)
  obtain ⟨c11, e11⟩ := mac_bool (o := 11) rfl h (by omega)
  obtain ⟨c12, e12, k12⟩ := mac_int (o := 12) Tryz.underlying31 rfl h (by omega)
  obtain ⟨_, v13, _, e13, h13⟩ := mac_slice (o := 13) Tryz.underlying22 rfl h (by omega)
  obtain ⟨_, v14, _, e14, h14⟩ := mac_slice (o := 14) Tryz.underlying34 rfl h (by omega)
  obtain ⟨c15, e15, k15⟩ := mac_int (o := 15) Tryz.underlying3 rfl h (by omega)
  obtain ⟨_, v16, _, e16, h16⟩ := mac_slice (o := 16) Tryz.underlying34 rfl h (by omega)
  obtain ⟨s4, l4, rfl, o4, r4⟩ := strs_in h4
  obtain ⟨s5, l5, rfl, o5, r5, f5⟩ := prs_inF h5
  obtain ⟨s8, l8, rfl, o8, r8⟩ := pis_in h8
  obtain ⟨s13, l13, rfl, o13, r13⟩ := strs_in h13
  obtain ⟨s14, l14, rfl, o14, r14⟩ := wrs_in h14
  obtain ⟨s16, l16, rfl, o16, r16⟩ := wrs_in h16
  refine ⟨⟨c0, c1, c2, c3, s4, s5, c6, c7, s8, c9, c10, c11, c12, s13, s14, c15, s16⟩, ⟨l4, l5, l8, l13, l14, l16⟩, ?_, ⟨r4, r5, r8, r13, r14, r16, o4, o5, o8, o13, o14, o16, k7, k10, k15⟩, ⟨wf_u64 k0, wf_u64 k12, wf_i64 k15, wf_i64 k2, f5⟩⟩
  rw [list17 hl]
  simp only [List.range, List.range.loop, List.map_cons, List.map_nil, getD_of e0, getD_of e1, getD_of e2, getD_of e3, getD_of e4, getD_of e5, getD_of e6, getD_of e7, getD_of e8, getD_of e9, getD_of e10, getD_of e11, getD_of e12, getD_of e13, getD_of e14, getD_of e15, getD_of e16]
  rfl
end
end Go.Proofs.YtfaplefkakpgcaaGreatDoor
