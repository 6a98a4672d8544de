/- The walk of XattrBack. -/
import Derived.Test.YtmcoepkopfcbdaaMa16
namespace Go.Proofs.Ytmcoepkopfcbdaa
set_option linter.unusedVariables false
open Go.RowKit

set_option maxHeartbeats 8000000 in
set_option maxRecDepth 100000 in
theorem back_any (A : Option Addr) (n c : Nat) (l : List ActT) (x : ActT) (w : World) (hs : Acts w A n l) (hA : A = none → n = 0 ∧ c = 0) (hn : (n + 1) * 48 ≤ 140737488355328) :
    Calls Try.prog 4 #[.slice A n c, .agg (actL x).toArray] w fun e w' => e = .returned (.bool true) ∧ Ext w w' := by
  have HA := Lib.hid hA
  clear hA
  unfold actL
  go_enter Try.func4, Try.ntmps4
  go_wp2_with (go_at_call 6; refine (alive_any _).mono ?_; rintro e w1 ⟨rfl, x1⟩)
  have bx : Box w1 w.heap.size 35 (actL x).toArray := (Box.new w 35 (actL x).toArray).ext x1
  have x2 : Ext w w1 := ((Ext.refl w).alloc _).trans x1
  go_cut [34] (fun s wx => s = .bool (greatB (l ++ [x])) ∧ Ext w1 wx)
  case first =>
    refine wp_region_web' 5 [[], [], [0, 1], [], [3]] (gV w1.heap.size A n c l x) (by kernel_rfl) (by kernel_rfl) gV_ext (fun us => ?_)
    simp only [List.take_succ_cons, List.take_zero, List.drop_succ_cons, List.drop_zero]
    refine ⟨fun w' hx hd => ?_, fun w' hx hd => ?_, fun w' hx hd => ?_, fun w' hx hd => ?_, fun w' hx hd => ?_, fun w' hx hv => ?_⟩
    · refine web_of_list 28 rfl (by simp) rfl ?_
      go_wp2_with fail
      exact ⟨(Ext.refl _).alloc _, _, rfl, hx.size, Box.new _ _ _⟩
    · refine web_of_list 29 rfl (by simp [Act.put]) rfl ?_
      go_wp2_with fail
      exact ⟨Ext.refl _, rfl⟩
    · have h0 := hd 0 (by simp)
      have h1 := hd 1 (by simp)
      clear hd
      generalize us 0 = u0 at *
      generalize us 1 = u1 at *
      obtain ⟨g, rfl, hg, hb⟩ := h0
      obtain rfl : u1 = .slice A n c := h1
      have hs2 := hs.ext (x2.trans hx)
      refine web_of_list 30 rfl (by simp [Act.put]) rfl ?_
      go_wp2_with (refine wp_app_acts rfl (.tmp 28) (.tmp 29) rfl rfl rfl hb hs2 HA.out (by omega) ?_; intro u' w2 own2 xx)
      exact own_base own2 hg
    · refine web_of_list 31 rfl (by simp [Act.put]) rfl ?_
      go_wp2_with (refine wp_ld 35 (.tmp 3) rfl rfl w.heap.size (actL x).toArray 35 _ rfl (bx.ext hx) Try.underlying35 rfl actSize ?_)
      exact ⟨Ext.refl _, rfl⟩
    · have h3 := hd 3 (by simp)
      clear hd
      generalize us 3 = u3 at *
      obtain rfl : u3 = .agg (actL x).toArray := h3
      unfold actL
      refine web_of_list 32 rfl (by simp [Act.put]) rfl ?_
      go_wp2_with fail
      exact ⟨(Ext.refl _).alloc _, _, rfl, Box.new _ _ _⟩
    · have h2 := hv 2 (by omega)
      have h4 := hv 4 (by omega)
      clear hv
      generalize us 0 = u0 at *
      generalize us 1 = u1 at *
      generalize us 2 = u2 at *
      generalize us 3 = u3 at *
      generalize us 4 = u4 at *
      have own2 : w'.ownsRow w1.heap.size 35 4 u2 n (actsL l) := h2
      obtain ⟨g, rfl, hb⟩ := h4
      clear h2
      go_wp2_with (refine wp_app_act rfl (.tmp 30) (.tmp 32) rfl rfl rfl own2 hb (by omega) hx.size ?_; intro u' w3 own3 g3)
      have x3 : Ext w1 w3 := hx.grown g3 (fun k e => own_low own2 e)
      have hl : n + 1 = (l ++ [x]).length := by rw [List.length_append, ← hs.1]; rfl
      rw [hl] at own3
      obtain ⟨A3, c3, rfl, s3⟩ := OwnAct.form own3
      have HG := Lib.hid (great_any A3 (l ++ [x]).length c3 (l ++ [x]) w3 s3 (by omega))
      go_wp2_with fail
      refine HG.out.mono ?_
      rintro e w4 ⟨rfl, x4⟩
      go_wp2_with fail
      go_meet
      exact ⟨rfl, x3.trans x4⟩
  case rest =>
    obtain ⟨rfl, xc⟩ := hcut
    clear x1
    cases hg : greatB (l ++ [x]) with
    | true =>
      go_wp2_with fail
      go_ret
      exact ⟨rfl, x2.trans xc⟩
    | false =>
      obtain ⟨hl20, hall⟩ := great_small hg
      have Hall := Lib.hid hall
      rw [List.length_append] at hl20
      have hl19 : l.length ≤ 19 := by simpa using hl20
      clear hg hall hl20
      obtain ⟨rfl, hs2⟩ := hs
      have HS := Lib.hid (fun h => hs2 h)
      clear hs2
      go_wp2_with fail
      refine (begin_any _).mono ?_
      rintro e w3 ⟨u3, rfl, x3, own3⟩
      have x4 := xc.trans x3
      have own4 := own_base own3 xc.size
      have hB := Lib.hid sets_beg
      generalize begV 3 = V0 at hB own4
      clear x3 xc own3
      go_wp2_with fail
      go_loopw [5, 38] (fun t i wx => ∃ (k : Nat) (v : List (List UInt8)), k ≤ l.length ∧ i = .int .i64 k ∧ Sets v ∧ Ext w1 wx ∧ wx.ownsRow w1.heap.size 9 1 t 24 (strL v)) (fun _ i _ => l.length - (intOf i).toNat)
      case atStart => exact ⟨0, V0, by omega, rfl, hB.out, x4, own4⟩
      case round =>
        clear own4 x4 hB
        obtain ⟨k, v, hk, rfl, hf, xk, ok⟩ := hrel
        obtain ⟨g, cp, rfl, hgW, sk⟩ := Strs.own' ok (by omega)
        by_cases hlt : k < l.length
        · obtain ⟨b, o, rfl, hc⟩ := HS.out (by omega)
          obtain ⟨c0, c1, c2, c3⟩ := Acts.cells (fun j v hj => (x2.trans xk).keep (hc j v hj)) k hlt
          obtain ⟨ln, lv⟩ := Hall.out l[k] (List.mem_append_left _ (List.getElem_mem hlt))
          clear hc
          generalize l[k] = y at *
          have HP := Lib.hid (fun w h => set_any (some ⟨g, 0, none⟩) 24 cp v 6 y.2.1 y.2.2.1 y.2.2.2 w h hf.fine.good (by omega) (by omega))
          by_cases he : (setP v 6 y.2.1 y.2.2.1 y.2.2.2).2 = 0
          · have hf2 := hf.set he
            rw [he, hf2.len] at HP
            have HE := Lib.hid he
            clear he
            generalize (setP v 6 y.2.1 y.2.2.1 y.2.2.2).1 = v2 at *
            go_wp2_with fail
            refine (HP.out _ (sk.ext ((Ext.refl _).alloc _))).mono ?_
            rintro e w5 ⟨u5, rfl, x5, own5⟩
            go_wp2_with fail
            go_roundw
            case rel => exact ⟨k + 1, v2, by omega, by go_num, hf2, (xk.alloc _).trans x5, own_base own5 (by have := xk.size; simp; omega)⟩
            case measure => simp [intOf]; omega
          · have hee : ((setP v 6 y.2.1 y.2.2.1 y.2.2.2).2 == 0) = false := by simpa using he
            clear he
            generalize (setP v 6 y.2.1 y.2.2.1 y.2.2.2).2 = e2 at *
            go_wp2_with fail
            refine (HP.out _ (sk.ext ((Ext.refl _).alloc _))).mono ?_
            rintro e w5 ⟨u5, rfl, x5, own5⟩
            go_wp2_with fail
            go_roundw
            case rel => exact ⟨k + 1, v, by omega, by go_num, hf, (xk.alloc _).trans x5, own_ext ok (((Ext.refl _).alloc _).trans x5)⟩
            case measure => simp [intOf]; omega
        · obtain rfl : k = l.length := by omega
          clear hlt HS hl19
          obtain ⟨ln, lv⟩ := Hall.out x (by simp)
          clear Hall
          have bK := bx.ext xk
          have q1 : wr.cell? ⟨w.heap.size, 1, none⟩ = some (.int .i64 x.2.1) := bK.cell 1
          have q2 : wr.cell? ⟨w.heap.size, 2, none⟩ = some (.string (str x.2.2.1)) := bK.cell 2
          have q3 : wr.cell? ⟨w.heap.size, 3, none⟩ = some (.string (str x.2.2.2)) := bK.cell 3
          have HP := Lib.hid (fun w h => set_any (some ⟨g, 0, none⟩) 24 cp v 6 x.2.1 x.2.2.1 x.2.2.2 w h hf.fine.good (by omega) (by omega))
          by_cases he : (setP v 6 x.2.1 x.2.2.1 x.2.2.2).2 = 0
          · obtain ⟨ex, hok⟩ := setP_ok hf.fine he
            rw [he, (hok.sets hf).len] at HP
            generalize (setP v 6 x.2.1 x.2.2.1 x.2.2.2).1 = v2 at *
            clear he
            have hf2 := hok.sets hf
            have hB := backFacts hf hok
            have HG := Lib.hid (fun g c w h => hB.get (some ⟨g, 0, none⟩) 24 c w h)
            have HD := Lib.hid (fun g c w h => hB.drop (some ⟨g, 0, none⟩) 24 c w h)
            have HB := Lib.hid hB
            clear hB hok
            generalize (dropP v2 6 x.2.1 x.2.2.1).1 = v3 at *
            go_wp2_with fail
            refine (HP.out _ sk).mono ?_
            rintro e w5 ⟨u5, rfl, x5, own5⟩
            obtain ⟨g5, c5, rfl, hg5, s5⟩ := Strs.own' own5 (by omega)
            have bL := bK.ext x5
            have r1 : w5.cell? ⟨w.heap.size, 1, none⟩ = some (.int .i64 x.2.1) := bL.cell 1
            have r2 : w5.cell? ⟨w.heap.size, 2, none⟩ = some (.string (str x.2.2.1)) := bL.cell 2
            clear q1 q2 q3
            go_wp2_with fail
            refine (HG.out _ _ _ s5).mono ?_
            rintro e w6 ⟨rfl, x6⟩
            have bM := bL.ext x6
            have r3 : w6.cell? ⟨w.heap.size, 1, none⟩ = some (.int .i64 x.2.1) := bM.cell 1
            have r4 : w6.cell? ⟨w.heap.size, 2, none⟩ = some (.string (str x.2.2.1)) := bM.cell 2
            clear r1 r2
            go_wp2_with fail
            refine (HD.out _ _ _ (s5.ext x6)).mono ?_
            rintro e w7 ⟨u7, rfl, x7, own7⟩
            obtain ⟨g7, c7, rfl, hg7, s7⟩ := Strs.own' own7 (by omega)
            have bN := bM.ext x7
            have r5 : w7.cell? ⟨w.heap.size, 3, none⟩ = some (.string (str x.2.2.2)) := bN.cell 3
            clear r3 r4
            go_wp2_with fail
            have y0 := x5.trans (x6.trans x7)
            have sv := sk.ext y0
            have sw := s5.ext (x6.trans x7)
            have xW := xk.trans y0
            clear bK bL bM x5 x6 x7 y0 own5 own7 r5 HP HG HD sk s5 ok
            go_loopw [16] (fun t wx => ∃ j : Nat, 1 ≤ j ∧ j ≤ 4 ∧ t = .int .i64 j ∧ Ext w7 wx) (fun t _ => 4 - (intOf t).toNat)
            case atStart => exact ⟨1, by omega, by omega, rfl, Ext.refl _⟩
            case round =>
              obtain ⟨w8, rfl⟩ : ∃ w8 : World, w8 = wr := ⟨_, rfl⟩
              obtain ⟨j, hj1, hj4, rfl, xj⟩ := hrel
              by_cases hj3 : j ≤ 3
              · have hj3i : (j : Int) ≤ 3 := by omega
                have HL1 := Lib.hid (fun w h => list_any (some ⟨g, 0, none⟩) 24 cp v 6 j w h hf.fine.good)
                have HL2 := Lib.hid (fun w h => list_any (some ⟨g5, 0, none⟩) 24 c5 v2 6 j w h hf2.fine.good)
                have HL3 := Lib.hid (fun w h => list_any (some ⟨g7, 0, none⟩) 24 c7 v3 6 j w h HB.out.good3)
                rw [HB.out.err3 j (by omega) (by omega)] at HL3
                have hsm := openP_small v 6 j
                have hrise := rising_open v 6 j
                have e1 : (openP v 6 j).2.1 = attsOf v 6 j := rfl
                have e2 : (openP v2 6 j).2.1 = attsOf v2 6 j := rfl
                have e3 : (openP v3 6 j).2.1 = attsOf v3 6 j := rfl
                rw [e1] at HL1 hsm hrise
                rw [e2] at HL2
                rw [e3] at HL3
                clear e1 e2 e3
                generalize (openP v 6 j).2.2 = er1 at *
                generalize (openP v2 6 j).2.2 = er2 at *
                by_cases hN : (j : Int) = x.2.1
                · have hl3 : attsOf v3 6 j = delA (attsOf v 6 j) x.2.2.1 := by rw [hN]; exact HB.out.left
                  have hl2 : (attsOf v2 6 j).length = (delA (attsOf v 6 j) x.2.2.1).length + 1 := by rw [hN]; exact HB.out.count
                  rw [hl3] at HL3
                  have Hl2 := Lib.hid hl2
                  have hbN : ((j : Int) != x.2.1) = false := by rw [hN]; simp
                  have hbE : ((j : Int) == x.2.1) = true := by rw [hN]; simp
                  have HN := Lib.hid hN
                  clear hl2 hl3 hN
                  generalize attsOf v 6 j = L at *
                  generalize attsOf v2 6 j = L2 at *
                  have bO := (bN.ext xj)
                  go_wp2_with fail
                  refine (HL1.out _ (sv.ext xj)).mono ?_
                  rintro e w10 ⟨t1, rfl, y1, o1⟩
                  obtain ⟨A1, d1, rfl, at1⟩ := OwnA.form o1
                  go_wp2_with fail
                  refine (HL2.out _ (sw.ext (xj.trans y1))).mono ?_
                  rintro e w11 ⟨t2, rfl, y2, o2⟩
                  obtain ⟨A2, d2, rfl, at2⟩ := OwnA.form o2
                  go_wp2_with fail
                  refine (HL3.out _ (s7.ext (xj.trans (y1.trans y2)))).mono ?_
                  rintro e w12 ⟨t3, rfl, y3, o3⟩
                  obtain ⟨A3, d3, rfl, at3⟩ := OwnA.form o3
                  have z1 := y1.trans (y2.trans y3)
                  have am1 := at1.ext (y2.trans y3)
                  have am2 := at2.ext y3
                  have xz := xj.trans z1
                  have bP := bO.ext z1
                  clear o1 o2 o3 at1 at2 HL1 HL2 HL3 y1 y2 y3
                  go_wp2_with fail
                  go_loopw [23, 129] (fun u i wx => ∃ m : Nat, m ≤ L.length ∧ i = .int .i64 m ∧ Ext w12 wx ∧ OwnA wx w12.heap.size u (delA (L.take m) x.2.2.1)) (fun _ i _ => L.length - (intOf i).toNat)
                  case atStart => exact ⟨0, by omega, rfl, Ext.refl _, OwnA.nil _ _⟩
                  case round =>
                    obtain ⟨m, hm, rfl, xm, om⟩ := hrel
                    have xms := xm.size
                    by_cases hml : m < L.length
                    · obtain ⟨b, o, rfl, hc⟩ := am1.2 (by omega)
                      have k1 := xm.keep (hc m hml).1
                      have k2 := xm.keep (hc m hml).2
                      have HT := Lib.hid (take_snoc' L m hml)
                      clear hc
                      generalize L[m] = y at *
                      have bQ := bP.ext xm
                      have hblt := bQ.lt
                      have n1 : wr.cell? ⟨w.heap.size, 1, none⟩ = some (.int .i64 x.2.1) := bQ.cell 1
                      have n2 : wr.cell? ⟨w.heap.size, 2, none⟩ = some (.string (str x.2.2.1)) := bQ.cell 2
                      have omA := own_ext om (((Ext.refl wr).alloc (.cells #[.string (str y.1), .string (str y.2)] 44)).alloc (.cells #[.string (str y.1), .string (str y.2)] 44))
                      have bxA := Box.new (wr.alloc (.cells #[.string (str y.1), .string (str y.2)] 44)) 44 #[.string (str y.1), .string (str y.2)]
                      rw [World.size_alloc] at bxA
                      have hBs : w12.heap.size ≤ ((wr.alloc (.cells #[.string (str y.1), .string (str y.2)] 44)).alloc (.cells #[.string (str y.1), .string (str y.2)] 44)).heap.size := by simp; omega
                      have hdl : (delA (L.take m) x.2.2.1).length ≤ 1000000 := by have := List.length_filter_le (fun y : Att => y.1 != x.2.2.1) (L.take m); rw [List.length_take] at this; unfold delA; omega
                      by_cases hy : y.1 = x.2.2.1
                      · have Hy := Lib.hid hy
                        have hyy : ((str y.1).toList != (str x.2.2.1).toList) = false := by rw [hy]; simp
                        have hyy2 : ((str y.1).toList == (str x.2.2.1).toList) = true := by rw [hy]; simp
                        clear hy
                        go_wp2_with fail
                        go_roundw
                        case rel => exact ⟨m + 1, by omega, by go_num, xm.alloc _, by rw [HT.out, delA_snoc, if_pos Hy.out, List.append_nil]; exact own_ext om ((Ext.refl wr).alloc _)⟩
                        case measure => simp [intOf]; omega
                      · have Hy := Lib.hid hy
                        have hyy : ((str y.1).toList != (str x.2.2.1).toList) = true := by rw [str_toList, str_toList]; simpa using hy
                        have hyy2 : ((str y.1).toList == (str x.2.2.1).toList) = false := by rw [str_toList, str_toList]; simpa using hy
                        clear hy
                        go_wp2_with (refine wp_app_att (y := y) rfl (.tmp 144) (.tmp 146) rfl rfl rfl omA bxA (by omega) hBs ?_; intro u' w14 own14 g14)
                        have x14 : Ext w12 w14 := ((xm.alloc _).alloc _).grown g14 (fun k e => own_low om e)
                        go_wp2_with fail
                        go_roundw
                        case rel => exact ⟨m + 1, by omega, by go_num, x14, by rw [HT.out, delA_snoc, if_neg Hy.out]; exact OwnA.snoc own14 rfl⟩
                        case measure => simp [intOf]; omega
                    · obtain rfl : m = L.length := by omega
                      rw [List.take_length] at om
                      obtain ⟨A4, d4, rfl, at4⟩ := OwnA.form om
                      have at3' := at3.ext xm
                      have bQ := bP.ext xm
                      have hdl : (delA L x.2.2.1).length ≤ 126 := by have := List.length_filter_le (fun y : Att => y.1 != x.2.2.1) L; unfold delA; omega
                      have HS1 := Lib.hid (same21_yes A3 A4 (delA L x.2.2.1).length d3 d4 (delA L x.2.2.1) wr at3' at4 (by omega))
                      have hq : ((L2.length : Int) != ((delA L x.2.2.1).length : Int) + 1) = false := by have := Hl2.out; simp; omega
                      go_wp2_with fail
                      refine HS1.out.mono ?_
                      rintro e w15 ⟨rfl, x15⟩
                      have n1 : w15.cell? ⟨w.heap.size, 1, none⟩ = some (.int .i64 x.2.1) := (bQ.ext x15).cell 1
                      go_wp2_with fail
                      go_roundw
                      case rel => exact ⟨j + 1, by omega, by omega, by go_num, xz.trans (xm.trans x15)⟩
                      case measure => simp [intOf]; omega
                · obtain ⟨hl2, hl3⟩ := HB.out.same j (by omega) (by omega) hN
                  rw [hl2] at HL2
                  rw [hl3] at HL3
                  have hbN : ((j : Int) != x.2.1) = true := by simpa using hN
                  have hbE : ((j : Int) == x.2.1) = false := by simpa using hN
                  have HN := Lib.hid hN
                  clear hl2 hl3 hN
                  generalize attsOf v 6 j = L at *
                  have bO := (bN.ext xj)
                  go_wp2_with fail
                  refine (HL1.out _ (sv.ext xj)).mono ?_
                  rintro e w10 ⟨t1, rfl, y1, o1⟩
                  obtain ⟨A1, d1, rfl, at1⟩ := OwnA.form o1
                  go_wp2_with fail
                  refine (HL2.out _ (sw.ext (xj.trans y1))).mono ?_
                  rintro e w11 ⟨t2, rfl, y2, o2⟩
                  obtain ⟨A2, d2, rfl, at2⟩ := OwnA.form o2
                  go_wp2_with fail
                  refine (HL3.out _ (s7.ext (xj.trans (y1.trans y2)))).mono ?_
                  rintro e w12 ⟨t3, rfl, y3, o3⟩
                  obtain ⟨A3, d3, rfl, at3⟩ := OwnA.form o3
                  have z1 := y1.trans (y2.trans y3)
                  have am1 := at1.ext (y2.trans y3)
                  have am2 := at2.ext y3
                  have xz := xj.trans z1
                  have bP := bO.ext z1
                  clear o1 o2 o3 at1 at2 HL1 HL2 HL3 y1 y2 y3
                  go_wp2_with fail
                  go_loopw [23, 129] (fun u i wx => ∃ m : Nat, m ≤ L.length ∧ i = .int .i64 m ∧ Ext w12 wx ∧ OwnA wx w12.heap.size u (L.take m)) (fun _ i _ => L.length - (intOf i).toNat)
                  case atStart => exact ⟨0, by omega, rfl, Ext.refl _, OwnA.nil _ _⟩
                  case round =>
                    obtain ⟨m, hm, rfl, xm, om⟩ := hrel
                    have xms := xm.size
                    by_cases hml : m < L.length
                    · obtain ⟨b, o, rfl, hc⟩ := am1.2 (by omega)
                      have k1 := xm.keep (hc m hml).1
                      have k2 := xm.keep (hc m hml).2
                      have HT := Lib.hid (take_snoc' L m hml)
                      clear hc
                      generalize L[m] = y at *
                      have bQ := bP.ext xm
                      have hblt := bQ.lt
                      have n1 : wr.cell? ⟨w.heap.size, 1, none⟩ = some (.int .i64 x.2.1) := bQ.cell 1
                      have n2 : wr.cell? ⟨w.heap.size, 2, none⟩ = some (.string (str x.2.2.1)) := bQ.cell 2
                      have omA := own_ext om (((Ext.refl wr).alloc (.cells #[.string (str y.1), .string (str y.2)] 44)).alloc (.cells #[.string (str y.1), .string (str y.2)] 44))
                      have bxA := Box.new (wr.alloc (.cells #[.string (str y.1), .string (str y.2)] 44)) 44 #[.string (str y.1), .string (str y.2)]
                      rw [World.size_alloc] at bxA
                      have hBs : w12.heap.size ≤ ((wr.alloc (.cells #[.string (str y.1), .string (str y.2)] 44)).alloc (.cells #[.string (str y.1), .string (str y.2)] 44)).heap.size := by simp; omega
                      go_wp2_with (refine wp_app_att (y := y) rfl (.tmp 144) (.tmp 146) rfl rfl rfl omA bxA (by simp; omega) hBs ?_; intro u' w14 own14 g14)
                      have x14 : Ext w12 w14 := ((xm.alloc _).alloc _).grown g14 (fun k e => own_low om e)
                      go_wp2_with fail
                      go_roundw
                      case rel => exact ⟨m + 1, by omega, by go_num, x14, by rw [HT.out]; exact OwnA.snoc own14 rfl⟩
                      case measure => simp [intOf]; omega
                    · obtain rfl : m = L.length := by omega
                      rw [List.take_length] at om
                      obtain ⟨A4, d4, rfl, at4⟩ := OwnA.form om
                      have at3' := at3.ext xm
                      have bQ := bP.ext xm
                      have HS1 := Lib.hid (same21_yes A3 A4 L.length d3 d4 L wr at3' at4 (by omega))
                      have HS2 := Lib.hid (fun w h1 h2 => same21_yes A2 A1 L.length d2 d1 L w h1 h2 (by omega))
                      go_wp2_with fail
                      refine HS1.out.mono ?_
                      rintro e w15 ⟨rfl, x15⟩
                      have n1 : w15.cell? ⟨w.heap.size, 1, none⟩ = some (.int .i64 x.2.1) := (bQ.ext x15).cell 1
                      go_wp2_with fail
                      refine (HS2.out _ (am2.ext (xm.trans x15)) (am1.ext (xm.trans x15))).mono ?_
                      rintro e w16 ⟨rfl, x16⟩
                      have n2 : w16.cell? ⟨w.heap.size, 1, none⟩ = some (.int .i64 x.2.1) := (bQ.ext (x15.trans x16)).cell 1
                      go_wp2_with fail
                      go_roundw
                      case rel => exact ⟨j + 1, by omega, by omega, by go_num, xz.trans (xm.trans (x15.trans x16))⟩
                      case measure => simp [intOf]; omega
              · obtain rfl : j = 4 := by omega
                go_wp2_with fail
                go_ret
                exact ⟨rfl, x2.trans (xW.trans xj)⟩
          · have hz := setP_err he
            rw [hz] at HP
            have hee : ((setP v 6 x.2.1 x.2.2.1 x.2.2.2).2 != 0) = true := by simpa using he
            clear he hz
            generalize (setP v 6 x.2.1 x.2.2.1 x.2.2.2).2 = e2 at *
            go_wp2_with fail
            refine (HP.out _ sk).mono ?_
            rintro e w7 ⟨u7, rfl, x7, own7⟩
            obtain ⟨A7, c7, rfl⟩ := own_len own7
            go_wp2_with fail
            go_ret
            exact ⟨rfl, x2.trans (xk.trans x7)⟩
end Go.Proofs.Ytmcoepkopfcbdaa
