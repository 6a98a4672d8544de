/- An inode as it stands on a volume: a block given back; extent.Cut on a volume that is one. -/
import Derived.Test.YtnoofjddikhopaaGreatFa14
namespace Go.Proofs.YtnoofjddikhopaaGreat
set_option linter.unusedVariables false
set_option linter.unusedSimpArgs false
open Go.RowKit
set_option maxHeartbeats 1000000 in
set_option maxRecDepth 100000 in
theorem fgive_any (B g : Nat) (b : Int) (F : FileT) (w : World) (h : FileIn B w g F) (hBw : B ≤ w.heap.size) :
    Calls Tryz.prog 140 #[.pointer (some ⟨g, 0, none⟩), .int .i64 b] w fun e w' => e = .returned (.tuple #[]) ∧ FileIn B w' g (F.gave b) ∧ Below B w w' := by
  have HF := Lib.hid h
  obtain ⟨hok, hB, b1, cap, hbx, own⟩ := h
  have hs := Strs.own own
  have cv : w.cell? ⟨g, 0, none⟩ = some (.slice (some ⟨b1, 0, none⟩) F.v.length cap) := hbx.cell 0
  cases hc : canGive F.v F.I b with
  | false =>
    have hn : F.gave b = F := by unfold FileT.gave; rw [if_neg (by rw [hc]; simp)]
    rw [hn]
    obtain ⟨z, hz0, HP0⟩ : ∃ z : Int, z ≠ 0 ∧ ∀ w, Strs w (some ⟨b1, 0, none⟩) F.v.length F.v → Calls Tryz.prog 84 #[.slice (some ⟨b1, 0, none⟩) F.v.length cap, .int .i64 b] w fun e w' => e = .returned (.tuple #[.slice none 0 0, .int .i64 z]) ∧ Ext w w' := by
      obtain ⟨z, hz, _⟩ := give_no (some ⟨b1, 0, none⟩) F.v.length cap b F.v F.I w hs hok.good hc
      cases hi : isB F.v F.I b with
      | false => exact ⟨2, by decide, fun w h => give_out _ _ cap b F.v F.I w h hok.good hi⟩
      | true =>
        obtain ⟨h1, h2⟩ := isB_le hi
        have hp := plan_bd hok.good.plan
        obtain ⟨i, rfl⟩ : ∃ i : Nat, b = (i : Int) := ⟨b.toNat, by omega⟩
        refine ⟨9, by decide, fun w h => give_free _ _ cap i F.v F.I w h hok.good h1 (by omega) ?_⟩
        unfold canGive at hc
        rw [hi, Bool.true_and] at hc
        exact hc
    have HP := Lib.hid HP0
    have d0 : (z == 0) = false := by simpa using hz0
    clear hok hbx own hc HP0 hn hz0
    go_enter Tryz.func140, Tryz.ntmps140
    go_wp2_with (first
      | (go_at_call 84; refine (HP.out _ hs).mono ?_; rintro e w2 ⟨rfl, x2⟩))
    go_end0
    exact ⟨rfl, HF.out.ext x2, Below.mono x2 hBw⟩
  | true =>
    have hn : F.gave b = { F with v := givenV F.v b.toNat } := by unfold FileT.gave; rw [if_pos hc]
    have HOK := Lib.hid (hok.gave b)
    rw [hn] at HOK ⊢
    obtain ⟨h1, h2, h3⟩ := canGive_yes hc
    have hp := plan_bd hok.good.plan
    obtain ⟨i, rfl⟩ : ∃ i : Nat, b = (i : Int) := ⟨b.toNat, by omega⟩
    rw [Int.toNat_natCast] at *
    have HP := Lib.hid (fun w h => give_yes (some ⟨b1, 0, none⟩) F.v.length cap i F.v F.I w h hok.good h1 (by omega) h3)
    have hpos : 0 < F.v.length := by omega
    have HBX := Lib.hid hbx
    have hl : (givenV F.v i).length = F.v.length := givenV_len _ _
    have HL := Lib.hid hl
    clear hok hbx own hc hn h1 h2 h3 hp hl
    go_enter Tryz.func140, Tryz.ntmps140
    go_upto_region 2 with (first
      | (go_at_call 84; refine (HP.out _ hs).mono ?_; rintro e w2 ⟨u, rfl, x2, own2⟩))
    have ow2 : w2.ownsRow B 9 1 u F.v.length (strL (givenV F.v i)) := own_base own2 hBw
    obtain ⟨b2, cap2, rfl, hb2, _⟩ := Strs.own' ow2 (by omega)
    have hbx' := HBX.out.ext x2
    have f0 := hbx'.frozen 0
    have k0 : w2.cell? ⟨g, 0, none⟩ = some (.slice (some ⟨b1, 0, none⟩) F.v.length cap) := hbx'.cell 0
    have HX := Lib.hid x2
    have HB' := Lib.hid hbx'
    have OW := Lib.hid ow2
    clear hbx' x2 own2 ow2 cv hs
    go_wp2_with fail
    go_end0
    refine ⟨rfl, ⟨HOK.out, hB, b2, cap2, ?_, ?_⟩, ?_⟩
    · have e := HB'.out.set 0 (.slice (some ⟨b2, 0, none⟩) F.v.length cap2)
      show Box _ g 83 (fileC ⟨some ⟨b2, 0, none⟩, (givenV F.v i).length, cap2⟩ { F with v := givenV F.v i })
      rw [HL.out]
      have ec : fileC ⟨some ⟨b2, 0, none⟩, F.v.length, cap2⟩ { F with v := givenV F.v i } = fileC ⟨some ⟨b2, 0, none⟩, F.v.length, cap2⟩ F := by unfold fileC fileL; simp only [HL.out]
      rw [ec]
      exact e
    · show World.ownsRow _ B 9 1 (.slice (some ⟨b2, 0, none⟩) (givenV F.v i).length cap2) (givenV F.v i).length (strL (givenV F.v i))
      rw [HL.out]
      exact own_setBox OW.out HB'.out (by decide) _
    · exact Below.setCell (Below.mono HX.out hBw) (p := ⟨g, 0, none⟩) hB _
set_option maxHeartbeats 4000000 in
set_option maxRecDepth 100000 in
theorem fshort_any (B g size : Nat) (F : FileT) (w : World) (h : FileIn B w g F) (hBw : B ≤ w.heap.size) (hs : size ≤ 8960) :
    Calls Tryz.prog 119 #[.pointer (some ⟨g, 0, none⟩), .int .i64 (size : Int)] w fun e w' => e = .returned (.int .i64 0) ∧ FileIn B w' g (F.short size) ∧ Below B w w' := by
  obtain ⟨k0, hk0⟩ : ∃ k0, (size + 127) / 128 = k0 := ⟨_, rfl⟩
  obtain ⟨R, hR⟩ : ∃ R, R = F.drops k0 := ⟨_, rfl⟩
  have HSh := Lib.hid (show F.short size = (R.unInd size).blank size by unfold FileT.short; rw [hk0, ← hR])
  have HF := Lib.hid h
  have HRD := Lib.hid hR
  clear h hR
  have hk70 : k0 ≤ 70 := by omega
  have w1 : IntKind.i64.wrap ((size : Int) + 128) = (size : Int) + 128 := by rw [IntKind.wrap_i64]; omega
  have w2 : IntKind.i64.wrap ((size : Int) + 128 - 1) = (size : Int) + 127 := by rw [IntKind.wrap_i64]; omega
  have w3 : ((size : Int) + 127) / 128 = (k0 : Int) := by omega
  go_enter Tryz.func119, Tryz.ntmps119
  go_upto_region 2 with fail
  clear w1 w2
  go_loopw [5, 6, 7] (fun t _ _ wx => ∃ (k : Nat) (G : FileT), t = .int .i64 k ∧ k ≤ 70 ∧ FileIn B wx g G ∧ Below B w wx ∧ G.drops k = R) (fun t _ _ _ => 70 - (intOf t).toNat)
  case atStart => exact ⟨k0, F, by rw [w3], hk70, HF.out, Below.refl _ _, HRD.out.symm⟩
  case round =>
    clear HF HRD hk0 w3
    obtain ⟨k, G, rfl, hk, hG, xk, hd⟩ := hrel
    have HG := Lib.hid hG
    have HX := Lib.hid xk
    have HD := Lib.hid hd
    have hBr : B ≤ wr.heap.size := by have := xk.size; omega
    clear hG xk hd
    by_cases hlt : k < 70
    · have hki : (k : Int) < 70 := by omega
      have HAt := Lib.hid (show Calls Tryz.prog 122 #[.pointer (some ⟨g, 0, none⟩), .int .i64 (k : Int)] wr fun e w' => e = .returned (.int .i64 (atP G.v G.I G.x k)) ∧ Ext wr w' from by
        obtain ⟨s, hbx, hst⟩ := HG.out.strs
        exact fat_any g s G k wr hbx hst HG.out.1 hlt)
      have HD1 := Lib.hid (drops_on G hlt)
      by_cases ha : atP G.v G.I G.x k = -1
      · have HE := Lib.hid (show G.drop1 k = G.named k 0 by unfold FileT.drop1; rw [if_pos ha])
        have HN := Lib.hid (fun w h hb => fname_any B g k 0 G w h hb hlt (by omega) (by omega))
        rw [ha] at HAt
        clear ha
        go_wp2_with (first
          | (go_at_call 122; refine HAt.out.mono ?_; rintro e w2 ⟨rfl, x2⟩; have HG2 := Lib.hid (HG.out.ext x2); have hB2 : B ≤ w2.heap.size := (by have := x2.size; omega); have HX2 := Lib.hid x2; clear x2)
          | (go_at_call 139; refine (HN.out _ HG2.out hB2).mono ?_; rintro e w3 ⟨rfl, hG3, x3⟩))
        go_roundw
        case rel => exact ⟨k + 1, G.drop1 k, by go_num, by omega, by rw [HE.out]; exact hG3, (HX.out.trans (Below.mono HX2.out hBr)).trans x3, by rw [← HD1.out]; exact HD.out⟩
        case measure => simp [intOf]; omega
      · have HE := Lib.hid (show G.drop1 k = (G.gave (atP G.v G.I G.x k)).named k 0 by unfold FileT.drop1; rw [if_neg ha])
        have d0 : (atP G.v G.I G.x k != -1) = true := by simpa using ha
        clear ha
        generalize atP G.v G.I G.x k = bq at *
        have HGv := Lib.hid (fun w h hb => fgive_any B g bq G w h hb)
        have HN := Lib.hid (fun w h hb => fname_any B g k 0 (G.gave bq) w h hb hlt (by omega) (by omega))
        go_wp2_with (first
          | (go_at_call 122; refine HAt.out.mono ?_; rintro e w2 ⟨rfl, x2⟩; have HG2 := Lib.hid (HG.out.ext x2); have hB2 : B ≤ w2.heap.size := (by have := x2.size; omega); have HX2 := Lib.hid x2; clear x2)
          | (go_at_call 140; refine (HGv.out _ HG2.out hB2).mono ?_; rintro e w3 ⟨rfl, hG3, x3⟩; have HG3 := Lib.hid hG3; have hB3 : B ≤ w3.heap.size := (by have := x3.size; omega); have HX3 := Lib.hid x3; clear x3 hG3)
          | (go_at_call 139; refine (HN.out _ HG3.out hB3).mono ?_; rintro e w4 ⟨rfl, hG4, x4⟩))
        go_roundw
        case rel => exact ⟨k + 1, G.drop1 k, by go_num, by omega, by rw [HE.out]; exact hG4, ((HX.out.trans (Below.mono HX2.out hBr)).trans HX3.out).trans x4, by rw [← HD1.out]; exact HD.out⟩
        case measure => simp [intOf]; omega
    · obtain rfl : k = 70 := by omega
      have hGR : G = R := by have := HD.out; rw [drops_done] at this; exact this
      subst hGR
      clear HD hlt hk
      rw [show ((70 : Nat) : Int) = 70 from rfl]
      go_upto_if 34 with fail
      go_cut [8] (fun _ wx => FileIn B wx g (G.unInd size) ∧ Below B w wx)
      case first =>
        clear HSh
        by_cases h768 : size ≤ 768
        · have d7 : (size : Int) ≤ 768 := by omega
          have HU := Lib.hid (show G.unInd size = ((G.gave (G.x.getD 10 0)).setX 10 0).keep by unfold FileT.unInd; rw [if_pos h768])
          obtain ⟨s, hbx⟩ := HG.out.cell
          have ci : wr.cell? ⟨g, 18, none⟩ = some (.int .i64 (G.x.getD 10 0)) := hbx.cell 18
          clear h768 hbx
          generalize G.x.getD 10 0 = ind at *
          have HGv := Lib.hid (fgive_any B g ind G wr HG.out hBr)
          have HK := Lib.hid (fun w h hb => fkeep_any B g ((G.gave ind).setX 10 0) w h hb)
          go_upto_region 12 with (first
            | (go_at_call 140; refine HGv.out.mono ?_; rintro e w3 ⟨rfl, hG3, x3⟩))
          obtain ⟨s3, hbx3⟩ := hG3.cell
          have c3 : ∃ old, w3.cell? ⟨g, 18, none⟩ = some (.int .i64 old) := ⟨_, hbx3.cell 18⟩
          obtain ⟨old, c3⟩ := c3
          have f3 := hbx3.frozen 18
          have hG4 : FileIn B (w3.setCell ⟨g, 18, none⟩ (.int .i64 0)) g ((G.gave ind).setX 10 0) := hG3.setX (j := 10) (by omega) (by omega) (by omega) (by omega)
          have HX4 := Lib.hid ((HX.out.trans x3).setCell (p := ⟨g, 18, none⟩) hG3.2.1 (.int .i64 0))
          have HG4 := Lib.hid hG4
          have hB4 : B ≤ (w3.setCell ⟨g, 18, none⟩ (.int .i64 0)).heap.size := by have := x3.size; simp [World.setCell]; omega
          clear hG3 x3 hbx3 ci hG4 HGv
          go_upto_region 13 with fail
          generalize w3.setCell ⟨g, 18, none⟩ (.int .i64 0) = w4 at *
          clear c3 f3
          go_wp2_with (first
            | (go_at_call 118; refine (HK.out _ HG4.out hB4).mono ?_; rintro e w5 ⟨rfl, hG5, x5⟩))
          go_meet
          exact ⟨by rw [HU.out]; exact hG5, HX4.out.trans x5⟩
        · have d7 : ¬ (size : Int) ≤ 768 := by omega
          have HU := Lib.hid (show G.unInd size = G by unfold FileT.unInd; rw [if_neg h768])
          clear h768
          go_wp2_with fail
          go_meet
          exact ⟨by rw [HU.out]; exact HG.out, HX.out⟩
      case rest =>
        obtain ⟨hG2, x2⟩ := hcut
        have HG2 := Lib.hid hG2
        have HX2 := Lib.hid x2
        have hB2 : B ≤ wc.heap.size := by have := x2.size; omega
        clear hG2 x2 HG HX hBr
        generalize G.unInd size = G2 at *
        obtain ⟨m, hm⟩ : ∃ m, size % 128 = m := ⟨_, rfl⟩
        obtain ⟨q, hq⟩ : ∃ q, size / 128 = q := ⟨_, rfl⟩
        have e1 : (size : Int) % 128 = (m : Int) := by omega
        have e2 : (size : Int) / 128 = (q : Int) := by omega
        have hm8 : m < 128 := by omega
        have HB : Hid (G2.blank size = if m = 0 ∨ atP G2.v G2.I G2.x q = -1 then G2 else G2.lay (atP G2.v G2.I G2.x q).toNat m (zs (128 - m))) := Lib.hid (by unfold FileT.blank; rw [hm, hq])
        by_cases hm0 : m = 0
        · subst hm0
          have HU := Lib.hid (show F.short size = G2 by rw [HSh.out, HB.out, if_pos (.inl rfl)])
          clear HSh HB
          rw [show ((0 : Nat) : Int) = 0 from rfl] at e1
          go_wp2_with fail
          go_ret
          exact ⟨rfl, by rw [HU.out]; exact HG2.out, HX2.out⟩
        · have d0 : ((m : Int) == 0) = false := by simp; omega
          have HAt := Lib.hid (show Calls Tryz.prog 122 #[.pointer (some ⟨g, 0, none⟩), .int .i64 (q : Int)] wc fun e w' => e = .returned (.int .i64 (atP G2.v G2.I G2.x q)) ∧ Ext wc w' from by
            obtain ⟨s, hbx, hst⟩ := HG2.out.strs
            exact fat_any g s G2 q wc hbx hst HG2.out.1 (by omega))
          by_cases ha : atP G2.v G2.I G2.x q = -1
          · have HU := Lib.hid (show F.short size = G2 by rw [HSh.out, HB.out, if_pos (.inr ha)])
            rw [ha] at HAt
            clear HSh HB ha
            go_wp2_with (first
              | (go_at_call 122; refine HAt.out.mono ?_; rintro e w2 ⟨rfl, x3⟩))
            go_ret
            exact ⟨rfl, by rw [HU.out]; exact HG2.out.ext x3, HX2.out.trans (Below.mono x3 hB2)⟩
          · obtain ⟨l1, l2⟩ := isB_le (isB_of ha)
            have hpl := plan_bd HG2.out.1.good.plan
            have HU := Lib.hid (show F.short size = G2.lay (atP G2.v G2.I G2.x q).toNat m (zs (128 - m)) by rw [HSh.out, HB.out, if_neg (fun h => h.elim hm0 ha)])
            have d1 : (atP G2.v G2.I G2.x q != -1) = true := by simpa using ha
            clear HSh HB ha
            generalize atP G2.v G2.I G2.x q = bq at *
            obtain ⟨bb, rfl⟩ : ∃ bb : Nat, bq = (bb : Int) := ⟨bq.toNat, by omega⟩
            rw [Int.toNat_natCast] at HU
            have HR := Lib.hid (fun w => repeat_any (128 - m) w (by omega))
            rw [show ((128 - m : Nat) : Int) = 128 - (m : Int) by omega] at HR
            have HLy := Lib.hid (fun w h => flay_any B g G2 bb m (zs (128 - m)) w h (by omega) (by omega) (by rw [zs_len]; omega))
            have wm : IntKind.i64.wrap (128 - (m : Int)) = 128 - (m : Int) := by rw [IntKind.wrap_i64]; omega
            clear hpl l1 l2
            go_upto_region 21 with (first
              | (go_at_call 122; refine HAt.out.mono ?_; rintro e w2 ⟨rfl, x3⟩; have HG3 := Lib.hid (HG2.out.ext x3); have hB3 : B ≤ w2.heap.size := (by have := x3.size; omega); have HX3 := Lib.hid (HX2.out.trans (Below.mono x3 hB2)); clear x3))
            go_wp2_with (first
              | (go_at_call 53; refine (HR.out _).mono ?_; rintro e w4 ⟨rfl, x4⟩; have HG4 := Lib.hid (HG3.out.ext x4))
              | (go_at_call 117; refine (HLy.out _ HG4.out).mono ?_; rintro e w5 ⟨rfl, hG5, x5⟩))
            go_ret
            exact ⟨rfl, by rw [HU.out]; exact hG5, (HX3.out.trans (Below.mono x4 hB3)).trans x5⟩
set_option maxHeartbeats 4000000 in
set_option maxRecDepth 100000 in
theorem fcut_any (A : Option Addr) (n c : Nat) (v : List (List UInt8)) (I k size : Int) (w : World) (hv : Strs w A n v) (hg : Good v I) (hk1 : 1 ≤ k) (hk2 : k ≤ I) :
    Calls Tryz.prog 83 #[.slice A n c, .int .i64 k, .int .i64 size] w fun e w' => WriteR w.heap.size (cutP v I k size) e w' ∧ Ext w w' := by
  have HO := Lib.hid (fun w h => opened_yes A n c v I k w h hg hk1 hk2)
  have HFO := Lib.hid (fun (B g : Nat) (w : World) (s : Sl) hB hs hbx own => FileIn.of_opened (B := B) (w := w) (g := g) (s := s) hg hk1 hk2 hB hs hbx own)
  have HV := Lib.hid hv
  have HP := Lib.hid (show cutP v I k size = if size < 0 then ([], 1) else if 8960 < size then ([], 6) else (((fileOf v I k).cut size.toNat).v, 0) from rfl)
  clear hv hg hk1 hk2
  generalize hG : w.heap.size = G at *
  go_enter Tryz.func83, Tryz.ntmps83
  go_upto_region 2 with (first
    | (go_at_call 49; refine (HO.out _ HV.out).mono ?_; rintro e w2 ⟨⟨s, rfl, hsn, own2⟩, x2⟩)
    | (refine wp_st_file (.tmp 8) (.tmp 17) rfl rfl w2.heap.size s (fileOf v I k) _ 83 rfl rfl (Box.new _ _ _) rfl ?_; intro w3 b3 g3))
  have xa : Ext w2 (w2.alloc (.cells fileZ 83)) := (Ext.refl w2).alloc _
  have x23 : Ext w2 w3 := xa.grown g3 (fun j e => by cases e; exact Nat.le_refl _)
  have own3 := (own_ext own2 xa).kept g3 (.inr (own_ne (own_ext own2 xa) (Box.new w2 83 fileZ) (by decide)).symm)
  rw [hG] at own3
  have hF0 := HFO.out G w2.heap.size w3 s (by rw [← hG]; exact x2.size) hsn b3 own3
  have HX := Lib.hid (x2.trans x23)
  have HB3 := Lib.hid b3
  clear HO HFO HV own2 hsn own3 xa x23 x2 g3 b3
  generalize w2.heap.size = g at *
  generalize fileOf v I k = F0 at *
  have HF0 := Lib.hid hF0
  clear hF0
  by_cases c1 : size < 0
  · rw [if_pos c1] at HP
    go_wp2_with fail
    go_ret2
    rw [HP.out]
    exact ⟨.inl ⟨by simp, rfl⟩, HX.out⟩
  rw [if_neg c1] at HP
  have d1 : decide (size < 0) = false := decide_eq_false c1
  by_cases c2 : 8960 < size
  · rw [if_pos c2] at HP
    go_wp2_with fail
    go_ret2
    rw [HP.out]
    exact ⟨.inl ⟨by simp, rfl⟩, HX.out⟩
  rw [if_neg c2] at HP
  have d2 : decide (8960 < size) = false := decide_eq_false c2
  obtain ⟨z, rfl⟩ : ∃ z : Nat, size = (z : Int) := ⟨size.toNat, by omega⟩
  rw [Int.toNat_natCast] at HP
  have HSz := Lib.hid (fsize_any g _ F0 w3 HB3.out)
  have c11 : w3.cell? ⟨g, 11, none⟩ = some (.int .i64 (F0.x.getD 3 0)) := HB3.out.cell 11
  have f11 := HB3.out.frozen 11
  have hF2 : FileIn G (w3.setCell ⟨g, 11, none⟩ (.int .i64 (z : Int))) g (F0.setX 3 (z : Int)) := HF0.out.setX (j := 3) (by omega) (by omega) (by omega) (by omega)
  have hgB := HF0.out.2.1
  have hw3 : G ≤ w3.heap.size := by rw [← hG]; exact HX.out.size
  have HK := Lib.hid (fun w h hB => fkeep_any G g (F0.setX 3 (z : Int)) w h hB)
  have HSh := Lib.hid (fun w h hB => fshort_any G g z (F0.setX 3 (z : Int)).keep w h hB (by omega))
  have HX2 := Lib.hid (show Below G w3 (w3.setCell ⟨g, 11, none⟩ (.int .i64 (z : Int))) from Below.setCell (Below.refl G w3) (p := ⟨g, 11, none⟩) hgB _)
  have hs2 : (w3.setCell ⟨g, 11, none⟩ (.int .i64 (z : Int))).heap.size = w3.heap.size := by simp [World.setCell]
  have HC := Lib.hid (show F0.cut z = if (z : Int) < sizeP F0.x then (F0.setX 3 (z : Int)).keep.short z else (F0.setX 3 (z : Int)).keep from rfl)
  have HF2 := Lib.hid hF2
  clear hF2 HF0 HB3
  generalize sizeP F0.x = sz at *
  generalize F0.x.getD 3 0 = old at *
  go_upto_region 10 with (first
    | (go_at_call 50; refine HSz.out.mono ?_; rintro e w5 ⟨rfl, rfl⟩))
  generalize w3.setCell ⟨g, 11, none⟩ (.int .i64 (z : Int)) = w4 at *
  have hB4 : G ≤ w4.heap.size := by omega
  have HX4 := Lib.hid (HX.out.under HX2.out (by omega))
  clear c11 f11 hs2 HX2 HX
  by_cases hlt : (z : Int) < sz
  · rw [if_pos hlt] at HC
    rw [HC.out] at HP
    have d3 : decide ((z : Int) < sz) = true := decide_eq_true hlt
    clear hlt HC
    go_upto_region 17 with (first
      | (go_at_call 118; refine (HK.out _ HF2.out hB4).mono ?_; rintro e w5 ⟨rfl, hF5, x5⟩; have HF5 := Lib.hid hF5; have hB5 : G ≤ w5.heap.size := (by have := x5.size; omega); have HX5 := Lib.hid (HX4.out.under x5 (by omega)); clear hF5 x5)
      | (go_at_call 119; refine (HSh.out _ HF5.out hB5).mono ?_; rintro e w6 ⟨rfl, hF6, x6⟩))
    obtain ⟨hok7, hB7, b7, cap7, hbx7, own7⟩ := hF6
    have OW7 := Lib.hid own7
    have HX7 := Lib.hid (HX5.out.under x6 (by omega))
    have cv7 : w6.cell? ⟨g, 0, none⟩ = some (.slice (some ⟨b7, 0, none⟩) ((F0.setX 3 (z : Int)).keep.short z).v.length cap7) := hbx7.cell 0
    clear hok7 hB7 hbx7 own7 x6 HF2 HK HSh HF5 HX5
    go_wp2_with fail
    go_ret2
    exact ⟨.inr ⟨by rw [HP.out], b7, cap7, by rw [HP.out]; rfl, by rw [HP.out]; exact OW7.out⟩, HX7.out⟩
  · rw [if_neg hlt] at HC
    rw [HC.out] at HP
    have d3 : decide ((z : Int) < sz) = false := decide_eq_false hlt
    clear hlt HC HSh
    go_upto_region 17 with (first
      | (go_at_call 118; refine (HK.out _ HF2.out hB4).mono ?_; rintro e w5 ⟨rfl, hF5, x5⟩))
    obtain ⟨hok7, hB7, b7, cap7, hbx7, own7⟩ := hF5
    have OW7 := Lib.hid own7
    have HX7 := Lib.hid (HX4.out.under x5 (by omega))
    have cv7 : w5.cell? ⟨g, 0, none⟩ = some (.slice (some ⟨b7, 0, none⟩) (F0.setX 3 (z : Int)).keep.v.length cap7) := hbx7.cell 0
    clear hok7 hB7 hbx7 own7 x5 HF2 HK
    go_wp2_with fail
    go_ret2
    exact ⟨.inr ⟨by rw [HP.out], b7, cap7, by rw [HP.out]; rfl, by rw [HP.out]; exact OW7.out⟩, HX7.out⟩
end Go.Proofs.YtnoofjddikhopaaGreat
