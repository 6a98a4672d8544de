/- geom.Format, fs.Make at any numbers. -/
import Derived.Test.YtnoofjddikhopaaGreatFa27
import Derived.Test.YtnoofjddikhopaaGreatFa24
import Derived.Laws.BitsAllLaws
namespace Go.Proofs.YtnoofjddikhopaaGreat
set_option linter.unusedVariables false
set_option linter.unusedSimpArgs false
open Go.RowKit
theorem plan_e (B I : Int) (w : World) (h : planB B I = false) :
    Calls Tryz.prog 59 #[.int .i64 B, .int .i64 I] w fun e w' => e = .returned (.tuple #[noGeom, .int .i64 (planE B I)]) ∧ Ext w w' := by
  have hp : B < 16 ∨ 223 < B ∨ (16 ≤ B ∧ B ≤ 223 ∧ I < 4) ∨ (16 ≤ B ∧ B ≤ 223 ∧ 64 < I) ∨ (16 ≤ B ∧ B ≤ 223 ∧ 4 ≤ I ∧ I ≤ 64 ∧ B ≤ 3 + (I + 1) / 2) := by
    have : ¬ (16 ≤ B ∧ B ≤ 223 ∧ 4 ≤ I ∧ I ≤ 64 ∧ 3 + (I + 1) / 2 < B) := by simpa [planB] using h
    omega
  clear h
  rcases hp with hp | hp | hp | hp | hp
  case' inr.inr.inr.inr =>
    rw [show planE B I = 10 by unfold planE; rw [if_neg (by omega), if_pos (by omega)]]
    go_enter Tryz.func59, Tryz.ntmps59
    go_wp2_with fail
    exact bodyPost_ret (v := .tuple #[noGeom, .int .i64 10]) (by simp [results, Tryz.results59, go_sem, noGeom]) rfl ⟨rfl, (Ext.refl _).alloc _⟩
  all_goals
    rw [show planE B I = 2 by unfold planE; rw [if_pos (by omega)]]
    go_enter Tryz.func59, Tryz.ntmps59
    go_wp2_with fail
    exact bodyPost_ret (v := .tuple #[noGeom, .int .i64 2]) (by simp [results, Tryz.results59, go_sem, noGeom]) rfl ⟨rfl, (Ext.refl _).alloc _⟩
def fillN (b k : Nat) : List (List UInt8) := List.replicate k (zs 128) ++ List.replicate (b - k) []
theorem fillN_len (b k : Nat) (h : k ≤ b) : (fillN b k).length = b := by simp [fillN]; omega
theorem fillN_set (b k : Nat) (h : k < b) : (fillN b k).set k (zs 128) = fillN b (k + 1) := by
  unfold fillN
  rw [List.set_append, if_neg (by simp), List.length_replicate, Nat.sub_self, show b - k = (b - (k + 1)) + 1 by omega, List.replicate_succ, List.set_cons_zero, List.replicate_succ', List.append_assoc]
  rfl
theorem fillN_all (b : Nat) : fillN b b = List.replicate b (zs 128) := by simp [fillN]
theorem emptyRowN (b : Nat) : (emptyRow b).toList = strL (fillN b 0) := by
  unfold emptyRow
  rw [toList_madeCells_one]
  simp [fillN, strL, str]
theorem strL_getD (B : List (List UInt8)) (i : Nat) (h : i < B.length) : (strL B)[i]? = some (.string (str (B.getD i []))) := by
  simp [strL, h, List.getD_eq_getElem?_getD]
theorem nat_or_xor {x m : Nat} (h : x.testBit m = false) : x ||| 2 ^ m = x ^^^ 2 ^ m := by
  apply Nat.eq_of_testBit_eq
  intro i
  rw [Nat.testBit_or, Nat.testBit_xor, Nat.testBit_two_pow]
  by_cases e : m = i
  · subst e; rw [h]; simp
  · rw [decide_eq_false e]; simp
theorem or_vals (m : List UInt8) (i : Nat) (h : i / 8 < m.length) (hb : bitB m i = false) : (byteVals m).setIfInBounds (i / 8) (.int .u8 (bits BinOp.or IntKind.u8 (((m.getD (i / 8) 0).toNat : Nat) : Int) (2 ^ (i % 8) % 256))) = byteVals (flipL m i) := by
  have h8 : i % 8 < 8 := Nat.mod_lt _ (by omega)
  have hp : 2 ^ (i % 8) < 256 := by
    have : 2 ^ (i % 8) ≤ 2 ^ 7 := Nat.pow_le_pow_right (by omega) (by omega)
    omega
  have e : ((2 : Int) ^ (i % 8) % 256) = ((2 ^ (i % 8) : Nat) : Int) := by
    rw [show ((2 : Int) ^ (i % 8)) = ((2 ^ (i % 8) : Nat) : Int) from by rw [Int.natCast_pow]; rfl]
    exact Int.emod_eq_of_lt (Int.natCast_nonneg _) (Int.ofNat_lt.2 hp)
  rw [e, u8_or _ _ (Int.natCast_nonneg _) (by have := (m.getD (i / 8) 0).toNat_lt; omega) (Int.natCast_nonneg _) (Int.ofNat_lt.2 hp), Int.toNat_natCast, Int.toNat_natCast, nat_or_xor (by rw [← bitB_test]; exact hb)]
  exact flip_vals m i h
theorem byte0 (m : List UInt8) (h : m = zs 128) : zeroCells128 = byteVals m := by
  rw [h]; kernel_rfl
set_option maxHeartbeats 4000000 in
set_option maxRecDepth 100000 in
theorem format_yes (b : Nat) (I : Int) (w : World) (h : planB (b : Int) I = true) :
    Calls Tryz.prog 26 #[.int .i64 (b : Int), .int .i64 I] w fun e w' => ∃ u, e = .returned (.tuple #[u, .int .i64 0]) ∧ Ext w w' ∧ w'.ownsRow w.heap.size 9 1 u b (strL (fmtV (b : Int) I)) := by
  have hp := plan_bd h
  have HP := Lib.hid (fun w => plan_yes (b : Int) I w h)
  have HH := Lib.hid (fun w => first_any (b : Int) I w h)
  obtain ⟨dd, hdd⟩ : ∃ dd : Nat, 3 + (I + 1) / 2 = (dd : Int) := ⟨(3 + (I + 1) / 2).toNat, by omega⟩
  have hd35 : dd ≤ 35 := by omega
  have hdb : dd < b := by omega
  have HF := Lib.hid (show fmtV (b : Int) I = ((fillN b b).set 0 (headL (b : Int) I)).set 2 (flips (zs 128) dd) from by
    unfold fmtV dataOf; rw [fillN_all, Int.toNat_natCast, hdd, Int.toNat_natCast])
  have HS := Lib.hid (fillN_set b)
  have HLk := Lib.hid (fillN_len b)
  have HE := Lib.hid (emptyRowN b)
  have HZ := Lib.hid (byte0 (flips (zs 128) 0) rfl)
  have HTL := Lib.hid (fun k => show (flips (zs 128) k).length = 128 by rw [flips_len, zs_len])
  have HTO := Lib.hid (fun (k : Nat) (hk : k < 1024) => or_vals (flips (zs 128) k) k (by rw [flips_len, zs_len]; omega) (by rw [bit_flips _ _ _ (by rw [zs_len]; omega), bit_zs]; simp))
  have HFS := Lib.hid (fun k => show flips (zs 128) (k + 1) = flipL (flips (zs 128) k) k from rfl)
  have hmk2 : ∀ w, (Instr.makeSlice 22 (.int .i64 (b : Int)) (.int .i64 (b : Int))).run Tryz.prog w = .ok (.slice (some ⟨w.heap.size, 0, none⟩) b b) (w.alloc (.cells (emptyRow b) 9)) := fun w => makeStrs b (by omega) w
  have hmk := make128
  unfold geomV at HP HH
  rw [hdd] at HP HH
  clear hdd h
  generalize headL (b : Int) I = H at HH HF
  generalize fmtV (b : Int) I = FV at *
  go_enter Tryz.func26, Tryz.ntmps26
  go_wp2_with (go_at_call 59; refine (HP.out _).mono ?_; rintro e w1 ⟨rfl, x1⟩)
  have bG := Box.new w1 81 #[.int .i64 (b : Int), .int .i64 I, .int .i64 1, .int .i64 2, .int .i64 3, .int .i64 (dd : Int)]
  have x2 := x1.alloc (.cells #[.int .i64 (b : Int), .int .i64 I, .int .i64 1, .int .i64 2, .int .i64 3, .int .i64 (dd : Int)] 81)
  have z2 : (w1.alloc (.cells #[.int .i64 (b : Int), .int .i64 I, .int .i64 1, .int .i64 2, .int .i64 3, .int .i64 (dd : Int)] 81)).heap.size = w1.heap.size + 1 := World.size_alloc _ _
  generalize w1.alloc (.cells #[.int .i64 (b : Int), .int .i64 I, .int .i64 1, .int .i64 2, .int .i64 3, .int .i64 (dd : Int)] 81) = w2 at bG x2 z2 ⊢
  have own0 := own_of_box (base := w.heap.size) (Box.new w2 9 (emptyRow b)) (n := b) (by simp [emptyRow, size_madeCells]) x2.size (by unfold maxLen; omega)
  rw [HE.out, z2] at own0
  have bG3 := bG.ext ((Ext.refl w2).alloc (.cells (emptyRow b) 9))
  have x3 := x2.alloc (.cells (emptyRow b) 9)
  have hgv : w.heap.size ≤ w1.heap.size + 1 := by have := x1.size; omega
  have hne : w1.heap.size ≠ w1.heap.size + 1 := by omega
  generalize w2.alloc (.cells (emptyRow b) 9) = w3 at own0 bG3 x3 ⊢
  generalize w1.heap.size + 1 = gv at *
  generalize w1.heap.size = g1 at *
  clear bG x2 x1 z2 hmk2 HE HP
  clear w1 w2
  go_loopw [9, 26] (fun _ t wx => ∃ k : Nat, k ≤ b ∧ t = .int .i64 k ∧ Ext w wx ∧ wx.ownsRow w.heap.size 9 1 (.slice (some ⟨gv, 0, none⟩) b b) b (strL (fillN b k)) ∧ Box wx g1 81 #[.int .i64 (b : Int), .int .i64 I, .int .i64 1, .int .i64 2, .int .i64 3, .int .i64 (dd : Int)]) (fun _ t _ => b - (intOf t).toNat)
  case atStart => exact ⟨0, by omega, rfl, x3, own0, bG3⟩
  case round =>
    obtain ⟨k, hk, rfl, xk, ok, bk⟩ := hrel
    by_cases hlt : k < b
    · have HK := Lib.hid (HS.out k hlt)
      have hLk := HLk.out k hk
      have hok : ∀ (wx : World), Ext wr wx → wx.cell? ⟨gv, k, none⟩ = some (.string (str ((fillN b k).getD k []))) := fun wx hx => hx.keep ((ok.cellAt k (by omega)).trans (strL_getD _ k (by omega)))
      have hki : (k : Int) < (b : Int) := by omega
      go_wp2_with (go_at_call 60; refine (zeros_any _).mono ?_; rintro e w4 ⟨rfl, x4⟩; have q4 := hok _ x4; have o4 := own_ext ok x4; have kf := o4.frozenAt k; have b4 := bk.ext x4)
      go_roundw
      case rel => exact ⟨k + 1, by omega, by go_num, (xk.trans x4).setCell hgv _, by rw [← HK.out]; exact own_set o4 _, b4.setOther hne _⟩
      case measure => simp [intOf]; omega
    · obtain rfl : k = b := by omega
      have hl0 := HLk.out k (Nat.le_refl k)
      generalize fillN k k = B at *
      go_wp2_with (first
        | (refine wp_ld 81 (.tmp 6) rfl rfl g1 _ _ _ rfl bk Tryz.underlying81 rfl geomSize ?_)
        | (go_at_call 61; refine (HH.out _).mono ?_; rintro e w4 ⟨rfl, x4⟩; have q4 : w4.cell? ⟨gv, 0, none⟩ = some (.string (str (B.getD 0 []))) := x4.keep ((ok.cellAt 0 (by omega)).trans (strL_getD _ 0 (by omega))); have o4 := own_ext ok x4; have kf := o4.frozenAt 0; have b4 := bk.ext x4; have q45 : ((w4.setCell ⟨gv, 0, none⟩ (.string (str H))).alloc (.cells zeroCells128 5)).cell? ⟨g1, 5, none⟩ = some (.int .i64 (dd : Int)) := ((b4.setOther hne _).ext ((Ext.refl _).alloc _)).cell 5))
      have o5 : ((w4.setCell ⟨gv, 0, none⟩ (.string (str H))).alloc (.cells zeroCells128 5)).ownsRow w.heap.size 9 1 (.slice (some ⟨gv, 0, none⟩) k k) k (strL (B.set 0 H)) := own_ext (own_set o4 H) ((Ext.refl _).alloc (.cells zeroCells128 5))
      have x5 : Ext w ((w4.setCell ⟨gv, 0, none⟩ (.string (str H))).alloc (.cells zeroCells128 5)) := ((xk.trans x4).setCell hgv _).alloc _
      have b5 := Box.new (w4.setCell ⟨gv, 0, none⟩ (.string (str H))) 5 zeroCells128
      have hgt : gv < w4.heap.size := by
        rcases o4.2 with ⟨_, h0⟩ | ⟨g', cap', cur, e1, _, hh, _⟩
        · omega
        · injection e1 with e1
          injection e1 with e1
          injection e1 with e1
          subst e1
          exact (Array.getElem?_eq_some_iff.1 hh).1
      rw [show (w4.setCell ⟨gv, 0, none⟩ (.string (str H))).heap.size = w4.heap.size by simp [World.setCell]] at b5
      have hw4 : w.heap.size ≤ w4.heap.size := by omega
      generalize (w4.setCell ⟨gv, 0, none⟩ (.string (str H))).alloc (.cells zeroCells128 5) = w5 at o5 x5 b5 ⊢
      generalize w4.heap.size = gt at *
      rw [HZ.out] at b5
      have hB2 : (B.set 0 H).length = k := by simp [hl0]
      generalize B.set 0 H = B2 at *
      clear xk ok bk o4 b4 x4 kf q4 q45 hmk HH HS HLk HZ
      go_loopw [11, 41] (fun _ t wx => ∃ j : Nat, j ≤ dd ∧ t = .int .i64 j ∧ Ext w wx ∧ wx.ownsRow w.heap.size 9 1 (.slice (some ⟨gv, 0, none⟩) k k) k (strL B2) ∧ Box wx gt 5 (byteVals (flips (zs 128) j))) (fun _ t _ => dd - (intOf t).toNat)
      case atStart => exact ⟨0, by omega, rfl, x5, o5, b5⟩
      case round =>
        obtain ⟨j, hj, rfl, xk, ok, bk⟩ := hrel
        have hkl := HTL.out j
        by_cases hlt : j < dd
        · have HK := Lib.hid (HTO.out j (by omega))
          rw [← HFS.out] at HK
          have hki : (j : Int) < (dd : Int) := by omega
          generalize hfl : flips (zs 128) j = m at *
          obtain ⟨q8, hq8⟩ : ∃ q8, j / 8 = q8 := ⟨_, rfl⟩
          obtain ⟨m8, hm8⟩ : ∃ m8, j % 8 = m8 := ⟨_, rfl⟩
          have t1 : (j : Int) / 8 = (q8 : Int) := by omega
          have t2 : (j : Int) % 8 = (m8 : Int) := by omega
          have hq16 : q8 < 128 := by omega
          have hm16 : m8 < 8 := by omega
          rw [hq8, hm8] at HK
          clear hq8 hm8 hfl
          have q : ∀ x : Later wr, x.now.cell? ⟨gt, q8, none⟩ = some (.int .u8 (((m.getD q8 0).toNat : Nat) : Int)) := fun x => ((bk.ext x.ext).cell q8).trans (byteVals_at _ q8 (by omega))
          have qf : ∀ x : Later wr, x.now.frozen? ⟨gt, q8, none⟩ = false := fun x => (bk.ext x.ext).frozen q8
          have hcb := byte_bd (m.getD q8 0)
          generalize hC : (((m.getD q8 0).toNat : Nat) : Int) = C at *
          go_wp2_with fail
          refine wp_region_later_tail 10 (by kernel_rfl) (by kernel_rfl) ?_
          simp only [List.take_succ_cons, List.take_zero, List.drop_succ_cons, List.drop_zero]
          repeat (go_big_quiet_step (fail))
          refine wpQuiet_nil ?_
          rintro w2 ⟨x2, rfl⟩
          have q' := q x2
          have qf' := qf x2
          clear q qf
          have x2e := x2.ext
          have b2 := bk.ext x2e
          have o2 := own_ext ok x2e
          generalize x2.now = w2 at *
          go_wp2_with fail
          go_roundw
          case rel => exact ⟨j + 1, by omega, by go_num, (xk.trans x2e).setCell hw4 _, own_setNe o2 hgt _, by rw [← HK.out]; exact b2.set q8 _⟩
          case measure => simp [intOf]; omega
        · obtain rfl : j = dd := by omega
          have cv := conv_box (c := 128) bk hkl
          have q2 : wr.cell? ⟨gv, 2, none⟩ = some (.string (str (B2.getD 2 []))) := (ok.cellAt 2 (by omega)).trans (strL_getD _ 2 (by omega))
          have kf := ok.frozenAt 2
          go_wp2_with fail
          go_ret2
          exact ⟨_, rfl, xk.setCell hgv _, by rw [HF.out]; exact own_set ok _⟩
set_option maxHeartbeats 1000000 in
theorem format_no (B I : Int) (w : World) (h : planB B I = false) :
    Calls Tryz.prog 26 #[.int .i64 B, .int .i64 I] w fun e w' => e = .returned (.tuple #[.slice none 0 0, .int .i64 (planE B I)]) ∧ Ext w w' := by
  have HP := Lib.hid (fun w => plan_e B I w h)
  have hz := planE_no h
  have d0 : (planE B I != 0) = true := by simpa using hz
  unfold noGeom at HP
  generalize planE B I = z at *
  go_enter Tryz.func26, Tryz.ntmps26
  go_wp2_with (go_at_call 59; refine (HP.out _).mono ?_; rintro e w1 ⟨rfl, x1⟩)
  go_ret2
  exact ⟨rfl, x1.alloc _⟩
theorem new_fmtV {B I : Int} (h : planB B I = true) : newP (fmtV B I) I 2 0 = (mkV B I, 1, 0) := by
  have hp := plan_bd h
  have hf : freeI (fmtV B I) I = some 0 := by
    unfold freeI
    rw [List.find?_range_eq_some]
    refine ⟨?_, List.mem_range.2 (by omega), fun j hj => by omega⟩
    rw [ino_fmtV h (by omega) (by omega)]
    rfl
  unfold newP
  rw [hf]
  rfl
set_option maxHeartbeats 1000000 in
set_option maxRecDepth 100000 in
theorem make_any (B I : Int) (w : World) :
    Calls Tryz.prog 10 #[.int .i64 B, .int .i64 I] w fun e w' => WriteR w.heap.size (mkP B I) e w' ∧ Ext w w' := by
  cases h : planB B I with
  | false =>
    have HP := Lib.hid (fun w => format_no B I w h)
    have hz := planE_no h
    have HM := Lib.hid (show mkP B I = ([], planE B I) by unfold mkP; rw [if_pos hz])
    have HZ := Lib.hid hz
    have d0 : (planE B I != 0) = true := by simpa using hz
    clear hz
    generalize planE B I = z at *
    go_enter Tryz.func10, Tryz.ntmps10
    go_wp2_with (go_at_call 26; refine (HP.out _).mono ?_; rintro e w1 ⟨rfl, x1⟩)
    go_ret2
    rw [HM.out]
    exact ⟨WriteR.err HZ.out, x1⟩
  | true =>
    have hp := plan_bd h
    obtain ⟨b, rfl⟩ : ∃ b : Nat, B = (b : Int) := ⟨B.toNat, by omega⟩
    have HP := Lib.hid (fun w => format_yes b I w h)
    have hg := good_fmtV h
    have HLn := Lib.hid (show (fmtV (b : Int) I).length = b by rw [fmtV_len]; omega)
    have HN := Lib.hid (fun A n c w hv => inew_any A n c (fmtV (b : Int) I) I 2 0 w hv hg (.inr rfl) (by omega) (by omega))
    rw [new_fmtV h] at HN
    simp only at HN
    have HM := Lib.hid (show mkP (b : Int) I = (mkV (b : Int) I, 0) by unfold mkP; rw [if_neg (by rw [planE_yes h]; simp)])
    have HL := Lib.hid (show (mkV (b : Int) I).length = b by rw [mkV_len]; omega)
    have hb0 : 0 < b := by omega
    clear h hg hp
    generalize fmtV (b : Int) I = F at *
    generalize mkV (b : Int) I = M at *
    go_enter Tryz.func10, Tryz.ntmps10
    go_upto_region 2 with (go_at_call 26; refine (HP.out _).mono ?_; rintro e w1 ⟨u, rfl, x1, own1⟩; obtain ⟨g1, c1, rfl, hg1, s1⟩ := Strs.own' own1 (by omega))
    have HN1 := Lib.hid (HN.out _ _ c1 _ s1)
    have HX1 := Lib.hid x1
    have hsz := x1.size
    clear own1 s1 x1 HN HP
    go_wp2_with (first
      | (go_at_call 27; refine HN1.out.mono ?_; rintro e w2 ⟨u2, rfl, x2, own2, _⟩; have own3 := own2 (by trivial); obtain ⟨g2, c2, rfl, hg2, s2⟩ := Strs.own' own3 (by omega)))
    go_ret2
    rw [HM.out]
    refine ⟨.inr ⟨rfl, g2, c2, by show _ = Ending.returned (.tuple #[.slice (some ⟨g2, 0, none⟩) M.length c2, .int .i64 0]); rw [HL.out]; rfl, ?_⟩, HX1.out.trans x2⟩
    rw [HL.out]
    exact own_base own3 hsz
end Go.Proofs.YtnoofjddikhopaaGreat
