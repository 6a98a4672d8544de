/- The drive of the statements of layer 28: drive.New, wal.Format. -/
import Derived.Test.YtkokmnaicfdjaaaGreatDoorVc14
import Derived.Test.YtkokmnaicfdjaaaGreatDoorVc13
import Derived.Test.YtkokmnaicfdjaaaGreatDoorVc2
import Derived.Test.YtkokmnaicfdjaaaGreatDoorVc3
namespace Go.Proofs.YtkokmnaicfdjaaaGreatDoor
set_option linter.unusedVariables false
set_option linter.unusedSimpArgs false
open Go.RowKit

def dnV (n k : Nat) : List (List UInt8) := List.replicate k (zs 128) ++ List.replicate (n - k) []
theorem dnV_len (n k : Nat) (h : k ≤ n) : (dnV n k).length = n := by simp [dnV]; omega
theorem dnV_set (n k : Nat) (h : k < n) : (dnV n k).set k (zs 128) = dnV n (k + 1) := by
  unfold dnV
  rw [List.set_append, if_neg (by simp), List.length_replicate, Nat.sub_self, show n - k = (n - (k + 1)) + 1 by omega, List.replicate_succ, List.set_cons_zero, List.replicate_succ', List.append_assoc]
  rfl
theorem dnV_all (n : Nat) : dnV n n = List.replicate n (zs 128) := by simp [dnV]
theorem emptyRow_list (n : Nat) : (emptyRow n).toList = strL (dnV n 0) := by
  unfold emptyRow
  rw [toList_madeCells_one]
  simp [strL, dnV]
  exact .inr rfl
theorem own_box {w : World} {base n g : Nat} {t : TypeId} {xs : List Value} (h : w.ownsRow base t 1 (.slice (some ⟨g, 0, none⟩) n n) n xs) : Box w g t xs.toArray := by
  rcases h.2 with ⟨e, _⟩ | ⟨g1, cap1, cur, e, hb, hh, _, _, hs, ht⟩
  · cases e
  · injection e with e1 e2 e3
    injection e1 with e1
    injection e1 with e1
    subst e1
    subst e3
    rw [List.take_of_length_le (by simp; omega)] at ht
    rw [← ht]
    exact hh
set_option maxHeartbeats 1000000 in
set_option maxRecDepth 100000 in
theorem dnew_any (n : Nat) (w : World) (h0 : 0 < n) (hn : n ≤ 256) :
    Calls Tryz.prog 114 #[.int .i64 n] w fun e w' => ∃ g, e = .returned (.tuple #[.agg #[.slice (some ⟨g, 0, none⟩) n n, .slice none 0 0, .int .i64 (-1)], .int .i64 0]) ∧ Ext w w' ∧ Box w' g 9 (strVals (List.replicate n (zs 128))) ∧ w.heap.size ≤ g := by
  have hmk2 := makeStrs n (by omega)
  have HR := Lib.hid (fun w => repeat_any 128 w (by omega))
  go_enter Tryz.func114, Tryz.ntmps114
  go_wp2_with fail
  have x0 : Ext w (w.alloc (.cells #[.slice none 0 0, .slice none 0 0, .int .i64 0] 28)) := (Ext.refl _).alloc _
  have z0 : (w.alloc (.cells #[.slice none 0 0, .slice none 0 0, .int .i64 0] 28)).heap.size = w.heap.size + 1 := World.size_alloc _ _
  have b0 := Box.new w 28 #[.slice none 0 0, .slice none 0 0, .int .i64 0]
  generalize w.alloc (.cells #[.slice none 0 0, .slice none 0 0, .int .i64 0] 28) = w0 at x0 z0 b0 ⊢
  have own0 := own_of_box (base := w.heap.size) (Box.new w0 9 (emptyRow n)) (n := n) (by simp [emptyRow, size_madeCells]) x0.size (by unfold maxLen; omega)
  rw [emptyRow_list, z0] at own0
  have x1 := x0.alloc (.cells (emptyRow n) 9)
  have b1 := b0.ext ((Ext.refl w0).alloc (.cells (emptyRow n) 9))
  have z1 : (w0.alloc (.cells (emptyRow n) 9)).heap.size = w.heap.size + 1 + 1 := by rw [World.size_alloc, z0]
  generalize w0.alloc (.cells (emptyRow n) 9) = w1 at own0 x1 z1 b1 ⊢
  have xd := (Ext.refl w1).alloc (.cells #[.slice (some ⟨w.heap.size + 1, 0, none⟩) n n, .slice none 0 0, .int .i64 (-1)] 28)
  have b2 := Box.new w1 28 #[.slice (some ⟨w.heap.size + 1, 0, none⟩) n n, .slice none 0 0, .int .i64 (-1)]
  rw [z1] at b2
  have own2 := own_ext own0 xd
  have x2 := x1.trans xd
  have b02 := b1.ext xd
  generalize w1.alloc (.cells #[.slice (some ⟨w.heap.size + 1, 0, none⟩) n n, .slice none 0 0, .int .i64 (-1)] 28) = w2 at own2 x2 b2 b02 ⊢
  have HD := Lib.hid (dnV_set n)
  have HDA := Lib.hid (dnV_all n)
  have HDL := Lib.hid (dnV_len n)
  clear b0 own0 x1 b1 xd x0 z0 z1 hmk2
  clear w0 w1
  go_loopw [5, 19] (fun _ t wx => ∃ k : Nat, k ≤ n ∧ t = .int .i64 k ∧ Ext w wx ∧ wx.ownsRow w.heap.size 9 1 (.slice (some ⟨w.heap.size + 1, 0, none⟩) n n) n (strL (dnV n k)) ∧ Box wx (w.heap.size + 1 + 1) 28 #[.slice (some ⟨w.heap.size + 1, 0, none⟩) n n, .slice none 0 0, .int .i64 (-1)] ∧ Box wx w.heap.size 28 #[.slice none 0 0, .slice none 0 0, .int .i64 0]) (fun _ t _ => n - (intOf t).toNat)
  case atStart => exact ⟨0, by omega, rfl, x2, own2, b2, b02⟩
  case round =>
    obtain ⟨k, hk, rfl, xk, ok, bk, b0k⟩ := hrel
    by_cases hlt : k < n
    · have HK := Lib.hid (HD.out k hlt)
      have hki : (k : Int) < (n : Int) := by omega
      have q : ∀ x : Later wr, x.now.cell? ⟨w.heap.size + 1, k, none⟩ = some (.string (str ((dnV n k).getD k []))) := fun x => x.ext.keep ((ok.cellAt k (by omega)).trans (by simp [strL, dnV_len n k hk, hlt]))
      have qf : ∀ x : Later wr, x.now.frozen? ⟨w.heap.size + 1, k, none⟩ = false := fun x => (own_ext ok x.ext).frozenAt k
      have q0 : ∀ x : Later wr, x.now.cell? ⟨w.heap.size + 1 + 1, 0, none⟩ = some (.slice (some ⟨w.heap.size + 1, 0, none⟩) n n) := fun x => (bk.ext x.ext).cell 0
      generalize ((dnV n k).getD k []) = cc at *
      go_wp2_with fail
      refine wp_region_later_tail 5 (by kernel_rfl) (by kernel_rfl) ?_
      simp only [List.take_succ_cons, List.take_zero, List.drop_succ_cons, List.drop_zero]
      repeat (go_big_quiet_step (exact later_of (HR.out _)))
      refine wpQuiet_nil ?_
      rintro w3 ⟨x3, rfl⟩
      have q' := q x3
      have qf' := qf x3
      have o3 := own_ext ok x3.ext
      have b3 := bk.ext x3.ext
      have b03 := b0k.ext x3.ext
      have x3e := x3.ext
      clear q qf q0
      generalize x3.now = w3 at *
      go_wp2_with fail
      go_roundw
      case rel => exact ⟨k + 1, by omega, by go_num, (xk.trans x3e).setCell (Nat.le_succ _) _, by rw [← HK.out]; exact own_set o3 _, b3.setOther (by omega) _, b03.setOther (by omega) _⟩
      case measure => simp [intOf]; omega
    · obtain rfl : k = n := by omega
      go_wp2_with (first
        | (refine wp_ld_drv (.tmp 4) rfl rfl (w.heap.size + 1 + 1) _ _ rfl bk rfl ?_)
        | (refine wp_st_drv (.tmp 2) (.tmp 28) rfl rfl w.heap.size ⟨some ⟨w.heap.size + 1, 0, none⟩, k, k⟩ ⟨none, 0, 0⟩ (-1) _ 28 rfl rfl b0k rfl ?_; intro w5 b5 g5))
      have o5 := ok.kept g5 (.inr (by simp [Value.ownBlock]))
      have hbx : Box w5 (w.heap.size + 1) 9 (strVals (List.replicate k (zs 128))) := by
        rw [← HDA.out]
        exact own_box o5
      refine bodyPost_ret (results_cell2 rfl _ _ w.heap.size _ _ _ (.int .i64 0) rfl rfl b5 Tryz.underlying28 rfl drvSize) rfl ⟨w.heap.size + 1, rfl, xk.grown g5 (fun j e => by cases e; exact Nat.le_refl _), hbx, Nat.le_succ _⟩
end Go.Proofs.YtkokmnaicfdjaaaGreatDoor
/- The volume of the statements of layer 28: geom.Format of 24 blocks and 8 inodes. -/
namespace Go.Proofs.YtkokmnaicfdjaaaGreatDoor
set_option linter.unusedVariables false
set_option linter.unusedSimpArgs false
open Go.RowKit

def fillV (k : Nat) : List (List UInt8) := List.replicate k (zs 128) ++ List.replicate (24 - k) []
theorem fillV_len (k : Nat) (h : k ≤ 24) : (fillV k).length = 24 := by simp [fillV]; omega
theorem fillV_set (k : Nat) (h : k < 24) : (fillV k).set k (zs 128) = fillV (k + 1) := by
  unfold fillV
  rw [List.set_append, if_neg (by simp), List.length_replicate, Nat.sub_self, show 24 - k = (24 - (k + 1)) + 1 by omega, List.replicate_succ, List.set_cons_zero, List.replicate_succ', List.append_assoc]
  rfl
def tkL (k : Nat) : List UInt8 := b8 ((2 ^ k - 1 : Nat) : Int) :: zs 127
theorem tkL_len (k : Nat) : (tkL k).length = 128 := by simp [tkL, zs_len]
def fmt8 : List (List UInt8) := ((fillV 24).set 0 (headL 24 8)).set 2 (tkL 7)
theorem emptyRow24 : (emptyRow 24).toList = strL (fillV 0) := by
  unfold emptyRow
  rw [toList_madeCells_one]
  rfl
theorem zero128 : zeroCells128 = byteVals (tkL 0) := by kernel_rfl
theorem tk_or (k : Nat) (h : k < 7) : bits BinOp.or IntKind.u8 (((tkL k).getD 0 0).toNat : Int) (2 ^ k % 256) = (((tkL (k + 1)).getD 0 0).toNat : Int) := by
  rcases (by omega : k = 0 ∨ k = 1 ∨ k = 2 ∨ k = 3 ∨ k = 4 ∨ k = 5 ∨ k = 6) with rfl | rfl | rfl | rfl | rfl | rfl | rfl <;> decide
theorem tk_set (k : Nat) : (byteVals (tkL k)).setIfInBounds 0 (.int .u8 (((tkL (k + 1)).getD 0 0).toNat : Int)) = byteVals (tkL (k + 1)) := by
  simp [byteVals, tkL]
theorem own_setNe {w : World} {base n g g' cap i : Nat} {t : TypeId} {xs : List Value} (h : w.ownsRow base t 1 (.slice (some ⟨g, 0, none⟩) n cap) n xs) (hne : g < g') (u : Value) : (w.setCell ⟨g', i, none⟩ u).ownsRow base t 1 (.slice (some ⟨g, 0, none⟩) n cap) n xs := by
  refine ⟨h.1, ?_⟩
  rcases h.2 with c | ⟨g1, cap1, cur, e, hb, hh, r⟩
  · exact Or.inl c
  · have e1 : g = g1 := by injection e with e; injection e with e; injection e with e
    subst e1
    exact Or.inr ⟨g, cap1, cur, e, hb, Box.setOther (show Box w g t cur from hh) (by omega) u, r⟩
set_option maxHeartbeats 1000000 in
set_option maxRecDepth 100000 in
theorem format8 (w : World) :
    Calls Tryz.prog 113 #[.int .i64 24, .int .i64 8] w fun e w' => ∃ u, e = .returned (.tuple #[u, .int .i64 0]) ∧ Ext w w' ∧ w'.ownsRow w.heap.size 9 1 u 24 (strL fmt8) := by
  have HP := Lib.hid (fun w => plan_yes 24 8 w (by decide))
  have HH := Lib.hid (fun w => first_any 24 8 w (by decide))
  have HF := Lib.hid (show fmt8 = ((fillV 24).set 0 (headL 24 8)).set 2 (tkL 7) from rfl)
  have HS := Lib.hid fillV_set
  have HL := Lib.hid (fillV_len 24 (by omega))
  have HE := Lib.hid emptyRow24
  have HZ := Lib.hid zero128
  have HTL := Lib.hid tkL_len
  have HTO := Lib.hid tk_or
  have HTS := Lib.hid tk_set
  have hmk2 : ∀ w, (Instr.makeSlice 23 (.int .i64 24) (.int .i64 24)).run Tryz.prog w = .ok (.slice (some ⟨w.heap.size, 0, none⟩) 24 24) (w.alloc (.cells (emptyRow 24) 9)) := fun w => makeStrs 24 (by omega) w
  have hmk := make128
  unfold geomV at HP HH
  rw [show (3 : Int) + (8 + 1) / 2 = 7 from rfl] at HP HH
  generalize headL 24 8 = H at HH HF
  go_enter Tryz.func113, Tryz.ntmps113
  go_wp2_with (go_at_call 86; refine (HP.out _).mono ?_; rintro e w1 ⟨rfl, x1⟩)
  have bG := Box.new w1 88 #[.int .i64 24, .int .i64 8, .int .i64 1, .int .i64 2, .int .i64 3, .int .i64 7]
  have x2 := x1.alloc (.cells #[.int .i64 24, .int .i64 8, .int .i64 1, .int .i64 2, .int .i64 3, .int .i64 7] 88)
  have z2 : (w1.alloc (.cells #[.int .i64 24, .int .i64 8, .int .i64 1, .int .i64 2, .int .i64 3, .int .i64 7] 88)).heap.size = w1.heap.size + 1 := World.size_alloc _ _
  generalize w1.alloc (.cells #[.int .i64 24, .int .i64 8, .int .i64 1, .int .i64 2, .int .i64 3, .int .i64 7] 88) = w2 at bG x2 z2 ⊢
  have own0 := own_of_box (base := w.heap.size) (Box.new w2 9 (emptyRow 24)) (n := 24) (by simp [emptyRow, size_madeCells]) x2.size (by unfold maxLen; omega)
  rw [HE.out, z2] at own0
  have bG3 := bG.ext ((Ext.refl w2).alloc (.cells (emptyRow 24) 9))
  have x3 := x2.alloc (.cells (emptyRow 24) 9)
  have hgv : w.heap.size ≤ w1.heap.size + 1 := by have := x1.size; omega
  have hne : w1.heap.size ≠ w1.heap.size + 1 := by omega
  generalize w2.alloc (.cells (emptyRow 24) 9) = w3 at own0 bG3 x3 ⊢
  generalize w1.heap.size + 1 = gv at *
  generalize w1.heap.size = g1 at *
  clear bG x2 x1 z2 hmk2 HE HP
  clear w1 w2
  go_loopw [9, 26] (fun _ t wx => ∃ k : Nat, k ≤ 24 ∧ t = .int .i64 k ∧ Ext w wx ∧ wx.ownsRow w.heap.size 9 1 (.slice (some ⟨gv, 0, none⟩) 24 24) 24 (strL (fillV k)) ∧ Box wx g1 88 #[.int .i64 24, .int .i64 8, .int .i64 1, .int .i64 2, .int .i64 3, .int .i64 7]) (fun _ t _ => 24 - (intOf t).toNat)
  case atStart => exact ⟨0, by omega, rfl, x3, own0, bG3⟩
  case round =>
    obtain ⟨k, hk, rfl, xk, ok, bk⟩ := hrel
    by_cases hlt : k < 24
    · have HK := Lib.hid (HS.out k hlt)
      have hok : ∀ (wx : World), Ext wr wx → wx.cell? ⟨gv, k, none⟩ = some (.string (str ((fillV k).getD k []))) := fun wx hx => hx.keep ((ok.cellAt k (by omega)).trans (by simp [strL, fillV_len k hk, hlt]))
      have hki : (k : Int) < 24 := by omega
      go_wp2_with (go_at_call 159; refine (zeros_any _).mono ?_; rintro e w4 ⟨rfl, x4⟩; have q4 := hok _ x4; have o4 := own_ext ok x4; have kf := o4.frozenAt k; have b4 := bk.ext x4)
      go_roundw
      case rel => exact ⟨k + 1, by omega, by go_num, (xk.trans x4).setCell hgv _, by rw [← HK.out]; exact own_set o4 _, b4.setOther hne _⟩
      case measure => simp [intOf]; omega
    · obtain rfl : k = 24 := by omega
      rw [show ((24 : Nat) : Int) = 24 from rfl]
      have hl0 := HL.out
      generalize fillV 24 = B at *
      go_wp2_with (first
        | (refine wp_ld 88 (.tmp 6) rfl rfl g1 _ _ _ rfl bk Tryz.underlying88 rfl geomSize ?_)
        | (go_at_call 88; refine (HH.out _).mono ?_; rintro e w4 ⟨rfl, x4⟩; have q4 : w4.cell? ⟨gv, 0, none⟩ = some (.string (str (B.getD 0 []))) := x4.keep ((ok.cellAt 0 (by omega)).trans (by simp [strL, hl0])); have o4 := own_ext ok x4; have kf := o4.frozenAt 0; have b4 := bk.ext x4; have q45 : ((w4.setCell ⟨gv, 0, none⟩ (.string (str H))).alloc (.cells zeroCells128 5)).cell? ⟨g1, 5, none⟩ = some (.int .i64 7) := ((b4.setOther hne _).ext ((Ext.refl _).alloc _)).cell 5))
      have o5 : ((w4.setCell ⟨gv, 0, none⟩ (.string (str H))).alloc (.cells zeroCells128 5)).ownsRow w.heap.size 9 1 (.slice (some ⟨gv, 0, none⟩) 24 24) 24 (strL (B.set 0 H)) := own_ext (own_set o4 H) ((Ext.refl _).alloc (.cells zeroCells128 5))
      have x5 : Ext w ((w4.setCell ⟨gv, 0, none⟩ (.string (str H))).alloc (.cells zeroCells128 5)) := ((xk.trans x4).setCell hgv _).alloc _
      have b5 := Box.new (w4.setCell ⟨gv, 0, none⟩ (.string (str H))) 5 zeroCells128
      have hgt : gv < w4.heap.size := by
        rcases o4.2 with ⟨_, h0⟩ | ⟨g', cap', cur, e1, _, hh, _⟩
        · omega
        · injection e1 with e1
          injection e1 with e1
          injection e1 with e1
          subst e1
          exact (Array.getElem?_eq_some_iff.1 hh).1
      rw [show (w4.setCell ⟨gv, 0, none⟩ (.string (str H))).heap.size = w4.heap.size by simp [World.setCell]] at b5
      have hw4 : w.heap.size ≤ w4.heap.size := by omega
      generalize (w4.setCell ⟨gv, 0, none⟩ (.string (str H))).alloc (.cells zeroCells128 5) = w5 at o5 x5 b5 ⊢
      generalize w4.heap.size = gt at *
      rw [HZ.out] at b5
      have hB2 : (B.set 0 H).length = 24 := by simp [hl0]
      generalize B.set 0 H = B2 at *
      clear xk ok bk o4 b4 x4 kf q4 q45 hmk HH HS HL HZ
      go_loopw [11, 41] (fun _ t wx => ∃ k : Nat, k ≤ 7 ∧ t = .int .i64 k ∧ Ext w wx ∧ wx.ownsRow w.heap.size 9 1 (.slice (some ⟨gv, 0, none⟩) 24 24) 24 (strL B2) ∧ Box wx gt 5 (byteVals (tkL k))) (fun _ t _ => 7 - (intOf t).toNat)
      case atStart => exact ⟨0, by omega, rfl, x5, o5, b5⟩
      case round =>
        obtain ⟨k, hk, rfl, xk, ok, bk⟩ := hrel
        have hkl := HTL.out k
        by_cases hlt : k < 7
        · have HK := Lib.hid (HTO.out k hlt)
          have hki : (k : Int) < 7 := by omega
          have t1 : (k : Int) / 8 = 0 := by omega
          have t2 : (k : Int) % 8 = k := by omega
          have q : ∀ x : Later wr, x.now.cell? ⟨gt, 0, none⟩ = some (.int .u8 (((tkL k).getD 0 0).toNat : Int)) := fun x => ((bk.ext x.ext).cell 0).trans (byteVals_at _ 0 (by omega))
          have qf : ∀ x : Later wr, x.now.frozen? ⟨gt, 0, none⟩ = false := fun x => (bk.ext x.ext).frozen 0
          have hcb := byte_bd ((tkL k).getD 0 0)
          generalize hC : (((tkL k).getD 0 0).toNat : Int) = C at *
          go_wp2_with fail
          refine wp_region_later_tail 10 (by kernel_rfl) (by kernel_rfl) ?_
          simp only [List.take_succ_cons, List.take_zero, List.drop_succ_cons, List.drop_zero]
          repeat (go_big_quiet_step (fail))
          refine wpQuiet_nil ?_
          rintro w2 ⟨x2, rfl⟩
          have q' := q x2
          have qf' := qf x2
          clear q qf
          have x2e := x2.ext
          have b2 := bk.ext x2e
          have o2 := own_ext ok x2e
          generalize x2.now = w2 at *
          go_wp2_with fail
          have HTK := HTS.out k
          rw [HK.out]
          go_roundw
          case rel => exact ⟨k + 1, by omega, by go_num, (xk.trans x2e).setCell hw4 _, own_setNe o2 hgt _, by rw [← HTK]; exact b2.set 0 _⟩
          case measure => simp [intOf]; omega
        · obtain rfl : k = 7 := by omega
          rw [show ((7 : Nat) : Int) = 7 from rfl]
          have cv := conv_box (c := 128) bk hkl
          have q2 : wr.cell? ⟨gv, 2, none⟩ = some (.string (str (B2.getD 2 []))) := (ok.cellAt 2 (by omega)).trans (by simp [strL, hB2])
          have kf := ok.frozenAt 2
          go_wp2_with fail
          go_ret2
          exact ⟨_, rfl, xk.setCell hgv _, by rw [HF.out]; exact own_set ok _⟩
end Go.Proofs.YtkokmnaicfdjaaaGreatDoor
/- The volume of the statements of layer 28: inode.New, fs.Make. -/
namespace Go.Proofs.YtkokmnaicfdjaaaGreatDoor
set_option linter.unusedVariables false
set_option linter.unusedSimpArgs false
open Go.RowKit

theorem flist12 {x : List Int} (h : x.length = 12) : ∃ a0 a1 a2 a3 a4 a5 a6 a7 a8 a9 a10 a11 : Int, x = [a0, a1, a2, a3, a4, a5, a6, a7, a8, a9, a10, a11] := by
  match x, h with
  | [a0, a1, a2, a3, a4, a5, a6, a7, a8, a9, a10, a11], _ => exact ⟨a0, a1, a2, a3, a4, a5, a6, a7, a8, a9, a10, a11, rfl⟩
theorem fits_new (kd o : Int) (h0 : 0 ≤ kd) (h1 : kd < 256) (h2 : 0 ≤ o) (h3 : o < 256) : fitsB [kd, 1, o, 0, 0, 0, 0, 0, 0, 0, 0, 0] = true := by
  unfold fitsB
  rw [List.all_eq_true]
  intro k _
  unfold fitF
  rw [decide_eq_true_eq]
  match k with
  | ⟨0, _⟩ => exact ⟨h0, h1⟩
  | ⟨1, _⟩ => exact ⟨h2, h3⟩
  | ⟨2, _⟩ => exact ⟨(by decide : (0 : Int) ≤ 1), (by decide : (1 : Int) < 65536)⟩
  | ⟨3, _⟩ => exact ⟨Int.le_refl _, (by decide : (0 : Int) < 4294967296)⟩
  | ⟨4, _⟩ | ⟨5, _⟩ | ⟨6, _⟩ | ⟨7, _⟩ | ⟨8, _⟩ | ⟨9, _⟩ | ⟨10, _⟩ | ⟨11, _⟩ => exact ⟨Int.le_refl _, (by decide : (0 : Int) < 65536)⟩
theorem ino_kind (a0 a1 a2 a3 a4 a5 a6 a7 a8 a9 a10 a11 : Int) (w : World) : (Instr.field 134 (.agg #[.int .i64 a0, .int .i64 a1, .int .i64 a2, .int .i64 a3, .int .i64 a4, .int .i64 a5, .int .i64 a6, .int .i64 a7, .int .i64 a8, .int .i64 a9, .int .i64 a10, .int .i64 a11]) 0).run Tryz.prog w = .ok (.int .i64 a0) w := by kernel_rfl
set_option maxHeartbeats 1000000 in
set_option maxRecDepth 100000 in
theorem inew_yes (A : Option Addr) (n c j : Nat) (v : List (List UInt8)) (I kd o : Int) (w : World) (hv : Strs w A n v) (hg : Good v I) (hkd : kd = 1 ∨ kd = 2) (ho0 : 0 ≤ o) (ho1 : o ≤ 15) (hj1 : 1 ≤ j) (hj2 : (j : Int) ≤ I) (hj : (inoAt v j).getD 0 0 = 0)
    (hlow : ∀ i : Nat, 1 ≤ i → i < j → (inoAt v i).getD 0 0 ≠ 0) :
    Calls Tryz.prog 95 #[.slice A n c, .int .i64 kd, .int .i64 o] w fun e w' => ∃ u, e = .returned (.tuple #[u, .int .i64 j, .int .i64 0]) ∧ Ext w w' ∧ w'.ownsRow w.heap.size 9 1 u n (strL (putAt v j [kd, 1, o, 0, 0, 0, 0, 0, 0, 0, 0, 0])) := by
  have hpl := plan_bd hg.plan
  obtain ⟨b, oo, rfl, _⟩ := hv.2 (by have := hv.1; omega)
  have HO := Lib.hid (fun w h => of_yes (some ⟨b, oo, none⟩) n c v I w h hg)
  have HT := Lib.hid (fun (m : Nat) (h1 : 1 ≤ m) (h2 : (m : Int) ≤ I) w h => told_good b oo n c v I m w h hg (by omega) h2)
  have HW := Lib.hid (fun w h => written_good b oo n c v I j [kd, 1, o, 0, 0, 0, 0, 0, 0, 0, 0, 0] w h hg (by omega) hj2 rfl (fits_new kd o (by omega) (by omega) ho0 (by omega)))
  have e12 : intVals [kd, 1, o, 0, 0, 0, 0, 0, 0, 0, 0, 0] = #[.int .i64 kd, .int .i64 1, .int .i64 o, .int .i64 0, .int .i64 0, .int .i64 0, .int .i64 0, .int .i64 0, .int .i64 0, .int .i64 0, .int .i64 0, .int .i64 0] := rfl
  rw [e12] at HW
  clear e12
  have HL := Lib.hid hlow
  have HJ := Lib.hid hj
  have HX := Lib.hid (fun m : Nat => inoAt_len v m)
  clear hlow hj
  have d3 : decide (o < 0) = false := by simp; omega
  have d4 : decide (16 ≤ o) = false := by simp; omega
  rcases hkd with rfl | rfl
  all_goals
    go_enter Tryz.func95, Tryz.ntmps95
    go_wp2_with fail
    refine (HO.out _ hv).mono ?_
    rintro e w1 ⟨rfl, x1⟩
    rw [geomV_eq]
    go_wp2_with (refine wp_st_geom (.tmp 9) (.tmp 15) rfl rfl w1.heap.size _ [0, 0, 0, 0, 0, 0] 88 rfl rfl (Box.new _ _ _) rfl rfl ?_; intro w2 b2 g2; have x2 : Ext w w2 := (x1.alloc _).grown g2 (fun k e => by cases e; exact x1.size))
    go_loopw [11] (fun t wx => ∃ m : Nat, 1 ≤ m ∧ m ≤ j ∧ t = .int .i64 m ∧ Ext w wx ∧ Box wx w1.heap.size 88 (intVals [v.length, I, 1, 2, 3, 3 + (I + 1) / 2])) (fun t _ => j - (intOf t).toNat)
    case atStart => exact ⟨1, by omega, by omega, rfl, x2, b2⟩
    case round =>
      obtain ⟨m, hm1, hm, rfl, xm, bm⟩ := hrel
      have c1 : wr.cell? ⟨w1.heap.size, 1, none⟩ = some (.int .i64 I) := bm.cell 1
      have dm : (m : Int) ≤ I := by omega
      have HTm := Lib.hid (HT.out m hm1 dm)
      obtain ⟨a0, a1, a2, a3, a4, a5, a6, a7, a8, a9, a10, a11, hx⟩ := flist12 (HX.out m)
      have hx0 : (inoAt v m).getD 0 0 = a0 := by rw [hx]; rfl
      rw [hx] at HTm
      rw [show intVals [a0, a1, a2, a3, a4, a5, a6, a7, a8, a9, a10, a11] = #[.int .i64 a0, .int .i64 a1, .int .i64 a2, .int .i64 a3, .int .i64 a4, .int .i64 a5, .int .i64 a6, .int .i64 a7, .int .i64 a8, .int .i64 a9, .int .i64 a10, .int .i64 a11] from rfl] at HTm
      have hfd := ino_kind a0 a1 a2 a3 a4 a5 a6 a7 a8 a9 a10 a11
      by_cases hlt : m < j
      · have hb : (a0 == 0) = false := by rw [← hx0]; simpa using HL.out m hm1 hlt
        clear hx hx0
        go_wp2_with (first
          | (refine wp_ld_geom (.tmp 9) rfl rfl w1.heap.size _ 88 rfl bm rfl ?_)
          | (go_at_call 137; refine (HTm.out _ (hv.ext xm)).mono ?_; rintro e w3 ⟨rfl, x3⟩))
        go_roundw
        case rel => exact ⟨m + 1, by omega, by omega, by go_num, xm.trans x3, bm.ext x3⟩
        case measure => simp [intOf]; omega
      · obtain rfl : m = j := by omega
        have hb : (a0 == 0) = true := by rw [← hx0]; simpa using HJ.out
        clear hx hx0
        go_wp2_with (first
          | (refine wp_ld_geom (.tmp 9) rfl rfl w1.heap.size _ 88 rfl bm rfl ?_)
          | (refine wp_ld_geom (.tmp 9) rfl rfl w1.heap.size _ 88 rfl (bm.ext x3) rfl ?_)
          | (go_at_call 137; refine (HTm.out _ (hv.ext xm)).mono ?_; rintro e w3 ⟨rfl, x3⟩; clear HTm)
          | (go_at_call 138; refine (HW.out _ (hv.ext (xm.trans x3))).mono ?_; rintro e w5 ⟨u, rfl, x5, own5⟩))
        go_ret3
        have o6 := own_base own5 (xm.trans x3).size
        clear HW HT HO HL HJ HX hv hg
        refine ⟨u, rfl, (xm.trans x3).trans x5, ?_⟩
        exact o6
theorem fmt8_all : ∀ b ∈ fmt8, b.length = 128 := by
  intro b hb
  unfold fmt8 at hb
  rcases List.mem_or_eq_of_mem_set hb with hb | rfl
  · rcases List.mem_or_eq_of_mem_set hb with hb | rfl
    · rw [show fillV 24 = List.replicate 24 (zs 128) by simp [fillV]] at hb
      rw [List.eq_of_mem_replicate hb, zs_len]
    · exact headL_len 24 8
  · exact tkL_len 7
theorem fmt8_len : fmt8.length = 24 := by simp [fmt8, fillV]
theorem fmt8_map : fmt8.getD 2 [] = tkL 7 := by
  unfold fmt8
  simp [List.getD_eq_getElem?_getD, fillV]
theorem zs_getD (n i : Nat) : (zs n).getD i 0 = 0 := by
  unfold zs
  rw [List.getD_eq_getElem?_getD, List.getElem?_replicate]
  split <;> rfl
theorem good_fmt8 : Good fmt8 8 := by
  refine ⟨fun j hj => fmt8_all _ (List.getElem_mem hj), by rw [fmt8_len]; decide, ?_, fun i hi => ?_, fun i h1 h2 => ?_⟩
  · unfold fmt8
    simp [List.getD_eq_getElem?_getD, fillV]
  · rw [fmt8_map]
    rcases (by omega : i = 0 ∨ i = 1 ∨ i = 2 ∨ i = 3 ∨ i = 4 ∨ i = 5 ∨ i = 6) with rfl | rfl | rfl | rfl | rfl | rfl | rfl <;> decide
  · rw [fmt8_len] at h2
    rw [fmt8_map]
    unfold bitB
    obtain ⟨q, hq⟩ : ∃ q, i / 8 = q + 1 := ⟨i / 8 - 1, by omega⟩
    rw [hq, tkL, List.getD_cons_succ, zs_getD]
    simp
end Go.Proofs.YtkokmnaicfdjaaaGreatDoor
/- The drive of the statements of layer 28: wal.Format of 24 blocks; fs.Make. -/
namespace Go.Proofs.YtkokmnaicfdjaaaGreatDoor
set_option linter.unusedVariables false
set_option linter.unusedSimpArgs false
open Go.RowKit

/-- fs.Make(24, 8) -/
def mk8 : List (List UInt8) := putAt fmt8 1 [2, 1, 0, 0, 0, 0, 0, 0, 0, 0, 0, 0]
theorem mk8_len : mk8.length = 24 := by simp [mk8, putAt, fmt8_len]
theorem mk8_all : ∀ b ∈ mk8, b.length = 128 := by
  intro b hb
  unfold mk8 putAt at hb
  rcases List.mem_or_eq_of_mem_set hb with hb | rfl
  · exact fmt8_all b hb
  · rw [overL_len]
    · exact getD_len good_fmt8 (by rw [fmt8_len]; decide)
    · rw [getD_len good_fmt8 (by rw [fmt8_len]; decide), inoB_len]; decide
theorem inoL_zs (n o : Nat) : inoL (zs n) o = zero12 := by
  have e : ∀ o z, fnum (zs n) o z = 0 := fun o z => by
    have h : ((zs n).drop o).take z = zs (min z (n - o)) := by unfold zs; simp
    unfold fnum
    rw [h]
    have k : ∀ m, numL (zs m) = 0 := fun m => by
      induction m with
      | zero => rfl
      | succ m ih => rw [show zs (m + 1) = 0 :: zs m from rfl, numL, ih]; rfl
    rw [k]; rfl
  unfold inoL
  simp only [e]; rfl
theorem ino_fmt8 : inoAt fmt8 1 = zero12 := by
  unfold inoAt
  rw [show (3 + ((1 : Int) - 1) / 2).toNat = 3 from rfl, show fmt8.getD 3 [] = zs 128 from ?_, inoL_zs]
  unfold fmt8
  simp [List.getD_eq_getElem?_getD, fillV]
set_option maxHeartbeats 1000000 in
set_option maxRecDepth 100000 in
theorem make8 (w : World) :
    Calls Tryz.prog 58 #[.int .i64 24, .int .i64 8] w fun e w' => ∃ u, e = .returned (.tuple #[u, .int .i64 0]) ∧ Ext w w' ∧ w'.ownsRow w.heap.size 9 1 u 24 (strL mk8) := by
  have HN := Lib.hid (fun A c w h => inew_yes A 24 c 1 fmt8 8 2 0 w h good_fmt8 (.inr rfl) (by omega) (by omega) (by omega) (by omega) (by rw [show ((1 : Nat) : Int) = 1 from rfl, ino_fmt8]; rfl) (fun i h1 h2 => by omega))
  have HE := Lib.hid (show putAt fmt8 (1 : Nat) [2, 1, 0, 0, 0, 0, 0, 0, 0, 0, 0, 0] = mk8 from rfl)
  go_enter Tryz.func58, Tryz.ntmps58
  go_wp2_with (go_at_call 113; refine (format8 _).mono ?_; rintro e w1 ⟨u1, rfl, x1, own1⟩; obtain ⟨g1, c1, rfl, hg1, s1⟩ := Strs.own' own1 (by omega))
  refine (HN.out _ _ _ s1).mono ?_
  rintro e w2 ⟨u2, rfl, x2, own2⟩
  go_wp2_with fail
  go_ret2
  exact ⟨u2, rfl, x1.trans x2, by rw [← HE.out]; exact own_base own2 x1.size⟩
theorem formE_all {v : List (List UInt8)} (h : ∀ b ∈ v, b.length = 128) : formE v = 0 := by
  induction v with
  | nil => rfl
  | cons x v ih => unfold formE; rw [if_neg (by simpa using h x (by simp))]; exact ih (fun b hb => h b (by simp [hb]))
/-- the drive with a journal of nothing, and the volume v -/
def fmtB (v : List (List UInt8)) : List (List UInt8) := List.replicate 33 (zs 128) ++ v
theorem fmtB_len (v : List (List UInt8)) : (fmtB v).length = 33 + v.length := by unfold fmtB; rw [List.length_append, List.length_replicate]
theorem copy33 (w : World) (g b o c : Nat) (v : List (List UInt8)) (hn : 0 < v.length) (hb : Box w g 9 (strVals (List.replicate (33 + v.length) (zs 128)))) (hcell : ∀ (j : Nat) (h : j < v.length), w.cell? ⟨b, o + j, none⟩ = some (.string (str v[j]))) (ty : TypeId) :
    (Builtin.copy_ #[23, 23] ty #[.slice (some ⟨g, 33, none⟩) v.length v.length, .slice (some ⟨b, o, none⟩) v.length c]).run Tryz.prog w = .ok (.int .i64 v.length) (w.setRow g (strVals (fmtB v))) := by
  have h := run_copy_row (P := Tryz.prog) w 23 23 ty 9 g 33 v.length v.length ⟨b, o, none⟩ v.length c (strVals (List.replicate (33 + v.length) (zs 128))) 9 (strL v) Tryz.underlying23 strSize hb (by simp [strL]) (fun j u hj => by
    have hjl : j < v.length := by have := (List.getElem?_eq_some_iff.1 hj).1; simpa [strL] using this
    have ha : (⟨b, o, none⟩ : Addr).add j = ⟨b, o + j, none⟩ := by unfold Addr.add; split <;> simp_all
    rw [ha, hcell j hjl]
    simp [strL, hjl] at hj; rw [← hj]) (by simp [strVals, strL]) (fun u hu => by
    simp only [strL, List.mem_map] at hu
    obtain ⟨s, _, rfl⟩ := hu; rfl)
  rw [h]
  have e : ((strVals (List.replicate (33 + v.length) (zs 128))).toList.take 33 ++ strL v ++ (strVals (List.replicate (33 + v.length) (zs 128))).toList.drop (33 + (strL v).length)).toArray = strVals (fmtB v) := by
    rw [List.drop_of_length_le (by simp [strVals, strL]), List.append_nil]
    unfold strVals strL fmtB
    rw [List.map_append, ← List.map_take, List.take_replicate, Nat.min_eq_left (by omega)]
  rw [e]; simp [goInt, strL]
set_option maxHeartbeats 1000000 in
set_option maxRecDepth 100000 in
theorem wformat_any (A : Option Addr) (n c : Nat) (v : List (List UInt8)) (w : World) (hv : Strs w A n v) (hn0 : 0 < n) (hn1 : n ≤ 223) (hall : ∀ b ∈ v, b.length = 128) :
    Calls Tryz.prog 59 #[.slice A n c] w fun e w' => ∃ g, e = .returned (.tuple #[.agg #[.slice (some ⟨g, 0, none⟩) (33 + n) (33 + n), .slice none 0 0, .int .i64 (-1)], .int .i64 0]) ∧ Ext w w' ∧ Box w' g 9 (strVals (fmtB v)) := by
  have HD := Lib.hid (fun w => dnew_any (33 + n) w (by omega) (by omega))
  have hv' := hv
  obtain ⟨rfl, hv2⟩ := hv
  obtain ⟨b, o, rfl, hcell⟩ := hv2 (by omega)
  have d1 : ((v.length : Int) == 0) = false := beq_eq_false_iff_ne.2 (by omega)
  have d2 : decide (223 < (v.length : Int)) = false := by simp; omega
  have e33 : IntKind.i64.wrap (33 + (v.length : Int)) = ((33 + v.length : Nat) : Int) := by rw [IntKind.wrap_i64]; omega
  have x0 : Ext w (w.alloc (.cells #[.slice none 0 0, .slice none 0 0, .int .i64 0] 28)) := (Ext.refl _).alloc _
  have b0 := Box.new w 28 #[.slice none 0 0, .slice none 0 0, .int .i64 0]
  have HA := Lib.hid hall
  have hz := str_size
  clear hall hv2
  go_enter Tryz.func59, Tryz.ntmps59
  go_wp2_with fail
  generalize w.alloc (.cells #[.slice none 0 0, .slice none 0 0, .int .i64 0] 28) = w0 at x0 b0 ⊢
  go_loop [5, 19] (fun _ t => ∃ k : Nat, k ≤ v.length ∧ t = .int .i64 k) (fun _ t => v.length - (intOf t).toNat)
  case atStart => exact ⟨0, by omega, rfl⟩
  case round =>
    obtain ⟨k, hk, rfl⟩ := hrel
    by_cases hlt : k < v.length
    · have hck : w0.cell? ⟨b, o + k, none⟩ = some (.string (str v[k])) := x0.keep (hcell k hlt)
      have hlk : ((v[k].length : Int) != 128) = false := by rw [HA.out _ (List.getElem_mem hlt)]; rfl
      have hki : (k : Int) < (v.length : Int) := by omega
      clear hcell
      generalize v[k] = s at *
      go_wp2_with fail
      go_round
      case rel => exact ⟨k + 1, by omega, by go_num⟩
      case measure => simp [intOf]; omega
    · obtain rfl : k = v.length := by omega
      have hcW : ∀ (w3 : World), Ext w0 w3 → ∀ (j : Nat) (h : j < v.length), w3.cell? ⟨b, o + j, none⟩ = some (.string (str v[j])) := fun w3 x j h => x.keep (x0.keep (hcell j h))
      have HC := Lib.hid hcW
      have hvn : v ≠ [] := fun e => by rw [e] at hn0; exact absurd hn0 (by decide)
      have hcp : ∀ (w3 : World) (g : Nat) (h1 : Ext w0 w3) (hb : Box w3 g 9 (strVals (List.replicate (33 + v.length) (zs 128)))) (ty : TypeId), (Builtin.copy_ #[23, 23] ty #[.slice (some ⟨g, 33, none⟩) v.length v.length, .slice (some ⟨b, o, none⟩) v.length c]).run Tryz.prog w3 = .ok (.int .i64 v.length) (w3.setRow g (strVals (fmtB v))) := fun w3 g h1 hb ty => copy33 w3 g b o c v (by omega) hb (HC.out w3 h1) ty
      have HCP := Lib.hid hcp
      clear hcW hcell hcp HA hk hlt hv'
      go_upto_region 13 with (first
        | (go_at_call 114; refine (HD.out _).mono ?_; rintro e w1 ⟨g1, rfl, x1, bx1, hg1⟩; have xd := x1.trans ((Ext.refl w1).alloc (.cells #[.slice (some ⟨g1, 0, none⟩) (33 + v.length) (33 + v.length), .slice none 0 0, .int .i64 (-1)] 28)); have cp := HCP.out _ g1 xd (bx1.ext ((Ext.refl w1).alloc _)); have hl1 := bx1.lt; have hl0 := b0.lt; have b6 := (Box.new w1 28 #[.slice (some ⟨g1, 0, none⟩) (33 + v.length) (33 + v.length), .slice none 0 0, .int .i64 (-1)]).setRow_other (ds := strVals (fmtB v)) (show w1.heap.size ≠ g1 by omega); have b7 := ((b0.ext xd)).setRow_other (ds := strVals (fmtB v)) (show w.heap.size ≠ g1 by omega); have b8 := setRow_box (ds := strVals (fmtB v)) (bx1.ext ((Ext.refl w1).alloc (.cells #[.slice (some ⟨g1, 0, none⟩) (33 + v.length) (33 + v.length), .slice none 0 0, .int .i64 (-1)] 28))); have x8 := setRow_ext (ds := strVals (fmtB v)) (x0.trans xd) (show w.heap.size ≤ g1 by omega)))
      go_wp2_with (first
        | (refine wp_ld_drv (.tmp 6) rfl rfl w1.heap.size _ _ rfl b6 rfl ?_)
        | (refine wp_st_drv (.tmp 2) (.tmp 44) rfl rfl w.heap.size ⟨some ⟨g1, 0, none⟩, 33 + v.length, 33 + v.length⟩ ⟨none, 0, 0⟩ (-1) _ 28 rfl rfl b7 rfl ?_; intro w9 b9 g9))
      refine bodyPost_ret (results_cell2 rfl _ _ w.heap.size _ _ _ (.int .i64 0) rfl rfl b9 Tryz.underlying28 rfl drvSize) rfl ⟨g1, rfl, x8.grown g9 (fun j e => by cases e; exact Nat.le_refl _), b8.grown g9 (fun e => by injection e with e; omega)⟩
end Go.Proofs.YtkokmnaicfdjaaaGreatDoor
/- A machine on which nothing is but a volume. -/
namespace Go.Proofs.YtkokmnaicfdjaaaGreatDoor
set_option linter.unusedVariables false
set_option linter.unusedSimpArgs false
open Go.RowKit

def bareM (gf gb : Nat) : Mac := ⟨0, 1, 0, 0, ⟨some ⟨gf, 0, none⟩, 4, 4⟩, ⟨none, 0, 0⟩, 1, [47, 97], ⟨none, 0, 0⟩, 1, [], false, 0, ⟨some ⟨gb, 0, none⟩, 57, 57⟩, ⟨none, 0, 0⟩, -1, ⟨none, 0, 0⟩⟩
def bareD : MacD := ⟨List.replicate 4 (zs 128), [], [], fmtB mk8, [], []⟩
theorem str_nil : str [] = ⟨#[]⟩ := rfl
theorem flat_stL (l : List (List UInt8)) : l.flatMap stL = strL l := by
  induction l with
  | nil => rfl
  | cons x l ih => rw [List.flatMap_cons, ih]; rfl
theorem box_row {w : World} {g : Nat} {t : TypeId} {l : List (List UInt8)} (h : Box w g t (strVals l)) : RowOf stL w (some ⟨g, 0, none⟩) l.length l := by
  refine ⟨rfl, fun _ => ⟨g, 0, rfl, fun j v hj => ?_⟩⟩
  rw [flat_stL] at hj
  rw [Nat.zero_add, h.cell j]
  simpa [strVals, strL] using hj
theorem nil_row {α : Type} (f : α → List Value) (w : World) : RowOf f w none 0 [] := ⟨rfl, fun h => by omega⟩
theorem nil_ok : (⟨none, 0, 0⟩ : Sl).ok := ⟨fun _ => ⟨rfl, rfl⟩, Nat.zero_le _, Nat.le_refl _⟩
theorem row_ok (g n : Nat) (h : n ≤ maxLen) : (⟨some ⟨g, 0, none⟩, n, n⟩ : Sl).ok := ⟨fun h => (by cases h), h, Nat.le_refl _⟩
theorem bare_in {w : World} {gf gb : Nat} {t t' : TypeId} (h1 : Box w gf t (strVals (List.replicate 4 (zs 128)))) (h2 : Box w gb t' (strVals (fmtB mk8))) : MacIn w (bareM gf gb) bareD := by
  have e1 := box_row h1
  have e2 := box_row h2
  rw [List.length_replicate] at e1
  rw [fmtB_len, mk8_len] at e2
  exact ⟨e1, nil_row _ _, nil_row _ _, e2, nil_row _ _, nil_row _ _, row_ok _ _ (by unfold maxLen; omega), nil_ok, nil_ok, row_ok _ _ (by unfold maxLen; omega), nil_ok, nil_ok, by show 2 ≤ maxLen; unfold maxLen; omega, by show 0 ≤ maxLen; omega, (by decide : (Lit.int .i64 (-1)).wf = true)⟩
theorem conv128 {w : World} {g : Nat} (h : Box w g 5 zeroCells128) : (convert 101 9 (.slice (some ⟨g, 0, none⟩) 128 128)).run Tryz.prog w = .ok (.string (str (zs 128))) w := by
  rw [show zeroCells128 = byteVals (zs 128) by rw [zero128]; rfl] at h
  exact conv_box h (zs_len 128)
set_option maxHeartbeats 1000000 in
set_option maxRecDepth 100000 in
theorem bare_any (w : World) :
    Calls Tryz.prog 30 #[] w fun e w' => ∃ gf gb, e = .returned (.tuple #[.agg (bareM gf gb).cells, .bool true]) ∧ Ext w w' ∧ MacIn w' (bareM gf gb) bareD := by
  have HF := Lib.hid (fun A c w h => wformat_any A 24 c mk8 w h (by omega) (by omega) mk8_all)
  have hmk := make128
  go_enter Tryz.func30, Tryz.ntmps30
  go_upto_region 5 with (first
    | (go_at_call 58; refine (make8 _).mono ?_; rintro e w1 ⟨u1, rfl, x1, own1⟩; obtain ⟨g1, c1, rfl, hg1, s1⟩ := Strs.own' own1 (by omega))
    | (go_at_call 59; refine (HF.out _ _ _ s1).mono ?_; rintro e w2 ⟨gb, rfl, x2, b2⟩))
  have b0 : Box w2 w.heap.size 30 zeroMacC := ((Box.new w 30 zeroMacC).ext x1).ext x2
  have xa : Ext w w2 := (((Ext.refl w).alloc (.cells zeroMacC 30)).trans x1).trans x2
  have x3 : Ext w2 (w2.alloc (.cells #[.slice (some ⟨gb, 0, none⟩) 57 57, .slice none 0 0, .int .i64 (-1)] 28)) := (Ext.refl _).alloc _
  have z3 : (w2.alloc (.cells #[.slice (some ⟨gb, 0, none⟩) 57 57, .slice none 0 0, .int .i64 (-1)] 28)).heap.size = w2.heap.size + 1 := World.size_alloc _ _
  generalize w2.alloc (.cells #[.slice (some ⟨gb, 0, none⟩) 57 57, .slice none 0 0, .int .i64 (-1)] 28) = w3 at x3 z3 ⊢
  have bM := Box.new w3 30 #[.int .u64 0, .int .i64 1, .int .i64 0, .int .i64 0, .slice none 0 0, .slice none 0 0, .int .i64 1, .string ⟨#[47, 97]⟩, .slice none 0 0, .int .i64 1, .string ⟨#[]⟩, .bool false, .int .u64 0, .slice (some ⟨gb, 0, none⟩) 57 57, .slice none 0 0, .int .i64 (-1), .slice none 0 0]
  have x4 : Ext w2 (w3.alloc (.cells #[.int .u64 0, .int .i64 1, .int .i64 0, .int .i64 0, .slice none 0 0, .slice none 0 0, .int .i64 1, .string ⟨#[47, 97]⟩, .slice none 0 0, .int .i64 1, .string ⟨#[]⟩, .bool false, .int .u64 0, .slice (some ⟨gb, 0, none⟩) 57 57, .slice none 0 0, .int .i64 (-1), .slice none 0 0] 30)) := x3.alloc _
  have z4 : (w3.alloc (.cells #[.int .u64 0, .int .i64 1, .int .i64 0, .int .i64 0, .slice none 0 0, .slice none 0 0, .int .i64 1, .string ⟨#[47, 97]⟩, .slice none 0 0, .int .i64 1, .string ⟨#[]⟩, .bool false, .int .u64 0, .slice (some ⟨gb, 0, none⟩) 57 57, .slice none 0 0, .int .i64 (-1), .slice none 0 0] 30)).heap.size = w2.heap.size + 1 + 1 := by rw [World.size_alloc, z3]
  rw [z3] at bM
  generalize w3.alloc (.cells #[.int .u64 0, .int .i64 1, .int .i64 0, .int .i64 0, .slice none 0 0, .slice none 0 0, .int .i64 1, .string ⟨#[47, 97]⟩, .slice none 0 0, .int .i64 1, .string ⟨#[]⟩, .bool false, .int .u64 0, .slice (some ⟨gb, 0, none⟩) 57 57, .slice none 0 0, .int .i64 (-1), .slice none 0 0] 30) = w4 at bM x4 z4 ⊢
  have bZ := Box.new w4 5 zeroCells128
  have x5 := x4.alloc (.cells zeroCells128 5)
  have x45 : Ext w4 (w4.alloc (.cells zeroCells128 5)) := (Ext.refl _).alloc _
  have z5 : (w4.alloc (.cells zeroCells128 5)).heap.size = w2.heap.size + 1 + 1 + 1 := by rw [World.size_alloc, z4]
  rw [z4] at bZ
  replace bM := bM.ext x45
  generalize w4.alloc (.cells zeroCells128 5) = w5 at bM bZ x5 z5 ⊢
  have hl0 := b0.lt
  replace b0 := b0.ext x5
  replace b2 := b2.ext x5
  have cv := conv128 bZ
  have xb := xa.trans x5
  have hG : w.heap.size < w2.heap.size + 1 := by omega
  generalize w2.heap.size + 1 = G at *
  clear x1 x2 x3 x4 x5 x45 z3 z4 xa own1 s1 hmk HF
  have q4 := bM.cell 4
  have f4 := bM.frozen 4
  have x6 := xb.setCell (p := ⟨G, 4, none⟩) (by show w.heap.size ≤ G; omega) (.slice (some ⟨G + 1 + 1, 0, none⟩) 4 4)
  have b27 := b2.setOther (b2.ne bM (by decide)) (i := 4) (.slice (some ⟨G + 1 + 1, 0, none⟩) 4 4)
  have b06 := b0.setOther (show w.heap.size ≠ G by omega) (i := 4) (.slice (some ⟨G + 1 + 1, 0, none⟩) 4 4)
  have bM6 : Box (w5.setCell ⟨G, 4, none⟩ (.slice (some ⟨G + 1 + 1, 0, none⟩) 4 4)) G 30 (bareM (G + 1 + 1) gb).cells := bM.set 4 _
  have z6 : (w5.setCell ⟨G, 4, none⟩ (.slice (some ⟨G + 1 + 1, 0, none⟩) 4 4)).heap.size = G + 1 + 1 := by simp [World.setCell, z5]
  have xq : Ext (w5.setCell ⟨G, 4, none⟩ (.slice (some ⟨G + 1 + 1, 0, none⟩) 4 4)) ((w5.setCell ⟨G, 4, none⟩ (.slice (some ⟨G + 1 + 1, 0, none⟩) 4 4)).alloc (.cells #[.string (str (zs 128)), .string (str (zs 128)), .string (str (zs 128)), .string (str (zs 128))] 9)) := (Ext.refl _).alloc _
  have bF7 := Box.new (w5.setCell ⟨G, 4, none⟩ (.slice (some ⟨G + 1 + 1, 0, none⟩) 4 4)) 9 #[.string (str (zs 128)), .string (str (zs 128)), .string (str (zs 128)), .string (str (zs 128))]
  rw [z6] at bF7
  have bF8 : Box ((w5.setCell ⟨G, 4, none⟩ (.slice (some ⟨G + 1 + 1, 0, none⟩) 4 4)).alloc (.cells #[.string (str (zs 128)), .string (str (zs 128)), .string (str (zs 128)), .string (str (zs 128))] 9)) (G + 1 + 1) 9 (strVals (List.replicate 4 (zs 128))) := bF7
  have bM7 := bM6.ext xq
  have b07 := b06.ext xq
  have b28 := b27.ext xq
  have x7 := x6.trans xq
  clear bM6 b06 b27 bF7 xq x6 z6
  go_wp2_with (first
    | (refine wp_ld_mac (.tmp 6) rfl rfl G _ _ rfl bM7 rfl ?_)
    | (refine wp_st_mac (.tmp 0) (.tmp 30) rfl rfl w.heap.size (bareM (G + 1 + 1) gb) _ 30 rfl rfl b07 rfl ?_; intro w9 b9 g9))
  refine bodyPost_ret (results_cell2 rfl _ _ w.heap.size _ _ _ (.bool true) rfl rfl b9 Tryz.underlying30 rfl macSize) rfl ⟨G + 1 + 1, gb, rfl, x7.grown g9 (fun j e => by cases e; exact Nat.le_refl _), bare_in (bF8.grown g9 (fun e => by injection e with e; omega)) (b28.grown g9 (fun e => by injection e with e; exact b28.ne b07 (by decide) e))⟩
end Go.Proofs.YtkokmnaicfdjaaaGreatDoor
/- A machine loaded at once behind a guard. -/
namespace Go.Proofs.YtkokmnaicfdjaaaGreatDoor
set_option linter.unusedVariables false
set_option linter.unusedSimpArgs false
open Go.RowKit

theorem mac_range0 {w : World} {g : Nat} {t : TypeId} {m : Mac} (h : Box w g t m.cells) : w.rangeAt g 0 m.cells.toList := fun j v hj => by
  rw [Nat.zero_add]; exact (h.cell j).trans (by rw [← hj]; simp)
theorem wp_ld_mac_g {ops : Array Oper} {rest : List Oper} {o : Oper} {a : Act} {w : World} {Q : Exit → Act → World → Prop} (x : Operand) (hw : Region.wanted o (yielded ops a.tmps) = true) (ho : o.op = .load 30 x) (g : Nat) (m : Mac) (t : TypeId) (hx : a.eval x = .pointer (some ⟨g, 0, none⟩))
    (hb : Box w g t m.cells) (hK : wpList Tryz.prog ops Q rest (a.put o.dst (.agg m.cells)) w) : wpList Tryz.prog ops Q (o :: rest) a w := by
  unfold wpList
  rw [if_pos hw]
  exact .inl (wp_load_mid _ x ho g 0 hx _ _ (mac_range0 hb) Tryz.underlying30 rfl macSize hK)
end Go.Proofs.YtkokmnaicfdjaaaGreatDoor
/- The document's machines: process. -/
namespace Go.Proofs.YtkokmnaicfdjaaaGreatDoor
set_option linter.unusedVariables false
set_option linter.unusedSimpArgs false
open Go.RowKit

def SomeBV (v : Value) : Prop := ∃ b, v = .bool b
set_option maxHeartbeats 40000000 in
set_option maxRecDepth 100000 in
theorem rprocess_any (m : Mac) (d : MacD) (y : PrT) (w : World) (h : MacIn w m d) :
    Calls Tryz.prog 28 #[.agg m.cells, .agg (prL y).toArray] w fun e w' => SomeB e ∧ Ext w w' := by
  have HL := Lib.hid (fun id w h => lives_any m d id w h)
  have HU := Lib.hid (fun id w h => users_any m d id w h)
  have HF := Lib.hid (fun k n p w h => rfd_any m d k n p w h)
  go_enter Tryz.func28, Tryz.ntmps28
  go_upto_region 1 with fail
  have xa : Ext w ((w.alloc (.cells m.cells 30)).alloc (.cells (prL y).toArray 72)) := ((Ext.refl _).alloc _).alloc _
  have bm := (Box.new w 30 m.cells).ext ((Ext.refl _).alloc (.cells (prL y).toArray 72))
  have bp := Box.new (w.alloc (.cells m.cells 30)) 72 (prL y).toArray
  rw [World.size_alloc] at bp
  generalize (w.alloc (.cells m.cells 30)).alloc (.cells (prL y).toArray 72) = w1 at *
  have h1 := h.ext xa
  have cf : ∀ wx, Ext w1 wx → wx.cell? ⟨w.heap.size + 1, 0, none⟩ = some (.int .i64 y.pid) ∧ wx.cell? ⟨w.heap.size + 1, 1, none⟩ = some (.int .i64 y.parent) ∧ wx.cell? ⟨w.heap.size + 1, 2, none⟩ = some (.int .i64 y.state) ∧ wx.cell? ⟨w.heap.size + 1, 3, none⟩ = some (.int .u32 (y.reg 0)) ∧ wx.cell? ⟨w.heap.size + 1, 93, none⟩ = some (.int .u32 y.code) ∧ wx.cell? ⟨w.heap.size + 1, 94, none⟩ = some (.int .i64 y.why) ∧ wx.cell? ⟨w.heap.size + 1, 95, none⟩ = some (.int .u64 y.num) ∧ wx.cell? ⟨w.heap.size, 6, none⟩ = some (.int .i64 m.next) ∧ wx.cell? ⟨w.heap.size, 4, none⟩ = some (.slice m.fr.A m.fr.n m.fr.c) := fun wx x =>
    ⟨(bp.ext x).cell 0, (bp.ext x).cell 1, (bp.ext x).cell 2, (bp.ext x).cell 3, (bp.ext x).cell 93, (bp.ext x).cell 94, (bp.ext x).cell 95, (bm.ext x).cell 6, (bm.ext x).cell 4⟩
  have CF := Lib.hid cf
  clear cf
  obtain ⟨p0, p1, p2, p3, p93, p94, p95, m6, m4⟩ := CF.out _ (Ext.refl w1)
  go_upto_region 3 with fail
  generalize (y.state == 3) = dead at *
  generalize (y.state == 2) = waits at *
  go_cut [47] (fun s wx => SomeBV s ∧ w1 = wx)
  case first =>
    as_aux_lemma =>
      have d1 := Bool.eq_false_or_eq_true (decide (y.pid < 1))
      have d2 := Bool.eq_false_or_eq_true (decide (m.next ≤ y.pid))
      have d3 := Bool.eq_false_or_eq_true (y.state != 1)
      clear p1 p93 p94 p95 m4
      rcases d1 with d1 | d1
      · clear d2 d3
        go_wp2_with fail
        go_meet
        exact ⟨⟨_, rfl⟩, rfl⟩
      · rcases d2 with d2 | d2
        · clear d3
          go_wp2_with fail
          go_meet
          exact ⟨⟨_, rfl⟩, rfl⟩
        · rcases d3 with d3 | d3
          · cases waits
            · cases dead
              · go_wp2_with fail
                go_meet
                exact ⟨⟨_, rfl⟩, rfl⟩
              · go_wp2_with fail
                go_meet
                exact ⟨⟨_, rfl⟩, rfl⟩
            · go_wp2_with fail
              go_meet
              exact ⟨⟨_, rfl⟩, rfl⟩
          · go_wp2_with fail
            go_meet
            exact ⟨⟨_, rfl⟩, rfl⟩
  case rest =>
    obtain ⟨⟨b47, rfl⟩, rfl⟩ := hcut
    cases b47 with
    | true =>
      go_wp2_with fail
      go_ret
      exact ⟨⟨_, rfl⟩, xa⟩
    | false =>
      go_upto_region 5 with fail
      go_cut [60] (fun s wx => SomeBV s ∧ Ext w1 wx)
      case first =>
        as_aux_lemma =>
          cases dead <;> go_wp2_with (first
            | (refine wp_ld_mac (.tmp 2) rfl rfl w.heap.size _ 30 rfl bm rfl ?_)
            | (go_at_call 52; refine (HL.out _ _ h1).mono ?_; rintro e w2 ⟨⟨b2, rfl⟩, x2⟩; have p1' := x2.keep p1))
          all_goals
            go_meet
            exact ⟨⟨_, rfl⟩, x2⟩
      case rest =>
        obtain ⟨⟨b60, rfl⟩, x5⟩ := hcut
        clear p0 p1 p2 p3 p93 p94 p95 m6 m4
        obtain ⟨p0, p1, p2, p3, p93, p94, p95, m6, m4⟩ := CF.out _ x5
        cases b60 with
        | true =>
          go_wp2_with fail
          go_ret
          exact ⟨⟨_, rfl⟩, xa.trans x5⟩
        | false =>
          go_upto_region 7 with fail
          go_cut [93] (fun s wx => SomeBV s ∧ wc = wx)
          case first =>
            as_aux_lemma =>
              have d1 := Bool.eq_false_or_eq_true (y.why != 0)
              have d2 := Bool.eq_false_or_eq_true (decide (y.why < 0))
              have d3 := Bool.eq_false_or_eq_true (decide (5 < y.why))
              have d4 := Bool.eq_false_or_eq_true (y.num != 0)
              clear p0 p1 p2 p3 m6 m4
              cases waits
              · rcases d1 with d1 | d1
                · clear d2 d3 d4
                  go_wp2_with fail
                  go_meet
                  exact ⟨⟨_, rfl⟩, rfl⟩
                · skip
                  rcases d2 with d2 | d2
                  · clear d3 d4
                    go_wp2_with fail
                    go_meet
                    exact ⟨⟨_, rfl⟩, rfl⟩
                  · rcases d3 with d3 | d3
                    · clear d4
                      go_wp2_with fail
                      go_meet
                      exact ⟨⟨_, rfl⟩, rfl⟩
                    · rcases d4 with d4 | d4
                      · go_wp2_with fail
                        go_meet
                        exact ⟨⟨_, rfl⟩, rfl⟩
                      · cases dead
                        · go_wp2_with fail
                          go_meet
                          exact ⟨⟨_, rfl⟩, rfl⟩
                        · go_wp2_with fail
                          go_meet
                          exact ⟨⟨_, rfl⟩, rfl⟩
              · rcases d1 with d1 | d1
                · skip
                  rcases d2 with d2 | d2
                  · clear d3 d4
                    go_wp2_with fail
                    go_meet
                    exact ⟨⟨_, rfl⟩, rfl⟩
                  · rcases d3 with d3 | d3
                    · clear d4
                      go_wp2_with fail
                      go_meet
                      exact ⟨⟨_, rfl⟩, rfl⟩
                    · clear d4
                      cases dead
                      · go_wp2_with fail
                        go_meet
                        exact ⟨⟨_, rfl⟩, rfl⟩
                      · go_wp2_with fail
                        go_meet
                        exact ⟨⟨_, rfl⟩, rfl⟩
                · clear d2 d3 d4
                  go_wp2_with fail
                  go_meet
                  exact ⟨⟨_, rfl⟩, rfl⟩
          case rest =>
            obtain ⟨⟨b93, rfl⟩, rfl⟩ := hcut
            cases b93 with
            | true =>
              go_wp2_with fail
              go_ret
              exact ⟨⟨_, rfl⟩, xa.trans x5⟩
            | false =>
              clear p0 p1 p2 p3 p93 p94 p95 m6 m4
              have bp5 := bp.ext x5
              go_wp2_with (refine wp_ld_space (.tmp 94) rfl rfl (w.heap.size + 1) 72 y rfl bp5 ?_)
              go_loopw [96] (fun i wx => ∃ j : Nat, j ≤ 16 ∧ i = .int .i64 j ∧ Ext w1 wx) (fun i _ => 16 - (intOf i).toNat)
              case atStart => exact ⟨0, by omega, rfl, x5⟩
              case round =>
                clear x5 bp5
                obtain ⟨j, hj, rfl, xj⟩ := hrel
                by_cases hj2 : j < 16
                · have hji : (j : Int) < 16 := by omega
                  go_upto_region 12 with (refine wp_idx_pte (.tmp 95) (.tmp 96) rfl rfl y j rfl rfl hj2 ?_)
                  generalize y.pis j = ia
                  generalize y.pwr j = iw
                  generalize y.pfr j = ifr
                  have bq := Box.new wr 65 #[.bool ia, .bool iw, .int .i64 ifr]
                  have xq := xj.alloc (.cells #[.bool ia, .bool iw, .int .i64 ifr] 65)
                  generalize wr.alloc (.cells #[.bool ia, .bool iw, .int .i64 ifr] 65) = wq at *
                  have q0 := bq.cell 0
                  have q1 := bq.cell 1
                  have q2 := bq.cell 2
                  go_cut [9] (fun s wx => SomeBV s ∧ wq = wx)
                  case first =>
                    as_aux_lemma =>
                      cases ia <;> cases iw <;> go_wp2_with fail
                      all_goals
                        go_meet
                        exact ⟨⟨_, rfl⟩, rfl⟩
                  case rest =>
                    obtain ⟨⟨b9, rfl⟩, rfl⟩ := hcut
                    have m4 := (CF.out _ xq).2.2.2.2.2.2.2.2
                    have bmq := bm.ext xq
                    have h2 := h1.ext xq
                    go_upto_region 13 with fail
                    go_cut [135] (fun s wx => SomeBV s ∧ Ext wq wx)
                    case first =>
                      as_aux_lemma =>
                        have dA := Bool.eq_false_or_eq_true (decide (ifr < 0))
                        have dB := Bool.eq_false_or_eq_true (decide ((m.fr.n : Int) ≤ ifr))
                        cases ia
                        · clear dA dB
                          cases b9
                          · go_wp2_with fail
                            go_meet
                            exact ⟨⟨_, rfl⟩, Ext.refl _⟩
                          · go_wp2_with fail
                            go_meet
                            exact ⟨⟨_, rfl⟩, Ext.refl _⟩
                        · cases dead
                          · rcases dA with dA | dA
                            · clear dB
                              go_wp2_with fail
                              go_meet
                              exact ⟨⟨_, rfl⟩, Ext.refl _⟩
                            · rcases dB with dB | dB
                              · go_wp2_with fail
                                go_meet
                                exact ⟨⟨_, rfl⟩, Ext.refl _⟩
                              · go_wp2_with (first
                                  | (refine wp_ld_mac_g (.tmp 2) rfl rfl w.heap.size m 30 rfl bmq ?_)
                                  | (go_at_call 53; refine (HU.out _ _ h2).mono ?_; rintro e w2 ⟨⟨b2, rfl⟩, x2⟩))
                                go_meet
                                exact ⟨⟨_, rfl⟩, x2⟩
                          · clear dA dB
                            go_wp2_with fail
                            go_meet
                            exact ⟨⟨_, rfl⟩, Ext.refl _⟩
                    case rest =>
                      obtain ⟨⟨b135, rfl⟩, x9⟩ := hcut
                      cases b135 with
                      | true =>
                        go_wp2_with fail
                        go_ret
                        exact ⟨⟨_, rfl⟩, xa.trans (xq.trans x9)⟩
                      | false =>
                        go_wp2_with fail
                        go_roundw
                        case rel => exact ⟨j + 1, by omega, by go_num, xq.trans x9⟩
                        case measure => simp [intOf]; omega
                · obtain rfl : j = 16 := by omega
                  have bp5 := bp.ext xj
                  go_wp2_with (refine wp_ld_fds (.tmp 137) rfl rfl (w.heap.size + 1) 72 y rfl bp5 ?_)
                  go_loopw [139] (fun i wx => ∃ j : Nat, j ≤ 8 ∧ i = .int .i64 j ∧ Ext w1 wx) (fun i _ => 8 - (intOf i).toNat)
                  case atStart => exact ⟨0, by omega, rfl, xj⟩
                  case round =>
                    clear xj bp5
                    obtain ⟨j, hj, rfl, xj⟩ := hrel
                    by_cases hj2 : j < 8
                    · have hji : (j : Int) < 8 := by omega
                      go_upto_region 19 with (refine wp_idx_fd (.tmp 138) (.tmp 139) rfl rfl y j rfl rfl hj2 ?_)
                      generalize y.fk j = ik
                      generalize y.fn j = ifn
                      generalize y.fp j = ifp
                      have bq := Box.new wr 69 #[.int .i64 ik, .int .i64 ifn, .int .i64 ifp]
                      have xq := xj.alloc (.cells #[.int .i64 ik, .int .i64 ifn, .int .i64 ifp] 69)
                      generalize wr.alloc (.cells #[.int .i64 ik, .int .i64 ifn, .int .i64 ifp] 69) = wq at *
                      have q0 : wq.cell? ⟨wr.heap.size, 0, none⟩ = some (.int .i64 ik) := bq.cell 0
                      have q1 := bq.cell 1
                      have q2 := bq.cell 2
                      have bmq := bm.ext xq
                      have h2 := h1.ext xq
                      go_cut [153] (fun s wx => SomeBV s ∧ Ext wq wx)
                      case first =>
                        as_aux_lemma =>
                          cases dead <;> go_wp2_with (first
                            | (refine wp_ld_mac (.tmp 2) rfl rfl w.heap.size _ 30 rfl bmq rfl ?_)
                            | (go_at_call 54; refine (HF.out _ _ _ _ h2).mono ?_; rintro e w2 ⟨⟨b2, rfl⟩, x2⟩; have q0' := x2.keep q0))
                          all_goals
                            go_meet
                            exact ⟨⟨_, rfl⟩, x2⟩
                      case rest =>
                        obtain ⟨⟨b153, rfl⟩, x9⟩ := hcut
                        cases b153 with
                        | true =>
                          go_wp2_with fail
                          go_ret
                          exact ⟨⟨_, rfl⟩, xa.trans (xq.trans x9)⟩
                        | false =>
                          go_wp2_with fail
                          go_roundw
                          case rel => exact ⟨j + 1, by omega, by go_num, xq.trans x9⟩
                          case measure => simp [intOf]; omega
                    · obtain rfl : j = 8 := by omega
                      go_wp2_with fail
                      go_ret
                      exact ⟨⟨_, rfl⟩, xa.trans xj⟩
end Go.Proofs.YtkokmnaicfdjaaaGreatDoor
/- The document's machines: disk. -/
namespace Go.Proofs.YtkokmnaicfdjaaaGreatDoor
set_option linter.unusedVariables false
set_option linter.unusedSimpArgs false
open Go.RowKit

theorem OfR.some {v : List (List UInt8)} {e : Ending} (h : OfR v e) : ∃ (g : Value) (n : Int), e = .returned (.tuple #[g, .int .i64 n]) ∧ (n = 0 → ∃ I, Good v I) := by
  rcases h with ⟨I, hI, rfl⟩ | rfl
  · exact ⟨_, 0, rfl, fun _ => ⟨I, hI⟩⟩
  · exact ⟨_, 3, rfl, fun h => by omega⟩
/-- what a machine's drive is, if there is nothing to say against it -/
def DiskOk (d : MacD) : Prop := jrnE d.bl d.pe = 0 ∧ d.di.length ≤ 32 ∧ (∀ (i : Nat) (h : i < d.di.length), 0 ≤ d.di[i].1 ∧ d.di[i].1 < ((d.bl.length - 33 : Nat) : Int) ∧ d.di[i].2.length = 128 ∧ (0 < i → (d.di[i - 1]'(by omega)).1 < d.di[i].1)) ∧ ∃ I, Good (viewP d.bl d.pe d.di) I
def DiskR (d : MacD) (e : Ending) : Prop := ∃ n : Int, e = .returned (.int .i64 n) ∧ (n = 0 → DiskOk d)
set_option maxHeartbeats 4000000 in
set_option maxRecDepth 100000 in
theorem rdisk_any (m : Mac) (d : MacD) (w : World) (h : MacIn w m d) :
    Calls Tryz.prog 29 #[.agg m.cells] w fun e w' => DiskR d e ∧ Ext w w' := by
  obtain ⟨hb, hp, hd, hpn, hdn, hbc⟩ := h.drv
  have HC := Lib.hid (fun w h1 h2 => rdcheck_any m.bl.A m.pe.A m.bl.n m.bl.c m.pe.n m.pe.c m.dleft d.bl d.pe w h1 h2 hpn)
  have HH := Lib.hid (fun w h1 h2 => rhome_any m.bl.A m.pe.A m.bl.n m.bl.c m.pe.n m.pe.c m.dleft d.bl d.pe w h1 h2 hpn)
  have HV := Lib.hid (fun w h1 h2 => rvolume_any m d w h1 h2)
  go_enter Tryz.func29, Tryz.ntmps29
  go_upto_region 1 with fail
  have xa : Ext w (w.alloc (.cells m.cells 30)) := (Ext.refl _).alloc _
  have bm := Box.new w 30 m.cells
  generalize w.alloc (.cells m.cells 30) = w1 at *
  have q13 : w1.cell? ⟨w.heap.size, 13, none⟩ = some (.slice m.bl.A m.bl.n m.bl.c) := bm.cell 13
  have q14 : w1.cell? ⟨w.heap.size, 14, none⟩ = some (.slice m.pe.A m.pe.n m.pe.c) := bm.cell 14
  have q15 : w1.cell? ⟨w.heap.size, 15, none⟩ = some (.int .i64 m.dleft) := bm.cell 15
  have hs := hb.ext xa
  have hw := hp.ext xa
  have hdE : drvE d.bl d.pe ≠ 0 → jrnE d.bl d.pe ≠ 0 := fun h => by unfold jrnE; rw [if_pos h]; exact h
  by_cases h0 : drvE d.bl d.pe = 0
  · rw [h0] at HC
    go_upto_region 4 with (go_at_call 55; refine (HC.out _ hs hw).mono ?_; rintro e w2 ⟨rfl, x2⟩)
    have bm2 := bm.ext x2
    have x2a := xa.trans x2
    clear q13 q14 q15
    have q13 : w2.cell? ⟨w.heap.size, 13, none⟩ = some (.slice m.bl.A m.bl.n m.bl.c) := bm2.cell 13
    have q14 : w2.cell? ⟨w.heap.size, 14, none⟩ = some (.slice m.pe.A m.pe.n m.pe.c) := bm2.cell 14
    have q15 : w2.cell? ⟨w.heap.size, 15, none⟩ = some (.int .i64 m.dleft) := bm2.cell 15
    by_cases hj : jrnE d.bl d.pe = 0
    · have hl := homeP_len hj
      have hlst := (drvOk_of hj).least
      have HJ := Lib.hid hj
      clear hj hdE h0 HC
      rw [hl] at HH
      go_upto_region 5 with (go_at_call 31; refine (HH.out _ (hb.ext x2a) (hp.ext x2a)).mono ?_; rintro e w3 ⟨A1, c1, rfl, x3, own1⟩)
      have bm3 := bm2.ext x3
      have x3a := x2a.trans x3
      clear q13 q14 q15 own1 HH hs hw
      obtain ⟨N, hN⟩ : ∃ N : Nat, N = d.bl.length - 33 := ⟨_, rfl⟩
      have hN0 : 0 < N := by omega
      rw [← hN]
      have HN := Lib.hid hN
      have q16 : w3.cell? ⟨w.heap.size, 16, none⟩ = some (.slice m.di.A m.di.n m.di.c) := bm3.cell 16
      have hNe : ((N : Int) == 0) = false := by simp; omega
      clear hN hl hlst
      obtain ⟨hd1, hd2⟩ := hd
      have HD1 := Lib.hid hd1
      clear hd1
      by_cases h32 : 32 < m.di.n
      · go_wp2_with fail
        go_ret
        exact ⟨⟨6, rfl, fun h => by omega⟩, x3a⟩
      · go_wp2_with fail
        have HM := Lib.hid (show MacIn w m d from h)
        have HDK := Lib.hid (show (∀ (i : Nat) (h : i < d.di.length), 0 ≤ d.di[i].1 ∧ d.di[i].1 < (N : Int) ∧ d.di[i].2.length = 128 ∧ (0 < i → (d.di[i - 1]'(by omega)).1 < d.di[i].1)) → (∃ I, Good (viewP d.bl d.pe d.di) I) → DiskOk d from fun h1 h2 => ⟨HJ.out, by rw [← HD1.out]; omega, by rw [← HN.out]; exact h1, h2⟩)
        clear h q16
        go_loopw [5, 6, 26] (fun _ _ i wx => ∃ k : Nat, k ≤ m.di.n ∧ i = .int .i64 k ∧ Ext w3 wx ∧ ∀ (i : Nat) (h : i < d.di.length), i < k → 0 ≤ d.di[i].1 ∧ d.di[i].1 < (N : Int) ∧ d.di[i].2.length = 128 ∧ (0 < i → (d.di[i - 1]'(by omega)).1 < d.di[i].1)) (fun _ _ i _ => m.di.n - (intOf i).toNat)
        case atStart => exact ⟨0, by omega, rfl, Ext.refl _, fun i _ h => by omega⟩
        case round =>
          obtain ⟨k, hk, rfl, xk, hall⟩ := hrel
          have HA := Lib.hid hall
          clear hall
          have r16 : wr.cell? ⟨w.heap.size, 16, none⟩ = some (.slice m.di.A m.di.n m.di.c) := (bm3.ext xk).cell 16
          by_cases hlt : k < m.di.n
          · obtain ⟨b, o, hA, hcell⟩ := hd2 (by omega)
            have hlk : k < d.di.length := by rw [← HD1.out]; exact hlt
            have e1 := (x3a.trans xk).keep (hcell k hlk).1
            have e2 := (x3a.trans xk).keep (hcell k hlk).2
            have e0 : 0 < k → wr.cell? ⟨b, o + (k - 1) * 2, none⟩ = some (.int .i64 (d.di[k - 1]'(by omega)).1) := fun h => (x3a.trans xk).keep (hcell (k - 1) (by omega)).1
            have HS := Lib.hid (show (0 ≤ d.di[k].1 ∧ d.di[k].1 < (N : Int) ∧ d.di[k].2.length = 128 ∧ (0 < k → (d.di[k - 1]'(by omega)).1 < d.di[k].1)) → ∀ (i : Nat) (h : i < d.di.length), i < k + 1 → 0 ≤ d.di[i].1 ∧ d.di[i].1 < (N : Int) ∧ d.di[i].2.length = 128 ∧ (0 < i → (d.di[i - 1]'(by omega)).1 < d.di[i].1) from fun h i hi hik => by
              by_cases e : i < k
              · exact HA.out i hi e
              · obtain rfl : i = k := by omega
                exact h)
            clear HA hcell
            have hz := str_size
            have hkn : (k : Int) < (m.di.n : Int) := by omega
            generalize d.di[k] = y at *
            generalize hprv : d.di[k - 1]'(by omega) = prv at *
            clear hprv
            rw [hA] at r16
            go_upto_region 12 with fail
            have E1 : (wr.alloc (.cells #[.int .i64 y.1, .string (str y.2)] 57)).cell? ⟨w.heap.size, 16, none⟩ = some (.slice (some ⟨b, o, none⟩) m.di.n m.di.c) := ((Ext.refl wr).alloc _).keep r16
            have E0 : 0 < k → (wr.alloc (.cells #[.int .i64 y.1, .string (str y.2)] 57)).cell? ⟨b, o + (k - 1) * 2, none⟩ = some (.int .i64 prv.1) := fun h => ((Ext.refl wr).alloc _).keep (e0 h)
            clear e0 e1 e2 r16
            by_cases n0 : y.1 < 0
            · have d0 : decide (y.1 < 0) = true := decide_eq_true n0
              clear E0
              go_quiet (fail)
              go_wp2_with fail
              go_ret
              exact ⟨⟨3, rfl, fun h => by omega⟩, x3a.trans ((xk.alloc _).drewN _)⟩
            · have d0 : decide (y.1 < 0) = false := decide_eq_false n0
              by_cases n1 : (N : Int) ≤ y.1
              · have d1 : decide ((N : Int) ≤ y.1) = true := decide_eq_true n1
                clear E0
                go_quiet (fail)
                go_wp2_with fail
                go_ret
                exact ⟨⟨3, rfl, fun h => by omega⟩, x3a.trans ((xk.alloc _).drewN _)⟩
              · have d1 : decide ((N : Int) ≤ y.1) = false := decide_eq_false n1
                by_cases n2 : y.2.length = 128
                · have d2 : ((y.2.length : Int) != 128) = false := by rw [n2]; rfl
                  by_cases n3 : 0 < k
                  · have d3 : decide ((0 : Int) < (k : Int)) = true := by simp; omega
                    have E0' := E0 n3
                    have k1 : (k : Int) - 1 = ((k - 1 : Nat) : Int) := by omega
                    have k2 : IntKind.i64.wrap ((k : Int) - 1) = ((k - 1 : Nat) : Int) := by rw [IntKind.wrap_i64]; omega
                    have k3 : ((k - 1 : Nat) : Int) < (m.di.n : Int) := by omega
                    clear E0
                    by_cases n4 : y.1 ≤ prv.1
                    · have d4 : decide (y.1 ≤ prv.1) = true := decide_eq_true n4
                      go_quiet (fail)
                      go_wp2_with fail
                      go_ret
                      exact ⟨⟨3, rfl, fun h => by omega⟩, x3a.trans ((xk.alloc _).drewN _)⟩
                    · have d4 : decide (y.1 ≤ prv.1) = false := decide_eq_false n4
                      go_quiet (fail)
                      go_wp2_with fail
                      go_roundw
                      case rel => exact ⟨k + 1, by omega, by go_num, (xk.alloc _).drewN _, HS.out ⟨by omega, by omega, n2, fun _ => by omega⟩⟩
                      case measure => simp [intOf]; omega
                  · have d3 : decide ((0 : Int) < (k : Int)) = false := by simp; omega
                    clear E0
                    go_quiet (fail)
                    go_wp2_with fail
                    go_roundw
                    case rel => exact ⟨k + 1, by omega, by go_num, (xk.alloc _).drewN _, HS.out ⟨by omega, by omega, n2, fun h => absurd h n3⟩⟩
                    case measure => simp [intOf]; omega
                · have d2 : ((y.2.length : Int) != 128) = true := by simp; omega
                  clear E0
                  go_quiet (fail)
                  go_wp2_with fail
                  go_ret
                  exact ⟨⟨3, rfl, fun h => by omega⟩, x3a.trans ((xk.alloc _).drewN _)⟩
          · obtain rfl : k = m.di.n := by omega
            have HAll := Lib.hid (fun (i : Nat) (h : i < d.di.length) => HA.out i h (by rw [HD1.out]; exact h))
            clear HA r16
            have bmk := bm3.ext xk
            have hmk := HM.out.ext (x3a.trans xk)
            go_wp2_with (first
              | (refine wp_ld_mac (.tmp 1) rfl rfl w.heap.size _ 30 rfl bmk rfl ?_)
              | (go_at_call 57; refine (HV.out _ hmk HJ.out).mono ?_; rintro e w4 ⟨A4, c4, rfl, x4, own4⟩; have s4 := Strs.own own4)
              | (go_at_call 56; refine (rof_any _ _ _ _ _ s4 (by have := s4.1; have := viewP_len (d := d.di) HJ.out; have := (drvOk_of HJ.out).most; omega)).mono ?_; rintro e w5 ⟨hof, x5⟩; obtain ⟨g5, n5, rfl, hn5⟩ := hof.some; have HN5 := Lib.hid hn5; clear hn5 hof))
            go_ret
            exact ⟨⟨n5, rfl, fun h => HDK.out HAll.out (HN5.out h)⟩, (x3a.trans xk).trans (x4.trans x5)⟩
    · have HE := Lib.hid (show homeP d.bl d.pe = [] by unfold homeP; rw [if_pos hj])
      rw [HE.out] at HH
      clear hdE hj HC
      go_wp2_with (go_at_call 31; refine (HH.out _ (hb.ext x2a) (hp.ext x2a)).mono ?_; rintro e w3 ⟨A1, c1, rfl, x3, own1⟩)
      go_ret
      exact ⟨⟨3, rfl, fun h => by omega⟩, x2a.trans x3⟩
  · have d1 : (drvE d.bl d.pe != 0) = true := by simpa using h0
    have HZ := Lib.hid h0
    clear h0
    obtain ⟨dd, hdd⟩ : ∃ dd, dd = drvE d.bl d.pe := ⟨_, rfl⟩
    rw [← hdd] at HC d1 HZ
    clear hdd
    go_wp2_with (go_at_call 55; refine (HC.out _ hs hw).mono ?_; rintro e w2 ⟨rfl, x2⟩)
    go_ret
    exact ⟨⟨dd, rfl, fun h => absurd h HZ.out⟩, xa.trans x2⟩
end Go.Proofs.YtkokmnaicfdjaaaGreatDoor
/- The document's machines: Check. -/
namespace Go.Proofs.YtkokmnaicfdjaaaGreatDoor
set_option linter.unusedVariables false
set_option linter.unusedSimpArgs false
open Go.RowKit

section
variable {P : Program} {C : World → Prop} {o : Oper} {a : Act} {K : Act → Prop}
theorem quiet_load_mid (ty : TypeId) (x : Operand) (h : o.op = .load ty x) (b i : Nat) (hx : a.eval x = .pointer (some ⟨b, i, none⟩)) (cs : List Value) (d : TypeDesc) (hc : ∀ w, C w → w.rangeAt b i cs)
    (hu : P.underlying ty = some d) (hd : d.isRow = true) (hi : (P.info? ty).map (·.size) = some cs.length) (hk : K (a.put o.dst (.agg cs.toArray))) : o.quiet P a C K :=
  ⟨_, fun w hw => by
    unfold Oper.quietAt execOp
    simp only [h, hx, Instr.loadAt, Instr.sureAddr, Sem.run_bind, Sem.run_pure, Result.andThen_ok, run_loadVar_mid w b i ty cs d (hc w hw) hu hd hi]
    exact ⟨rfl, rfl⟩, hk⟩
end
theorem mac_range {w : World} {g : Nat} {t : TypeId} {m : Mac} (h : Box w g t m.cells) : w.rangeAt g 0 m.cells.toList := fun j v hj => by
  rw [Nat.zero_add]; exact (h.cell j).trans (by rw [← hj]; simp)
theorem pr_range0 {w : World} {g : Nat} {t : TypeId} {p : PrT} (h : Box w g t (prL p).toArray) : w.rangeAt g 0 (prL p) := fun j v hj => by
  rw [Nat.zero_add]; exact (h.cell j).trans (by rw [← hj]; simp)
section
variable {C : World → Prop} {o : Oper} {a : Act} {K : Act → Prop}
theorem quiet_ld_mac (x : Operand) (h : o.op = .load 30 x) (b : Nat) (hx : a.eval x = .pointer (some ⟨b, 0, none⟩)) (m : Mac) (hc : ∀ w, C w → w.rangeAt b 0 m.cells.toList) (hk : K (a.put o.dst (.agg m.cells))) : o.quiet Tryz.prog a C K :=
  quiet_load_mid _ x h b 0 hx _ _ hc Tryz.underlying30 rfl macSize hk
theorem quiet_ld_pr (x : Operand) (h : o.op = .load 72 x) (b : Nat) (hx : a.eval x = .pointer (some ⟨b, 0, none⟩)) (p : PrT) (hc : ∀ w, C w → w.rangeAt b 0 (prL p)) (hk : K (a.put o.dst (.agg (prL p).toArray))) : o.quiet Tryz.prog a C K :=
  quiet_load_mid _ x h b 0 hx _ _ hc Tryz.underlying72 rfl (by rw [prL_len]; exact prSize) hk
end
/-- what Check answers -/
def CheckR (d : MacD) (e : Ending) : Prop := ∃ n : Int, e = .returned (.int .i64 n) ∧ (n = 0 → DiskOk d)
set_option maxHeartbeats 40000000 in
set_option maxRecDepth 100000 in
theorem rcheck_any (m : Mac) (d : MacD) (w : World) (h : MacIn w m d) :
    Calls Tryz.prog 9 #[.agg m.cells] w fun e w' => CheckR d e ∧ Ext w w' := by
  have HP := Lib.hid (fun y w h => rprocess_any m d y w h)
  have HDI := Lib.hid (fun w h => rdisk_any m d w h)
  obtain ⟨hf1, hf2⟩ := h.fr.strs
  obtain ⟨hr1, hr2⟩ := h.pr
  obtain ⟨hi1, hi2⟩ := h.pi.wrs
  have hfk := h.frk.2.1
  have hrk := h.prk.2.1
  have hik := h.pik.2.1
  unfold maxLen at hfk hrk hik
  have HF1 := Lib.hid hf1
  have HR1 := Lib.hid hr1
  have HI1 := Lib.hid hi1
  have hz := str_size
  clear hf1 hr1 hi1
  go_enter Tryz.func9, Tryz.ntmps9
  go_upto_region 1 with fail
  have xa : Ext w (w.alloc (.cells m.cells 30)) := (Ext.refl _).alloc _
  have bm := Box.new w 30 m.cells
  generalize w.alloc (.cells m.cells 30) = w1 at *
  have HM := Lib.hid (h.ext xa)
  clear h
  obtain ⟨k0, k1, k2, k3, k4, k5, k6, k7, k8, k9, k10, k11, k12, k13, k14, k15, k16⟩ := mac_cells bm
  clear k0 k11 k12 k13 k14 k15 k16
  go_upto_region 2 with fail
  go_cut [56] (fun s wx => SomeBV s ∧ w1 = wx)
  case first =>
    clear k4 k5 k7 k8 k10
    go_wp2_with fail
    all_goals
      go_meet
      exact ⟨⟨_, rfl⟩, rfl⟩
  case rest =>
  obtain ⟨⟨b56, rfl⟩, rfl⟩ := hcut
  cases b56 with
  | true =>
    go_wp2_with fail
    go_ret
    exact ⟨⟨2, rfl, fun h => by omega⟩, xa⟩
  | false =>
  clear k1 k2 k3 k6 k9
  go_upto_region 4 with fail
  go_cut [66] (fun s wx => SomeBV s ∧ w1 = wx)
  case first =>
    go_wp2_with fail
    all_goals
      go_meet
      exact ⟨⟨_, rfl⟩, rfl⟩
  case rest =>
  obtain ⟨⟨b66, rfl⟩, rfl⟩ := hcut
  cases b66 with
  | true =>
    go_wp2_with fail
    go_ret
    exact ⟨⟨6, rfl, fun h => by omega⟩, xa⟩
  | false =>
  go_wp2_with fail
  generalize d.fr = fl at hf2 HF1
  generalize m.fr.A = fA at *
  go_loop [70] (fun i => ∃ j : Nat, j ≤ m.fr.n ∧ i = .int .i64 j) (fun i => m.fr.n - (intOf i).toNat)
  case atStart => exact ⟨0, by omega, rfl⟩
  case round =>
    obtain ⟨j, hj, rfl⟩ := hrel
    by_cases hlt : j < m.fr.n
    · obtain ⟨b, o, rfl, hcell⟩ := hf2 (by omega)
      have c1 := xa.keep (hcell j (by rw [← HF1.out]; exact hlt))
      generalize fl[j]'(by rw [← HF1.out]; exact hlt) = s at *
      have hjn : (j : Int) < (m.fr.n : Int) := by omega
      clear hcell
      by_cases hl : s.length = 128
      · have hl' : ((s.length : Int) != 128) = false := by rw [hl]; rfl
        clear hl
        go_wp2_with fail
        go_round
        case rel => exact ⟨j + 1, by omega, by go_num⟩
        case measure => simp [intOf]; omega
      · have hl' : ((s.length : Int) != 128) = true := by simp; omega
        go_wp2_with fail
        go_ret
        exact ⟨⟨3, rfl, fun h => by omega⟩, xa⟩
    · obtain rfl : j = m.fr.n := by omega
      by_cases h8 : 8 < m.pr.n
      · go_wp2_with fail
        go_ret
        exact ⟨⟨6, rfl, fun h => by omega⟩, xa⟩
      · go_wp2_with fail
        clear k4 k5 k7 k8 k10
        generalize d.pr = l at hr2 HR1
        generalize hrA : m.pr.A = A at hr2 ⊢
        have HRA := Lib.hid hrA
        clear hrA
        go_loopw [85] (fun i wx => ∃ k : Nat, k ≤ m.pr.n ∧ i = .int .i64 k ∧ Ext w1 wx) (fun i _ => m.pr.n - (intOf i).toNat)
        case atStart => exact ⟨0, by omega, rfl, Ext.refl _⟩
        case round =>
          obtain ⟨k, hk, rfl, xk⟩ := hrel
          by_cases hlt : k < m.pr.n
          · obtain ⟨b, o, rfl, hcell⟩ := hr2 (by omega)
            have hlk : k < l.length := by rw [← HR1.out]; exact hlt
            have r1 := range_ext (pr_range hcell hlk) (xa.trans xk)
            have e0 : 0 < k → wr.cell? ⟨b, o + (k - 1) * 96, none⟩ = some (.int .i64 (l[k - 1]'(by omega)).pid) := fun h => (xa.trans xk).keep (pr_range hcell (k := k - 1) (by omega) 0 _ rfl)
            clear hcell
            have hkn : (k : Int) < (m.pr.n : Int) := by omega
            generalize l[k] = y at *
            generalize hprv : l[k - 1]'(by omega) = prv at *
            clear hprv
            go_upto_region 17 with (first
              | (refine wp_ld_pr (.tmp 88) rfl rfl b (o + k * 96) y rfl r1 ?_)
              | (refine wp_st_pr (.tmp 7) (.tmp 89) rfl rfl wr.heap.size y _ 72 rfl rfl (Box.new _ _ _) rfl ?_; intro w2 b2 g2))
            have z2 : Ext wr w2 := ((Ext.refl wr).alloc _).grown g2 (fun j e => by cases e; exact Nat.le_refl _)
            have x2 := xk.trans z2
            have c0 : ∀ x : Later w2, x.now.cell? ⟨wr.heap.size, 0, none⟩ = some (.int .i64 y.pid) := fun x => (b2.ext x.ext).cell 0
            have k5 : ∀ x : Later w2, x.now.cell? ⟨w.heap.size, 5, none⟩ = some (.slice (some ⟨b, o, none⟩) m.pr.n m.pr.c) := fun x => by rw [← HRA.out]; exact ((bm.ext x2).ext x.ext).cell 5
            have rm : ∀ wx, (∃ x : Later w2, wx = x.now) → wx.rangeAt w.heap.size 0 m.cells.toList := fun wx ⟨x, hx⟩ => by rw [hx]; exact mac_range ((bm.ext x2).ext x.ext)
            have rp : ∀ wx, (∃ x : Later w2, wx = x.now) → wx.rangeAt wr.heap.size 0 (prL y) := fun wx ⟨x, hx⟩ => by rw [hx]; exact pr_range0 (b2.ext x.ext)
            have RM := Lib.hid rm
            have RP := Lib.hid rp
            have HPC : ∀ x : Later w2, Hid (Calls Tryz.prog 28 #[.agg m.cells, .agg (prL y).toArray] x.now fun e w' => SomeB e ∧ Ext x.now w') := fun x => Lib.hid (HP.out y _ (HM.out.ext (x2.trans x.ext)))
            clear r1 g2 rm rp
            have E0 : 0 < k → ∀ x : Later w2, x.now.cell? ⟨b, o + (k - 1) * 96, none⟩ = some (.int .i64 prv.pid) := fun h x => x.ext.keep (z2.keep (e0 h))
            clear e0
            by_cases n3 : 0 < k
            · have d3 : decide ((0 : Int) < (k : Int)) = true := by simp; omega
              have E0' := E0 n3
              clear E0
              have E0 := E0'
              clear E0'
              have kk1 : (k : Int) - 1 = ((k - 1 : Nat) : Int) := by omega
              have kk2 : IntKind.i64.wrap ((k : Int) - 1) = ((k - 1 : Nat) : Int) := by rw [IntKind.wrap_i64]; omega
              have kk3 : ((k - 1 : Nat) : Int) < (m.pr.n : Int) := by omega
              by_cases n4 : y.pid ≤ prv.pid
              · have d4 : decide (y.pid ≤ prv.pid) = true := decide_eq_true n4
                simp only [Act.put]
                refine wp_region_later_tail 17 (by kernel_rfl) (by kernel_rfl) ?_
                simp only [List.take_succ_cons, List.take_zero, List.drop_succ_cons, List.drop_zero]
                repeat (first
                  | (go_big_quiet_want; refine quiet_ld_mac (.tmp 1) rfl w.heap.size rfl m RM.out ?_; simp only [Act.put, List.setIfInBounds_toArray, List.set_cons_zero, List.set_cons_succ]; go_big_quiet_on)
                  | (go_big_quiet_want; refine quiet_ld_pr (.tmp 7) rfl wr.heap.size rfl y RP.out ?_; simp only [Act.put, List.setIfInBounds_toArray, List.set_cons_zero, List.set_cons_succ]; go_big_quiet_on)
                  | go_big_quiet_step (fail))
                refine wpQuiet_nil ?_
                rintro w3 ⟨x3, rfl⟩
                clear c0 k5 E0
                go_wp2_with fail
                go_ret
                exact ⟨⟨3, rfl, fun h => by omega⟩, (xa.trans x2).trans x3.ext⟩
              · have d4 : decide (y.pid ≤ prv.pid) = false := decide_eq_false n4
                simp only [Act.put]
                refine wp_region_later_tail 17 (by kernel_rfl) (by kernel_rfl) ?_
                simp only [List.take_succ_cons, List.take_zero, List.drop_succ_cons, List.drop_zero]
                repeat (first
                  | (go_big_quiet_want; refine quiet_ld_mac (.tmp 1) rfl w.heap.size rfl m RM.out ?_; simp only [Act.put, List.setIfInBounds_toArray, List.set_cons_zero, List.set_cons_succ]; go_big_quiet_on)
                  | (go_big_quiet_want; refine quiet_ld_pr (.tmp 7) rfl wr.heap.size rfl y RP.out ?_; simp only [Act.put, List.setIfInBounds_toArray, List.set_cons_zero, List.set_cons_succ]; go_big_quiet_on)
                  | go_big_quiet_step (fail))
                refine wpQuiet_nil ?_
                rintro w3 ⟨x3, rfl⟩
                clear c0 k5 E0
                go_wp2_with (go_at_call 28; refine (HPC x3).out.mono ?_; rintro e w4 ⟨⟨b4, rfl⟩, x4⟩)
                all_goals first
                  | (go_ret
                     exact ⟨⟨3, rfl, fun h => by omega⟩, ((xa.trans x2).trans x3.ext).trans x4⟩)
                  | (go_roundw
                     case rel => exact ⟨k + 1, by omega, by go_num, (x2.trans x3.ext).trans x4⟩
                     case measure => simp [intOf]; omega)
            · have d3 : decide ((0 : Int) < (k : Int)) = false := by simp; omega
              simp only [Act.put]
              refine wp_region_later_tail 17 (by kernel_rfl) (by kernel_rfl) ?_
              simp only [List.take_succ_cons, List.take_zero, List.drop_succ_cons, List.drop_zero]
              repeat (first
                | (go_big_quiet_want; refine quiet_ld_mac (.tmp 1) rfl w.heap.size rfl m RM.out ?_; simp only [Act.put, List.setIfInBounds_toArray, List.set_cons_zero, List.set_cons_succ]; go_big_quiet_on)
                | (go_big_quiet_want; refine quiet_ld_pr (.tmp 7) rfl wr.heap.size rfl y RP.out ?_; simp only [Act.put, List.setIfInBounds_toArray, List.set_cons_zero, List.set_cons_succ]; go_big_quiet_on)
                | go_big_quiet_step (fail))
              refine wpQuiet_nil ?_
              rintro w3 ⟨x3, rfl⟩
              clear c0 k5 E0
              go_wp2_with (go_at_call 28; refine (HPC x3).out.mono ?_; rintro e w4 ⟨⟨b4, rfl⟩, x4⟩)
              all_goals first
                | (go_ret
                   exact ⟨⟨3, rfl, fun h => by omega⟩, ((xa.trans x2).trans x3.ext).trans x4⟩)
                | (go_roundw
                   case rel => exact ⟨k + 1, by omega, by go_num, (x2.trans x3.ext).trans x4⟩
                   case measure => simp [intOf]; omega)
          · obtain rfl : k = m.pr.n := by omega
            have q8 : wr.cell? ⟨w.heap.size, 8, none⟩ = some (.slice m.pi.A m.pi.n m.pi.c) := (bm.ext xk).cell 8
            by_cases h64 : 64 < m.pi.n
            · go_wp2_with fail
              go_ret
              exact ⟨⟨6, rfl, fun h => by omega⟩, xa.trans xk⟩
            · go_wp2_with fail
              clear q8
              generalize wr = w5 at *
              generalize d.pi = pl at hi2 HI1
              go_loopw [118] (fun i wx => ∃ k : Nat, k ≤ m.pi.n ∧ i = .int .i64 k ∧ Ext w1 wx) (fun i _ => m.pi.n - (intOf i).toNat)
              case atStart => exact ⟨0, by omega, rfl, xk⟩
              case round =>
                clear xk
                obtain ⟨k, hk, rfl, xk⟩ := hrel
                by_cases hlt : k < m.pi.n
                · obtain ⟨b, o, hA, hcell⟩ := hi2 (by omega)
                  have hlk : k < pl.length := by rw [← HI1.out]; exact hlt
                  have e1 := (xa.trans xk).keep (hcell k hlk).1
                  have e2 := (xa.trans xk).keep (hcell k hlk).2
                  have e0 : 0 < k → wr.cell? ⟨b, o + (k - 1) * 2, none⟩ = some (.int .i64 (pl[k - 1]'(by omega)).1) := fun h => (xa.trans xk).keep (hcell (k - 1) (by omega)).1
                  have r8 : wr.cell? ⟨w.heap.size, 8, none⟩ = some (.slice m.pi.A m.pi.n m.pi.c) := (bm.ext xk).cell 8
                  have r9 : wr.cell? ⟨w.heap.size, 9, none⟩ = some (.int .i64 m.newPipe) := (bm.ext xk).cell 9
                  rw [hA] at r8
                  clear hcell
                  have hkn : (k : Int) < (m.pi.n : Int) := by omega
                  generalize pl[k] = y at *
                  generalize hprv : pl[k - 1]'(by omega) = prv at *
                  clear hprv
                  go_upto_region 25 with fail
                  have E1 : (wr.alloc (.cells #[.int .i64 y.1, .string (str y.2)] 59)).cell? ⟨w.heap.size, 8, none⟩ = some (.slice (some ⟨b, o, none⟩) m.pi.n m.pi.c) := ((Ext.refl wr).alloc _).keep r8
                  have E9 : (wr.alloc (.cells #[.int .i64 y.1, .string (str y.2)] 59)).cell? ⟨w.heap.size, 9, none⟩ = some (.int .i64 m.newPipe) := ((Ext.refl wr).alloc _).keep r9
                  have E0 : 0 < k → (wr.alloc (.cells #[.int .i64 y.1, .string (str y.2)] 59)).cell? ⟨b, o + (k - 1) * 2, none⟩ = some (.int .i64 prv.1) := fun h => ((Ext.refl wr).alloc _).keep (e0 h)
                  clear e0 e1 e2 r8 r9
                  by_cases n0 : y.1 < 1
                  · have d0 : decide (y.1 < 1) = true := decide_eq_true n0
                    clear E0
                    go_quiet (fail)
                    go_wp2_with fail
                    go_ret
                    exact ⟨⟨3, rfl, fun h => by omega⟩, (xa.trans xk).trans (((Ext.refl wr).alloc _).drewN _)⟩
                  · have d0 : decide (y.1 < 1) = false := decide_eq_false n0
                    by_cases n1 : m.newPipe ≤ y.1
                    · have d1 : decide (m.newPipe ≤ y.1) = true := decide_eq_true n1
                      clear E0
                      go_quiet (fail)
                      go_wp2_with fail
                      go_ret
                      exact ⟨⟨3, rfl, fun h => by omega⟩, (xa.trans xk).trans (((Ext.refl wr).alloc _).drewN _)⟩
                    · have d1 : decide (m.newPipe ≤ y.1) = false := decide_eq_false n1
                      by_cases n3 : 0 < k
                      · have d3 : decide ((0 : Int) < (k : Int)) = true := by simp; omega
                        have E0' := E0 n3
                        have kk1 : (k : Int) - 1 = ((k - 1 : Nat) : Int) := by omega
                        have kk2 : IntKind.i64.wrap ((k : Int) - 1) = ((k - 1 : Nat) : Int) := by rw [IntKind.wrap_i64]; omega
                        have kk3 : ((k - 1 : Nat) : Int) < (m.pi.n : Int) := by omega
                        clear E0
                        by_cases n4 : y.1 ≤ prv.1
                        · have d4 : decide (y.1 ≤ prv.1) = true := decide_eq_true n4
                          go_quiet (fail)
                          go_wp2_with fail
                          go_ret
                          exact ⟨⟨3, rfl, fun h => by omega⟩, (xa.trans xk).trans (((Ext.refl wr).alloc _).drewN _)⟩
                        · have d4 : decide (y.1 ≤ prv.1) = false := decide_eq_false n4
                          by_cases n2 : 64 < y.2.length
                          · have d2 : decide (64 < (y.2.length : Int)) = true := by simp; omega
                            go_quiet (fail)
                            go_wp2_with fail
                            go_ret
                            exact ⟨⟨3, rfl, fun h => by omega⟩, (xa.trans xk).trans (((Ext.refl wr).alloc _).drewN _)⟩
                          · have d2 : decide (64 < (y.2.length : Int)) = false := by simp; omega
                            go_quiet (fail)
                            go_wp2_with fail
                            go_roundw
                            case rel => exact ⟨k + 1, by omega, by go_num, (xk.alloc _).drewN _⟩
                            case measure => simp [intOf]; omega
                      · have d3 : decide ((0 : Int) < (k : Int)) = false := by simp; omega
                        clear E0
                        by_cases n2 : 64 < y.2.length
                        · have d2 : decide (64 < (y.2.length : Int)) = true := by simp; omega
                          go_quiet (fail)
                          go_wp2_with fail
                          go_ret
                          exact ⟨⟨3, rfl, fun h => by omega⟩, (xa.trans xk).trans (((Ext.refl wr).alloc _).drewN _)⟩
                        · have d2 : decide (64 < (y.2.length : Int)) = false := by simp; omega
                          go_quiet (fail)
                          go_wp2_with fail
                          go_roundw
                          case rel => exact ⟨k + 1, by omega, by go_num, (xk.alloc _).drewN _⟩
                          case measure => simp [intOf]; omega
                · obtain rfl : k = m.pi.n := by omega
                  obtain ⟨k0, k1, k2, k3, k4, k5, k6, k7, k8, k9, k10, k11, k12, k13, k14, k15, k16⟩ := mac_cells (bm.ext xk)
                  have bmk := bm.ext xk
                  clear k0 k1 k2 k3 k4 k5 k6 k8 k9 k11 k12 k13 k14 k15 k16
                  go_upto_region 28 with fail
                  go_cut [165] (fun s wx => SomeBV s ∧ wr = wx)
                  case first =>
                    go_wp2_with fail
                    all_goals
                      go_meet
                      exact ⟨⟨_, rfl⟩, rfl⟩
                  case rest =>
                    obtain ⟨⟨b165, rfl⟩, rfl⟩ := hcut
                    cases b165 with
                    | true =>
                      go_wp2_with fail
                      go_ret
                      exact ⟨⟨6, rfl, fun h => by omega⟩, xa.trans xk⟩
                    | false =>
                      clear k7 k10
                      go_wp2_with (first
                        | (refine wp_ld_mac (.tmp 1) rfl rfl w.heap.size _ 30 rfl bmk rfl ?_)
                        | (go_at_call 29; refine (HDI.out _ (HM.out.ext xk)).mono ?_; rintro e w6 ⟨⟨n6, rfl, hn6⟩, x6⟩; have HN6 := Lib.hid hn6; clear hn6))
                      go_ret
                      exact ⟨⟨n6, rfl, HN6.out⟩, (xa.trans xk).trans x6⟩
end Go.Proofs.YtkokmnaicfdjaaaGreatDoor
/- The document's machines: Great. -/
namespace Go.Proofs.YtkokmnaicfdjaaaGreatDoor
set_option linter.unusedVariables false
set_option linter.unusedSimpArgs false
open Go.RowKit

/-- a machine whose rows are short -/
structure MacLens (m : Mac) : Prop where
  fr : m.fr.n ≤ 250
  pr : m.pr.n ≤ 250
  pi : m.pi.n ≤ 250
  bl : m.bl.n ≤ 250
  pe : m.pe.n ≤ 250
  di : m.di.n ≤ 250
def GreatR (m : Mac) (e : Ending) : Prop := ∃ n : Int, e = .returned (.int .i64 n) ∧ (¬ 0 < n → MacLens m)
def sumL (m : Mac) : Int := (m.fr.n : Int) + m.pr.n + m.pi.n + m.di.n + m.bl.n + m.pe.n + ((m.inn.length : Int) + m.init.length) / 64
theorem great_len (m : Mac) (h : ¬ 250 < sumL m) : MacLens m := by
  unfold sumL at h
  have h0 : 0 ≤ ((m.inn.length : Int) + m.init.length) / 64 := Int.ediv_nonneg (by omega) (by omega)
  generalize ((m.inn.length : Int) + m.init.length) / 64 = x at *
  exact ⟨by omega, by omega, by omega, by omega, by omega, by omega⟩
def BoolLen (m : Mac) (v : Value) : Prop := ∃ b, v = .bool b ∧ (b = false → MacLens m)
def SomeBV' (v : Value) : Prop := ∃ b, v = .bool b
set_option maxHeartbeats 8000000 in
set_option maxRecDepth 100000 in
theorem rgreat_any (m : Mac) (d : MacD) (w : World) (h : MacIn w m d) (hr : MacReach m) :
    Calls Tryz.prog 8 #[.agg m.cells] w fun e w' => GreatR m e ∧ Ext w w' := by
  have HLen := Lib.hid (great_len m)
  have r1 := hr.fr
  have r2 := hr.pr
  have r3 := hr.pi
  have r4 := hr.bl
  have r5 := hr.pe
  have r6 := hr.di
  have r7 := hr.init
  have r8 := hr.inn
  clear hr
  obtain ⟨hf1, hf2⟩ := h.fr.strs
  obtain ⟨hb1, hb2⟩ := h.bl.strs
  obtain ⟨hp1, hp2⟩ := h.pe.wrs
  obtain ⟨hd1, hd2⟩ := h.di.wrs
  obtain ⟨hi1, hi2⟩ := h.pi.wrs
  have hz := str_size
  have hfk := h.frk.2.1
  have hbk := h.blk.2.1
  have hpk := h.pek.2.1
  have hdk := h.dik.2.1
  have hik := h.pik.2.1
  unfold maxLen at hfk hbk hpk hdk hik
  have HF1 := Lib.hid hf1
  have HB1 := Lib.hid hb1
  have HP1 := Lib.hid hp1
  have HD1 := Lib.hid hd1
  have HI1 := Lib.hid hi1
  clear h hf1 hb1 hp1 hd1 hi1
  go_enter Tryz.func8, Tryz.ntmps8
  go_upto_region 1 with fail
  have xa : Ext w (w.alloc (.cells m.cells 30)) := (Ext.refl _).alloc _
  have bm := Box.new w 30 m.cells
  generalize w.alloc (.cells m.cells 30) = w1 at *
  obtain ⟨k0, k1, k2, k3, k4, k5, k6, k7, k8, k9, k10, k11, k12, k13, k14, k15, k16⟩ := mac_cells bm
  clear k0 k1 k2 k3 k6 k9 k11 k12 k15
  go_cut [3] (fun s wx => s = .int .i64 (sumL m) ∧ w1 = wx)
  case first =>
    go_wp2_with fail
    go_meet
    exact ⟨rfl, rfl⟩
  case rest =>
  obtain ⟨rfl, rfl⟩ := hcut
  generalize sumL m = z at *
  go_upto_region 2 with fail
  go_cut [55] (fun s wx => BoolLen m s ∧ w1 = wx)
  case first =>
    rcases Bool.eq_false_or_eq_true (decide (250 < z)) with dz | dz
    · go_wp2_with fail
      all_goals
        go_meet
        exact ⟨⟨_, rfl, fun h => by cases h⟩, rfl⟩
    · have hzz : ¬ 250 < z := by simpa using dz
      have HL2 := Lib.hid (HLen.out hzz)
      clear hzz
      go_wp2_with fail
      all_goals
        go_meet
        exact ⟨⟨_, rfl, fun _ => HL2.out⟩, rfl⟩
  case rest =>
  obtain ⟨⟨b55, rfl, hb55⟩, rfl⟩ := hcut
  clear r1 r2 r3 r4 r5 r6 r7 r8 HLen
  cases b55 with
  | true =>
    go_wp2_with fail
    go_ret
    exact ⟨⟨_, rfl, fun h => absurd (by decide : (0 : Int) < 1) h⟩, xa⟩
  | false =>
  have HLens := Lib.hid (hb55 rfl)
  clear hb55
  go_wp2_with fail
  have b2 := Box.new w1 23 #[.slice m.fr.A m.fr.n m.fr.c, .slice m.bl.A m.bl.n m.bl.c]
  have xw2 : Ext w1 (w1.alloc (.cells #[.slice m.fr.A m.fr.n m.fr.c, .slice m.bl.A m.bl.n m.bl.c] 23)) := (Ext.refl _).alloc _
  have bm2 := bm.ext xw2
  clear k4 k5 k7 k8 k10 k13 k14 k16 bm
  generalize w1.alloc (.cells #[.slice m.fr.A m.fr.n m.fr.c, .slice m.bl.A m.bl.n m.bl.c] 23) = w2 at *
  go_loopw [63] (fun i wx => ∃ k : Nat, k ≤ 2 ∧ i = .int .i64 k ∧ Ext w2 wx) (fun i _ => 2 - (intOf i).toNat)
  case atStart => exact ⟨0, by omega, rfl, Ext.refl _⟩
  case round =>
    obtain ⟨k, hk, rfl, xk⟩ := hrel
    have c0 : wr.cell? ⟨w1.heap.size, 0, none⟩ = some (.slice m.fr.A m.fr.n m.fr.c) := (b2.ext xk).cell 0
    have c1 : wr.cell? ⟨w1.heap.size, 1, none⟩ = some (.slice m.bl.A m.bl.n m.bl.c) := (b2.ext xk).cell 1
    rcases (show k = 0 ∨ k = 1 ∨ k = 2 by omega) with rfl | rfl | rfl
    · clear c1
      have hs1 := Lib.hid HF1.out
      have hs2 := Lib.hid hf2
      generalize d.fr = l at hs1 hs2
      generalize m.fr.A = A at *
      go_wp2_with fail
      go_loop [69] (fun i => ∃ j : Nat, j ≤ m.fr.n ∧ i = .int .i64 j) (fun i => m.fr.n - (intOf i).toNat)
      case atStart => exact ⟨0, by omega, rfl⟩
      case round =>
        obtain ⟨j, hj, rfl⟩ := hrel
        by_cases hlt : j < m.fr.n
        · obtain ⟨b, o, rfl, hcell⟩ := hs2.out (by omega)
          have c1 := (xa.trans (xw2.trans xk)).keep (hcell j (by have := hs1.out; omega))
          generalize l[j]'(by have := hs1.out; omega) = s at *
          have hjn : (j : Int) < (m.fr.n : Int) := by omega
          clear hcell
          by_cases hl : 300 < s.length
          · go_wp2_with fail
            go_ret
            exact ⟨⟨_, rfl, fun _ => HLens.out⟩, xa.trans (xw2.trans xk)⟩
          · go_wp2_with fail
            go_round
            case rel => exact ⟨j + 1, by omega, by go_num⟩
            case measure => simp [intOf]; omega
        · obtain rfl : j = m.fr.n := by omega
          go_wp2_with fail
          go_roundw
          case rel => exact ⟨1, by omega, rfl, xk⟩
          case measure => simp [intOf]
    · clear c0
      have hs1 := Lib.hid HB1.out
      have hs2 := Lib.hid hb2
      generalize d.bl = l at hs1 hs2
      generalize m.bl.A = A at *
      go_wp2_with fail
      go_loop [69] (fun i => ∃ j : Nat, j ≤ m.bl.n ∧ i = .int .i64 j) (fun i => m.bl.n - (intOf i).toNat)
      case atStart => exact ⟨0, by omega, rfl⟩
      case round =>
        obtain ⟨j, hj, rfl⟩ := hrel
        by_cases hlt : j < m.bl.n
        · obtain ⟨b, o, rfl, hcell⟩ := hs2.out (by omega)
          have c1 := (xa.trans (xw2.trans xk)).keep (hcell j (by have := hs1.out; omega))
          generalize l[j]'(by have := hs1.out; omega) = s at *
          have hjn : (j : Int) < (m.bl.n : Int) := by omega
          clear hcell
          by_cases hl : 300 < s.length
          · go_wp2_with fail
            go_ret
            exact ⟨⟨_, rfl, fun _ => HLens.out⟩, xa.trans (xw2.trans xk)⟩
          · go_wp2_with fail
            go_round
            case rel => exact ⟨j + 1, by omega, by go_num⟩
            case measure => simp [intOf]; omega
        · obtain rfl : j = m.bl.n := by omega
          go_wp2_with fail
          go_roundw
          case rel => exact ⟨2, by omega, rfl, xk⟩
          case measure => simp [intOf]
    · clear c0 c1
      obtain ⟨k0, k1, k2, k3, k4, k5, k6, k7, k8, k9, k10, k11, k12, k13, k14, k15, k16⟩ := mac_cells (bm2.ext xk)
      go_wp2_with fail
      clear k0 k1 k2 k3 k4 k5 k6 k7 k8 k9 k10 k11 k12 k13 k14 k15 k16
      have b3 := Box.new wr 26 #[.slice m.di.A m.di.n m.di.c, .slice m.pe.A m.pe.n m.pe.c]
      have xw3 := (xw2.trans xk).alloc (.cells #[.slice m.di.A m.di.n m.di.c, .slice m.pe.A m.pe.n m.pe.c] 26)
      have bm3 := (bm2.ext xk).ext ((Ext.refl wr).alloc (.cells #[.slice m.di.A m.di.n m.di.c, .slice m.pe.A m.pe.n m.pe.c] 26))
      clear b2 bm2
      generalize wr.heap.size = g3 at *
      generalize wr.alloc (.cells #[.slice m.di.A m.di.n m.di.c, .slice m.pe.A m.pe.n m.pe.c] 26) = w3 at *
      go_loopw [85] (fun i wx => ∃ k : Nat, k ≤ 2 ∧ i = .int .i64 k ∧ Ext w3 wx) (fun i _ => 2 - (intOf i).toNat)
      case atStart => exact ⟨0, by omega, rfl, Ext.refl _⟩
      case round =>
        clear xk
        obtain ⟨k, hk, rfl, xk⟩ := hrel
        have c0 : wr.cell? ⟨g3, 0, none⟩ = some (.slice m.di.A m.di.n m.di.c) := (b3.ext xk).cell 0
        have c1 : wr.cell? ⟨g3, 1, none⟩ = some (.slice m.pe.A m.pe.n m.pe.c) := (b3.ext xk).cell 1
        rcases (show k = 0 ∨ k = 1 ∨ k = 2 by omega) with rfl | rfl | rfl
        · have hs1 := Lib.hid HD1.out
          have hs2 := Lib.hid hd2
          generalize d.di = l at hs1 hs2
          generalize m.di.A = A at *
          go_wp2_with fail
          go_loopw [91] (fun i wx => ∃ j : Nat, j ≤ m.di.n ∧ i = .int .i64 j ∧ Ext w3 wx) (fun i _ => m.di.n - (intOf i).toNat)
          case atStart => exact ⟨0, by omega, rfl, xk⟩
          case round =>
            clear xk c0 c1
            obtain ⟨j, hj, rfl, xk⟩ := hrel
            by_cases hlt : j < m.di.n
            · obtain ⟨b, o, rfl, hcell⟩ := hs2.out (by omega)
              have c1 := (xa.trans (xw3.trans xk)).keep (hcell j (by have := hs1.out; omega)).1
              have c2 := (xa.trans (xw3.trans xk)).keep (hcell j (by have := hs1.out; omega)).2
              generalize l[j]'(by have := hs1.out; omega) = s at *
              have hjn : (j : Int) < (m.di.n : Int) := by omega
              clear hcell
              by_cases hl : 300 < s.2.length
              · go_wp2_with fail
                go_ret
                exact ⟨⟨_, rfl, fun _ => HLens.out⟩, (xa.trans (xw3.trans xk)).alloc _⟩
              · go_wp2_with fail
                go_roundw
                case rel => exact ⟨j + 1, by omega, by go_num, xk.alloc _⟩
                case measure => simp [intOf]; omega
            · obtain rfl : j = m.di.n := by omega
              go_wp2_with fail
              go_roundw
              case rel => exact ⟨1, by omega, rfl, xk⟩
              case measure => simp [intOf]
        · have hs1 := Lib.hid HP1.out
          have hs2 := Lib.hid hp2
          generalize d.pe = l at hs1 hs2
          generalize m.pe.A = A at *
          go_wp2_with fail
          go_loopw [91] (fun i wx => ∃ j : Nat, j ≤ m.pe.n ∧ i = .int .i64 j ∧ Ext w3 wx) (fun i _ => m.pe.n - (intOf i).toNat)
          case atStart => exact ⟨0, by omega, rfl, xk⟩
          case round =>
            clear xk c0 c1
            obtain ⟨j, hj, rfl, xk⟩ := hrel
            by_cases hlt : j < m.pe.n
            · obtain ⟨b, o, rfl, hcell⟩ := hs2.out (by omega)
              have c1 := (xa.trans (xw3.trans xk)).keep (hcell j (by have := hs1.out; omega)).1
              have c2 := (xa.trans (xw3.trans xk)).keep (hcell j (by have := hs1.out; omega)).2
              generalize l[j]'(by have := hs1.out; omega) = s at *
              have hjn : (j : Int) < (m.pe.n : Int) := by omega
              clear hcell
              by_cases hl : 300 < s.2.length
              · go_wp2_with fail
                go_ret
                exact ⟨⟨_, rfl, fun _ => HLens.out⟩, (xa.trans (xw3.trans xk)).alloc _⟩
              · go_wp2_with fail
                go_roundw
                case rel => exact ⟨j + 1, by omega, by go_num, xk.alloc _⟩
                case measure => simp [intOf]; omega
            · obtain rfl : j = m.pe.n := by omega
              go_wp2_with fail
              go_roundw
              case rel => exact ⟨2, by omega, rfl, xk⟩
              case measure => simp [intOf]
        · clear c0 c1
          have k8 := (mac_cells (bm3.ext xk)).2.2.2.2.2.2.2.2.1
          have hs1 := Lib.hid HI1.out
          have hs2 := Lib.hid hi2
          generalize d.pi = l at hs1 hs2
          generalize m.pi.A = A at *
          go_wp2_with fail
          clear k8
          go_loopw [104] (fun i wx => ∃ j : Nat, j ≤ m.pi.n ∧ i = .int .i64 j ∧ Ext w3 wx) (fun i _ => m.pi.n - (intOf i).toNat)
          case atStart => exact ⟨0, by omega, rfl, xk⟩
          case round =>
            clear xk
            obtain ⟨j, hj, rfl, xk⟩ := hrel
            by_cases hlt : j < m.pi.n
            · obtain ⟨b, o, rfl, hcell⟩ := hs2.out (by omega)
              have c1 := (xa.trans (xw3.trans xk)).keep (hcell j (by have := hs1.out; omega)).1
              have c2 := (xa.trans (xw3.trans xk)).keep (hcell j (by have := hs1.out; omega)).2
              generalize l[j]'(by have := hs1.out; omega) = s at *
              have hjn : (j : Int) < (m.pi.n : Int) := by omega
              clear hcell
              by_cases hl : 300 < s.2.length
              · go_wp2_with fail
                go_ret
                exact ⟨⟨_, rfl, fun _ => HLens.out⟩, (xa.trans (xw3.trans xk)).alloc _⟩
              · go_wp2_with fail
                go_roundw
                case rel => exact ⟨j + 1, by omega, by go_num, xk.alloc _⟩
                case measure => simp [intOf]; omega
            · obtain rfl : j = m.pi.n := by omega
              go_wp2_with fail
              go_ret
              exact ⟨⟨_, rfl, fun _ => HLens.out⟩, xa.trans (xw3.trans xk)⟩
end Go.Proofs.YtkokmnaicfdjaaaGreatDoor
