/- state.Check of a machine that may be: all points. -/
import Derived.Test.YtfaplefkakpgcaaGreatDoorVa21
import Derived.Test.YtfaplefkakpgcaaGreatDoorVa12
import Derived.Test.YtfaplefkakpgcaaGreatDoorVa18
import Derived.Test.YtfaplefkakpgcaaGreatDoorVa5
import Derived.Test.YtfaplefkakpgcaaGreatDoorVa13
namespace Go.Proofs.YtfaplefkakpgcaaGreatDoor
set_option linter.unusedVariables false
set_option linter.unusedSimpArgs false
open Go.RowKit
set_option maxHeartbeats 4000000 in
set_option maxRecDepth 100000 in
theorem scheck_ok (m : Mac) (d : MacD) (w : World) (hi : MacIn w m d) (h : StateOk m d) :
    Calls Tryz.prog 17 #[.agg m.cells] w fun e w' => e = .returned (.int .i64 0) ∧ Ext w w' := by
  have H1 := Lib.hid (fun w => numbers_ok m w h.rest.nums)
  have H2 := Lib.hid (fun w hi => frames_ok m d w hi h.rest.frn h.rest.fr)
  have H3 := Lib.hid (fun w hi => procs_ok m d w hi h.rest.prn (Nat.le_trans h.rest.pin (by decide)) h.rest.pr h.rest.frn.2)
  have H4 := Lib.hid (fun w hi => pipes_ok m d w hi h.rest.pin h.rest.pi)
  have H5 := Lib.hid (fun w => texts_ok m w h.rest.texts)
  have H6 := Lib.hid (fun w hi => volume_ok m d w hi h.disk)
  have x0 := (Ext.refl w).alloc (.cells m.cells 38)
  have bm := Box.new w 38 m.cells
  have HM := Lib.hid (hi.ext x0)
  clear h hi
  go_enter Tryz.func17, Tryz.ntmps17
  go_upto_region 1 with fail
  generalize w.alloc (.cells m.cells 38) = w1 at *
  generalize w.heap.size = G at *
  go_upto_region 2 with fail
  have xm : Ext w1 (w1.alloc (.cells #[.func (.func 44) #[] #[], .func (.func 45) #[] #[], .func (.func 46) #[] #[], .func (.func 47) #[] #[], .func (.func 48) #[] #[], .func (.func 49) #[] #[]] 44)) := (Ext.refl _).alloc _
  have bf := Box.new w1 44 #[.func (.func 44) #[] #[], .func (.func 45) #[] #[], .func (.func 46) #[] #[], .func (.func 47) #[] #[], .func (.func 48) #[] #[], .func (.func 49) #[] #[]]
  have bm2 := bm.ext xm
  have HM2 := Lib.hid (HM.out.ext xm)
  have xx := x0.trans xm
  generalize hw2 : w1.alloc _ = w2 at *
  generalize w1.heap.size = G1 at *
  clear hw2 bm HM x0 xm
  go_loopw [8] (fun i wx => ∃ k : Nat, k ≤ 6 ∧ i = .int .i64 k ∧ Ext w2 wx) (fun i _ => 6 - (intOf i).toNat)
  case atStart => exact ⟨0, by omega, rfl, Ext.refl _⟩
  case round =>
    obtain ⟨k, hk, rfl, xk⟩ := hrel
    have bmk := bm2.ext xk
    have bfk := bf.ext xk
    have HMk := Lib.hid (HM2.out.ext xk)
    by_cases hlt : k < 6
    · have hki : (k : Int) < 6 := by omega
      have HX := Lib.hid xk
      clear xk bm2 bf HM2
      rcases (by omega : k = 0 ∨ k = 1 ∨ k = 2 ∨ k = 3 ∨ k = 4 ∨ k = 5) with h0 | h0 | h0 | h0 | h0 | h0
      · have hf : wr.cell? ⟨G1, k, none⟩ = some (.func (.func 44) #[] #[]) := by rw [h0]; exact bfk.cell 0
        clear h0 bfk
        go_wp2_with (first
          | (refine wp_ld_mac (.tmp 1) rfl rfl G _ _ rfl bmk rfl ?_)
          | (go_at_call 44; refine (H1.out _).mono ?_; rintro e w3 ⟨rfl, x3⟩))
        go_roundw
        case rel => exact ⟨k + 1, by omega, by go_num, HX.out.trans x3⟩
        case measure => simp [intOf]; omega
      · have hf : wr.cell? ⟨G1, k, none⟩ = some (.func (.func 45) #[] #[]) := by rw [h0]; exact bfk.cell 1
        clear h0 bfk
        go_wp2_with (first
          | (refine wp_ld_mac (.tmp 1) rfl rfl G _ _ rfl bmk rfl ?_)
          | (go_at_call 45; refine (H2.out _ HMk.out).mono ?_; rintro e w3 ⟨rfl, x3⟩))
        go_roundw
        case rel => exact ⟨k + 1, by omega, by go_num, HX.out.trans x3⟩
        case measure => simp [intOf]; omega
      · have hf : wr.cell? ⟨G1, k, none⟩ = some (.func (.func 46) #[] #[]) := by rw [h0]; exact bfk.cell 2
        clear h0 bfk
        go_wp2_with (first
          | (refine wp_ld_mac (.tmp 1) rfl rfl G _ _ rfl bmk rfl ?_)
          | (go_at_call 46; refine (H3.out _ HMk.out).mono ?_; rintro e w3 ⟨rfl, x3⟩))
        go_roundw
        case rel => exact ⟨k + 1, by omega, by go_num, HX.out.trans x3⟩
        case measure => simp [intOf]; omega
      · have hf : wr.cell? ⟨G1, k, none⟩ = some (.func (.func 47) #[] #[]) := by rw [h0]; exact bfk.cell 3
        clear h0 bfk
        go_wp2_with (first
          | (refine wp_ld_mac (.tmp 1) rfl rfl G _ _ rfl bmk rfl ?_)
          | (go_at_call 47; refine (H4.out _ HMk.out).mono ?_; rintro e w3 ⟨rfl, x3⟩))
        go_roundw
        case rel => exact ⟨k + 1, by omega, by go_num, HX.out.trans x3⟩
        case measure => simp [intOf]; omega
      · have hf : wr.cell? ⟨G1, k, none⟩ = some (.func (.func 48) #[] #[]) := by rw [h0]; exact bfk.cell 4
        clear h0 bfk
        go_wp2_with (first
          | (refine wp_ld_mac (.tmp 1) rfl rfl G _ _ rfl bmk rfl ?_)
          | (go_at_call 48; refine (H5.out _).mono ?_; rintro e w3 ⟨rfl, x3⟩))
        go_roundw
        case rel => exact ⟨k + 1, by omega, by go_num, HX.out.trans x3⟩
        case measure => simp [intOf]; omega
      · have hf : wr.cell? ⟨G1, k, none⟩ = some (.func (.func 49) #[] #[]) := by rw [h0]; exact bfk.cell 5
        clear h0 bfk
        go_wp2_with (first
          | (refine wp_ld_mac (.tmp 1) rfl rfl G _ _ rfl bmk rfl ?_)
          | (go_at_call 49; refine (H6.out _ HMk.out).mono ?_; rintro e w3 ⟨rfl, x3⟩))
        go_roundw
        case rel => exact ⟨k + 1, by omega, by go_num, HX.out.trans x3⟩
        case measure => simp [intOf]; omega
    · have hlt2 : ¬ (k : Int) < 6 := by omega
      go_wp2_with fail
      go_ret
      exact ⟨rfl, xx.trans xk⟩
end Go.Proofs.YtfaplefkakpgcaaGreatDoor
/- An inode as it stands on a volume (extent.file): its cells; is, size, at. -/
namespace Go.Proofs.YtfaplefkakpgcaaGreatDoor
set_option linter.unusedVariables false
set_option linter.unusedSimpArgs false
open Go.RowKit
structure FileT where
  v : List (List UInt8)
  I : Int
  n : Int
  x : List Int
def fileL (F : FileT) : List Value := [.int .i64 (F.v.length : Int), .int .i64 F.I, .int .i64 1, .int .i64 2, .int .i64 3, .int .i64 (3 + (F.I + 1) / 2), .int .i64 F.n, .int .i64 (F.x.getD 0 0), .int .i64 (F.x.getD 1 0), .int .i64 (F.x.getD 2 0), .int .i64 (F.x.getD 3 0), .int .i64 (F.x.getD 4 0), .int .i64 (F.x.getD 5 0), .int .i64 (F.x.getD 6 0), .int .i64 (F.x.getD 7 0), .int .i64 (F.x.getD 8 0), .int .i64 (F.x.getD 9 0), .int .i64 (F.x.getD 10 0), .int .i64 (F.x.getD 11 0)]
def fileC (s : Sl) (F : FileT) : Array Value := (Value.slice s.A s.n s.c :: fileL F).toArray
/-- is that the number of a block that files may have? -/
def isB (v : List (List UInt8)) (I b : Int) : Bool := decide (3 + (I + 1) / 2 ≤ b) && decide (b < (v.length : Int))
/-- the number of the block k, as the inode has it -/
def numAt (v : List (List UInt8)) (I : Int) (x : List Int) (k : Nat) : Int :=
  if k < 6 then x.getD (4 + k) 0 else if isB v I (x.getD 10 0) then fnum (v.getD (x.getD 10 0).toNat []) (2 * (k - 6)) 2 else 0
/-- the block k, or -1 -/
def atP (v : List (List UInt8)) (I : Int) (x : List Int) (k : Nat) : Int := if isB v I (numAt v I x k) then numAt v I x k else -1
def sizeP (x : List Int) : Int := min (x.getD 3 0) 8960
set_option maxHeartbeats 1000000 in
set_option maxRecDepth 100000 in
theorem fis_any (g : Nat) (s : Sl) (F : FileT) (b : Int) (w : World) (h : Box w g 162 (fileC s F)) :
    Calls Tryz.prog 228 #[.pointer (some ⟨g, 0, none⟩), .int .i64 b] w fun e w' => e = .returned (.bool (isB F.v F.I b)) ∧ w = w' := by
  have c6 : w.cell? ⟨g, 6, none⟩ = some (.int .i64 (3 + (F.I + 1) / 2)) := h.cell 6
  have c1 : w.cell? ⟨g, 1, none⟩ = some (.int .i64 (F.v.length : Int)) := h.cell 1
  clear h
  unfold isB
  generalize 3 + (F.I + 1) / 2 = dt at *
  go_enter Tryz.func228, Tryz.ntmps228
  rcases Bool.eq_false_or_eq_true (decide (dt ≤ b)) with d1 | d1
  · go_wp2_with fail
    go_ret
    exact ⟨by rw [d1]; rfl, rfl⟩
  · go_wp2_with fail
    go_ret
    exact ⟨by rw [d1]; rfl, rfl⟩
set_option maxHeartbeats 1000000 in
set_option maxRecDepth 100000 in
theorem fsize_any (g : Nat) (s : Sl) (F : FileT) (w : World) (h : Box w g 162 (fileC s F)) :
    Calls Tryz.prog 116 #[.pointer (some ⟨g, 0, none⟩)] w fun e w' => e = .returned (.int .i64 (sizeP F.x)) ∧ w = w' := by
  have c6 : w.cell? ⟨g, 11, none⟩ = some (.int .i64 (F.x.getD 3 0)) := h.cell 11
  clear h
  unfold sizeP
  generalize F.x.getD 3 0 = z at *
  go_enter Tryz.func116, Tryz.ntmps116
  go_wp2_with fail
  go_ret
  exact ⟨rfl, rfl⟩
/-- such a file stands there -/
structure FileOk (F : FileT) : Prop where
  good : Good F.v F.I
  n1 : 1 ≤ F.n
  n2 : F.n ≤ F.I
  len : F.x.length = 12
  fits : fitsB F.x = true
theorem fdirect {w : World} {g : Nat} {s : Sl} {F : FileT} (h : Box w g 162 (fileC s F)) {k : Nat} (hk : k < 6) : w.cell? ⟨g, 12 + k, none⟩ = some (.int .i64 (F.x.getD (4 + k) 0)) := by
  rcases (by omega : k = 0 ∨ k = 1 ∨ k = 2 ∨ k = 3 ∨ k = 4 ∨ k = 5) with rfl | rfl | rfl | rfl | rfl | rfl
  · exact h.cell 12
  · exact h.cell 13
  · exact h.cell 14
  · exact h.cell 15
  · exact h.cell 16
  · exact h.cell 17
theorem isB_le {v : List (List UInt8)} {I b : Int} (h : isB v I b = true) : 3 + (I + 1) / 2 ≤ b ∧ b < (v.length : Int) := by
  unfold isB at h
  simpa using h
theorem atP_yes {v : List (List UInt8)} {I b : Int} {x : List Int} {k : Nat} (h : numAt v I x k = b) (hb : isB v I b = true) : atP v I x k = b := by unfold atP; rw [h, if_pos hb]
theorem atP_no {v : List (List UInt8)} {I b : Int} {x : List Int} {k : Nat} (h : numAt v I x k = b) (hb : isB v I b = false) : atP v I x k = -1 := by unfold atP; rw [h, if_neg (by rw [hb]; simp)]
theorem cell_getD {w : World} {b o : Nat} {v : List (List UInt8)} (h : ∀ (j : Nat) (h : j < v.length), w.cell? ⟨b, o + j, none⟩ = some (.string (str v[j]))) {k : Nat} (hk : k < v.length) : w.cell? ⟨b, o + k, none⟩ = some (.string (str (v.getD k []))) := by
  rw [h k hk, List.getD_eq_getElem?_getD, List.getElem?_eq_getElem hk]; rfl
set_option maxHeartbeats 4000000 in
set_option maxRecDepth 100000 in
theorem fat_any (g : Nat) (s : Sl) (F : FileT) (k : Nat) (w : World) (h : Box w g 162 (fileC s F)) (hr : Strs w s.A s.n F.v) (hF : FileOk F) (hk : k < 70) :
    Calls Tryz.prog 214 #[.pointer (some ⟨g, 0, none⟩), .int .i64 (k : Int)] w fun e w' => e = .returned (.int .i64 (atP F.v F.I F.x k)) ∧ Ext w w' := by
  have HIS := Lib.hid (fun b w h => fis_any g s F b w h)
  have hpl := plan_bd hF.good.plan
  obtain ⟨hl, hv2⟩ := hr
  by_cases h6 : k < 6
  · have hn : numAt F.v F.I F.x k = F.x.getD (4 + k) 0 := by unfold numAt; rw [if_pos h6]
    have HY := Lib.hid (fun h => atP_yes hn h)
    have HNo := Lib.hid (fun h => atP_no hn h)
    have cd := fdirect h h6
    have hki : (k : Int) < 6 := by omega
    have hkd : decide ((k : Int) < 6) = true := decide_eq_true hki
    clear hv2 hn
    generalize F.x.getD (4 + k) 0 = b at *
    go_enter Tryz.func214, Tryz.ntmps214
    cases hb : isB F.v F.I b with
    | true =>
      have HB := Lib.hid hb
      have HA := Lib.hid (HY.out hb)
      clear hb HY HNo
      go_wp2_with (go_at_call 228; refine (HIS.out b _ h).mono ?_; rintro e w2 ⟨rfl, rfl⟩; rw [HB.out])
      go_ret
      exact ⟨by rw [HA.out]; rfl, Ext.refl _⟩
    | false =>
      have HB := Lib.hid hb
      have HA := Lib.hid (HNo.out hb)
      clear hb HY HNo
      go_wp2_with (go_at_call 228; refine (HIS.out b _ h).mono ?_; rintro e w2 ⟨rfl, rfl⟩; rw [HB.out])
      go_ret
      exact ⟨by rw [HA.out]; rfl, Ext.refl _⟩
  · have hkd : decide ((k : Int) < 6) = false := decide_eq_false (by omega)
    have ci : w.cell? ⟨g, 18, none⟩ = some (.int .i64 (F.x.getD 10 0)) := h.cell 18
    have cv : w.cell? ⟨g, 0, none⟩ = some (.slice s.A s.n s.c) := h.cell 0
    cases hi : isB F.v F.I (F.x.getD 10 0) with
    | false =>
      have hn : numAt F.v F.I F.x k = 0 := by unfold numAt; rw [if_neg h6, hi]; rfl
      have h0 : isB F.v F.I 0 = false := by unfold isB; rw [show decide (3 + (F.I + 1) / 2 ≤ 0) = false from decide_eq_false (by omega)]; rfl
      have HA := Lib.hid (atP_no hn h0)
      have HB := Lib.hid hi
      have H0 := Lib.hid h0
      clear hi hn h0 hv2
      generalize F.x.getD 10 0 = ind at *
      go_enter Tryz.func214, Tryz.ntmps214
      go_wp2_with (first
        | (go_at_call 228; (have hq := HIS.out ind _ h; rw [HB.out] at hq; with_reducible (refine hq.mono ?_)); clear hq; rintro e w2 ⟨rfl, rfl⟩)
        | (go_at_call 228; (have hq := HIS.out 0 _ h; rw [H0.out] at hq; with_reducible (refine hq.mono ?_)); clear hq; rintro e w2 ⟨rfl, rfl⟩))
      go_ret
      exact ⟨by rw [HA.out]; rfl, Ext.refl _⟩
    | true =>
      have hn : numAt F.v F.I F.x k = fnum (F.v.getD (F.x.getD 10 0).toNat []) (2 * (k - 6)) 2 := by unfold numAt; rw [if_neg h6, if_pos hi]
      have HY := Lib.hid (fun h => atP_yes hn h)
      have HNo := Lib.hid (fun h => atP_no hn h)
      have hib := isB_le hi
      obtain ⟨b, o, hsA, hcell⟩ := hv2 (by omega)
      rw [hsA] at cv
      have hgl : (F.v.getD (F.x.getD 10 0).toNat []).length = 128 := getD_len hF.good (by omega)
      have cb : w.cell? ⟨b, o + (F.x.getD 10 0).toNat, none⟩ = some (.string (str (F.v.getD (F.x.getD 10 0).toNat []))) := cell_getD hcell (by omega)
      have HB := Lib.hid hi
      clear hi hn hcell hv2
      generalize F.x.getD 10 0 = ind at *
      obtain ⟨q, rfl⟩ : ∃ q : Nat, ind = (q : Int) := ⟨ind.toNat, by omega⟩
      rw [Int.toNat_natCast] at cb hgl HY HNo
      generalize F.v.getD q [] = blk at *
      have hqs : (q : Int) < (s.n : Int) := by omega
      obtain ⟨z, hz⟩ : ∃ z, k - 6 = z := ⟨_, rfl⟩
      have hkz : (k : Int) = (z : Int) + 6 := by omega
      rw [hz] at HY HNo
      rw [hkz]
      rw [hkz] at hkd
      have hzk : z < 64 := by omega
      have HG := Lib.hid (fun w => get_ext blk (2 * z) (2 * z + 2) 2 w rfl (.inr (.inl rfl)) (by omega))
      have hfb := fnum_bd blk (2 * z) 2 (by omega)
      have hsz : (str blk).size = 128 := by rw [str_size, hgl]
      have w1 : IntKind.i64.wrap ((z : Int) + 6 - 6) = (z : Int) := by rw [IntKind.wrap_i64]; omega
      have w2 : IntKind.i64.wrap (2 * (z : Int)) = ((2 * z : Nat) : Int) := by rw [IntKind.wrap_i64]; omega
      have w3 : IntKind.i64.wrap (((2 * z : Nat) : Int) + 2) = ((2 * z + 2 : Nat) : Int) := by rw [IntKind.wrap_i64]; omega
      have w4 : IntKind.i64.wrap (fnum blk (2 * z) 2) = fnum blk (2 * z) 2 := by rw [IntKind.wrap_i64]; omega
      generalize fnum blk (2 * z) 2 = num at *
      clear h6 hk hkz hz hF hpl hl hib
      go_enter Tryz.func214, Tryz.ntmps214
      go_wp2_with (first
        | (go_at_call 228; (have hq := HIS.out (q : Int) _ h; rw [HB.out] at hq; with_reducible (refine hq.mono ?_)); clear hq; rintro e w2 ⟨rfl, rfl⟩))
      have ci' : ∀ y : Later w, y.now.cell? ⟨g, 18, none⟩ = some (.int .i64 (q : Int)) := fun y => y.ext.keep ci
      have cv' : ∀ y : Later w, y.now.cell? ⟨g, 0, none⟩ = some (.slice (some ⟨b, o, none⟩) s.n s.c) := fun y => y.ext.keep cv
      have cb' : ∀ y : Later w, y.now.cell? ⟨b, o + q, none⟩ = some (.string (str blk)) := fun y => y.ext.keep cb
      have t1 : ((2 * z : Nat) : Int).toNat = 2 * z := by omega
      refine wp_region_later (by kernel_rfl) (by kernel_rfl) ?_
      repeat (go_big_quiet_step ((exact later_of_same (HG.out _))))
      refine wpQuiet_nil ?_
      rintro w5 ⟨x5, rfl⟩
      have h5 := h.ext x5.ext
      clear ci' cv' cb'
      cases hb : isB F.v F.I num with
      | true =>
        have HB2 := Lib.hid hb
        have HA := Lib.hid (HY.out hb)
        clear hb HY HNo
        go_wp2_with (go_at_call 228; refine (HIS.out num _ h5).mono ?_; rintro e w2 ⟨rfl, rfl⟩; rw [HB2.out])
        go_ret
        exact ⟨by rw [HA.out]; rfl, x5.ext⟩
      | false =>
        have HB2 := Lib.hid hb
        have HA := Lib.hid (HNo.out hb)
        clear hb HY HNo
        go_wp2_with (go_at_call 228; refine (HIS.out num _ h5).mono ?_; rintro e w2 ⟨rfl, rfl⟩; rw [HB2.out])
        go_ret
        exact ⟨by rw [HA.out]; rfl, x5.ext⟩
end Go.Proofs.YtfaplefkakpgcaaGreatDoor
/- extent.opened on a volume that is one. -/
namespace Go.Proofs.YtfaplefkakpgcaaGreatDoor
set_option linter.unusedVariables false
set_option linter.unusedSimpArgs false
open Go.RowKit
theorem fileSize : (Tryz.prog.info? 162).map (·.size) = some 20 := by kernel_rfl
def fileZ : Array Value := #[.slice none 0 0, .int .i64 0, .int .i64 0, .int .i64 0, .int .i64 0, .int .i64 0, .int .i64 0, .int .i64 0, .int .i64 0, .int .i64 0, .int .i64 0, .int .i64 0, .int .i64 0, .int .i64 0, .int .i64 0, .int .i64 0, .int .i64 0, .int .i64 0, .int .i64 0, .int .i64 0]
theorem fileC_one (s : Sl) (F : FileT) : (fileC s F).all (·.oneCell') = true := all_oneCell_toArray (fun v hv => by
  simp only [fileL, List.mem_cons, List.not_mem_nil, or_false] at hv
  rcases hv with h | h | h | h | h | h | h | h | h | h | h | h | h | h | h | h | h | h | h | h <;> (subst h; rfl))
section
variable {ops : Array Oper} {rest : List Oper} {o : Oper} {a : Act} {w : World} {Q : Exit → Act → World → Prop}
theorem wp_st_file (x y : Operand) (hgd : o.guard = none) (ho : o.op = .store 162 x y) (g : Nat) (s : Sl) (F : FileT) (old : Array Value) (t : TypeId) (hx : a.eval x = .pointer (some ⟨g, 0, none⟩)) (hy : a.eval y = .agg (fileC s F))
    (hb : Box w g t old) (hold : old.size = 20) (hK : ∀ w', Box w' g t (fileC s F) → w.grownBy w' (some g) → wpList Tryz.prog ops Q rest (a.put o.dst undef) w') : wpList Tryz.prog ops Q (o :: rest) a w :=
  wp_st _ x y hgd ho g _ _ t hx hy hb fileSize hold (fileC_one s F) hK
end
def ofV (B : Nat) (A : Option Addr) (n c : Nat) (v : List (List UInt8)) (I k : Int) (x : List Int) : Nat → World → Value → Prop
  | 0, _, u => u = .slice A n c
  | 1, w, u => w.ownsRow B 9 1 u n (strL v)
  | 2, _, u => u = .agg (intVals [(v.length : Int), I, 1, 2, 3, 3 + (I + 1) / 2])
  | 3, _, u => u = .int .i64 k
  | 4, _, u => u = .agg (intVals x)
  | 5, w, u => ∃ s : Sl, u = .agg (fileC s ⟨v, I, k, x⟩) ∧ s.n = n ∧ w.ownsRow B 9 1 (.slice s.A s.n s.c) n (strL v)
  | _, _, _ => True
theorem ofV_ext {B : Nat} {A : Option Addr} {n c : Nat} {v : List (List UInt8)} {I k : Int} {x : List Int} (j : Nat) (w w' : World) (u : Value) (hx : Ext w w') (h : ofV B A n c v I k x j w u) : ofV B A n c v I k x j w' u := by
  match j, h with
  | 0, h => exact h
  | 1, h => exact own_ext h hx
  | 2, h => exact h
  | 3, h => exact h
  | 4, h => exact h
  | 5, ⟨s, e, hn, hb⟩ => exact ⟨s, e, hn, own_ext hb hx⟩
  | _ + 6, _ => trivial
def OpenedR (B : Nat) (v : List (List UInt8)) (I k : Int) (e : Ending) (w' : World) : Prop :=
  ∃ s : Sl, e = .returned (.tuple #[.agg (fileC s ⟨v, I, k, inoAt v k⟩), .int .i64 0]) ∧ s.n = v.length ∧ w'.ownsRow B 9 1 (.slice s.A s.n s.c) v.length (strL v)
set_option maxHeartbeats 4000000 in
set_option maxRecDepth 100000 in
theorem opened_yes (A : Option Addr) (n c : Nat) (v : List (List UInt8)) (I k : Int) (w : World) (hv : Strs w A n v) (hg : Good v I) (hk1 : 1 ≤ k) (hk2 : k ≤ I) :
    Calls Tryz.prog 115 #[.slice A n c, .int .i64 k] w fun e w' => OpenedR w.heap.size v I k e w' ∧ Ext w w' := by
  have hpl := plan_bd hg.plan
  have hnv := hv.1
  have HGt := Lib.hid (fun w h => iget_yes A n c v I k w h hg hk1 hk2)
  have HO := Lib.hid (fun w h => of_yes A n c v I w h hg)
  have x0 := (Ext.refl w).alloc (.cells fileZ 162)
  have b0 := Box.new w 162 fileZ
  have HV := Lib.hid (hv.ext x0)
  have HI12 := Lib.hid (inoAt_len v k)
  subst hnv
  clear hv hg hk1 hk2
  unfold OpenedR
  go_enter Tryz.func115, Tryz.ntmps115
  go_upto_region 1 with fail
  change Code.wp _ _ _ _ (w.alloc (.cells fileZ 162))
  generalize w.alloc (.cells fileZ 162) = w1 at *
  generalize hG : w.heap.size = G at *
  obtain ⟨x, hxi⟩ : ∃ x, x = inoAt v k := ⟨_, rfl⟩
  rw [← hxi] at HGt HI12
  have HXI := Lib.hid hxi
  clear hxi
  go_upto_region 2 with (first
    | (go_at_call 69; refine (HGt.out _ HV.out).mono ?_; rintro e w2 ⟨rfl, x2⟩)
    | (refine wp_st_ino (.tmp 6) (.tmp 13) rfl rfl w2.heap.size x zero12 121 rfl rfl (Box.new _ _ _) HI12.out rfl ?_; intro w3 b3 g3))
  have x23 : Ext w2 w3 := ((Ext.refl w2).alloc _).grown g3 (fun j e => by cases e; exact Nat.le_refl _)
  have x13 := x2.trans x23
  have b03 := b0.ext x13
  have HV3 := Lib.hid (HV.out.ext x13)
  have xw3 := x0.trans x13
  clear g3 x23 x2 b0 x13 x0 HV
  generalize w2.heap.size = g3 at *
  go_upto_region 5 with (first
    | (go_at_call 94; refine (HO.out _ HV3.out).mono ?_; rintro e w4 ⟨rfl, x4⟩)
    | (rw [geomV_eq]; refine wp_st_geom (.tmp 8) (.tmp 22) rfl rfl w4.heap.size _ [0, 0, 0, 0, 0, 0] 144 rfl rfl (Box.new _ _ _) rfl rfl ?_; intro w5 b5 g5))
  have x45 : Ext w4 w5 := ((Ext.refl w4).alloc _).grown g5 (fun j e => by cases e; exact Nat.le_refl _)
  have x35 := x4.trans x45
  have b05 := b03.ext x35
  have b35 := b3.ext x35
  have HV5 := Lib.hid (HV3.out.ext x35)
  have xw5 := xw3.trans x35
  clear g5 x45 x4 b03 b3 x35 xw3 HV3 HGt HO
  generalize w4.heap.size = g5 at *
  have hsz := xw5.size
  rw [hG] at hsz
  go_wp2_with fail
  refine wp_region_web' 6 [[], [0], [], [], [], [1, 2, 3, 4]] (ofV G A v.length c v I k x) (by kernel_rfl) (by kernel_rfl) ofV_ext (fun us => ?_)
  simp only [List.take_succ_cons, List.take_zero, List.drop_succ_cons, List.drop_zero]
  refine ⟨fun w' hx hd => ?_, fun w' hx hd => ?_, fun w' hx hd => ?_, fun w' hx hd => ?_, fun w' hx hd => ?_, fun w' hx hd => ?_, fun w' hx hv => ?_⟩
  · refine web_of_list 28 rfl (by simp [Act.put]) rfl ?_
    go_wp2_with fail
    exact ⟨Ext.refl _, rfl⟩
  · have h0 := hd 0 (by simp)
    clear hd
    generalize us 0 = u0 at *
    obtain rfl : u0 = .slice A v.length c := h0
    have hs2 := HV5.out.ext hx
    refine web_of_list 29 rfl (by simp [Act.put]) rfl ?_
    go_wp2_with (refine wp_app_nil G rfl _ _ rfl rfl rfl hs2 (by omega) (by have := hx.size; omega) (by omega) ?_; intro u' w2 own2 xx)
    exact own2
  · refine web_of_list 30 rfl (by simp [Act.put]) rfl ?_
    go_wp2_with (refine wp_ld_geom (.tmp 8) rfl rfl g5 _ 144 rfl (b5.ext hx) rfl ?_)
    exact ⟨Ext.refl _, rfl⟩
  · refine web_of_list 31 rfl (by simp [Act.put]) rfl ?_
    go_wp2_with fail
    exact ⟨Ext.refl _, rfl⟩
  · refine web_of_list 32 rfl (by simp [Act.put]) rfl ?_
    go_wp2_with (refine wp_ld_ino (.tmp 6) rfl rfl g3 x 121 rfl (b35.ext hx) HI12.out ?_)
    exact ⟨Ext.refl _, rfl⟩
  · have h1 := hd 1 (by simp)
    have h2 := hd 2 (by simp)
    have h3 := hd 3 (by simp)
    have h4 := hd 4 (by simp)
    clear hd
    generalize us 0 = u0 at *
    generalize us 1 = u1 at *
    generalize us 2 = u2 at *
    generalize us 3 = u3 at *
    generalize us 4 = u4 at *
    have own1 : w'.ownsRow G 9 1 u1 v.length (strL v) := h1
    obtain rfl : u2 = .agg (intVals [(v.length : Int), I, 1, 2, 3, 3 + (I + 1) / 2]) := h2
    obtain rfl : u3 = .int .i64 k := h3
    obtain rfl : u4 = .agg (intVals x) := h4
    clear h1
    obtain ⟨g, cap, rfl, hgb, _⟩ := Strs.own' own1 (by omega)
    obtain ⟨y0, y1, y2, y3, y4, y5, y6, y7, y8, y9, y10, y11, rfl⟩ := list12 HI12.out
    have OW := Lib.hid own1
    refine web_of_list 33 rfl (by simp [Act.put]) rfl ?_
    simp only [intVals, List.map_cons, List.map_nil]
    go_wp2_with fail
    exact ⟨Ext.refl _, ⟨some ⟨g, 0, none⟩, v.length, cap⟩, rfl, rfl, OW.out⟩
  · have h5 := hv 5 (by omega)
    clear hv
    generalize us 0 = u0 at *
    generalize us 1 = u1 at *
    generalize us 2 = u2 at *
    generalize us 3 = u3 at *
    generalize us 4 = u4 at *
    generalize us 5 = u5 at *
    obtain ⟨s, rfl, hsn, own5⟩ : ∃ s : Sl, u5 = .agg (fileC s ⟨v, I, k, x⟩) ∧ s.n = v.length ∧ w'.ownsRow G 9 1 (.slice s.A s.n s.c) v.length (strL v) := h5
    have b0' := b05.ext hx
    have OW := Lib.hid own5
    have HSN := Lib.hid hsn
    have hne := Lib.hid (own_ne own5 b0' (by decide))
    clear own5 hsn
    go_wp2_with (refine wp_st_file (.tmp 4) (.tmp 33) rfl rfl G s ⟨v, I, k, x⟩ _ 162 rfl rfl b0' rfl ?_; intro w8 b8 g8)
    refine bodyPost_ret (results_cell2 rfl _ _ G _ _ _ (.int .i64 0) rfl rfl b8 Tryz.underlying162 rfl fileSize) rfl ?_
    exact ⟨⟨s, by rw [← HXI.out], HSN.out, by rw [hG]; exact OW.out.kept g8 (.inr hne.out.symm)⟩, (xw5.trans hx).grown g8 (fun j e => by cases e; rw [hG]; exact Nat.le_refl _)⟩
end Go.Proofs.YtfaplefkakpgcaaGreatDoor
/- The blocks of a file, told one by one: numbers, first. -/
namespace Go.Proofs.YtfaplefkakpgcaaGreatDoor
set_option linter.unusedVariables false
set_option linter.unusedSimpArgs false
open Go.RowKit Go.Shelf
/-- the first k of seventy numbers -/
def partC (f : Nat → Int) (k : Nat) : Array Value := ((List.range 70).map fun j => Value.int .i64 (if j < k then f j else 0)).toArray
theorem partC_size (f : Nat → Int) (k : Nat) : (partC f k).size = 70 := by simp [partC]
theorem partC_set (f : Nat → Int) (k : Nat) : (partC f k).setIfInBounds k (.int .i64 (f k)) = partC f (k + 1) := by
  apply Array.ext_getElem?
  intro j
  unfold partC
  simp only [List.setIfInBounds_toArray, List.getElem?_toArray]
  rw [List.getElem?_set, List.getElem?_map, List.getElem?_map]
  by_cases hj : j < 70
  · rw [List.getElem?_range hj]
    by_cases e : k = j
    · subst e
      rw [if_pos rfl, if_pos (by simp; omega)]
      simp
    · rw [if_neg e]
      simp only [Option.map_some]
      congr 2
      by_cases h1 : j < k
      · rw [if_pos h1, if_pos (by omega)]
      · rw [if_neg h1, if_neg (by omega)]
  · rw [List.getElem?_eq_none (by simp; omega)]
    by_cases e : k = j
    · subst e
      rw [if_pos rfl, if_neg (by simp; omega)]; rfl
    · rw [if_neg e]; rfl
theorem partC_one (f : Nat → Int) (k : Nat) : (partC f k).all (·.oneCell') = true := all_oneCell_toArray (fun v hv => by
  obtain ⟨j, _, rfl⟩ := List.mem_map.1 hv
  rfl)
theorem partC_at (f : Nat → Int) (k j : Nat) (hj : j < 70) (hk : j < k) : (partC f k)[j]? = some (.int .i64 (f j)) := by
  unfold partC
  rw [List.getElem?_toArray, List.getElem?_map, List.getElem?_range hj]
  simp only [Option.map_some, if_pos hk]
theorem partC_zero (f : Nat → Int) : partC f 0 = Array.replicate 70 (.int .i64 0) := by
  unfold partC
  simp only [Nat.not_lt_zero, if_false]
  rfl
theorem arr70 : (Tryz.prog.info? 237).map (·.size) = some 70 := by kernel_rfl
set_option maxHeartbeats 4000000 in
set_option maxRecDepth 100000 in
theorem fnumbers_any (g : Nat) (s : Sl) (F : FileT) (w : World) (h : Box w g 162 (fileC s F)) (hr : Strs w s.A s.n F.v) (hF : FileOk F) :
    Calls Tryz.prog 181 #[.pointer (some ⟨g, 0, none⟩)] w fun e w' => e = .returned (.agg (partC (atP F.v F.I F.x) 70)) ∧ Ext w w' := by
  have HAt := Lib.hid (fun k hk w h hr => fat_any g s F k w h hr hF hk)
  have HBX := Lib.hid h
  have HR := Lib.hid hr
  clear h hr hF
  generalize atP F.v F.I F.x = f at *
  have hP := Lib.hid (partC_zero f)
  go_enter Tryz.func181, Tryz.ntmps181
  go_upto_region 2 with fail
  have hz70 : Tryz.zeroCells237 = Array.replicate 70 (.int .i64 0) := by kernel_rfl
  rw [hz70, ← hP.out]
  have x0 := ((Ext.refl w).alloc (.cells (partC f 0) 237)).alloc (.cells (partC f 0) 237)
  have b2 := (Box.new w 237 (partC f 0)).ext ((Ext.refl _).alloc (.cells (partC f 0) 237))
  have b3 := Box.new (w.alloc (.cells (partC f 0) 237)) 237 (partC f 0)
  rw [World.size_alloc] at b3
  clear hz70 hP
  generalize (w.alloc (.cells (partC f 0) 237)).alloc (.cells (partC f 0) 237) = w1 at *
  generalize hG : w.heap.size = G at *
  go_upto_region 3 with fail
  go_loopw [4, 5] (fun _ i wx => ∃ k : Nat, k ≤ 70 ∧ i = .int .i64 k ∧ Ext w wx ∧ Box wx G 237 (partC f 0) ∧ Box wx (G + 1) 237 (partC f k)) (fun _ i _ => 70 - (intOf i).toNat)
  case atStart => exact ⟨0, by omega, rfl, x0, b2, b3⟩
  case round =>
    clear b2 b3 x0
    obtain ⟨k, hk, rfl, xk, c2, c3⟩ := hrel
    have HX := Lib.hid xk
    have C2 := Lib.hid c2
    have C3 := Lib.hid c3
    by_cases hlt : k < 70
    · have hki : (k : Int) < 70 := by omega
      have HAk := Lib.hid (HAt.out k hlt wr (HBX.out.ext xk) (HR.out.ext xk))
      clear xk c2 c3
      go_wp2_with (go_at_call 214; refine HAk.out.mono ?_; rintro e w4 ⟨rfl, x4⟩; have d3 := C3.out.ext x4; have f3 := d3.frozen k; have k3 : w4.cell? ⟨G + 1, k, none⟩ = some (.int .i64 0) := (d3.cell k).trans (by unfold partC; rw [List.getElem?_toArray, List.getElem?_map, List.getElem?_range hlt]; simp); have D3 := Lib.hid d3; have X4 := Lib.hid x4; clear d3 x4)
      go_roundw
      case rel => exact ⟨k + 1, by omega, by go_num, (HX.out.trans X4.out).setCell (by rw [hG]; exact Nat.le_succ _) _, (C2.out.ext X4.out).far (p := ⟨G + 1, k, none⟩) (by show G ≠ G + 1; omega) _, by have := D3.out.set k (.int .i64 (f k)); rw [partC_set] at this; exact this⟩
      case measure => simp [intOf]; omega
    · have hlt2 : ¬ (k : Int) < 70 := by omega
      obtain rfl : k = 70 := by omega
      clear xk c2 c3
      go_wp2_with (first
        | (refine wp_ld 237 (.tmp 3) rfl rfl (G + 1) (partC f 70) 237 _ rfl C3.out Tryz.underlying237 rfl (by rw [partC_size]; exact arr70) ?_)
        | (refine wp_st 237 (.tmp 2) (.tmp 14) rfl rfl G (partC f 70) _ 237 rfl rfl C2.out (by rw [partC_size]; exact arr70) (by rw [partC_size, partC_size]) (partC_one f 70) ?_; intro w6 b6 g6))
      exact bodyPost_ret (results_cell1 rfl _ _ G _ _ _ rfl b6 Tryz.underlying237 rfl (by rw [partC_size]; exact arr70)) rfl ⟨rfl, HX.out.grown g6 (fun j e => by cases e; rw [hG]; exact Nat.le_refl _)⟩
/-- what first hands out -/
def FirstR (f : Nat → Int) (c : Int) (w : World) (e : Ending) (w' : World) : Prop :=
  ∃ b1 b2, e = .returned (.func (.func 182) #[] #[.pointer (some ⟨b1, 0, none⟩), .pointer (some ⟨b2, 0, none⟩)]) ∧ Box w' b1 237 (partC f 70) ∧ Box w' b2 3 #[.int .i64 c] ∧ w.heap.size ≤ b1 ∧ w.heap.size ≤ b2 ∧ b1 ≠ b2
set_option maxHeartbeats 1000000 in
set_option maxRecDepth 100000 in
theorem ffirst_any (g : Nat) (s : Sl) (F : FileT) (c : Int) (w : World) (h : Box w g 162 (fileC s F)) (hr : Strs w s.A s.n F.v) (hF : FileOk F) :
    Calls Tryz.prog 117 #[.pointer (some ⟨g, 0, none⟩), .int .i64 c] w fun e w' => FirstR (atP F.v F.I F.x) c w e w' ∧ Ext w w' := by
  have hmf : ∀ (fn : Fn) (first cap : Array Value) (w : World), (Instr.makeFunc fn first cap).run Tryz.prog w = .ok (.func fn first cap) w := fun _ _ _ _ => rfl
  have x0 := (Ext.refl w).alloc (.cells #[.int .i64 c] 3)
  have b0 := Box.new w 3 #[.int .i64 c]
  have HN := Lib.hid (fnumbers_any g s F _ (h.ext x0) (hr.ext x0) hF)
  clear h hr hF
  generalize atP F.v F.I F.x = f at *
  go_enter Tryz.func117, Tryz.ntmps117
  go_upto_region 2 with (first
    | (go_at_call 181; refine HN.out.mono ?_; rintro e w2 ⟨rfl, x2⟩)
    | (refine wp_st 237 (.tmp 5) (.tmp 7) rfl rfl w2.heap.size (partC f 70) Tryz.zeroCells237 237 rfl rfl (Box.new _ _ _) (by rw [partC_size]; exact arr70) (by rw [partC_size]; kernel_rfl) (partC_one f 70) ?_; intro w3 b3 g3))
  have xa : Ext w2 (w2.alloc (.cells Tryz.zeroCells237 237)) := (Ext.refl w2).alloc _
  have x23 : Ext w2 w3 := xa.grown g3 (fun j e => by cases e; exact Nat.le_refl _)
  have b03 := (b0.ext x2).ext x23
  have xx := (x0.trans x2).trans x23
  have hlt := (b0.ext x2).lt
  have hsz := (x0.trans x2).size
  clear g3
  go_wp2_with fail
  go_ret
  exact ⟨⟨w2.heap.size, w.heap.size, rfl, b3, b03, hsz, Nat.le_refl _, by omega⟩, xx⟩
theorem wpListIn_load_row {F : Fence} {n : Nat} {P : Program} {ops : Array Oper} {rest : List Oper} {o : Oper} {a : Act} {w : World} {Q : Exit → Act → World → Prop} (hgd : o.guard = none) (ty : TypeId) (x : Operand) (ho : o.op = .load ty x)
    (g : Nat) (hx : a.eval x = .pointer (some ⟨g, 0, none⟩)) (t : TypeId) (cs : Array Value) (fr : Nat × Nat) (d : TypeDesc) (hg : w.heap[g]? = some (.cells cs t fr))
    (hu : P.underlying ty = some d) (hd : (match d with | .struct _ | .array _ _ => true | _ => false) = true) (hi : (P.info? ty).map (·.size) = some cs.size)
    (h : wpListIn F n P ops Q rest (a.put o.dst (.agg cs)) w) : wpListIn F n P ops Q (o :: rest) a w := by
  refine wpListIn_plain hgd fun K hK' => ?_
  unfold Oper.wpIn
  refine ⟨?_, ?_⟩
  · simp [Oper.about, ho]
  · rw [Oper.semAt_plain F _ _ (by rw [ho]; intro c hc'; cases hc')]
    simp only [execOp, ho, hx, Instr.loadAt, Instr.sureAddr, Sem.run_bind, Sem.run_pure, Result.andThen_ok, run_loadVar_row w g t ty cs fr d hg hu hd hi]
    exact hK' _ _ h
theorem run_indexC {P : Program} {t e n : Nat} {k : IntKind} {cs : Array Value} {i : Nat} {v : Value} (w : World) (hu : P.underlying t = some (.array n e)) (he : P.underlying e = some (.int k)) (hs : (P.info? e).map (·.size) = some 1) (hin : i < n) (hv : cs[i]? = some v) (h1 : v.oneCell' = true) :
    (Instr.index t (.agg cs) (.int .i64 (i : Int))).run P w = .ok v w := by
  cases hq : P.info? e with
  | none => simp [hq] at hs
  | some j =>
    have hz : j.size = 1 := by simpa [hq] using hs
    have hagg : (isAgg e).run P w = .ok false w := by
      unfold isAgg
      rw [Sem.run_bind, run_underlying he w]
      rfl
    have h1 : (i : Int) < (n : Int) := by omega
    simp [Instr.index, asIntOf, run_underlying hu, h1, sizeOf, typeInfo, hq, part, Sem.run_bind, hagg, hz, hv]
    intro hc; exact absurd hc (by omega)
/-- two blocks are kept -/
def KpB (b1 b2 : Nat) (W W' : World) : Prop := ∀ (cs : Array Value) (t : TypeId), (W.heap[b1]? = some (Obj.cells cs t (0, 0)) → W'.heap[b1]? = some (Obj.cells cs t (0, 0))) ∧ (W.heap[b2]? = some (Obj.cells cs t (0, 0)) → W'.heap[b2]? = some (Obj.cells cs t (0, 0)))
theorem KpB.trans {b1 b2 : Nat} {A B C : World} (h : KpB b1 b2 A B) (k : KpB b1 b2 B C) : KpB b1 b2 A C := fun cs t => ⟨fun e => (k cs t).1 ((h cs t).1 e), fun e => (k cs t).2 ((h cs t).2 e)⟩
theorem KpB.ext {b1 b2 : Nat} {W W' : World} (h : Ext W W') : KpB b1 b2 W W' := fun cs t => ⟨fun e => Box.ext e h, fun e => Box.ext e h⟩
theorem KpB.book {b1 b2 : Nat} {w : World} (W : World) (l : Nat) (o o' : Obj) (_ : w.heap.size ≤ l) (h : W.heap[l]? = some o) (hc : o.isCells = false) (_ : o.isWalk = false) : KpB b1 b2 W (W.putObj l o') := by
  have key : ∀ b (cs : Array Value) (t : TypeId), W.heap[b]? = some (Obj.cells cs t (0, 0)) → (W.putObj l o').heap[b]? = some (Obj.cells cs t (0, 0)) := fun b cs t hb => by
    have hne : b ≠ l := by rintro rfl; rw [h] at hb; cases hb; cases hc
    have := (grownBy_putObj' W l o').block b (Array.getElem?_eq_some_iff.1 hb).1 (fun e => hne (by cases e; rfl))
    exact this.trans hb
  exact fun cs t => ⟨key b1 cs t, key b2 cs t⟩
def benc (f : Nat → Int) (k : Nat) : Array Value := #[.int .i64 (k : Int), .int .i64 (f k)]
set_option maxRecDepth 100000 in
set_option maxHeartbeats 4000000 in
theorem first1_in (n : Nat) (hn : 1 ≤ n) (l b1 b2 c : Nat) (f : Nat → Int) (J Jx : List Nat → World → Prop) (W : World) (hJ : AbidesFrom W.heap.size J)
    (hY : ∀ pre x W1, J pre W1 → pre.length < 70 → YieldAt Fence.wide (n - 1) Tryz.prog l (benc f x) W1 fun e W' =>
      (e = .returned (.bool true) ∧ J (pre ++ [x]) W' ∧ KpB b1 b2 W1 W') ∨ (e = .returned (.bool false) ∧ Jx (pre ++ [x]) W'))
    (h1 : Box W b1 237 (partC f 70)) (h2 : Box W b2 3 #[.int .i64 (c : Int)]) (h0 : J [] W) :
    CallsIn Fence.wide n Tryz.prog 182 #[.func (.yield l) #[] #[], .pointer (some ⟨b1, 0, none⟩), .pointer (some ⟨b2, 0, none⟩)] W fun e W' => (∃ v, e = .returned v) ∧
      ((∃ ys, ys = List.range (min c 70) ∧ J ys W') ∨ (∃ pre, True ∧ Jx pre W')) := by
  generalize hL0 : List.range (min c 70) = L
  have hL := Lib.hid hL0
  clear hL0
  refine callsIn_of_wp Tryz.func182 rfl trivial ?_ rfl
  simp only [Tryz.ntmps182, List.size_toArray, List.length_cons, List.length_nil, Nat.reduceAdd, Nat.reduceSub, Array.replicate_succ, Array.replicate_zero, List.push_toArray, List.append_toArray, List.nil_append, List.cons_append]
  gi_wp2_with (refine wpListIn_load_row rfl 237 (.tmp 1) rfl b1 rfl 237 _ (0, 0) _ h1 Tryz.underlying237 rfl (by rw [partC_size]; exact arr70) ?_)
  gi_loopw [4, 5, 7] (fun _ _ i wx => ∃ k : Nat, k ≤ 70 ∧ k ≤ c ∧ i = .int .i64 k ∧ J (List.range k) wx ∧ Box wx b1 237 (partC f 70) ∧ Box wx b2 3 #[.int .i64 (c : Int)]) (fun _ _ i _ => 70 - (intOf i).toNat)
  case atStart => exact ⟨0, by omega, by omega, rfl, h0, h1, h2⟩
  case round =>
    obtain ⟨k, hk, hkc, rfl, hJs, hB1, hB2⟩ := hrel
    by_cases hlt : k < 70
    · have hki : (k : Int) < 70 := by omega
      have c2 := hB2.cell 0
      simp only [List.getElem?_toArray, List.getElem?_cons_zero] at c2
      have hix : ∀ w, (Instr.index 237 (.agg (partC f 70)) (.int .i64 (k : Int))).run Tryz.prog w = .ok (.int .i64 (f k)) w := fun w => run_indexC w Tryz.underlying237 Tryz.underlying3 (by kernel_rfl) hlt (partC_at f 70 k hlt hlt) rfl
      by_cases hc : c ≤ k
      · have hci : (c : Int) ≤ (k : Int) := by omega
        obtain rfl : k = c := by omega
        gi_wp2
        rename_i hKK _ _ _ _
        refine ⟨fun f hf => (by cases hf), hKK _ _ ?_⟩
        clear hKK
        gi_wp2
        refine bodyPost_ret (results_none rfl _ _ _) rfl ?_
        have hJL : J L wr := by rw [← hL.out, Nat.min_eq_left (by omega)]; exact hJs
        first
          | exact ⟨⟨_, rfl⟩, .inl ⟨_, rfl, hJL⟩⟩
          | exact ⟨⟨_, rfl⟩, .inl hJL⟩
      · have hci : ¬ (c : Int) ≤ (k : Int) := by omega
        obtain ⟨fn, tmps, assign, body, hy, hR⟩ := hY (List.range k) k _ hJs (by rw [List.length_range]; exact hlt)
        have hy' : (Instr.yield l #[.int .i64 (k : Int), .int .i64 (f k)]).run Tryz.prog wr = .ok (.round l fn tmps assign body) wr := hy
        clear hy
        gi_wp2
        refine hR.mono ?_
        rintro e W3 (⟨rfl, hJ3, hk3⟩ | ⟨rfl, hJx3⟩)
        · gi_wp2
          go_roundw
          case rel => exact ⟨k + 1, by omega, by omega, by go_num, by rw [List.range_succ]; exact hJ3, (hk3 _ _).1 hB1, (hk3 _ _).2 hB2⟩
          case measure => simp [intOf]; omega
        · gi_wp2
          refine bodyPost_ret (results_none rfl _ _ _) rfl ?_
          exact ⟨⟨_, rfl⟩, .inr ⟨_, trivial, hJx3⟩⟩
    · have hki : ¬ (k : Int) < 70 := by omega
      obtain rfl : k = 70 := by omega
      gi_wp2
      refine bodyPost_end (results_none rfl _ _ _) rfl ?_
      have hJL : J L wr := by rw [← hL.out, Nat.min_eq_right (by omega)]; exact hJs
      first
        | exact ⟨⟨_, rfl⟩, .inl ⟨_, rfl, hJL⟩⟩
        | exact ⟨⟨_, rfl⟩, .inl hJL⟩
/-- the value of first gives the numbers of the first c blocks, whatever the body does, if it keeps the two blocks -/
theorem first_stops (n : Nat) (hn : 1 ≤ n) (b1 b2 c : Nat) (f : Nat → Int) (w : World) (h1 : Box w b1 237 (partC f 70)) (h2 : Box w b2 3 #[.int .i64 (c : Int)]) :
    SeqStopsK Fence.wide n Tryz.prog 182 #[.pointer (some ⟨b1, 0, none⟩), .pointer (some ⟨b2, 0, none⟩)] (benc f) (KpB b1 b2) (fun ys => ys = List.range (min c 70)) (fun _ => True) 70 w := fun l J Jx W hW hJ _ hY h0 =>
  first1_in n hn l b1 b2 c f J Jx W hJ hY (h1.ext hW) (h2.ext hW) h0
end Go.Proofs.YtfaplefkakpgcaaGreatDoor
/- The document's machines, point by point: lives, users, Pipe, fd tell what they say. -/
namespace Go.Proofs.YtfaplefkakpgcaaGreatDoor
set_option linter.unusedVariables false
set_option linter.unusedSimpArgs false
open Go.RowKit
def LivesR (l : List PrT) (pid : Int) (e : Ending) : Prop := ∃ b, e = .returned (.bool b) ∧ (b = true → LivesP l pid)
def PipeR (l : List WrT) (id : Int) (e : Ending) : Prop := ∃ (y : WrT) (b : Bool), e = .returned (.tuple #[.agg #[.int .i64 y.1, .string (str y.2)], .bool b]) ∧ (b = true → ∃ z ∈ l, z.1 = id)
def FdR (l : List WrT) (k n p : Int) (e : Ending) : Prop := ∃ b, e = .returned (.bool b) ∧ (b = true → FdP l k n p)
set_option maxHeartbeats 2000000 in
set_option maxRecDepth 100000 in
theorem lives_ok (m : Mac) (l : List PrT) (pid : Int) (w : World) (h : RowOf prL w m.pr.A m.pr.n l) (hpk : m.pr.n ≤ 1000) :
    Calls Tryz.prog 96 #[.agg m.cells, .int .i64 pid] w fun e w' => LivesR l pid e ∧ Ext w w' := by
  obtain ⟨hp1, hp2⟩ := h
  have xa : Ext w (w.alloc (.cells m.cells 38)) := (Ext.refl _).alloc _
  have ba := Box.new w 38 m.cells
  have q5 : (w.alloc (.cells m.cells 38)).cell? ⟨w.heap.size, 5, none⟩ = some (.slice m.pr.A m.pr.n m.pr.c) := ba.cell 5
  go_enter Tryz.func96, Tryz.ntmps96
  go_wp2_with fail
  clear q5 ba
  generalize w.alloc (.cells m.cells 38) = w1 at *
  try rw [hp1]
  rw [hp1] at hpk
  have HP1 := Lib.hid hp1
  clear hp1
  generalize m.pr.A = A at *
  go_loopw [6, 10] (fun _ i wx => ∃ k : Nat, k ≤ l.length ∧ i = .int .i64 k ∧ Ext w wx) (fun _ i _ => l.length - (intOf i).toNat)
  case atStart => exact ⟨0, by omega, rfl, xa⟩
  case round =>
    obtain ⟨k, hk, rfl, xk⟩ := hrel
    by_cases hlt : k < l.length
    · obtain ⟨b, o, rfl, hcell⟩ := hp2 (by rw [HP1.out]; omega)
      have r1 := range_ext (pr_range hcell hlt) xk
      clear hcell
      have hki : (k : Int) < (l.length : Int) := by omega
      have HL := Lib.hid (show l[k].pid = pid → (l[k].state = 1 ∨ l[k].state = 2) → LivesP l pid from fun h1 h2 => ⟨l[k], List.getElem_mem hlt, h1, h2⟩)
      generalize l[k] = y at *
      go_upto_region 4 with (first
        | (refine wp_ld_pr (.tmp 12) rfl rfl b (o + k * 96) y rfl r1 ?_)
        | (refine wp_st_pr (.tmp 6) (.tmp 13) rfl rfl wr.heap.size y _ 57 rfl rfl (Box.new _ _ _) rfl ?_; intro w2 b2 g2))
      have x2 : Ext w w2 := (xk.alloc _).grown g2 (fun j e => by cases e; exact xk.size)
      have c0 : w2.cell? ⟨wr.heap.size, 0, none⟩ = some (.int .i64 y.pid) := b2.cell 0
      have c2 : w2.cell? ⟨wr.heap.size, 2, none⟩ = some (.int .i64 y.state) := b2.cell 2
      clear g2 r1 b2
      rcases Bool.eq_false_or_eq_true (y.pid == pid) with d1 | d1
      · rcases Bool.eq_false_or_eq_true (y.state == 1) with d2 | d2
        · have HD := Lib.hid (HL.out (by simpa using d1) (.inl (by simpa using d2)))
          go_wp2_with fail
          go_ret
          exact ⟨⟨true, rfl, fun _ => HD.out⟩, x2⟩
        · rcases Bool.eq_false_or_eq_true (y.state == 2) with d3 | d3
          · have HD := Lib.hid (HL.out (by simpa using d1) (.inr (by simpa using d3)))
            go_wp2_with fail
            go_ret
            exact ⟨⟨true, rfl, fun _ => HD.out⟩, x2⟩
          · go_wp2_with fail
            go_roundw
            case rel => exact ⟨k + 1, by omega, by go_num, x2⟩
            case measure => simp [intOf]; omega
      · go_wp2_with fail
        go_roundw
        case rel => exact ⟨k + 1, by omega, by go_num, x2⟩
        case measure => simp [intOf]; omega
    · obtain rfl : k = l.length := by omega
      go_wp2_with fail
      go_ret
      exact ⟨⟨false, rfl, fun h => by cases h⟩, xk⟩
set_option maxHeartbeats 2000000 in
set_option maxRecDepth 100000 in
theorem users_ok (m : Mac) (l : List PrT) (fr : Int) (w : World) (h : RowOf prL w m.pr.A m.pr.n l) (hn : m.pr.n ≤ 1000) :
    Calls Tryz.prog 81 #[.agg m.cells, .int .i64 fr] w fun e w' => e = .returned (.int .i64 (usersK l fr l.length)) ∧ Ext w w' := by
  obtain ⟨hp1, hp2⟩ := h
  have xa : Ext w (w.alloc (.cells m.cells 38)) := (Ext.refl _).alloc _
  have ba := Box.new w 38 m.cells
  have q5 : (w.alloc (.cells m.cells 38)).cell? ⟨w.heap.size, 5, none⟩ = some (.slice m.pr.A m.pr.n m.pr.c) := ba.cell 5
  go_enter Tryz.func81, Tryz.ntmps81
  go_wp2_with fail
  clear q5 ba
  generalize w.alloc (.cells m.cells 38) = w1 at *
  try rw [hp1]
  rw [hp1] at hn
  have HP1 := Lib.hid hp1
  clear hp1
  generalize m.pr.A = A at *
  go_loopw [5, 13] (fun t i wx => ∃ (k : Nat), k ≤ l.length ∧ i = .int .i64 k ∧ t = .int .i64 (usersK l fr k) ∧ usersK l fr k ≤ 16 * k ∧ Ext w wx) (fun _ i _ => l.length - (intOf i).toNat)
  case atStart => exact ⟨0, by omega, rfl, rfl, by simp [usersK], xa⟩
  case round =>
    obtain ⟨k, hk, rfl, rfl, hz, xk⟩ := hrel
    by_cases hlt : k < l.length
    · obtain ⟨b, o, rfl, hcell⟩ := hp2 (by rw [HP1.out]; omega)
      have r1 := range_ext (pr_range hcell hlt) xk
      clear hcell
      have hki : (k : Int) < (l.length : Int) := by omega
      have HU := Lib.hid (show usersK l fr (k + 1) = usersK l fr k + cntFr l[k] fr 16 by
        rw [usersK, List.getD_eq_getElem?_getD, List.getElem?_eq_getElem hlt]; rfl)
      generalize l[k] = y at *
      generalize usersK l fr k = z at *
      go_wp2_with (first
        | (refine wp_ld_pr (.tmp 15) rfl rfl b (o + k * 96) y rfl r1 ?_)
        | (refine wp_st_pr (.tmp 7) (.tmp 16) rfl rfl wr.heap.size y _ 57 rfl rfl (Box.new _ _ _) rfl ?_; intro w2 b2 g2; have x2 : Ext w w2 := (xk.alloc _).grown g2 (fun j e => by cases e; exact xk.size))
        | (refine wp_ld_space (.tmp 17) rfl rfl wr.heap.size 57 y rfl b2 ?_))
      go_loopw [5, 19] (fun t i wx => ∃ (j : Nat), j ≤ 16 ∧ i = .int .i64 j ∧ t = .int .i64 ((z + cntFr y fr j : Nat) : Int) ∧ cntFr y fr j ≤ j ∧ Ext w wx) (fun _ i _ => 16 - (intOf i).toNat)
      case atStart => exact ⟨0, by omega, rfl, rfl, by simp [cntFr], x2⟩
      case round =>
        clear r1 b2 g2 xk x2
        obtain ⟨j, hj, rfl, rfl, hz2, xj⟩ := hrel
        by_cases hj2 : j < 16
        · have hji : (j : Int) < 16 := by omega
          have HC := Lib.hid (show cntFr y fr (j + 1) = cntFr y fr j + (if y.pis j = true ∧ y.pfr j = fr then 1 else 0) from rfl)
          generalize cntFr y fr j = c at *
          cases e1 : y.pis j with
          | false =>
            have HC2 := Lib.hid (HC.out.trans (by rw [e1, if_neg (fun h => by cases h.1)]))
            go_wp2_with (first
              | (refine wp_idx_pte (.tmp 18) (.tmp 19) rfl rfl y j rfl rfl hj2 ?_; rw [e1]))
            go_roundw
            case rel => exact ⟨j + 1, by omega, by go_num, by rw [HC2.out]; rfl, by rw [HC2.out]; omega, xj.alloc _⟩
            case measure => simp [intOf]; omega
          | true =>
            rcases Bool.eq_false_or_eq_true (y.pfr j == fr) with e2 | e2
            · have HC2 := Lib.hid (HC.out.trans (by rw [if_pos ⟨e1, by simpa using e2⟩]))
              go_wp2_with (first
                | (refine wp_idx_pte (.tmp 18) (.tmp 19) rfl rfl y j rfl rfl hj2 ?_; rw [e1]))
              go_roundw
              case rel => exact ⟨j + 1, by omega, by go_num, by rw [HC2.out]; go_num, by rw [HC2.out]; omega, xj.alloc _⟩
              case measure => simp [intOf]; omega
            · have HC2 := Lib.hid (HC.out.trans (by rw [if_neg (fun h => by simp [h.2] at e2)]))
              go_wp2_with (first
                | (refine wp_idx_pte (.tmp 18) (.tmp 19) rfl rfl y j rfl rfl hj2 ?_; rw [e1]))
              go_roundw
              case rel => exact ⟨j + 1, by omega, by go_num, by rw [HC2.out]; rfl, by rw [HC2.out]; omega, xj.alloc _⟩
              case measure => simp [intOf]; omega
        · have hjn : ¬ (j : Int) < 16 := by omega
          have HJ := Lib.hid (show j = 16 by omega)
          go_wp2_with fail
          go_roundw
          case rel => exact ⟨k + 1, by omega, by go_num, by rw [HU.out, ← HJ.out], by rw [HU.out]; have h1 := hz2; rw [HJ.out] at h1; omega, xj⟩
          case measure => simp [intOf]; omega
    · obtain rfl : k = l.length := by omega
      go_wp2_with fail
      go_ret
      exact ⟨by rfl, xk⟩
set_option maxHeartbeats 2000000 in
set_option maxRecDepth 100000 in
theorem rpipe_ok (m : Mac) (l : List WrT) (id : Int) (w : World) (h : Wrs w m.pi.A m.pi.n l) (hpk : m.pi.n ≤ 1000) :
    Calls Tryz.prog 167 #[.agg m.cells, .int .i64 id] w fun e w' => PipeR l id e ∧ Ext w w' := by
  obtain ⟨hp1, hp2⟩ := h
  have xa : Ext w (w.alloc (.cells m.cells 38)) := (Ext.refl _).alloc _
  have ba := (Box.new w 38 m.cells).ext ((Ext.refl _).alloc (.cells #[.int .i64 0, .string ⟨#[]⟩] 95))
  have q8 : ((w.alloc (.cells m.cells 38)).alloc (.cells #[.int .i64 0, .string ⟨#[]⟩] 95)).cell? ⟨w.heap.size, 8, none⟩ = some (.slice m.pi.A m.pi.n m.pi.c) := ba.cell 8
  have b4 : Box ((w.alloc (.cells m.cells 38)).alloc (.cells #[.int .i64 0, .string ⟨#[]⟩] 95)) (w.heap.size + 1) 95 #[.int .i64 0, .string ⟨#[]⟩] := by
    have := Box.new (w.alloc (.cells m.cells 38)) 95 #[.int .i64 0, .string ⟨#[]⟩]
    rw [World.size_alloc] at this; exact this
  have xa2 := xa.alloc (.cells #[.int .i64 0, .string ⟨#[]⟩] 95)
  go_enter Tryz.func167, Tryz.ntmps167
  go_wp2_with fail
  clear q8 ba xa
  generalize ((w.alloc (.cells m.cells 38)).alloc (.cells #[.int .i64 0, .string ⟨#[]⟩] 95)) = w1 at *
  try rw [hp1]
  rw [hp1] at hpk
  have HP1 := Lib.hid hp1
  clear hp1
  generalize m.pi.A = A at *
  go_loopw [7, 11] (fun _ i wx => ∃ (k : Nat), k ≤ l.length ∧ i = .int .i64 k ∧ Ext w wx ∧ Box wx (w.heap.size + 1) 95 #[.int .i64 0, .string ⟨#[]⟩]) (fun _ i _ => l.length - (intOf i).toNat)
  case atStart => exact ⟨0, by omega, rfl, xa2, b4⟩
  case round =>
    obtain ⟨k, hk, rfl, xk, bk⟩ := hrel
    by_cases hlt : k < l.length
    · obtain ⟨b, o, rfl, hcell⟩ := hp2 (by rw [HP1.out]; omega)
      have e1 := xk.keep (hcell k hlt).1
      have e2 := xk.keep (hcell k hlt).2
      clear hcell
      have hki : (k : Int) < (l.length : Int) := by omega
      have HL := Lib.hid (show l[k].1 = id → ∃ z ∈ l, z.1 = id from fun h1 => ⟨l[k], List.getElem_mem hlt, h1⟩)
      generalize l[k] = y at *
      have bk2 := bk.ext ((Ext.refl wr).alloc (.cells #[.int .i64 y.1, .string (str y.2)] 95))
      rcases Bool.eq_false_or_eq_true (y.1 == id) with d1 | d1
      · have HD := Lib.hid (HL.out (by simpa using d1))
        go_wp2_with (first
          | (refine wp_st_pipe (.tmp 4) (.tmp 19) rfl rfl (w.heap.size + 1) y.1 (str y.2) _ 95 rfl rfl bk2 rfl ?_; intro w2 b2 g2; have x2 : Ext w w2 := (xk.alloc _).grown g2 (fun j e => by cases e; omega)))
        exact bodyPost_ret (v := .tuple #[.agg #[.int .i64 y.1, .string (str y.2)], .bool true]) (results_cell2 Tryz.results167 _ _ _ _ _ _ _ rfl rfl b2 Tryz.underlying95 rfl pipeSize) rfl ⟨⟨_, _, rfl, fun _ => HD.out⟩, x2⟩
      · go_wp2_with fail
        go_roundw
        case rel => exact ⟨k + 1, by omega, by go_num, xk.alloc _, bk2⟩
        case measure => simp [intOf]; omega
    · obtain rfl : k = l.length := by omega
      go_wp2_with (first
        | (refine wp_st_pipe (.tmp 4) (.tmp 21) rfl rfl (w.heap.size + 1) 0 ⟨#[]⟩ _ 95 rfl rfl bk rfl ?_; intro w2 b2 g2; have x2 : Ext w w2 := xk.grown g2 (fun j e => by cases e; omega)))
      exact bodyPost_ret (v := .tuple #[.agg #[.int .i64 0, .string ⟨#[]⟩], .bool false]) (results_cell2 Tryz.results167 _ _ _ _ _ _ _ rfl rfl b2 Tryz.underlying95 rfl pipeSize) rfl ⟨⟨(0, []), _, rfl, fun h => by cases h⟩, x2⟩
set_option maxHeartbeats 4000000 in
set_option maxRecDepth 100000 in
theorem rfd_ok (m : Mac) (l : List WrT) (k n p : Int) (w : World) (h : Wrs w m.pi.A m.pi.n l) (hpk : m.pi.n ≤ 1000) :
    Calls Tryz.prog 97 #[.agg m.cells, .agg #[.int .i64 k, .int .i64 n, .int .i64 p]] w fun e w' => FdR l k n p e ∧ Ext w w' := by
  have xa : Ext w ((w.alloc (.cells m.cells 38)).alloc (.cells #[.int .i64 k, .int .i64 n, .int .i64 p] 54)) := ((Ext.refl _).alloc _).alloc _
  have ba := (Box.new w 38 m.cells).ext ((Ext.refl _).alloc (.cells #[.int .i64 k, .int .i64 n, .int .i64 p] 54))
  have HP := Lib.hid (fun id w h => rpipe_ok m l id w h hpk)
  have h2 := h.ext xa
  have bf := Box.new (w.alloc (.cells m.cells 38)) 54 #[.int .i64 k, .int .i64 n, .int .i64 p]
  rw [World.size_alloc] at bf
  clear h
  go_enter Tryz.func97, Tryz.ntmps97
  go_upto_region 2 with (first
    | (refine wp_ld_mac (.tmp 2) rfl rfl w.heap.size _ 38 rfl ba rfl ?_)
    | (go_at_call 167; refine (HP.out _ _ h2).mono ?_; rintro e w1 ⟨⟨y, b1, rfl, hb1⟩, x1⟩; have bf1 := (bf.ext x1).ext ((Ext.refl w1).alloc (.cells #[.int .i64 y.1, .string (str y.2)] 95)); have f0 := bf1.cell 0; have f1 := bf1.cell 1; have f2 := bf1.cell 2; have xw := (xa.trans x1).alloc (.cells #[.int .i64 y.1, .string (str y.2)] 95); have HB := Lib.hid hb1; clear hb1))
  rcases (by omega : k = 0 ∨ k = 1 ∨ k = 2 ∨ k = 3 ∨ k = 4 ∨ k = 5 ∨ (k ≠ 0 ∧ k ≠ 1 ∧ k ≠ 2 ∧ k ≠ 3 ∧ k ≠ 4 ∧ k ≠ 5)) with rfl | rfl | rfl | rfl | rfl | rfl | ⟨h0, h1, h2, h3, h4, h5⟩
  · rcases Bool.eq_false_or_eq_true (n == 0) with d1 | d1 <;> go_wp2_with fail
    all_goals
      go_ret
      exact ⟨⟨_, rfl, fun h => by first | (cases h; done) | exact .inl ⟨by omega, by simpa using d1, by simpa using h⟩⟩, xw⟩
  · rcases Bool.eq_false_or_eq_true (n == 0) with d1 | d1 <;> go_wp2_with fail
    all_goals
      go_ret
      exact ⟨⟨_, rfl, fun h => by first | (cases h; done) | exact .inl ⟨by omega, by simpa using d1, by simpa using h⟩⟩, xw⟩
  · rcases Bool.eq_false_or_eq_true (n == 0) with d1 | d1 <;> go_wp2_with fail
    all_goals
      go_ret
      exact ⟨⟨_, rfl, fun h => by first | (cases h; done) | exact .inl ⟨by omega, by simpa using d1, by simpa using h⟩⟩, xw⟩
  · rcases Bool.eq_false_or_eq_true (decide (1 ≤ n)) with d1 | d1
    · rcases Bool.eq_false_or_eq_true (decide (n ≤ 64)) with d2 | d2
      · rcases Bool.eq_false_or_eq_true (decide (0 ≤ p)) with d3 | d3
        · go_wp2_with fail
          go_ret
          exact ⟨⟨_, rfl, fun h => .inr (.inl ⟨rfl, of_decide_eq_true d1, of_decide_eq_true d2, of_decide_eq_true d3, of_decide_eq_true h⟩)⟩, xw⟩
        · go_wp2_with fail
          go_ret
          exact ⟨⟨false, rfl, fun h => by cases h⟩, xw⟩
      · go_wp2_with fail
        go_ret
        exact ⟨⟨false, rfl, fun h => by cases h⟩, xw⟩
    · go_wp2_with fail
      go_ret
      exact ⟨⟨false, rfl, fun h => by cases h⟩, xw⟩
  · rcases Bool.eq_false_or_eq_true (p == 0) with d1 | d1
    · go_wp2_with fail
      go_ret
      exact ⟨⟨b1, rfl, fun h => .inr (.inr ⟨by omega, by simpa using d1, HB.out h⟩)⟩, xw⟩
    · go_wp2_with fail
      go_ret
      exact ⟨⟨false, rfl, fun h => by cases h⟩, xw⟩
  · rcases Bool.eq_false_or_eq_true (p == 0) with d1 | d1
    · go_wp2_with fail
      go_ret
      exact ⟨⟨b1, rfl, fun h => .inr (.inr ⟨by omega, by simpa using d1, HB.out h⟩)⟩, xw⟩
    · go_wp2_with fail
      go_ret
      exact ⟨⟨false, rfl, fun h => by cases h⟩, xw⟩
  · have e0 : (k == 0) = false := by simpa using h0
    have e1 : (k == 1) = false := by simpa using h1
    have e2 : (k == 2) = false := by simpa using h2
    have e3 : (k == 3) = false := by simpa using h3
    have e4 : (k == 4) = false := by simpa using h4
    have e5 : (k == 5) = false := by simpa using h5
    clear h0 h1 h2 h3 h4 h5
    go_wp2_with fail
    go_ret
    exact ⟨⟨false, rfl, fun h => by cases h⟩, xw⟩
end Go.Proofs.YtfaplefkakpgcaaGreatDoor
/- The document's machines, point by point: process tells that a process is as it may be. -/
namespace Go.Proofs.YtfaplefkakpgcaaGreatDoor
set_option linter.unusedVariables false
set_option linter.unusedSimpArgs false
open Go.RowKit
def ProcR (m : Mac) (d : MacD) (y : PrT) (e : Ending) : Prop := ∃ b, e = .returned (.bool b) ∧ (b = true → ProcOk m d y)
def BvP (v : Value) (p : Prop) : Prop := ∃ b, v = .bool b ∧ (b = false → p)
theorem BvP.yes {p : Prop} : BvP (.bool true) p := ⟨true, rfl, fun h => by cases h⟩
theorem BvP.of {b : Bool} {p : Prop} (h : b = false → p) : BvP (.bool b) p := ⟨b, rfl, h⟩
set_option maxHeartbeats 40000000 in
set_option maxRecDepth 100000 in
theorem rprocess_ok (m : Mac) (d : MacD) (y : PrT) (w : World) (h : MacIn w m d) (hrn : m.pr.n ≤ 1000) (hpn : m.pi.n ≤ 1000) :
    Calls Tryz.prog 51 #[.agg m.cells, .agg (prL y).toArray] w fun e w' => ProcR m d y e ∧ Ext w w' := by
  have HL := Lib.hid (fun id w (h : MacIn w m d) => lives_ok m d.pr id w h.pr hrn)
  have HU := Lib.hid (fun id w (h : MacIn w m d) => users_ok m d.pr id w h.pr hrn)
  have HF := Lib.hid (fun k n p w (h : MacIn w m d) => rfd_ok m d.pi k n p w h.pi.wrs hpn)
  go_enter Tryz.func51, Tryz.ntmps51
  go_upto_region 1 with fail
  have xa : Ext w ((w.alloc (.cells m.cells 38)).alloc (.cells (prL y).toArray 57)) := ((Ext.refl _).alloc _).alloc _
  have bm := (Box.new w 38 m.cells).ext ((Ext.refl _).alloc (.cells (prL y).toArray 57))
  have bp := Box.new (w.alloc (.cells m.cells 38)) 57 (prL y).toArray
  rw [World.size_alloc] at bp
  generalize (w.alloc (.cells m.cells 38)).alloc (.cells (prL y).toArray 57) = w1 at *
  have h1 := h.ext xa
  have cf : ∀ wx, Ext w1 wx → wx.cell? ⟨w.heap.size + 1, 0, none⟩ = some (.int .i64 y.pid) ∧ wx.cell? ⟨w.heap.size + 1, 1, none⟩ = some (.int .i64 y.parent) ∧ wx.cell? ⟨w.heap.size + 1, 2, none⟩ = some (.int .i64 y.state) ∧ wx.cell? ⟨w.heap.size + 1, 3, none⟩ = some (.int .u32 (y.reg 0)) ∧ wx.cell? ⟨w.heap.size + 1, 93, none⟩ = some (.int .u32 y.code) ∧ wx.cell? ⟨w.heap.size + 1, 94, none⟩ = some (.int .i64 y.why) ∧ wx.cell? ⟨w.heap.size + 1, 95, none⟩ = some (.int .u64 y.num) ∧ wx.cell? ⟨w.heap.size, 6, none⟩ = some (.int .i64 m.next) ∧ wx.cell? ⟨w.heap.size, 4, none⟩ = some (.slice m.fr.A m.fr.n m.fr.c) := fun wx x =>
    ⟨(bp.ext x).cell 0, (bp.ext x).cell 1, (bp.ext x).cell 2, (bp.ext x).cell 3, (bp.ext x).cell 93, (bp.ext x).cell 94, (bp.ext x).cell 95, (bm.ext x).cell 6, (bm.ext x).cell 4⟩
  have CF := Lib.hid cf
  clear cf
  obtain ⟨p0, p1, p2, p3, p93, p94, p95, m6, m4⟩ := CF.out _ (Ext.refl w1)
  go_upto_region 3 with fail
  generalize hdead : (y.state == 3) = dead at *
  generalize hwaits : (y.state == 2) = waits at *
  have HDD := Lib.hid (show (dead = true → y.state = 3) ∧ (dead = false → y.state ≠ 3) from ⟨fun h => by rw [h] at hdead; simpa using hdead, fun h => by rw [h] at hdead; simpa using hdead⟩)
  have HWW := Lib.hid (show (waits = true → y.state = 2) ∧ (waits = false → y.state ≠ 2) from ⟨fun h => by rw [h] at hwaits; simpa using hwaits, fun h => by rw [h] at hwaits; simpa using hwaits⟩)
  clear hdead hwaits
  go_cut [47] (fun s wx => BvP s ((1 ≤ y.pid ∧ y.pid < m.next) ∧ (y.state = 1 ∨ y.state = 2 ∨ y.state = 3) ∧ y.reg 0 = 0) ∧ w1 = wx)
  case first =>
    as_aux_lemma =>
      have d1 := Bool.eq_false_or_eq_true (decide (y.pid < 1))
      have d2 := Bool.eq_false_or_eq_true (decide (m.next ≤ y.pid))
      have d3 := Bool.eq_false_or_eq_true (y.state != 1)
      clear p1 p93 p94 p95 m4
      rcases d1 with d1 | d1
      · clear d2 d3
        go_wp2_with fail
        go_meet
        exact ⟨BvP.yes, rfl⟩
      · rcases d2 with d2 | d2
        · clear d3
          go_wp2_with fail
          go_meet
          exact ⟨BvP.yes, rfl⟩
        · have HPid := Lib.hid (show 1 ≤ y.pid ∧ y.pid < m.next by have := of_decide_eq_false d1; have := of_decide_eq_false d2; omega)
          rcases d3 with d3 | d3
          · cases waits
            · cases dead
              · go_wp2_with fail
                go_meet
                exact ⟨BvP.yes, rfl⟩
              · go_wp2_with fail
                go_meet
                exact ⟨BvP.of fun h => ⟨HPid.out, .inr (.inr (HDD.out.1 (by first | rfl | trivial))), by simpa using h⟩, rfl⟩
            · go_wp2_with fail
              go_meet
              exact ⟨BvP.of fun h => ⟨HPid.out, .inr (.inl (HWW.out.1 (by first | rfl | trivial))), by simpa using h⟩, rfl⟩
          · have HS1 := Lib.hid (show y.state = 1 by simpa using d3)
            go_wp2_with fail
            go_meet
            exact ⟨BvP.of fun h => ⟨HPid.out, .inl HS1.out, by simpa using h⟩, rfl⟩
  case rest =>
    obtain ⟨⟨b47, rfl, hb47⟩, rfl⟩ := hcut
    have HB47 := Lib.hid hb47
    clear hb47
    cases b47 with
    | true =>
      go_wp2_with fail
      go_ret
      exact ⟨⟨false, rfl, fun h => by cases h⟩, xa⟩
    | false =>
      go_upto_region 5 with fail
      go_cut [60] (fun s wx => BvP s (LivesP d.pr y.parent ∨ (y.state ≠ 3 ∧ y.parent = 0)) ∧ Ext w1 wx)
      case first =>
        as_aux_lemma =>
          clear p0 p2 p3 p93 p94 p95 m6 m4
          go_wp2_with (first
            | (refine wp_ld_mac (.tmp 2) rfl rfl w.heap.size _ 38 rfl bm rfl ?_)
            | (go_at_call 96; refine (HL.out _ _ h1).mono ?_; rintro e w2 ⟨⟨b2, rfl, hb2⟩, x2⟩; have HB2 := Lib.hid hb2; clear hb2; have p1' := x2.keep p1; clear p1; rcases b2 with _ | _ <;> rcases dead with _ | _))
          · go_meet
            exact ⟨BvP.of fun h => .inr ⟨HDD.out.2 (by first | rfl | trivial), by simpa using h⟩, x2⟩
          · go_meet
            exact ⟨BvP.yes, x2⟩
          · go_meet
            exact ⟨BvP.of fun h => .inl (HB2.out (by first | rfl | trivial)), x2⟩
          · go_meet
            exact ⟨BvP.of fun h => .inl (HB2.out (by first | rfl | trivial)), x2⟩
      case rest =>
        obtain ⟨⟨b60, rfl, hb60⟩, x5⟩ := hcut
        have HB60 := Lib.hid hb60
        clear hb60
        clear p0 p1 p2 p3 p93 p94 p95 m6 m4
        obtain ⟨p0, p1, p2, p3, p93, p94, p95, m6, m4⟩ := CF.out _ x5
        cases b60 with
        | true =>
          go_wp2_with fail
          go_ret
          exact ⟨⟨false, rfl, fun h => by cases h⟩, xa.trans x5⟩
        | false =>
          go_upto_region 7 with fail
          go_cut [93] (fun s wx => BvP s (((y.state = 2 ∧ 1 ≤ y.why ∧ y.why ≤ 5) ∨ (y.state ≠ 2 ∧ y.why = 0 ∧ y.num = 0)) ∧ (y.state = 3 ∨ y.code = 0)) ∧ wc = wx)
          case first =>
            as_aux_lemma =>
              have d1 := Bool.eq_false_or_eq_true (y.why != 0)
              have d2 := Bool.eq_false_or_eq_true (decide (y.why < 0))
              have d3 := Bool.eq_false_or_eq_true (decide (5 < y.why))
              have d4 := Bool.eq_false_or_eq_true (y.num != 0)
              clear p0 p1 p2 p3 m6 m4
              cases waits
              · rcases d1 with d1 | d1
                · clear d2 d3 d4
                  go_wp2_with fail
                  go_meet
                  exact ⟨BvP.yes, rfl⟩
                · have HW0 := Lib.hid (show y.why = 0 by simpa using d1)
                  rcases d2 with d2 | d2
                  · clear d3 d4
                    go_wp2_with fail
                    go_meet
                    exact ⟨BvP.yes, rfl⟩
                  · rcases d3 with d3 | d3
                    · clear d4
                      go_wp2_with fail
                      go_meet
                      exact ⟨BvP.yes, rfl⟩
                    · rcases d4 with d4 | d4
                      · go_wp2_with fail
                        go_meet
                        exact ⟨BvP.yes, rfl⟩
                      · have HN0 := Lib.hid (show y.num = 0 by simpa using d4)
                        cases dead
                        · go_wp2_with fail
                          go_meet
                          exact ⟨BvP.of fun h => ⟨.inr ⟨HWW.out.2 (by first | rfl | trivial), HW0.out, HN0.out⟩, .inr (by simpa using h)⟩, rfl⟩
                        · go_wp2_with fail
                          go_meet
                          exact ⟨BvP.of fun h => ⟨.inr ⟨HWW.out.2 (by first | rfl | trivial), HW0.out, HN0.out⟩, .inl (HDD.out.1 (by first | rfl | trivial))⟩, rfl⟩
              · rcases d1 with d1 | d1
                · have HW0 := Lib.hid (show y.why ≠ 0 by simpa using d1)
                  rcases d2 with d2 | d2
                  · clear d3 d4
                    go_wp2_with fail
                    go_meet
                    exact ⟨BvP.yes, rfl⟩
                  · have HW1 := Lib.hid (of_decide_eq_false d2)
                    rcases d3 with d3 | d3
                    · clear d4
                      go_wp2_with fail
                      go_meet
                      exact ⟨BvP.yes, rfl⟩
                    · have HW2 := Lib.hid (of_decide_eq_false d3)
                      clear d4
                      have HWy := Lib.hid (show 1 ≤ y.why ∧ y.why ≤ 5 by have := HW0.out; have := HW1.out; have := HW2.out; omega)
                      cases dead
                      · go_wp2_with fail
                        go_meet
                        exact ⟨BvP.of fun h => ⟨.inl ⟨HWW.out.1 (by first | rfl | trivial), HWy.out⟩, .inr (by simpa using h)⟩, rfl⟩
                      · go_wp2_with fail
                        go_meet
                        exact ⟨BvP.of fun h => ⟨.inl ⟨HWW.out.1 (by first | rfl | trivial), HWy.out⟩, .inl (HDD.out.1 (by first | rfl | trivial))⟩, rfl⟩
                · clear d2 d3 d4
                  go_wp2_with fail
                  go_meet
                  exact ⟨BvP.yes, rfl⟩
          case rest =>
            obtain ⟨⟨b93, rfl, hb93⟩, rfl⟩ := hcut
            have HB93 := Lib.hid hb93
            clear hb93
            cases b93 with
            | true =>
              go_wp2_with fail
              go_ret
              exact ⟨⟨false, rfl, fun h => by cases h⟩, xa.trans x5⟩
            | false =>
              clear p0 p1 p2 p3 p93 p94 p95 m6 m4
              have bp5 := bp.ext x5
              go_wp2_with (refine wp_ld_space (.tmp 94) rfl rfl (w.heap.size + 1) 57 y rfl bp5 ?_)
              go_loopw [96] (fun i wx => ∃ j : Nat, j ≤ 16 ∧ i = .int .i64 j ∧ Ext w1 wx ∧ ∀ q < j, PageP m d y q) (fun i _ => 16 - (intOf i).toNat)
              case atStart => exact ⟨0, by omega, rfl, x5, fun q h => by omega⟩
              case round =>
                clear x5 bp5
                obtain ⟨j, hj, rfl, xj, hpg⟩ := hrel
                have HPG := Lib.hid hpg
                clear hpg
                by_cases hj2 : j < 16
                · have hji : (j : Int) < 16 := by omega
                  have HPN := Lib.hid (show PageP m d y j → ∀ q < j + 1, PageP m d y q from fun h q hq => by
                    by_cases e : q < j
                    · exact HPG.out q e
                    · obtain rfl : q = j := by omega
                      exact h)
                  unfold PageP at HPN
                  go_upto_region 12 with (refine wp_idx_pte (.tmp 95) (.tmp 96) rfl rfl y j rfl rfl hj2 ?_)
                  clear HPG
                  generalize y.pis j = ia at *
                  generalize y.pwr j = iw at *
                  generalize y.pfr j = ifr at *
                  have bq := Box.new wr 50 #[.bool ia, .bool iw, .int .i64 ifr]
                  have xq := xj.alloc (.cells #[.bool ia, .bool iw, .int .i64 ifr] 50)
                  generalize wr.alloc (.cells #[.bool ia, .bool iw, .int .i64 ifr] 50) = wq at *
                  have q0 := bq.cell 0
                  have q1 := bq.cell 1
                  have q2 := bq.cell 2
                  go_cut [9] (fun s wx => (∃ b, s = .bool b ∧ (b = true → ia = false ∧ iw = false ∧ ifr = 0)) ∧ wq = wx)
                  case first =>
                    as_aux_lemma =>
                      clear HPN
                      cases ia <;> cases iw <;> go_wp2_with fail
                      all_goals
                        go_meet
                        exact ⟨⟨_, rfl, fun h => by first | (cases h; done) | (refine ⟨?_, ?_, ?_⟩ <;> first | rfl | trivial | assumption | omega | (simpa using h))⟩, rfl⟩
                  case rest =>
                    obtain ⟨⟨b9, rfl, hb9⟩, rfl⟩ := hcut
                    have HB9 := Lib.hid hb9
                    clear hb9
                    have m4 := (CF.out _ xq).2.2.2.2.2.2.2.2
                    have bmq := bm.ext xq
                    have h2 := h1.ext xq
                    go_upto_region 13 with fail
                    go_cut [135] (fun s wx => BvP s ((ia = false ∧ iw = false ∧ ifr = 0) ∨ (ia = true ∧ y.state ≠ 3 ∧ 0 ≤ ifr ∧ ifr < (m.fr.n : Int) ∧ usersK d.pr ifr d.pr.length = 1)) ∧ Ext wq wx)
                    case first =>
                      as_aux_lemma =>
                        clear HPN
                        have dA := Bool.eq_false_or_eq_true (decide (ifr < 0))
                        have dB := Bool.eq_false_or_eq_true (decide ((m.fr.n : Int) ≤ ifr))
                        cases ia
                        · clear dA dB
                          cases b9
                          · go_wp2_with fail
                            go_meet
                            exact ⟨BvP.yes, Ext.refl _⟩
                          · go_wp2_with fail
                            go_meet
                            exact ⟨BvP.of fun h => .inl (HB9.out (by first | rfl | trivial)), Ext.refl _⟩
                        · cases dead
                          · rcases dA with dA | dA
                            · clear dB
                              go_wp2_with fail
                              go_meet
                              exact ⟨BvP.yes, Ext.refl _⟩
                            · have HA := Lib.hid (of_decide_eq_false dA)
                              rcases dB with dB | dB
                              · go_wp2_with fail
                                go_meet
                                exact ⟨BvP.yes, Ext.refl _⟩
                              · have HBb := Lib.hid (of_decide_eq_false dB)
                                go_wp2_with (first
                                  | (refine wp_ld_mac_g (.tmp 2) rfl rfl w.heap.size m 38 rfl bmq ?_)
                                  | (go_at_call 81; refine (HU.out _ _ h2).mono ?_; rintro e w2 ⟨rfl, x2⟩))
                                go_meet
                                exact ⟨BvP.of fun h => .inr ⟨by first | rfl | trivial, HDD.out.2 (by first | rfl | trivial), by have := HA.out; omega, by have := HBb.out; omega, by have h' : ((usersK d.pr ifr d.pr.length : Nat) : Int) = 1 := (by simpa using h); omega⟩, x2⟩
                          · clear dA dB
                            go_wp2_with fail
                            go_meet
                            exact ⟨BvP.yes, Ext.refl _⟩
                    case rest =>
                      obtain ⟨⟨b135, rfl, hb135⟩, x9⟩ := hcut
                      have HB135 := Lib.hid hb135
                      clear hb135
                      cases b135 with
                      | true =>
                        go_wp2_with fail
                        go_ret
                        exact ⟨⟨false, rfl, fun h => by cases h⟩, xa.trans (xq.trans x9)⟩
                      | false =>
                        go_wp2_with fail
                        go_roundw
                        case rel => exact ⟨j + 1, by omega, by go_num, xq.trans x9, HPN.out (HB135.out (by first | rfl | trivial))⟩
                        case measure => simp [intOf]; omega
                · have HJ16 := Lib.hid (show j = 16 by omega)
                  have hjn : ¬ (j : Int) < 16 := by omega
                  have bp5 := bp.ext xj
                  go_wp2_with (refine wp_ld_fds (.tmp 137) rfl rfl (w.heap.size + 1) 57 y rfl bp5 ?_)
                  go_loopw [139] (fun i wx => ∃ j : Nat, j ≤ 8 ∧ i = .int .i64 j ∧ Ext w1 wx ∧ ∀ q < j, FdP d.pi (y.fk q) (y.fn q) (y.fp q) ∧ (y.state = 3 → y.fk q = 0)) (fun i _ => 8 - (intOf i).toNat)
                  case atStart => exact ⟨0, by omega, rfl, xj, fun q h => by omega⟩
                  case round =>
                    clear xj bp5 hjn
                    obtain ⟨j2, hj, rfl, xj, hfd⟩ := hrel
                    have HFD := Lib.hid hfd
                    clear hfd
                    by_cases hj2 : j2 < 8
                    · have hji : (j2 : Int) < 8 := by omega
                      have HFN := Lib.hid (show (FdP d.pi (y.fk j2) (y.fn j2) (y.fp j2) ∧ (y.state = 3 → y.fk j2 = 0)) → ∀ q < j2 + 1, FdP d.pi (y.fk q) (y.fn q) (y.fp q) ∧ (y.state = 3 → y.fk q = 0) from fun h q hq => by
                        by_cases e : q < j2
                        · exact HFD.out q e
                        · obtain rfl : q = j2 := by omega
                          exact h)
                      go_upto_region 19 with (refine wp_idx_fd (.tmp 138) (.tmp 139) rfl rfl y j2 rfl rfl hj2 ?_)
                      clear HFD
                      obtain ⟨ik, hik⟩ : ∃ x, x = y.fk j2 := ⟨_, rfl⟩
                      obtain ⟨ifn, hifn⟩ : ∃ x, x = y.fn j2 := ⟨_, rfl⟩
                      obtain ⟨ifp, hifp⟩ : ∃ x, x = y.fp j2 := ⟨_, rfl⟩
                      have HFN2 := Lib.hid (fun (h : FdP d.pi ik ifn ifp ∧ (y.state = 3 → ik = 0)) => HFN.out (by rw [← hik, ← hifn, ← hifp]; exact h))
                      clear HFN
                      rw [← hik, ← hifn, ← hifp]
                      clear hik hifn hifp
                      have bq := Box.new wr 54 #[.int .i64 ik, .int .i64 ifn, .int .i64 ifp]
                      have xq := xj.alloc (.cells #[.int .i64 ik, .int .i64 ifn, .int .i64 ifp] 54)
                      generalize wr.alloc (.cells #[.int .i64 ik, .int .i64 ifn, .int .i64 ifp] 54) = wq at *
                      have q0 : wq.cell? ⟨wr.heap.size, 0, none⟩ = some (.int .i64 ik) := bq.cell 0
                      have q1 := bq.cell 1
                      have q2 := bq.cell 2
                      have bmq := bm.ext xq
                      have h2 := h1.ext xq
                      go_cut [153] (fun s wx => BvP s (FdP d.pi ik ifn ifp ∧ (y.state = 3 → ik = 0)) ∧ Ext wq wx)
                      case first =>
                        as_aux_lemma =>
                          clear HFN2
                          go_wp2_with (first
                            | (refine wp_ld_mac (.tmp 2) rfl rfl w.heap.size _ 38 rfl bmq rfl ?_)
                            | (go_at_call 97; refine (HF.out _ _ _ _ h2).mono ?_; rintro e w2 ⟨⟨b2, rfl, hb2⟩, x2⟩; have HB2 := Lib.hid hb2; clear hb2; have q0' := x2.keep q0; clear q0; rcases b2 with _ | _ <;> rcases dead with _ | _))
                          · go_meet
                            exact ⟨BvP.yes, x2⟩
                          · go_meet
                            exact ⟨BvP.yes, x2⟩
                          · go_meet
                            exact ⟨BvP.of fun h => ⟨HB2.out (by first | rfl | trivial), fun h3 => absurd h3 (HDD.out.2 (by first | rfl | trivial))⟩, x2⟩
                          · go_meet
                            exact ⟨BvP.of fun h => ⟨HB2.out (by first | rfl | trivial), fun _ => by simpa using h⟩, x2⟩
                      case rest =>
                        obtain ⟨⟨b153, rfl, hb153⟩, x9⟩ := hcut
                        have HB153 := Lib.hid hb153
                        clear hb153
                        cases b153 with
                        | true =>
                          go_wp2_with fail
                          go_ret
                          exact ⟨⟨false, rfl, fun h => by cases h⟩, xa.trans (xq.trans x9)⟩
                        | false =>
                          go_wp2_with fail
                          go_roundw
                          case rel => exact ⟨j2 + 1, by omega, by go_num, xq.trans x9, HFN2.out (HB153.out (by first | rfl | trivial))⟩
                          case measure => simp [intOf]; omega
                    · have hjn : ¬ (j2 : Int) < 8 := by omega
                      have HJ8 := Lib.hid (show j2 = 8 by omega)
                      go_wp2_with fail
                      go_ret
                      refine ⟨⟨true, rfl, fun _ => ?_⟩, xa.trans xj⟩
                      obtain ⟨a1, a2, a3⟩ := HB47.out (by first | rfl | trivial)
                      obtain ⟨c1, c2⟩ := HB93.out (by first | rfl | trivial)
                      exact ⟨a1, a2, a3, HB60.out (by first | rfl | trivial), c1, c2, fun q hq => HPG.out q (by rw [HJ16.out]; exact hq), fun q hq => HFD.out q (by rw [HJ8.out]; exact hq)⟩
end Go.Proofs.YtfaplefkakpgcaaGreatDoor
