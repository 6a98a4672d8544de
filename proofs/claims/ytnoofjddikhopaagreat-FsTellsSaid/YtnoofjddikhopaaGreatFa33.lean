/- The document's directories: the entries of bytes. -/
import Derived.Test.YtnoofjddikhopaaGreatFa21
import Derived.Test.YtnoofjddikhopaaGreatFa32
namespace Go.Proofs.YtnoofjddikhopaaGreat
set_option linter.unusedVariables false
set_option linter.unusedSimpArgs false
open Go.RowKit
theorem pieceE_ext (b : List UInt8) (k x y : Nat) (h : y ≤ 32) : (str b).extract (32 * k + x) (32 * k + y) = str (((pieceE b k).drop x).take (y - x)) := by
  rw [str_ext]
  unfold pieceE
  rw [List.drop_take, List.take_take, List.drop_drop]
  congr 2
  omega
set_option maxHeartbeats 4000000 in
set_option maxRecDepth 100000 in
theorem rof20_any (b : List UInt8) (w : World) (hb : b.length ≤ 8960) :
    Calls Tryz.prog 111 #[.string (str b)] w fun e w' => ∃ u, e = .returned (.tuple #[u, .bool (entriesP b).isSome]) ∧ Ext w w' ∧ ((entriesP b).isSome = true → OwnE w' w.heap.size u ((entriesP b).getD [])) := by
  have hz := str_size
  have own0 : OwnE (w.alloc (.cells #[] 79)) w.heap.size (.slice (some ⟨w.heap.size, 0, none⟩) 0 0) [] := World.ownsRow_lit w #[] 0 (Nat.le_refl _) (by unfold maxLen; omega) rfl
  have x0 : Ext w (w.alloc (.cells #[] 79)) := (Ext.refl w).alloc _
  by_cases hm : b.length % 32 = 0
  case neg =>
    have HN := Lib.hid (show entriesP b = none from by unfold entriesP; rw [if_neg hm])
    have hmi : ((b.length : Int) % 32 != 0) = true := by simp; omega
    clear own0
    go_enter Tryz.func111, Tryz.ntmps111
    go_wp2_with fail
    go_ret2
    rw [HN.out]
    exact ⟨_, rfl, x0, fun h => (by cases h)⟩
  have hmi : ((b.length : Int) % 32 != 0) = false := by simp; omega
  have HE := Lib.hid (show entriesP b = entsP b (b.length / 32) from by unfold entriesP; rw [if_pos hm])
  have HNone := Lib.hid (fun k (h : entsP b k = none) (hk : k ≤ b.length / 32) => entsP_none h _ hk)
  obtain ⟨N, hN⟩ : ∃ N, b.length / 32 = N := ⟨_, rfl⟩
  have hbN := Lib.hid (show b.length = 32 * N by omega)
  have hN280 : N ≤ 280 := by omega
  rw [hN] at HE HNone
  go_enter Tryz.func111, Tryz.ntmps111
  go_wp2_with fail
  clear hm hN hmi
  generalize w.alloc (.cells #[] 79) = w1 at *
  go_loopw [4, 5, 6, 7] (fun v t _ _ wr => ∃ (k : Nat) (l : List Ent), k ≤ N ∧ t = .int .i64 ((32 * k : Nat) : Int) ∧ Ext w wr ∧ entsP b k = some l ∧ OwnE wr w.heap.size v l) (fun _ t _ _ _ => 32 * N - (intOf t).toNat)
  case atStart => exact ⟨0, [], by omega, rfl, x0, rfl, own0⟩
  case round =>
    clear own0 x0
    obtain ⟨k, l, hk, rfl, hxr, hl, own⟩ := hrel
    have hxs := hxr.size
    have hbl := hbN.out
    by_cases hlt : k < N
    · have hpl : (pieceE b k).length = 32 := by simp [pieceE]; omega
      have HNo := Lib.hid (fun h => HNone.out (k + 1) (entsP_no hl h) (by omega))
      have HYes := Lib.hid (fun h1 h2 => entsP_yes hl h1 h2)
      have hll := entsP_len hl
      have HPE := Lib.hid (fun x y h => pieceE_ext b k x y h)
      have hgd0 : ∀ h : 32 * k + 2 < (str b).size, (str b)[32 * k + 2]'h = (pieceE b k).getD 2 0 := fun h => by
        unfold pieceE
        rw [List.getD_eq_getElem?_getD, List.getElem?_take, if_pos (by omega), List.getElem?_drop, List.getElem?_eq_getElem (by rw [str_size] at h; exact h)]
        rfl
      clear hl
      generalize pieceE b k = o at *
      obtain ⟨i0, hi0⟩ : ∃ i0, 32 * k = i0 := ⟨_, rfl⟩
      rw [hi0] at HPE hgd0 ⊢
      have HI0 := Lib.hid hi0
      have hi0l : i0 + 32 ≤ b.length := by omega
      have hi0i : (i0 : Int) < (b.length : Int) := by omega
      clear hi0 hbl
      have hlw : IntKind.i64.wrap ((o.getD 2 0).toNat : Int) = ((o.getD 2 0).toNat : Int) := by have := (o.getD 2 0).toNat_lt; rw [IntKind.wrap_i64]; omega
      have hlw2 : wrap64 ((o.getD 2 0).toNat : Int) = ((o.getD 2 0).toNat : Int) := by have := (o.getD 2 0).toNat_lt; unfold wrap64; omega
      have HOk : Hid (okE o = (decide ((o.getD 2 0).toNat ≤ 24) && decide (1 ≤ (entOf o).2) && decide ((entOf o).2 ≤ 64) && mayD (entOf o).1 && decide (entP (entOf o) = o))) := rfl
      have HEn : Hid (entOf o = ((o.drop 4).take (o.getD 2 0).toNat, (numL (o.take 2) : Int))) := rfl
      have hl256 := (o.getD 2 0).toNat_lt
      generalize o.getD 2 0 = ch at *
      obtain ⟨long, hlong⟩ : ∃ n, ch.toNat = n := ⟨_, rfl⟩
      rw [hlong] at hlw hlw2 hl256 HOk HEn
      have hix : ((i0 : Int) + 2).toNat = i0 + 2 := by omega
      have hib : (i0 : Int) + 2 < (b.length : Int) := by omega
      go_upto_region 8 with fail
      clear hlw hlw2 hix hib hgd0
      by_cases c0 : 24 < long
      · have HN := Lib.hid (HE.out.trans (HNo.out (.inl (by rw [HOk.out, show decide (long ≤ 24) = false by simp; omega]; simp))))
        have hx0 : (24 : Int) < (long : Int) := by omega
        go_wp2_with fail
        go_ret2
        rw [HN.out]
        exact ⟨_, rfl, hxr, fun h => (by cases h)⟩
      have hx0 : ¬ (24 : Int) < (long : Int) := by omega
      have hx00 : decide ((24 : Int) < (long : Int)) = false := by simp; omega
      have hl1 := List.length_take (i := long) (l := o.drop 4)
      have hl2 : (o.take 2).length = 2 := by simp; omega
      have hn1 := numL_lt (o.take 2)
      rw [hl2] at hn1
      have HG := Lib.hid (show ∀ w, Calls Tryz.prog 107 #[.string (str (o.take 2))] w fun e w' => e = .returned (.int .u64 ((numL (o.take 2) : Nat) : Int)) ∧ w = w' from fun w => by
        obtain ⟨p, q, hpq⟩ : ∃ p q, o.take 2 = [p, q] := by
          match hq : o.take 2, hl2 with
          | [p, q], _ => exact ⟨p, q, rfl⟩
        rw [hpq]
        have := rget2 p q w
        rw [show ((numL [p, q] : Nat) : Int) = (p.toNat : Int) + 256 * q.toNat by simp only [numL]; omega]
        exact this)
      have HX1 := Lib.hid (HPE.out 4 (4 + long) (by omega))
      rw [show 4 + long - 4 = long by omega] at HX1
      have HX2 := Lib.hid (HPE.out 0 2 (by omega))
      have HX3 := Lib.hid (HPE.out 0 32 (by omega))
      rw [List.drop_zero, Nat.sub_zero, Nat.add_zero] at HX2
      rw [List.drop_zero, Nat.sub_zero, List.take_of_length_le (by omega), Nat.add_zero] at HX3
      have hnl : ((o.drop 4).take long).length ≤ 24 := by rw [hl1]; omega
      have hi64 : numL (o.take 2) < 65536 := by simpa using hn1
      clear hl1 hn1 HPE
      generalize numL (o.take 2) = ino at *
      generalize (o.drop 4).take long = name at *
      generalize o.take 2 = o2 at *
      rw [HEn.out] at HNo HYes HOk
      simp only at HOk
      obtain ⟨i2, hi2⟩ : ∃ i2, i0 + 2 = i2 := ⟨_, rfl⟩
      obtain ⟨i4, hi4⟩ : ∃ i4, i0 + 4 = i4 := ⟨_, rfl⟩
      obtain ⟨i5, hi5⟩ : ∃ i5, i0 + (4 + long) = i5 := ⟨_, rfl⟩
      obtain ⟨i6, hi6⟩ : ∃ i6, i0 + 32 = i6 := ⟨_, rfl⟩
      rw [hi2] at HX2
      rw [hi4, hi5] at HX1
      rw [hi6] at HX3
      have wi2 : IntKind.i64.wrap ((i0 : Int) + 2) = (i2 : Int) := by rw [IntKind.wrap_i64]; omega
      have wi4 : IntKind.i64.wrap ((i0 : Int) + 4) = (i4 : Int) := by rw [IntKind.wrap_i64]; omega
      have wi5 : IntKind.i64.wrap ((i4 : Int) + (long : Int)) = (i5 : Int) := by rw [IntKind.wrap_i64]; omega
      have wi6 : IntKind.i64.wrap ((i0 : Int) + 32) = (i6 : Int) := by rw [IntKind.wrap_i64]; omega
      have hi02 : (i0 : Int) ≤ (i2 : Int) ∧ (i2 : Int) ≤ (b.length : Int) := by omega
      have hi45 : (i4 : Int) ≤ (i5 : Int) ∧ (i5 : Int) ≤ (b.length : Int) := by omega
      have hi60 : (i0 : Int) ≤ (i6 : Int) ∧ (i6 : Int) ≤ (b.length : Int) := by omega
      have hi24 : (i0 : Int) ≤ (i4 : Int) := by omega
      have hi50 : True := trivial
      have hin0 : (0 : Int) ≤ (ino : Int) := Int.natCast_nonneg _
      have HL1 := Lib.hid (show ino < 1 → decide ((ino : Int) < 1) = true ∧ decide (1 ≤ (ino : Int)) = false from fun h => ⟨decide_eq_true (by omega), decide_eq_false (by omega)⟩)
      have HL2 := Lib.hid (show ¬ ino < 1 → decide ((ino : Int) < 1) = false ∧ decide (1 ≤ (ino : Int)) = true from fun h => ⟨decide_eq_false (by omega), decide_eq_true (by omega)⟩)
      have HL3 := Lib.hid (show 64 < ino → decide ((64 : Int) < (ino : Int)) = true ∧ decide ((ino : Int) ≤ 64) = false from fun h => ⟨decide_eq_true (by omega), decide_eq_false (by omega)⟩)
      have HL4 := Lib.hid (show ¬ 64 < ino → decide ((64 : Int) < (ino : Int)) = false ∧ decide ((ino : Int) ≤ 64) = true from fun h => ⟨decide_eq_false (by omega), decide_eq_true (by omega)⟩)
      have HL5 := Lib.hid (show decide (long ≤ 24) = true from decide_eq_true (by omega))
      have hnl9 : name.length ≤ 1000000000 := by omega
      have hin1 : (ino : Int) < 65536 := by omega
      have wb : IntKind.i64.wrap (ino : Int) = (ino : Int) := by rw [IntKind.wrap_i64]; omega
      have wb2 : wrap64 (ino : Int) = (ino : Int) := by unfold wrap64; omega
      clear hl2
      go_upto_region 10 with fail
      clear hi2 hi4 hi5 hi6
      have hi2 : True := trivial
      have hi4 : True := trivial
      have hi5 : True := trivial
      have hi6 : True := trivial
      refine wp_region_web' 17 [[], [], [], [2], [0, 1, 3], [4], [5], [], [], [8], [], [10], [], [11, 12], [7, 9, 13], [6, 14], []] (listV [isV (.string (str (b))), isV (.int .i64 ((i0 : Int))), isV (.int .i64 ((i0 : Int))), isV (.int .i64 ((i2 : Int))), isV (.string (str (o2))), isV (.int .u64 (ino : Int)), isV (.int .i64 ((ino : Int))), isV (.string (str (b))), isV (.int .i64 ((i0 : Int))), isV (.int .i64 ((i4 : Int))), isV (.int .i64 ((i0 : Int))), isV (.int .i64 ((i4 : Int))), isV (.int .i64 ((long : Int))), isV (.int .i64 ((i5 : Int))), isV (.string (str (name))), isV (.agg #[.string (str name), .int .i64 (ino : Int)]), newV wr.heap.size 79 #[.string ⟨#[]⟩, .int .i64 0]]) (by kernel_rfl) (by kernel_rfl) (listV_ext (fun p hp => by simp only [List.mem_cons, List.not_mem_nil, or_false] at hp; rcases hp with rfl | rfl | rfl | rfl | rfl | rfl | rfl | rfl | rfl | rfl | rfl | rfl | rfl | rfl | rfl | rfl | rfl <;> first | exact lasts_is _ | exact lasts_new _ _ _)) (fun us => ?_)
      simp only [List.take_succ_cons, List.take_zero, List.drop_succ_cons, List.drop_zero]
      rw [webWalk]
      refine And.intro (fun w' hx hd => ?_) ?_
      · clear hd
        refine web_of_list 28 rfl (by simp) rfl ?_
        go_wp2_with fail
        exact ⟨Ext.refl _, rfl⟩
      simp only [Act.put, List.setIfInBounds_toArray, List.set_cons_zero, List.set_cons_succ]
      rw [webWalk]
      refine And.intro (fun w' hx hd => ?_) ?_
      · clear hd
        refine web_of_list 29 rfl (by simp [Act.put]) rfl ?_
        go_wp2_with fail
        exact ⟨Ext.refl _, rfl⟩
      simp only [Act.put, List.setIfInBounds_toArray, List.set_cons_zero, List.set_cons_succ]
      rw [webWalk]
      refine And.intro (fun w' hx hd => ?_) ?_
      · clear hd
        refine web_of_list 30 rfl (by simp [Act.put]) rfl ?_
        go_wp2_with fail
        exact ⟨Ext.refl _, rfl⟩
      simp only [Act.put, List.setIfInBounds_toArray, List.set_cons_zero, List.set_cons_succ]
      rw [webWalk]
      refine And.intro (fun w' hx hd => ?_) ?_
      · have h2 := hd 2 (by simp)
        clear hd
        generalize us 2 = u2 at *
        obtain rfl : u2 = .int .i64 (i0 : Int) := h2
        refine web_of_list 31 rfl (by simp [Act.put]) rfl ?_
        go_wp2_with fail
        exact ⟨Ext.refl _, rfl⟩
      simp only [Act.put, List.setIfInBounds_toArray, List.set_cons_zero, List.set_cons_succ]
      rw [webWalk]
      refine And.intro (fun w' hx hd => ?_) ?_
      · have h0 := hd 0 (by simp)
        have h1 := hd 1 (by simp)
        have h3 := hd 3 (by simp)
        clear hd
        generalize us 0 = u0 at *
        generalize us 1 = u1 at *
        generalize us 3 = u3 at *
        obtain rfl : u0 = .string (str (b)) := h0
        obtain rfl : u1 = .int .i64 (i0 : Int) := h1
        obtain rfl : u3 = .int .i64 (i2 : Int) := h3
        have hx2 := HX2.out
        refine web_of_list 32 rfl (by simp [Act.put]) rfl ?_
        go_wp2_with fail
        exact ⟨Ext.refl _, rfl⟩
      simp only [Act.put, List.setIfInBounds_toArray, List.set_cons_zero, List.set_cons_succ]
      rw [webWalk]
      refine And.intro (fun w' hx hd => ?_) ?_
      · have h4 := hd 4 (by simp)
        clear hd
        generalize us 4 = u4 at *
        obtain rfl : u4 = .string (str (o2)) := h4
        refine web_of_list 33 rfl (by simp [Act.put]) rfl ?_
        go_wp2_with (go_at_call 107; refine (HG.out _).mono ?_; rintro e w2 ⟨rfl, rfl⟩)
        exact ⟨Ext.refl _, rfl⟩
      simp only [Act.put, List.setIfInBounds_toArray, List.set_cons_zero, List.set_cons_succ]
      rw [webWalk]
      refine And.intro (fun w' hx hd => ?_) ?_
      · have h5 := hd 5 (by simp)
        clear hd
        generalize us 5 = u5 at *
        obtain rfl : u5 = .int .u64 (ino : Int) := h5
        refine web_of_list 34 rfl (by simp [Act.put]) rfl ?_
        go_wp2_with fail
        exact ⟨Ext.refl _, rfl⟩
      simp only [Act.put, List.setIfInBounds_toArray, List.set_cons_zero, List.set_cons_succ]
      rw [webWalk]
      refine And.intro (fun w' hx hd => ?_) ?_
      · clear hd
        refine web_of_list 35 rfl (by simp [Act.put]) rfl ?_
        go_wp2_with fail
        exact ⟨Ext.refl _, rfl⟩
      simp only [Act.put, List.setIfInBounds_toArray, List.set_cons_zero, List.set_cons_succ]
      rw [webWalk]
      refine And.intro (fun w' hx hd => ?_) ?_
      · clear hd
        refine web_of_list 36 rfl (by simp [Act.put]) rfl ?_
        go_wp2_with fail
        exact ⟨Ext.refl _, rfl⟩
      simp only [Act.put, List.setIfInBounds_toArray, List.set_cons_zero, List.set_cons_succ]
      rw [webWalk]
      refine And.intro (fun w' hx hd => ?_) ?_
      · have h8 := hd 8 (by simp)
        clear hd
        generalize us 8 = u8 at *
        obtain rfl : u8 = .int .i64 (i0 : Int) := h8
        refine web_of_list 37 rfl (by simp [Act.put]) rfl ?_
        go_wp2_with fail
        exact ⟨Ext.refl _, rfl⟩
      simp only [Act.put, List.setIfInBounds_toArray, List.set_cons_zero, List.set_cons_succ]
      rw [webWalk]
      refine And.intro (fun w' hx hd => ?_) ?_
      · clear hd
        refine web_of_list 38 rfl (by simp [Act.put]) rfl ?_
        go_wp2_with fail
        exact ⟨Ext.refl _, rfl⟩
      simp only [Act.put, List.setIfInBounds_toArray, List.set_cons_zero, List.set_cons_succ]
      rw [webWalk]
      refine And.intro (fun w' hx hd => ?_) ?_
      · have h10 := hd 10 (by simp)
        clear hd
        generalize us 10 = u10 at *
        obtain rfl : u10 = .int .i64 (i0 : Int) := h10
        refine web_of_list 39 rfl (by simp [Act.put]) rfl ?_
        go_wp2_with fail
        exact ⟨Ext.refl _, rfl⟩
      simp only [Act.put, List.setIfInBounds_toArray, List.set_cons_zero, List.set_cons_succ]
      rw [webWalk]
      refine And.intro (fun w' hx hd => ?_) ?_
      · clear hd
        refine web_of_list 40 rfl (by simp [Act.put]) rfl ?_
        go_wp2_with fail
        exact ⟨Ext.refl _, rfl⟩
      simp only [Act.put, List.setIfInBounds_toArray, List.set_cons_zero, List.set_cons_succ]
      rw [webWalk]
      refine And.intro (fun w' hx hd => ?_) ?_
      · have h11 := hd 11 (by simp)
        have h12 := hd 12 (by simp)
        clear hd
        generalize us 11 = u11 at *
        generalize us 12 = u12 at *
        obtain rfl : u11 = .int .i64 (i4 : Int) := h11
        obtain rfl : u12 = .int .i64 (long : Int) := h12
        refine web_of_list 41 rfl (by simp [Act.put]) rfl ?_
        go_wp2_with fail
        exact ⟨Ext.refl _, rfl⟩
      simp only [Act.put, List.setIfInBounds_toArray, List.set_cons_zero, List.set_cons_succ]
      rw [webWalk]
      refine And.intro (fun w' hx hd => ?_) ?_
      · have h7 := hd 7 (by simp)
        have h9 := hd 9 (by simp)
        have h13 := hd 13 (by simp)
        clear hd
        generalize us 7 = u7 at *
        generalize us 9 = u9 at *
        generalize us 13 = u13 at *
        obtain rfl : u7 = .string (str (b)) := h7
        obtain rfl : u9 = .int .i64 (i4 : Int) := h9
        obtain rfl : u13 = .int .i64 (i5 : Int) := h13
        have hx1 := HX1.out
        refine web_of_list 42 rfl (by simp [Act.put]) rfl ?_
        go_wp2_with fail
        exact ⟨Ext.refl _, rfl⟩
      simp only [Act.put, List.setIfInBounds_toArray, List.set_cons_zero, List.set_cons_succ]
      rw [webWalk]
      refine And.intro (fun w' hx hd => ?_) ?_
      · have h6 := hd 6 (by simp)
        have h14 := hd 14 (by simp)
        clear hd
        generalize us 6 = u6 at *
        generalize us 14 = u14 at *
        obtain rfl : u6 = .int .i64 (ino : Int) := h6
        obtain rfl : u14 = .string (str (name)) := h14
        refine web_of_list 43 rfl (by simp [Act.put]) rfl ?_
        go_wp2_with fail
        exact ⟨Ext.refl _, rfl⟩
      simp only [Act.put, List.setIfInBounds_toArray, List.set_cons_zero, List.set_cons_succ]
      rw [webWalk]
      refine And.intro (fun w' hx hd => ?_) ?_
      · clear hd
        refine web_of_list 7 rfl (by simp [Act.put]) rfl ?_
        go_wp2_with fail
        exact ⟨(Ext.refl w').alloc _, _, rfl, hx.size, Box.new _ _ _⟩
      simp only [Act.put, List.setIfInBounds_toArray, List.set_cons_zero, List.set_cons_succ]
      rw [webWalk]
      intro w' hx hv
      have h15 := hv 15 (by omega)
      have h16 := hv 16 (by omega)
      clear hv
      generalize us 0 = u0 at *
      generalize us 1 = u1 at *
      generalize us 2 = u2 at *
      generalize us 3 = u3 at *
      generalize us 4 = u4 at *
      generalize us 5 = u5 at *
      generalize us 6 = u6 at *
      generalize us 7 = u7 at *
      generalize us 8 = u8 at *
      generalize us 9 = u9 at *
      generalize us 10 = u10 at *
      generalize us 11 = u11 at *
      generalize us 12 = u12 at *
      generalize us 13 = u13 at *
      generalize us 14 = u14 at *
      generalize us 15 = u15 at *
      generalize us 16 = u16 at *
      obtain rfl : u15 = .agg #[.string (str name), .int .i64 (ino : Int)] := h15
      obtain ⟨g, rfl, hg, bg⟩ := h16
      have HW := Lib.hid hx
      clear hx
      go_upto_region 11 with (refine wp_st_ent (.tmp 7) (.tmp 43) rfl rfl g (str name) (ino : Int) _ 79 rfl rfl bg rfl ?_; intro W2 bx g2)
      simp only [Act.put]
      have xr : Ext wr W2 := HW.out.grown g2 (fun j e => by cases e; exact hg)
      have hx := hxr
      clear bg wi2 wi4 wi5 hx0 hx00 hi50 hi2 hi4 hi5 hg HG
      have HB := Lib.hid bx
      have k0 : ∀ y : Later W2, y.now.cell? ⟨g, 0, none⟩ = some (.string (str name)) := fun y => y.ext.keep (bx.cell 0)
      have k1 : ∀ y : Later W2, y.now.cell? ⟨g, 1, none⟩ = some (.int .i64 (ino : Int)) := fun y => y.ext.keep (bx.cell 1)
      clear bx
      have HM := Lib.hid (fun w => rmay20_any name w hnl9)
      have HEt2 := Lib.hid (fun w => show Calls Tryz.prog 131 #[.agg #[.string (str name), .int .i64 (ino : Int)]] w fun e w' => e = .returned (.string (str (entP (name, (ino : Int))))) ∧ Ext w w' from rone_any (name, (ino : Int)) w hnl hin0 hin1)
      cases c3 : mayD name with
      | false =>
        have HN := Lib.hid (HE.out.trans (HNo.out (.inl (by rw [HOk.out, c3]; simp))))
        rw [c3] at HM
        clear c3
        refine wp_region_later (by kernel_rfl) (by kernel_rfl) ?_
        repeat (go_big_quiet_step ((first | (with_reducible exact later_of_same (HM.out _)) | (with_reducible exact later_of (HEt2.out _)))))
        refine wpQuiet_nil ?_
        rintro w3 ⟨y, rfl⟩
        go_wp2_with fail
        go_ret2
        rw [HN.out]
        exact ⟨_, rfl, (hx.trans xr).trans y.ext, fun h => (by cases h)⟩
      | true =>
      rw [c3] at HM
      by_cases c1 : ino < 1
      · have HN := Lib.hid (HE.out.trans (HNo.out (.inl (by rw [HOk.out, (HL1.out c1).2]; simp))))
        have hx1 := (HL1.out c1).1
        clear c3
        refine wp_region_later (by kernel_rfl) (by kernel_rfl) ?_
        repeat (go_big_quiet_step ((first | (with_reducible exact later_of_same (HM.out _)) | (with_reducible exact later_of (HEt2.out _)))))
        refine wpQuiet_nil ?_
        rintro w3 ⟨y, rfl⟩
        go_wp2_with fail
        go_ret2
        rw [HN.out]
        exact ⟨_, rfl, (hx.trans xr).trans y.ext, fun h => (by cases h)⟩
      have hx1 := (HL2.out c1).1
      by_cases c2 : 64 < ino
      · have HN := Lib.hid (HE.out.trans (HNo.out (.inl (by rw [HOk.out, (HL3.out c2).2]; simp))))
        have hx2 := (HL3.out c2).1
        clear c3
        refine wp_region_later (by kernel_rfl) (by kernel_rfl) ?_
        repeat (go_big_quiet_step ((first | (with_reducible exact later_of_same (HM.out _)) | (with_reducible exact later_of (HEt2.out _)))))
        refine wpQuiet_nil ?_
        rintro w3 ⟨y, rfl⟩
        go_wp2_with fail
        go_ret2
        rw [HN.out]
        exact ⟨_, rfl, (hx.trans xr).trans y.ext, fun h => (by cases h)⟩
      have hx2 := (HL4.out c2).1
      by_cases c4 : entP (name, (ino : Int)) = o
      case neg =>
        have HN := Lib.hid (HE.out.trans (HNo.out (.inl (by rw [HOk.out, show decide (entP (name, (ino : Int)) = o) = false by simpa using c4]; simp))))
        have d4 : ((str (entP (name, (ino : Int)))).toList == (str o).toList) = false := by rw [str_toList, str_toList]; simpa using c4
        have d5 : ¬ (str (entP (name, (ino : Int)))).toList = (str o).toList := by rw [str_toList, str_toList]; exact c4
        have d6 : ((str (entP (name, (ino : Int)))).toList != (str o).toList) = true := by rw [str_toList, str_toList]; simpa using c4
        have hx3 := HX3.out
        clear c3 c4
        generalize entP (name, (ino : Int)) = eo at *
        refine wp_region_later (by kernel_rfl) (by kernel_rfl) ?_
        repeat (go_big_quiet_step ((first | (with_reducible exact later_of_same (HM.out _)) | (with_reducible exact later_of (HEt2.out _)))))
        refine wpQuiet_nil ?_
        rintro w3 ⟨y, rfl⟩
        go_wp2_with fail
        go_ret2
        rw [HN.out]
        exact ⟨_, rfl, (hx.trans xr).trans y.ext, fun h => (by cases h)⟩
      have hok : okE o = true := by rw [HOk.out, c3, HL5.out, (HL2.out c1).2, (HL4.out c2).2, decide_eq_true c4]; rfl
      have HYes2 := Lib.hid (HYes.out hok)
      have d4 : ((str (entP (name, (ino : Int)))).toList == (str o).toList) = true := by rw [c4]; simp
      have d5 : (str (entP (name, (ino : Int)))).toList = (str o).toList := by rw [c4]
      have d6 : ((str (entP (name, (ino : Int)))).toList != (str o).toList) = false := by rw [c4]; simp
      have hx3 := HX3.out
      clear c3 HYes hok
      have HC4 := Lib.hid c4
      clear c4
      generalize entP (name, (ino : Int)) = eo at *
      refine wp_region_later (by kernel_rfl) (by kernel_rfl) ?_
      repeat (go_big_quiet_step ((first | (with_reducible exact later_of_same (HM.out _)) | (with_reducible exact later_of (HEt2.out _)))))
      refine wpQuiet_nil ?_
      rintro w3 ⟨y, rfl⟩
      clear k0 k1
      have xr4 := xr.trans y.ext
      have bx4 := HB.out.ext y.ext
      generalize y.now = w4 at *
      go_upto_region 13 with fail
      clear HB xr HM HEt2 d4 d5 d6 HC4 HOk HEn hx3 hi6 hi60 HX3 wi6 hi64 hin0 hin1 HL1 HL2 HL3 HL4 HL5 hnl hnl9 c1 c2 c0 hl256 wb wb2 hpl
      have own4 := OwnE.ext own xr4
      obtain ⟨A4, cap4, rfl, at4⟩ := own4.form
      rw [hll] at at4 ⊢
      go_cut [83] (fun s wx => s = .bool (!(lessE l (name, (ino : Int)))) ∧ Ext w4 wx)
      case first =>
        have k0 : ∀ y : Later w4, y.now.cell? ⟨g, 0, none⟩ = some (.string (str name)) := fun y => y.ext.keep (bx4.cell 0)
        clear HYes2 HNo HNone HE HX1 HX2 own own4 bx4 xr4 hi02 hi24 hi45
        cases k with
        | zero =>
          obtain rfl := List.eq_nil_of_length_eq_zero hll
          have HV := Lib.hid (show lessE [] (name, (ino : Int)) = true from rfl)
          refine wp_region_later (by kernel_rfl) (by kernel_rfl) ?_
          repeat (go_big_quiet_step (fail))
          refine wpQuiet_nil ?_
          rintro w5 ⟨y, rfl⟩
          go_wp2_with fail
          go_meet
          exact ⟨by rw [HV.out]; rfl, y.ext⟩
        | succ q =>
          obtain ⟨bb, oo, rfl, hcell⟩ := at4.2 (by omega)
          have hq := (hcell q (by omega)).1
          have HV := Lib.hid (lessE_last (name, (ino : Int)) hll)
          simp only at HV
          clear hcell at4
          have k1 : ∀ y : Later w4, y.now.cell? ⟨bb, oo + q * 2, none⟩ = some (.string (str (l[q]'(by omega)).1)) := fun y => y.ext.keep hq
          clear hq
          generalize (l[q]'(by omega)).1 = last at *
          have t1 : IntKind.i64.wrap (((q + 1 : Nat) : Int) - 1) = (q : Int) := by rw [IntKind.wrap_i64]; omega
          have t2 : decide ((0 : Int) < ((q + 1 : Nat) : Int)) = true := decide_eq_true (by omega)
          have t3 : (q : Int) < ((q + 1 : Nat) : Int) := by omega
          cases hl : ltB last name with
          | false =>
            have HV2 := Lib.hid (HV.out.trans hl)
            have hl' : Op.bytesLess (str last).toList (str name).toList = false := by rw [str_toList, str_toList]; exact hl
            clear hl HV
            refine wp_region_later (by kernel_rfl) (by kernel_rfl) ?_
            repeat (go_big_quiet_step (fail))
            refine wpQuiet_nil ?_
            rintro w5 ⟨y, rfl⟩
            go_wp2_with fail
            go_meet
            exact ⟨by rw [HV2.out]; rfl, y.ext⟩
          | true =>
            have HV2 := Lib.hid (HV.out.trans hl)
            have hl' : Op.bytesLess (str last).toList (str name).toList = true := by rw [str_toList, str_toList]; exact hl
            clear hl HV
            refine wp_region_later (by kernel_rfl) (by kernel_rfl) ?_
            repeat (go_big_quiet_step (fail))
            refine wpQuiet_nil ?_
            rintro w5 ⟨y, rfl⟩
            go_wp2_with fail
            go_meet
            exact ⟨by rw [HV2.out]; rfl, y.ext⟩
      case rest =>
        obtain ⟨rfl, hxc⟩ := hcut
        cases hv : lessE l (name, (ino : Int)) with
        | false =>
          have HN := Lib.hid (HE.out.trans (HNo.out (.inr hv)))
          clear hv HYes2 HNo HNone HE
          go_wp2_with fail
          go_ret2
          rw [HN.out]
          exact ⟨_, rfl, hx.trans (xr4.trans hxc), fun h => (by cases h)⟩
        | true =>
          have HN := Lib.hid (HYes2.out hv)
          have bx5 := bx4.ext hxc
          have own5 := OwnE.ext own4 hxc
          have xr5 := xr4.trans hxc
          clear hv HYes2 HNo HNone HE own own4 at4 bx4 xr4 hxc HX1 HX2 hlong hi02 hi24 hi45
          unfold OwnE at own5
          rw [hll] at own5
          go_wp2_with (first
            | (refine wp_ld_ent (.tmp 7) rfl rfl g _ 79 rfl bx5 rfl ?_)
            | (refine wp_app_ent (y := (name, (ino : Int))) rfl (.tmp 85) (.tmp 87) rfl rfl rfl (own_ext own5 ((Ext.refl wc).alloc _)) (Box.new _ _ _) (by omega) (by simp; have := xr5.size; omega) ?_; intro u' w6 own6 hg6))
          have hlo := Lib.hid (show ∀ j, (Value.slice A4 k cap4).ownBlock = some j → w.heap.size ≤ j from fun j e => own_low own5 e)
          have x6 : Ext w w6 := ((hx.trans xr5).alloc _).grown hg6 (fun j e => hlo.out j e)
          go_roundw
          case rel => exact ⟨k + 1, l ++ [(name, (ino : Int))], by omega, by have := HI0.out; go_num, x6, HN.out, OwnE.snoc own6 hll.symm⟩
          case measure => have := HI0.out; simp [intOf]; omega
    · obtain rfl : k = N := by omega
      have HN := Lib.hid (HE.out.trans hl)
      have hnl : ¬ ((32 * k : Nat) : Int) < (b.length : Int) := by omega
      clear hl HE HNone hbl
      go_wp2_with fail
      go_ret2
      rw [HN.out]
      exact ⟨_, rfl, hxr, fun _ => own⟩
end Go.Proofs.YtnoofjddikhopaaGreat
