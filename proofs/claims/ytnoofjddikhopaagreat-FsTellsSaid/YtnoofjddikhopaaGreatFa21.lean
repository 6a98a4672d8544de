/- The walk of dir.entries. -/
import Derived.Test.YtnoofjddikhopaaGreatFa19
import Derived.Test.YtnoofjddikhopaaGreatFa20
import Derived.Test.YtnoofjddikhopaaGreatFa5
namespace Go.Proofs.YtnoofjddikhopaaGreat
set_option linter.unusedVariables false
set_option linter.unusedSimpArgs false
open Go.RowKit
/-- a new block with these cells -/
def newV (B : Nat) (t : TypeId) (cs : Array Value) : World → Value → Prop := fun w u => ∃ g, u = .pointer (some ⟨g, 0, none⟩) ∧ B ≤ g ∧ Box w g t cs
theorem lasts_new (B : Nat) (t : TypeId) (cs : Array Value) : Lasts (newV B t cs) := fun _ _ _ hx ⟨g, e, h, hb⟩ => ⟨g, e, h, hb.ext hx⟩
theorem lessE_last {l : List Ent} (x : Ent) {k : Nat} (h : l.length = k + 1) : lessE l x = ltB (l[k]'(by omega)).1 x.1 := by
  unfold lessE
  rw [List.getLast?_eq_getElem?, show l.length - 1 = k by omega, List.getElem?_eq_getElem (by omega)]
set_option maxHeartbeats 4000000 in
set_option maxRecDepth 100000 in
theorem dentries_any (b : List UInt8) (w : World) (hb : b.length ≤ 8960) :
    Calls Tryz.prog 79 #[.string (str b)] w fun e w' => ∃ u, e = .returned (.tuple #[u, .bool (entriesP b).isSome]) ∧ Ext w w' ∧ OwnE w' w.heap.size u ((entriesP b).getD []) := by
  have hz := str_size
  by_cases hm : b.length % 32 = 0
  case neg =>
    have HN := Lib.hid (show entriesP b = none from by unfold entriesP; rw [if_neg hm])
    have hmi : ((b.length : Int) % 32 != 0) = true := by simp; omega
    go_enter Tryz.func79, Tryz.ntmps79
    go_wp2_with fail
    go_ret2
    rw [HN.out]
    exact ⟨_, rfl, Ext.refl _, OwnE.nil _ _⟩
  have hmi : ((b.length : Int) % 32 != 0) = false := by simp; omega
  have HE := Lib.hid (show entriesP b = entsP b (b.length / 32) from by unfold entriesP; rw [if_pos hm])
  have HNone := Lib.hid (fun k (h : entsP b k = none) (hk : k ≤ b.length / 32) => entsP_none h _ hk)
  obtain ⟨N, hN⟩ : ∃ N, b.length / 32 = N := ⟨_, rfl⟩
  have hbN : b.length = 32 * N := by omega
  have hN280 : N ≤ 280 := by omega
  rw [hN] at HE HNone
  go_enter Tryz.func79, Tryz.ntmps79
  go_wp2_with fail
  clear hm hN
  go_loopw [0, 4, 5, 6, 7] (fun r v _ _ _ wr => ∃ (k : Nat) (l : List Ent), k ≤ N ∧ r = .string (str (b.drop (32 * k))) ∧ Ext w wr ∧ entsP b k = some l ∧ OwnE wr w.heap.size v l) (fun r _ _ _ _ _ => (match r with | .string s => s.size | _ => 0))
  case atStart => exact ⟨0, [], by omega, by simp, Ext.refl _, rfl, OwnE.nil _ _⟩
  case round =>
    obtain ⟨k, l, hk, rfl, hx, hl, own⟩ := hrel
    have hxs := hx.size
    by_cases hlt : k < N
    · have hrl : (b.drop (32 * k)).length = b.length - 32 * k := by simp
      have hpl : (pieceE b k).length = 32 := by simp [pieceE]; omega
      have hne : (str (b.drop (32 * k))).toList.isEmpty = false := by rw [str_toList, List.isEmpty_eq_false_iff]; intro e; rw [e] at hrl; simp at hrl; omega
      have hpc : (str (b.drop (32 * k))).extract 0 32 = str (pieceE b k) := by rw [str_ext]; rfl
      have HNo := Lib.hid (fun h => HNone.out (k + 1) (entsP_no hl h) (by omega))
      have HYes := Lib.hid (fun h1 h2 => entsP_yes hl h1 h2)
      have hdr : (str (b.drop (32 * k))).extract 32 (str (b.drop (32 * k))).size = str (b.drop (32 * (k + 1))) := by
        rw [str_ext, List.drop_drop, str_size, show 32 * k + 32 = 32 * (k + 1) by omega, List.take_of_length_le (by simp; omega)]
      have hll := entsP_len hl
      clear hl
      generalize pieceE b k = o at *
      generalize b.drop (32 * k) = rest at *
      have hrl2 : 32 ≤ rest.length := by omega
      have hsz : (str rest).size = rest.length := str_size _
      have hop : (str o).size = 32 := by rw [str_size, hpl]
      have hgd : ∀ h : 2 < (str o).size, (str o)[2]'h = o.getD 2 0 := fun h => by rw [List.getD_eq_getElem?_getD, List.getElem?_eq_getElem (by omega)]; rfl
      have hlw : IntKind.i64.wrap ((o.getD 2 0).toNat : Int) = ((o.getD 2 0).toNat : Int) := by have := (o.getD 2 0).toNat_lt; rw [IntKind.wrap_i64]; omega
      have hlw2 : wrap64 ((o.getD 2 0).toNat : Int) = ((o.getD 2 0).toNat : Int) := by have := (o.getD 2 0).toNat_lt; unfold wrap64; omega
      have hl256 := (o.getD 2 0).toNat_lt
      have HOk : Hid (okE o = (decide ((o.getD 2 0).toNat ≤ 24) && decide (1 ≤ (entOf o).2) && decide ((entOf o).2 ≤ 64) && mayD (entOf o).1 && decide (entP (entOf o) = o))) := rfl
      have HEn : Hid (entOf o = ((o.drop 4).take (o.getD 2 0).toNat, (numL (o.take 2) : Int))) := rfl
      generalize o.getD 2 0 = ch at *
      obtain ⟨long, hlong⟩ : ∃ n, ch.toNat = n := ⟨_, rfl⟩
      rw [hlong] at hlw hlw2 hl256 HOk HEn
      go_upto_region 8 with fail
      clear hlw hlw2
      by_cases c0 : 24 < long
      · have HN := Lib.hid (HE.out.trans (HNo.out (.inl (by rw [HOk.out, show decide (long ≤ 24) = false by simp; omega]; simp))))
        have hx0 : (24 : Int) < (long : Int) := by omega
        go_wp2_with fail
        go_ret2
        rw [HN.out]
        exact ⟨_, rfl, hx, OwnE.nil _ _⟩
      have hx0 : ¬ (24 : Int) < (long : Int) := by omega
      have hx00 : decide ((24 : Int) < (long : Int)) = false := by simp; omega
      have hl1 := List.length_take (i := long) (l := o.drop 4)
      have hl2 : (o.take 2).length = 2 := by simp; omega
      have hn1 := numL_lt (o.take 2)
      rw [hl2] at hn1
      have HG := Lib.hid (fun w => get_z (o.take 2) w (.inr (.inl hl2)))
      have HX1 : Hid ((str o).extract 4 (4 + long) = str ((o.drop 4).take long)) := by rw [str_ext, show 4 + long - 4 = long by omega]; exact rfl
      have HX2 : Hid ((str o).extract 0 2 = str (o.take 2)) := by rw [str_ext]; exact rfl
      have hnl : ((o.drop 4).take long).length ≤ 24 := by rw [hl1]; omega
      have hi64 : numL (o.take 2) < 65536 := by simpa using hn1
      clear hl1 hn1
      generalize numL (o.take 2) = ino at *
      generalize (o.drop 4).take long = name at *
      rw [HEn.out] at HNo HYes HOk
      simp only at HOk
      have wa : IntKind.i64.wrap (4 + (long : Int)) = ((4 + long : Nat) : Int) := by rw [IntKind.wrap_i64]; omega
      have wb : IntKind.i64.wrap (ino : Int) = (ino : Int) := by rw [IntKind.wrap_i64]; omega
      have wb2 : wrap64 (ino : Int) = (ino : Int) := by unfold wrap64; omega
      go_upto_region 10 with fail
      refine wp_region_web' 10 [[], [], [1], [0, 2], [], [4], [5], [6], [3, 7], []] (listV [isV (.string (str (o))), isV (.int .i64 ((long : Int))), isV (.int .i64 (((4 + long : Nat) : Int))), isV (.string (str (name))), isV (.string (str (o))), isV (.string (str (o.take 2))), isV (.int .u64 (ino : Int)), isV (.int .i64 ((ino : Int))), isV (.agg #[.string (str name), .int .i64 (ino : Int)]), newV wr.heap.size 79 #[.string ⟨#[]⟩, .int .i64 0]]) (by kernel_rfl) (by kernel_rfl) (listV_ext (fun p hp => by simp only [List.mem_cons, List.not_mem_nil, or_false] at hp; rcases hp with rfl | rfl | rfl | rfl | rfl | rfl | rfl | rfl | rfl | rfl <;> first | exact lasts_is _ | exact lasts_new _ _ _)) (fun us => ?_)
      simp only [List.take_succ_cons, List.take_zero, List.drop_succ_cons, List.drop_zero]
      rw [webWalk]
      refine And.intro (fun w' hx hd => ?_) ?_
      · clear hd
        refine web_of_list 23 rfl (by simp) rfl ?_
        go_wp2_with fail
        exact ⟨Ext.refl _, rfl⟩
      simp only [Act.put, List.setIfInBounds_toArray, List.set_cons_zero, List.set_cons_succ]
      rw [webWalk]
      refine And.intro (fun w' hx hd => ?_) ?_
      · clear hd
        refine web_of_list 24 rfl (by simp [Act.put]) rfl ?_
        go_wp2_with fail
        exact ⟨Ext.refl _, rfl⟩
      simp only [Act.put, List.setIfInBounds_toArray, List.set_cons_zero, List.set_cons_succ]
      rw [webWalk]
      refine And.intro (fun w' hx hd => ?_) ?_
      · have h1 := hd 1 (by simp)
        clear hd
        generalize us 1 = u1 at *
        obtain rfl : u1 = .int .i64 (long : Int) := h1
        refine web_of_list 25 rfl (by simp [Act.put]) rfl ?_
        go_wp2_with fail
        exact ⟨Ext.refl _, rfl⟩
      simp only [Act.put, List.setIfInBounds_toArray, List.set_cons_zero, List.set_cons_succ]
      rw [webWalk]
      refine And.intro (fun w' hx hd => ?_) ?_
      · have h0 := hd 0 (by simp)
        have h2 := hd 2 (by simp)
        clear hd
        generalize us 0 = u0 at *
        generalize us 2 = u2 at *
        obtain rfl : u0 = .string (str o) := h0
        obtain rfl : u2 = .int .i64 ((4 + long : Nat) : Int) := h2
        have hx1 := HX1.out
        refine web_of_list 26 rfl (by simp [Act.put]) rfl ?_
        go_wp2_with fail
        exact ⟨Ext.refl _, rfl⟩
      simp only [Act.put, List.setIfInBounds_toArray, List.set_cons_zero, List.set_cons_succ]
      rw [webWalk]
      refine And.intro (fun w' hx hd => ?_) ?_
      · clear hd
        refine web_of_list 27 rfl (by simp [Act.put]) rfl ?_
        go_wp2_with fail
        exact ⟨Ext.refl _, rfl⟩
      simp only [Act.put, List.setIfInBounds_toArray, List.set_cons_zero, List.set_cons_succ]
      rw [webWalk]
      refine And.intro (fun w' hx hd => ?_) ?_
      · have h4 := hd 4 (by simp)
        clear hd
        generalize us 4 = u4 at *
        obtain rfl : u4 = .string (str o) := h4
        have hx2 := HX2.out
        refine web_of_list 28 rfl (by simp [Act.put]) rfl ?_
        go_wp2_with fail
        exact ⟨Ext.refl _, rfl⟩
      simp only [Act.put, List.setIfInBounds_toArray, List.set_cons_zero, List.set_cons_succ]
      rw [webWalk]
      refine And.intro (fun w' hx hd => ?_) ?_
      · have h5 := hd 5 (by simp)
        clear hd
        generalize us 5 = u5 at *
        obtain rfl : u5 = .string (str (o.take 2)) := h5
        refine web_of_list 29 rfl (by simp [Act.put]) rfl ?_
        go_wp2_with (go_at_call 102; refine (HG.out _).mono ?_; rintro e w2 ⟨rfl, rfl⟩)
        exact ⟨Ext.refl _, rfl⟩
      simp only [Act.put, List.setIfInBounds_toArray, List.set_cons_zero, List.set_cons_succ]
      rw [webWalk]
      refine And.intro (fun w' hx hd => ?_) ?_
      · have h6 := hd 6 (by simp)
        clear hd
        generalize us 6 = u6 at *
        obtain rfl : u6 = .int .u64 (ino : Int) := h6
        refine web_of_list 30 rfl (by simp [Act.put]) rfl ?_
        go_wp2_with fail
        exact ⟨Ext.refl _, rfl⟩
      simp only [Act.put, List.setIfInBounds_toArray, List.set_cons_zero, List.set_cons_succ]
      rw [webWalk]
      refine And.intro (fun w' hx hd => ?_) ?_
      · have h3 := hd 3 (by simp)
        have h7 := hd 7 (by simp)
        clear hd
        generalize us 3 = u3 at *
        generalize us 7 = u7 at *
        obtain rfl : u3 = .string (str name) := h3
        obtain rfl : u7 = .int .i64 (ino : Int) := h7
        refine web_of_list 31 rfl (by simp [Act.put]) rfl ?_
        go_wp2_with fail
        exact ⟨Ext.refl _, rfl⟩
      simp only [Act.put, List.setIfInBounds_toArray, List.set_cons_zero, List.set_cons_succ]
      rw [webWalk]
      refine And.intro (fun w' hx hd => ?_) ?_
      · clear hd
        refine web_of_list 7 rfl (by simp [Act.put]) rfl ?_
        go_wp2_with fail
        exact ⟨(Ext.refl w').alloc _, _, rfl, hx.size, Box.new _ _ _⟩
      simp only [Act.put, List.setIfInBounds_toArray, List.set_cons_zero, List.set_cons_succ]
      rw [webWalk]
      intro w' hx hv
      have h8 := hv 8 (by omega)
      have h9 := hv 9 (by omega)
      clear hv
      generalize us 0 = u0 at *
      generalize us 1 = u1 at *
      generalize us 2 = u2 at *
      generalize us 3 = u3 at *
      generalize us 4 = u4 at *
      generalize us 5 = u5 at *
      generalize us 6 = u6 at *
      generalize us 7 = u7 at *
      generalize us 8 = u8 at *
      generalize us 9 = u9 at *
      obtain rfl : u8 = .agg #[.string (str name), .int .i64 (ino : Int)] := h8
      obtain ⟨g, rfl, hg, bg⟩ := h9
      have HW := Lib.hid hx
      clear hx
      go_upto_region 11 with (refine wp_st_ent (.tmp 7) (.tmp 31) rfl rfl g (str name) (ino : Int) _ 79 rfl rfl bg rfl ?_; intro W2 bx g2)
      have xr : Ext wr W2 := HW.out.grown g2 (fun j e => by cases e; exact hg)
      clear bg wa wb wb2
      have k0 : W2.cell? ⟨g, 0, none⟩ = some (.string (str name)) := bx.cell 0
      have k1 : W2.cell? ⟨g, 1, none⟩ = some (.int .i64 (ino : Int)) := bx.cell 1
      have HM := Lib.hid (fun w => dmay_any name w (by omega))
      have HEt := Lib.hid (fun w h1 => dentry_any (name, (ino : Int)) w hnl h1 (by simp; omega))
      simp only at HEt
      by_cases c1 : ino < 1
      · have HN := Lib.hid (HE.out.trans (HNo.out (.inl (by rw [HOk.out, show decide (1 ≤ (ino : Int)) = false by simp; omega]; simp))))
        have hx1 : (ino : Int) < 1 := by omega
        go_wp2_with fail
        go_ret2
        rw [HN.out]
        exact ⟨_, rfl, hx.trans xr, OwnE.nil _ _⟩
      have hx1 : ¬ (ino : Int) < 1 := by omega
      have hx11 : decide ((ino : Int) < 1) = false := by simp; omega
      by_cases c2 : 64 < ino
      · have HN := Lib.hid (HE.out.trans (HNo.out (.inl (by rw [HOk.out, show decide ((ino : Int) ≤ 64) = false by simp; omega]; simp))))
        have hx2 : (64 : Int) < (ino : Int) := by omega
        go_wp2_with fail
        go_ret2
        rw [HN.out]
        exact ⟨_, rfl, hx.trans xr, OwnE.nil _ _⟩
      have hx2 : ¬ (64 : Int) < (ino : Int) := by omega
      have hx22 : decide ((64 : Int) < (ino : Int)) = false := by simp; omega
      cases c3 : mayD name with
      | false =>
        have HN := Lib.hid (HE.out.trans (HNo.out (.inl (by rw [HOk.out, c3]; simp))))
        rw [c3] at HM
        clear c3
        go_wp2_with (go_at_call 42; refine (HM.out _).mono ?_; rintro e w3 ⟨rfl, x3⟩)
        go_ret2
        rw [HN.out]
        exact ⟨_, rfl, (hx.trans xr).trans x3, OwnE.nil _ _⟩
      | true =>
      have HEt2 := Lib.hid (fun w => HEt.out w (by omega))
      by_cases c4 : entP (name, (ino : Int)) = o
      case neg =>
        have HN := Lib.hid (HE.out.trans (HNo.out (.inl (by rw [HOk.out, show decide (entP (name, (ino : Int)) = o) = false by simpa using c4]; simp))))
        have d4 : ((str (entP (name, (ino : Int)))).toList == (str o).toList) = false := by rw [str_toList, str_toList]; simpa using c4
        have d5 : ¬ (str (entP (name, (ino : Int)))).toList = (str o).toList := by rw [str_toList, str_toList]; exact c4
        rw [c3] at HM
        clear c3 c4 HEt
        generalize entP (name, (ino : Int)) = eo at *
        go_wp2_with (first
          | (go_at_call 42; refine (HM.out _).mono ?_; rintro e w3 ⟨rfl, x3⟩; have m0 := x3.keep k0; have m1 := x3.keep k1)
          | (go_at_call 114; refine (HEt2.out _).mono ?_; rintro e w4 ⟨rfl, x4⟩))
        go_ret2
        rw [HN.out]
        exact ⟨_, rfl, ((hx.trans xr).trans x3).trans x4, OwnE.nil _ _⟩
      have hok : okE o = true := by rw [HOk.out, c3, c4]; simp; omega
      have HYes2 := Lib.hid (HYes.out hok)
      have d4 : ((str (entP (name, (ino : Int)))).toList == (str o).toList) = true := by rw [c4]; simp
      have d5 : (str (entP (name, (ino : Int)))).toList = (str o).toList := by rw [c4]
      rw [c3] at HM
      clear c3 HEt HYes hok
      have HC4 := Lib.hid c4
      clear c4 hx0 hx00
      generalize entP (name, (ino : Int)) = eo at *
      go_upto_region 13 with (first
        | (go_at_call 42; refine (HM.out _).mono ?_; rintro e w3 ⟨rfl, x3⟩; have m0 := x3.keep k0; have m1 := x3.keep k1)
        | (go_at_call 114; refine (HEt2.out _).mono ?_; rintro e w4 ⟨rfl, x4⟩))
      have xr4 := (xr.trans x3).trans x4
      have bx4 := (bx.ext x3).ext x4
      clear k0 k1 m0 m1 bx xr x3 x4 HM HEt2 d4 d5 HC4 HOk HEn
      have own4 := OwnE.ext own xr4
      obtain ⟨A4, cap4, rfl, at4⟩ := own4.form
      rw [hll] at at4 ⊢
      go_cut [66] (fun s wx => s = .bool (!(lessE l (name, (ino : Int)))) ∧ Ext w4 wx)
      case first =>
        have k0 : ∀ y : Later w4, y.now.cell? ⟨g, 0, none⟩ = some (.string (str name)) := fun y => y.ext.keep (bx4.cell 0)
        clear HYes2 HNo HNone HE hdr hpc HX1 HX2 own own4 bx4 xr4
        cases k with
        | zero =>
          obtain rfl := List.eq_nil_of_length_eq_zero hll
          have HV := Lib.hid (show lessE [] (name, (ino : Int)) = true from rfl)
          refine wp_region_later (by kernel_rfl) (by kernel_rfl) ?_
          repeat (go_big_quiet_step (fail))
          refine wpQuiet_nil ?_
          rintro w5 ⟨y, rfl⟩
          go_wp2_with fail
          go_meet
          exact ⟨by rw [HV.out]; rfl, y.ext⟩
        | succ q =>
          obtain ⟨bb, oo, rfl, hcell⟩ := at4.2 (by omega)
          have hq := (hcell q (by omega)).1
          have HV := Lib.hid (lessE_last (name, (ino : Int)) hll)
          simp only at HV
          clear hcell at4
          have k1 : ∀ y : Later w4, y.now.cell? ⟨bb, oo + q * 2, none⟩ = some (.string (str (l[q]'(by omega)).1)) := fun y => y.ext.keep hq
          clear hq
          generalize (l[q]'(by omega)).1 = last at *
          have t1 : IntKind.i64.wrap (((q + 1 : Nat) : Int) - 1) = (q : Int) := by rw [IntKind.wrap_i64]; omega
          have t2 : decide ((0 : Int) < ((q + 1 : Nat) : Int)) = true := decide_eq_true (by omega)
          have t3 : (q : Int) < ((q + 1 : Nat) : Int) := by omega
          cases hl : ltB last name with
          | false =>
            have HV2 := Lib.hid (HV.out.trans hl)
            have hl' : Op.bytesLess (str last).toList (str name).toList = false := by rw [str_toList, str_toList]; exact hl
            clear hl HV
            refine wp_region_later (by kernel_rfl) (by kernel_rfl) ?_
            repeat (go_big_quiet_step (fail))
            refine wpQuiet_nil ?_
            rintro w5 ⟨y, rfl⟩
            go_wp2_with fail
            go_meet
            exact ⟨by rw [HV2.out]; rfl, y.ext⟩
          | true =>
            have HV2 := Lib.hid (HV.out.trans hl)
            have hl' : Op.bytesLess (str last).toList (str name).toList = true := by rw [str_toList, str_toList]; exact hl
            clear hl HV
            refine wp_region_later (by kernel_rfl) (by kernel_rfl) ?_
            repeat (go_big_quiet_step (fail))
            refine wpQuiet_nil ?_
            rintro w5 ⟨y, rfl⟩
            go_wp2_with fail
            go_meet
            exact ⟨by rw [HV2.out]; rfl, y.ext⟩
      case rest =>
        obtain ⟨rfl, hxc⟩ := hcut
        cases hv : lessE l (name, (ino : Int)) with
        | false =>
          have HN := Lib.hid (HE.out.trans (HNo.out (.inr hv)))
          clear hv HYes2 HNo HNone HE
          go_wp2_with fail
          go_ret2
          rw [HN.out]
          exact ⟨_, rfl, hx.trans (xr4.trans hxc), OwnE.nil _ _⟩
        | true =>
          have HN := Lib.hid (HYes2.out hv)
          have bx5 := bx4.ext hxc
          have own5 := OwnE.ext own4 hxc
          have xr5 := xr4.trans hxc
          clear hv HYes2 HNo HNone HE own own4 at4 bx4 xr4 hxc HX1 HX2 HG hlong
          unfold OwnE at own5
          rw [hll] at own5
          go_wp2_with (first
            | (refine wp_ld_ent (.tmp 7) rfl rfl g _ 79 rfl bx5 rfl ?_)
            | (refine wp_app_ent (y := (name, (ino : Int))) rfl (.tmp 67) (.tmp 69) rfl rfl rfl (own_ext own5 ((Ext.refl wc).alloc _)) (Box.new _ _ _) (by omega) (by simp; have := xr5.size; omega) ?_; intro u' w6 own6 hg6))
          have hlo := Lib.hid (show ∀ j, (Value.slice A4 k cap4).ownBlock = some j → w.heap.size ≤ j from fun j e => own_low own5 e)
          have x6 : Ext w w6 := ((hx.trans xr5).alloc _).grown hg6 (fun j e => hlo.out j e)
          go_roundw
          case rel => exact ⟨k + 1, l ++ [(name, (ino : Int))], by omega, by rw [← hdr, hsz, hrl, hbN], x6, HN.out, OwnE.snoc own6 hll.symm⟩
          case measure => simp; omega
    · obtain rfl : k = N := by omega
      have HN := Lib.hid (HE.out.trans hl)
      have hne : (str (b.drop (32 * k))).toList.isEmpty = true := by rw [str_toList, List.drop_eq_nil_of_le (by omega)]; rfl
      clear hl HE HNone
      go_wp2_with fail
      go_ret2
      rw [HN.out]
      exact ⟨_, rfl, hx, own⟩
end Go.Proofs.YtnoofjddikhopaaGreat
/- The walk of dir.List on a volume that is one. -/
namespace Go.Proofs.YtnoofjddikhopaaGreat
set_option linter.unusedVariables false
set_option linter.unusedSimpArgs false
open Go.RowKit
/-- a directory's entries, and the error -/
def dlistP (v : List (List UInt8)) (I k : Int) : List Ent × Int :=
  if k < 1 ∨ I < k then ([], 2) else if (inoAt v k).getD 0 0 ≠ 2 then ([], 11) else match entriesP (dataP v I k) with
    | none => ([], 3)
    | some l => (l, 0)
theorem dlist_ok {v : List (List UInt8)} {I k : Int} (h : (dlistP v I k).2 = 0) : 1 ≤ k ∧ k ≤ I ∧ (inoAt v k).getD 0 0 = 2 ∧ entriesP (dataP v I k) = some (dlistP v I k).1 := by
  unfold dlistP at *
  by_cases h1 : k < 1 ∨ I < k
  · rw [if_pos h1] at h; simp at h
  rw [if_neg h1] at h ⊢
  by_cases h2 : (inoAt v k).getD 0 0 ≠ 2
  · rw [if_pos h2] at h; simp at h
  rw [if_neg h2] at h ⊢
  cases h3 : entriesP (dataP v I k) with
  | none => rw [h3] at h; simp at h
  | some l => exact ⟨by omega, by omega, by simpa using h2, rfl⟩
theorem dlist_bad {v : List (List UInt8)} {I k : Int} (h : (dlistP v I k).2 ≠ 0) : (dlistP v I k).1 = [] := by
  unfold dlistP at *
  by_cases h1 : k < 1 ∨ I < k
  · rw [if_pos h1]
  rw [if_neg h1] at h ⊢
  by_cases h2 : (inoAt v k).getD 0 0 ≠ 2
  · rw [if_pos h2]
  rw [if_neg h2] at h ⊢
  cases h3 : entriesP (dataP v I k) with
  | none => rfl
  | some l => rw [h3] at h; simp at h
theorem dlist_len (v : List (List UInt8)) (I k : Int) : (dlistP v I k).1.length ≤ 280 := by
  by_cases h : (dlistP v I k).2 = 0
  · have h1 := (entriesP_ok (dlist_ok h).2.2.2).2
    have h2 := data_len v I k
    omega
  · rw [dlist_bad h]; simp
theorem dlist_ents (v : List (List UInt8)) (I k : Int) : EntsOk (dlistP v I k).1 := by
  by_cases h : (dlistP v I k).2 = 0
  · exact (entriesP_ok (dlist_ok h).2.2.2).1
  · rw [dlist_bad h]; exact ⟨fun x hx => absurd hx List.not_mem_nil, List.Pairwise.nil⟩
set_option maxHeartbeats 1000000 in
set_option maxRecDepth 100000 in
theorem dlist_any (A : Option Addr) (n c : Nat) (v : List (List UInt8)) (I k : Int) (w : World) (hv : Strs w A n v) (hg : Good v I) :
    Calls Tryz.prog 36 #[.slice A n c, .int .i64 k] w fun e w' => ∃ u, e = .returned (.tuple #[u, .int .i64 (dlistP v I k).2]) ∧ Ext w w' ∧ OwnE w' w.heap.size u (dlistP v I k).1 := by
  by_cases h1 : k < 1 ∨ I < k
  · have HP := Lib.hid (show dlistP v I k = ([], 2) from by unfold dlistP; rw [if_pos h1])
    have HG := Lib.hid (fun w h => iget_no A n c v I k w h hg h1)
    go_enter Tryz.func36, Tryz.ntmps36
    go_wp2_with (first
      | (go_at_call 35; refine (HG.out _ hv).mono ?_; rintro e w1 ⟨rfl, x1⟩)
      | (refine wp_st_ino (.tmp 6) (.tmp 15) rfl rfl w1.heap.size _ zero12 61 rfl rfl (Box.new _ _ _) rfl rfl ?_; intro w2 b2 g2))
    go_ret2
    rw [HP.out]
    exact ⟨_, rfl, (x1.alloc _).grown g2 (fun k e => by cases e; exact x1.size), OwnE.nil _ _⟩
  have hk1 : 1 ≤ k := by omega
  have hk2 : k ≤ I := by omega
  have HG := Lib.hid (fun w h => iget_yes A n c v I k w h hg hk1 hk2)
  have HR := Lib.hid (fun w h => fread_all A n c v I k w h hg hk1 hk2)
  have hl : (inoAt v k).length = 12 := rfl
  have hx12 : (intVals (inoAt v k))[0]? = some (.int .i64 ((inoAt v k).getD 0 0)) := rfl
  by_cases h2 : (inoAt v k).getD 0 0 ≠ 2
  · have HP := Lib.hid (show dlistP v I k = ([], 11) from by unfold dlistP; rw [if_neg h1, if_pos h2])
    have d2 : ((inoAt v k).getD 0 0 != 2) = true := by simpa using h2
    clear h2
    generalize (inoAt v k).getD 0 0 = kd at *
    generalize inoAt v k = x at *
    go_enter Tryz.func36, Tryz.ntmps36
    go_wp2_with (first
      | (go_at_call 35; refine (HG.out _ hv).mono ?_; rintro e w1 ⟨rfl, x1⟩)
      | (refine wp_st_ino (.tmp 6) (.tmp 15) rfl rfl w1.heap.size _ zero12 61 rfl rfl (Box.new _ _ _) hl rfl ?_; intro w2 b2 g2; have c2 := (b2.cell 0).trans hx12))
    go_ret2
    rw [HP.out]
    exact ⟨_, rfl, (x1.alloc _).grown g2 (fun k e => by cases e; exact x1.size), OwnE.nil _ _⟩
  have hk : (inoAt v k).getD 0 0 = 2 := by simpa using h2
  have HP0 := Lib.hid (show dlistP v I k = match entriesP (dataP v I k) with | none => ([], 3) | some l => (l, 0) from by unfold dlistP; rw [if_neg h1, if_neg h2])
  have hdl := data_len v I k
  have HEn := Lib.hid (fun w => dentries_any (dataP v I k) w hdl)
  clear h2
  generalize dataP v I k = d at *
  generalize dlistP v I k = R at *
  rw [hk] at hx12
  clear hk
  generalize inoAt v k = x at *
  cases he : entriesP d with
  | none =>
    rw [he] at HEn HP0
    clear he
    go_enter Tryz.func36, Tryz.ntmps36
    go_wp2_with (first
      | (go_at_call 35; refine (HG.out _ hv).mono ?_; rintro e w1 ⟨rfl, x1⟩)
      | (refine wp_st_ino (.tmp 6) (.tmp 15) rfl rfl w1.heap.size _ zero12 61 rfl rfl (Box.new _ _ _) hl rfl ?_; intro w2 b2 g2; have c2 := (b2.cell 0).trans hx12; have x2 := (x1.alloc (.cells (intVals zero12) 61)).grown g2 (fun k e => by cases e; exact x1.size))
      | (go_at_call 23; refine (HR.out _ (hv.ext x2)).mono ?_; rintro e w3 ⟨rfl, x3⟩)
      | (go_at_call 79; refine (HEn.out _).mono ?_; rintro e w4 ⟨u, rfl, x4, own4⟩))
    go_ret2
    rw [HP0.out]
    exact ⟨_, rfl, x2.trans (x3.trans x4), OwnE.nil _ _⟩
  | some l =>
    rw [he] at HEn HP0
    clear he
    go_enter Tryz.func36, Tryz.ntmps36
    go_wp2_with (first
      | (go_at_call 35; refine (HG.out _ hv).mono ?_; rintro e w1 ⟨rfl, x1⟩)
      | (refine wp_st_ino (.tmp 6) (.tmp 15) rfl rfl w1.heap.size _ zero12 61 rfl rfl (Box.new _ _ _) hl rfl ?_; intro w2 b2 g2; have c2 := (b2.cell 0).trans hx12; have x2 := (x1.alloc (.cells (intVals zero12) 61)).grown g2 (fun k e => by cases e; exact x1.size))
      | (go_at_call 23; refine (HR.out _ (hv.ext x2)).mono ?_; rintro e w3 ⟨rfl, x3⟩)
      | (go_at_call 79; refine (HEn.out _).mono ?_; rintro e w4 ⟨u, rfl, x4, own4⟩))
    go_ret2
    rw [HP0.out]
    exact ⟨_, rfl, x2.trans (x3.trans x4), own4.base (by have := x2.size; have := x3.size; omega)⟩
end Go.Proofs.YtnoofjddikhopaaGreat
