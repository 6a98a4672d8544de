/- extent.Read where fewer bytes are asked than there are. (Written by gen_fread3.py.) -/
import Derived.Test.YtnoofjddikhopaaGreatFa19
import Derived.Test.YtnoofjddikhopaaGreatFa14
namespace Go.Proofs.YtnoofjddikhopaaGreat
set_option linter.unusedVariables false
set_option linter.unusedSimpArgs false
open Go.RowKit Go.Shelf
attribute [local go_sem] Oper.semAt_some
set_option maxHeartbeats 4000000 in
set_option maxRecDepth 100000 in
theorem fread_less (A : Option Addr) (n c : Nat) (v : List (List UInt8)) (I k : Int) (off size : Nat) (w : World) (hv : Strs w A n v) (hg : Good v I) (hk1 : 1 ≤ k) (hk2 : k ≤ I) (hin : (off : Int) < sizeP (fileOf v I k).x) (hsz : (size : Int) ≤ 9223372036854775807) (hend : (size : Int) < sizeP (fileOf v I k).x - (off : Int)) :
    Calls Tryz.prog 23 #[.slice A n c, .int .i64 k, .int .i64 (off : Int), .int .i64 (size : Int)] w fun e w' => e = .returned (.tuple #[.string (str (readP (fileOf v I k) off size)), .int .i64 0]) ∧ Ext w w' := by
  have HO := Lib.hid (fun w h => opened_yes A n c v I k w h hg hk1 hk2)
  have HFO := Lib.hid (fun (B g : Nat) (w : World) (s : Sl) hB hs hbx own => FileIn.of_opened (B := B) (w := w) (g := g) (s := s) hg hk1 hk2 hB hs hbx own)
  have HV := Lib.hid hv
  clear hv hg hk1 hk2
  generalize hG : w.heap.size = G at *
  refine (callsIn_wide (n := 6)).1 ?_
  refine callsIn_of_wp_marks Tryz.func23 rfl trivial ?_ rfl
  simp only [Tryz.ntmps23, List.size_toArray, List.length_cons, List.length_nil, Nat.reduceAdd, Nat.reduceSub, Array.replicate_succ, Array.replicate_zero, List.push_toArray, List.append_toArray, List.nil_append, List.cons_append]
  refine wpIn_wide.2 ?_
  have b6 := Box.new w 3 #[.int .i64 (off : Int)]
  have x6 : Ext w (w.alloc (.cells #[.int .i64 (off : Int)] 3)) := (Ext.refl w).alloc _
  have HV1 := Lib.hid (HV.out.ext x6)
  go_upto_region 1 with fail
  rw [hG] at b6
  have hG6 : G + 1 ≤ (w.alloc (.cells #[.int .i64 (off : Int)] 3)).heap.size := by rw [World.size_alloc, hG]; exact Nat.le_refl _
  generalize w.alloc (.cells #[.int .i64 (off : Int)] 3) = w1 at *
  go_upto_region 2 with (first
    | (go_at_call 49; refine (HO.out _ HV1.out).mono ?_; rintro e w2 ⟨⟨s, rfl, hsn, own2⟩, x2⟩)
    | (refine wp_st_file (.tmp 10) (.tmp 22) rfl rfl w2.heap.size s (fileOf v I k) _ 83 rfl rfl (Box.new _ _ _) rfl ?_; intro w3 b3 g3))
  have xa : Ext w2 (w2.alloc (.cells fileZ 83)) := (Ext.refl w2).alloc _
  have x23 : Ext w2 w3 := xa.grown g3 (fun j e => by cases e; exact Nat.le_refl _)
  have own3 := (own_ext own2 xa).kept g3 (.inr (own_ne (own_ext own2 xa) (Box.new w2 83 fileZ) (by decide)).symm)
  have hF0 := HFO.out w1.heap.size w2.heap.size w3 s x2.size hsn b3 own3
  have HX := Lib.hid (x6.trans (x2.trans x23))
  have b63 := (b6.ext x2).ext x23
  have hle2 := x2.size
  clear HO HFO HV HV1 own2 hsn b3 own3 xa x23 x2 g3 b6 x6
  generalize hg2 : w2.heap.size = g at *
  generalize hFO : fileOf v I k = F at *
  have HFE := Lib.hid hFO
  clear hFO hg2
  obtain ⟨hOk, hBg, b, cap, hbx, own⟩ := hF0
  generalize fileC s ⟨v, I, k, inoAt v k⟩ = fc at *
  have hr := own_strsN own
  have HSz := Lib.hid (fun w h => fsize_any g ⟨some ⟨b, 0, none⟩, F.v.length, cap⟩ F w h)
  have hz1 : sizeP F.x ≤ 8960 := by unfold sizeP; omega
  have d1 : decide ((off : Int) < 0) = false := by simp
  have d2 : decide ((size : Int) < 0) = false := by simp
  have hcell6 := b63.cell 0
  have HRD := Lib.hid (show readP F off size = (List.range (min (blocksP ((off : Int) + (size : Int))) 70)).flatMap (pieceP F off ((off : Int) + (size : Int))) from by unfold readP endP; rw [if_pos (by omega)])
  generalize hzz : sizeP F.x = z at *
  have d3 : decide (z ≤ (off : Int)) = false := by simp; omega
  have d4 : decide ((size : Int) < z - (off : Int)) = true := by simp; omega
  have wad : IntKind.i64.wrap ((off : Int) + (size : Int)) = (off : Int) + (size : Int) := by rw [IntKind.wrap_i64]; omega
  have hez : (off : Int) + (size : Int) ≤ 8960 := by omega
  have hez0 : (0 : Int) ≤ (off : Int) + (size : Int) := by omega
  have w9 : IntKind.i64.wrap (z - (off : Int)) = z - (off : Int) := by rw [IntKind.wrap_i64]; omega
  have x34 : Ext w3 (w3.alloc (.cells #[.int .i64 z] 3)) := (Ext.refl w3).alloc _
  have b12 := Box.new w3 3 #[.int .i64 z]
  have b6a := b63.ext x34
  have hbxa := hbx.ext x34
  have c6a : (w3.alloc (.cells #[.int .i64 z] 3)).cell? ⟨G, 0, none⟩ = some (.int .i64 (off : Int)) := b6a.cell 0
  have c12 : (w3.alloc (.cells #[.int .i64 z] 3)).cell? ⟨w3.heap.size, 0, none⟩ = some (.int .i64 z) := b12.cell 0
  go_upto_region 7 with (go_at_call 50; (have hq := HSz.out _ hbx; with_reducible (refine hq.mono ?_)); clear hq; rintro e w6 ⟨rfl, rfl⟩)
  have b12f := b12.frozen 0
  have hlt3 := hbx.lt
  have h63 := b63.lt
  have hbE : b < w3.heap.size := by
    rcases own.2 with ⟨h, _⟩ | ⟨g', cap', cur, e, _, hh, _⟩
    · cases h
    · injection e with e1 _ _
      injection e1 with e1
      injection e1 with e1 _ _
      subst e1
      exact (Array.getElem?_eq_some_iff.1 hh).1
  go_upto_region 11 with fail
  have x34' : Ext w3 (w3.alloc (.cells #[.int .i64 ((off : Int) + (size : Int))] 3)) := (Ext.refl w3).alloc _
  have b12' := Box.new w3 3 #[.int .i64 ((off : Int) + (size : Int))]
  have z12 : (w3.alloc (.cells #[.int .i64 ((off : Int) + (size : Int))] 3)).heap.size = w3.heap.size + 1 := World.size_alloc _ _
  clear b6a hbxa c6a c12 b12f b12 x34
  generalize w3.alloc (.cells #[.int .i64 ((off : Int) + (size : Int))] 3) = wq at *
  have b12 : Box wq w3.heap.size 3 #[.int .i64 ((off : Int) + (size : Int))] := b12'
  have b6a := b63.ext x34'
  have hbxa := hbx.ext x34'
  have hrr := hr.ext x34'
  have c6a : wq.cell? ⟨G, 0, none⟩ = some (.int .i64 (off : Int)) := b6a.cell 0
  have c12 : wq.cell? ⟨w3.heap.size, 0, none⟩ = some (.int .i64 ((off : Int) + (size : Int))) := b12.cell 0
  have HX4 := Lib.hid (HX.out.trans x34')
  have FB := bld_fresh wq
  rw [z12] at FB
  clear hbx b63 x34' b12' HX hcell6 hr own HSz
  obtain ⟨ez, hezq⟩ : ∃ ez : Int, ez = (off : Int) + (size : Int) := ⟨_, rfl⟩
  have HEZ := Lib.hid hezq
  have w10 : IntKind.i64.wrap ((off : Int) + (size : Int) + 128) = (off : Int) + (size : Int) + 128 := by rw [IntKind.wrap_i64]; omega
  have w11 : IntKind.i64.wrap ((off : Int) + (size : Int) + 128 - 1) = (off : Int) + (size : Int) + 127 := by rw [IntKind.wrap_i64]; omega
  clear hezq
  have xB : Ext wq (wq.alloc (.cells #[.pointer none, .slice none 0 0] 90)) := (Ext.refl _).alloc _
  have b12B := b12.ext xB
  have b6B := b6a.ext xB
  have hbxB := hbxa.ext xB
  have hrB := hrr.ext xB
  have HXB := Lib.hid (HX4.out.trans xB)
  have zB : (wq.alloc (.cells #[.pointer none, .slice none 0 0] 90)).heap.size = w3.heap.size + 2 := by rw [World.size_alloc, z12]
  have hCP : ((((off : Int) + (size : Int)) + 127) / 128 : Int) = (blocksP ((off : Int) + (size : Int)) : Nat) := by unfold blocksP; omega
  have hCT : Int.tdiv (((off : Int) + (size : Int)) + 127) 128 = (blocksP ((off : Int) + (size : Int)) : Nat) := by rw [Int.tdiv_eq_ediv_of_nonneg (by omega)]; exact hCP
  have hC70 : blocksP ((off : Int) + (size : Int)) ≤ 70 := by unfold blocksP; omega
  generalize hbl : blocksP ((off : Int) + (size : Int)) = cb at *
  have HFI := Lib.hid (ffirst_any g ⟨some ⟨b, 0, none⟩, F.v.length, cap⟩ F (cb : Int) _ hbxB hrB hOk)
  have c12B := b12B.cell 0
  go_upto_region 12 with fail
  clear xB b12 b6a hbxa hrr HX4 c6a c12 z12
  generalize wq.alloc (.cells #[.pointer none, .slice none 0 0] 90) = wB at *
  generalize hE : w3.heap.size = E at *
  clear hE w3
  go_wp2_with (go_at_call 51; refine HFI.out.mono ?_; rintro e w5 ⟨⟨b1, b2, rfl, hb1, hb2, le1, le2, ne12⟩, x5⟩)
  refine (wpIn_wide (n := 6)).1 ?_
  gi_wp2_with fail
  have hXE : ∀ W, Below (E + 1) wB W → Ext w W := fun W h => HXB.out.under h (by omega)
  have hBB : ∀ W, Below (E + 1) wB W → Box W G 3 #[.int .i64 (off : Int)] ∧ Box W E 3 #[.int .i64 ((off : Int) + (size : Int))] ∧ Box W g 83 (fileC ⟨some ⟨b, 0, none⟩, F.v.length, cap⟩ F) := fun W h =>
    ⟨(h.block G (by omega)).trans b6B, (h.block E (by omega)).trans b12B, (h.block g (by omega)).trans hbxB⟩
  have hSS : ∀ W, Below (E + 1) wB W → Strs W (some ⟨b, 0, none⟩) F.v.length F.v := fun W h => strs_same hrB (h.block b (by omega))
  have x5B : Below (E + 1) wB w5 := Below.mono x5 (by omega)
  have FB5 : BldS (E + 1) (E + 1) [] w5 := BldS.ext (.inl ⟨FB, rfl⟩) x5
  have hs5 := x5.size
  have HAt := Lib.hid (show ∀ x, pieceP F off ((off : Int) + (size : Int)) x = if toP ((off : Int) + (size : Int)) x ≤ fromP off x then [] else if atP F.v F.I F.x x = -1 then zs (toP ((off : Int) + (size : Int)) x - fromP off x).toNat else ((F.v.getD (atP F.v F.I F.x x).toNat []).drop (fromP off x).toNat).take (toP ((off : Int) + (size : Int)) x - fromP off x).toNat from fun x => rfl)
  have HQ := Lib.hid (fun x (h : atP F.v F.I F.x x ≠ -1) => isB_le (isB_of h))
  have HPC := Lib.hid (piece_le F off ((off : Int) + (size : Int)))
  have hGd := Lib.hid hOk.good
  have hdt : (0 : Int) ≤ 3 + (F.I + 1) / 2 := by have := plan_bd hOk.good.plan; omega
  generalize pieceP F off ((off : Int) + (size : Int)) = pc at *
  generalize atP F.v F.I F.x = f at *
  clear HFI b6B b12B hbxB hrB c12B x5 FB d1 d2 d3 d4 w9 w10 w11 hCP hCT
  refine wpIn_rangeFunc_ownH rfl (by decide) (gf := 93) (lb := #[.pointer (some ⟨b1, 0, none⟩), .pointer (some ⟨b2, 0, none⟩)]) rfl trivial (enters_of Tryz.func93 (by kernel_rfl) rfl)
    (first_stops 5 (by decide) b1 b2 cb f w5 hb1 hb2) KpB.trans KpB.book (Below.refl _ _) (fun _ => rfl)
    (fun pre W => Below (E + 1) wB W ∧ BldS (E + 1) (E + 1) (pre.flatMap pc) W ∧ pre.length ≤ 70 ∧ Box W b1 125 (partC f 70) ∧ Box W b2 3 #[.int .i64 (cb : Int)])
    (fun _ _ _ => False)
    (OwnFrom.and (ownFrom_below (by omega) (by omega)) (OwnFrom.and (Own.from (bldS_own _ _ _) _) (OwnFrom.and (ownFrom_pure _ _) (OwnFrom.and (Own.from (box_own _ _ _) _) (Own.from (box_own _ _ _) _)))))
    (fun _ _ _ _ _ hs _ _ => hs) ⟨x5B, FB5, by simp, hb1, hb2⟩
    (fun x a' W => a' = { tmps := #[.slice A n c, .int .i64 k, .int .i64 (off : Int), .int .i64 (size : Int), undef, undef, .pointer (some ⟨G, 0, none⟩), undef, .string ⟨#[]⟩, .int .i64 0, .pointer (some ⟨g, 0, none⟩), .int .i64 0, .pointer (some ⟨E, 0, none⟩), .pointer (some ⟨E + 1, 0, none⟩), .int .i64 (x : Int), .int .i64 (f x), undef, undef, .tuple #[.agg fc, .int .i64 0], .slice A n c, .int .i64 k, .tuple #[.agg fc, .int .i64 0], .agg fc, .int .i64 0, .int .i64 0, .bool false, undef, .int .i64 (off : Int), .bool false, .bool false, .int .i64 (size : Int), .bool false, .bool false, .int .i64 z, .int .i64 (off : Int), .int .i64 z, .bool false, .int .i64 (size : Int), .int .i64 z, .int .i64 (off : Int), .int .i64 (z - (off : Int)), .bool true, .int .i64 (off : Int), .int .i64 (size : Int), .int .i64 ((off : Int) + (size : Int)), .int .i64 ((off : Int) + (size : Int)), .int .i64 ((off : Int) + (size : Int) + 128), .int .i64 ((off : Int) + (size : Int) + 127), .int .i64 (cb : Int), .func (.func 93) #[] #[.pointer (some ⟨b1, 0, none⟩), .pointer (some ⟨b2, 0, none⟩)], .int .i64 (x : Int), .int .i64 (f x), undef, undef, undef, undef, undef, undef, undef, undef, undef, undef, undef, undef, undef, undef, undef, undef, undef, undef, undef, undef, undef, undef, undef, undef, undef, undef, undef, undef, undef, undef], defers := [] })
    (fun x a' _ X Y row hs hg hr => hs) ?assign ?body ?done ?stop
  case assign =>
    rintro l pre x W K ⟨i1, i2, i3, i4, i5⟩ hK
    simp only [benc]
    gi_wp2
    exact hK _ _ (keeps_ext (Ext.refl W)) (KpB.ext (Ext.refl W)) ⟨i1, i2, i3, i4, i5⟩ rfl
  case body =>
    rintro l pre x a' W hl0 ⟨r, hr⟩ ⟨i1, i2, i3, i4, i5⟩ rfl hlt70
    obtain ⟨j1, j2, j3⟩ := hBB W i1
    have c6 : W.cell? ⟨G, 0, none⟩ = some (.int .i64 (off : Int)) := j1.cell 0
    have c12 : W.cell? ⟨E, 0, none⟩ = some (.int .i64 ((off : Int) + (size : Int))) := j2.cell 0
    gi_wp2
    -- WEB BEGINS
    refine wpIn_round_web' 12 [[], [], [1], [0, 2], [3], [], [], [6], [5, 7], [8], [4], [9]] (listV [isV (.int .i64 ((off : Int))), isV (.int .i64 ((x : Int))), isV (.int .i64 (wrap64 ((x : Int) * 128))), isV (.int .i64 (wrap64 ((off : Int) - wrap64 ((x : Int) * 128)))), isV (.int .i64 (fromP off x)), isV (.int .i64 (((off : Int) + (size : Int)))), isV (.int .i64 ((x : Int))), isV (.int .i64 (wrap64 ((x : Int) * 128))), isV (.int .i64 (wrap64 (((off : Int) + (size : Int)) - wrap64 ((x : Int) * 128)))), isV (.int .i64 (toP ((off : Int) + (size : Int)) x)), isV (.int .i64 (fromP off x)), isV (.int .i64 (toP ((off : Int) + (size : Int)) x))]) (by rintro ⟨_, _, h⟩; exact h) (by kernel_rfl) (by kernel_rfl) (by kernel_rfl) (listV_ext (fun p hp => by simp only [List.mem_cons, List.not_mem_nil, or_false] at hp; rcases hp with rfl | rfl | rfl | rfl | rfl | rfl | rfl | rfl | rfl | rfl | rfl | rfl <;> first | exact lasts_is _)) (fun us => ?_)
    simp only [List.take_succ_cons, List.take_zero, List.drop_succ_cons, List.drop_zero]
    rw [webWalk]
    refine And.intro (fun w' hx hd => ?_) ?_
    · clear hd
      have e6 := hx.keep c6
      have e12 := hx.keep c12
      refine web_of_list 52 rfl (by simp) rfl ?_
      go_wp2_with fail
      exact ⟨Ext.refl _, rfl⟩
    simp only [Act.put, List.setIfInBounds_toArray, List.set_cons_zero, List.set_cons_succ]
    rw [webWalk]
    refine And.intro (fun w' hx hd => ?_) ?_
    · clear hd
      refine web_of_list 53 rfl (by simp [Act.put]) rfl ?_
      go_wp2_with fail
      exact ⟨Ext.refl _, rfl⟩
    simp only [Act.put, List.setIfInBounds_toArray, List.set_cons_zero, List.set_cons_succ]
    rw [webWalk]
    refine And.intro (fun w' hx hd => ?_) ?_
    · have h1 := hd 1 (by simp)
      clear hd
      generalize us 1 = u1 at *
      obtain rfl : u1 = .int .i64 ((x : Int)) := h1
      refine web_of_list 54 rfl (by simp [Act.put]) rfl ?_
      go_wp2_with fail
      exact ⟨Ext.refl _, rfl⟩
    simp only [Act.put, List.setIfInBounds_toArray, List.set_cons_zero, List.set_cons_succ]
    rw [webWalk]
    refine And.intro (fun w' hx hd => ?_) ?_
    · have h0 := hd 0 (by simp)
      have h2 := hd 2 (by simp)
      clear hd
      generalize us 0 = u0 at *
      generalize us 2 = u2 at *
      obtain rfl : u0 = .int .i64 ((off : Int)) := h0
      obtain rfl : u2 = .int .i64 (wrap64 ((x : Int) * 128)) := h2
      refine web_of_list 55 rfl (by simp [Act.put]) rfl ?_
      go_wp2_with fail
      exact ⟨Ext.refl _, rfl⟩
    simp only [Act.put, List.setIfInBounds_toArray, List.set_cons_zero, List.set_cons_succ]
    rw [webWalk]
    refine And.intro (fun w' hx hd => ?_) ?_
    · have h3 := hd 3 (by simp)
      clear hd
      generalize us 3 = u3 at *
      obtain rfl : u3 = .int .i64 (wrap64 ((off : Int) - wrap64 ((x : Int) * 128))) := h3
      refine web_of_list 56 rfl (by simp [Act.put]) rfl ?_
      go_wp2_with fail
      exact ⟨Ext.refl _, rfl⟩
    simp only [Act.put, List.setIfInBounds_toArray, List.set_cons_zero, List.set_cons_succ]
    rw [webWalk]
    refine And.intro (fun w' hx hd => ?_) ?_
    · clear hd
      have e6 := hx.keep c6
      have e12 := hx.keep c12
      refine web_of_list 57 rfl (by simp [Act.put]) rfl ?_
      go_wp2_with fail
      exact ⟨Ext.refl _, rfl⟩
    simp only [Act.put, List.setIfInBounds_toArray, List.set_cons_zero, List.set_cons_succ]
    rw [webWalk]
    refine And.intro (fun w' hx hd => ?_) ?_
    · clear hd
      refine web_of_list 58 rfl (by simp [Act.put]) rfl ?_
      go_wp2_with fail
      exact ⟨Ext.refl _, rfl⟩
    simp only [Act.put, List.setIfInBounds_toArray, List.set_cons_zero, List.set_cons_succ]
    rw [webWalk]
    refine And.intro (fun w' hx hd => ?_) ?_
    · have h6 := hd 6 (by simp)
      clear hd
      generalize us 6 = u6 at *
      obtain rfl : u6 = .int .i64 ((x : Int)) := h6
      refine web_of_list 59 rfl (by simp [Act.put]) rfl ?_
      go_wp2_with fail
      exact ⟨Ext.refl _, rfl⟩
    simp only [Act.put, List.setIfInBounds_toArray, List.set_cons_zero, List.set_cons_succ]
    rw [webWalk]
    refine And.intro (fun w' hx hd => ?_) ?_
    · have h5 := hd 5 (by simp)
      have h7 := hd 7 (by simp)
      clear hd
      generalize us 5 = u5 at *
      generalize us 7 = u7 at *
      obtain rfl : u5 = .int .i64 (((off : Int) + (size : Int))) := h5
      obtain rfl : u7 = .int .i64 (wrap64 ((x : Int) * 128)) := h7
      refine web_of_list 60 rfl (by simp [Act.put]) rfl ?_
      go_wp2_with fail
      exact ⟨Ext.refl _, rfl⟩
    simp only [Act.put, List.setIfInBounds_toArray, List.set_cons_zero, List.set_cons_succ]
    rw [webWalk]
    refine And.intro (fun w' hx hd => ?_) ?_
    · have h8 := hd 8 (by simp)
      clear hd
      generalize us 8 = u8 at *
      obtain rfl : u8 = .int .i64 (wrap64 (((off : Int) + (size : Int)) - wrap64 ((x : Int) * 128))) := h8
      refine web_of_list 61 rfl (by simp [Act.put]) rfl ?_
      go_wp2_with fail
      exact ⟨Ext.refl _, rfl⟩
    simp only [Act.put, List.setIfInBounds_toArray, List.set_cons_zero, List.set_cons_succ]
    rw [webWalk]
    refine And.intro (fun w' hx hd => ?_) ?_
    · have h4 := hd 4 (by simp)
      clear hd
      generalize us 4 = u4 at *
      obtain rfl : u4 = .int .i64 (fromP off x) := h4
      refine web_of_list 16 rfl (by simp [Act.put]) rfl ?_
      go_wp2_with fail
      exact ⟨Ext.refl _, rfl⟩
    simp only [Act.put, List.setIfInBounds_toArray, List.set_cons_zero, List.set_cons_succ]
    rw [webWalk]
    refine And.intro (fun w' hx hd => ?_) ?_
    · have h9 := hd 9 (by simp)
      clear hd
      generalize us 9 = u9 at *
      obtain rfl : u9 = .int .i64 (toP ((off : Int) + (size : Int)) x) := h9
      refine web_of_list 17 rfl (by simp [Act.put]) rfl ?_
      go_wp2_with fail
      exact ⟨Ext.refl _, rfl⟩
    simp only [Act.put, List.setIfInBounds_toArray, List.set_cons_zero, List.set_cons_succ]
    rw [webWalk]
    intro w' hx hv
    have h10 := hv 10 (by omega)
    have h11 := hv 11 (by omega)
    clear hv
    generalize us 0 = u0 at *
    generalize us 1 = u1 at *
    generalize us 2 = u2 at *
    generalize us 3 = u3 at *
    generalize us 4 = u4 at *
    generalize us 5 = u5 at *
    generalize us 6 = u6 at *
    generalize us 7 = u7 at *
    generalize us 8 = u8 at *
    generalize us 9 = u9 at *
    generalize us 10 = u10 at *
    generalize us 11 = u11 at *
    obtain rfl : u10 = .int .i64 (fromP off x) := h10
    obtain rfl : u11 = .int .i64 (toP ((off : Int) + (size : Int)) x) := h11
    have HW := Lib.hid hx
    go_wp2_with fail
    have hpx := HAt.out x
    have hfr0 : 0 ≤ fromP off x := Int.le_max_right _ _
    have hto0 : toP ((off : Int) + (size : Int)) x ≤ 128 := Int.min_le_right _ _
    have i1' : Below (E + 1) wB w' := Below.trans i1 (Below.mono HW.out (by have := i1.size; omega))
    have i2' := i2.ext HW.out
    have j3' := j3.ext HW.out
    have hpl := flatpc_le HPC.out pre
    have hszW := i1'.size
    clear hx c6 c12 j1 j2 j3
    generalize fromP off x = fr at *
    generalize toP ((off : Int) + (size : Int)) x = tt at *
    by_cases hc : tt ≤ fr
    · rw [if_pos hc] at hpx
      gi_wp2_with fail
      refine ⟨keeps_ext HW.out, KpB.ext HW.out, i1', ?_, by simp; omega, i4.ext HW.out, i5.ext HW.out⟩
      rw [List.flatMap_append, List.flatMap_singleton, hpx, List.append_nil]
      exact i2'
    rw [if_neg hc] at hpx
    obtain ⟨fa, rfl⟩ : ∃ k : Nat, fr = (k : Int) := ⟨fr.toNat, by omega⟩
    obtain ⟨ta, rfl⟩ : ∃ k : Nat, tt = (k : Int) := ⟨tt.toNat, by omega⟩
    have hlt1 : fa < ta := by omega
    have hlt2 : ta ≤ 128 := by omega
    have hm : ((ta : Int) - (fa : Int)).toNat = ta - fa := by omega
    rw [hm, Int.toNat_natCast] at hpx
    by_cases hq : f x = -1
    · rw [if_pos hq] at hpx
      rw [hq]
      have hw : IntKind.i64.wrap ((ta : Int) - (fa : Int)) = ((ta - fa : Nat) : Int) := by rw [IntKind.wrap_i64]; omega
      have HR := Lib.hid (fun w => repeat_any (ta - fa) w (by omega))
      have HS := Lib.hid (fun w2 (x2 : Ext w' w2) => writeString_keeps (E + 1) (E + 1) (pre.flatMap pc) (zs (ta - fa)) w2 (i2'.ext x2) (by have := x2.size; omega) (by omega) (by simp [zs]; omega))
      have HP := Lib.hid hpx
      clear hpx hq hm
      generalize hmm : ta - fa = m at *
      clear hmm
      gi_wp2_with (first
        | (refine ⟨trivial, ?_⟩; gi_at_call 53; refine (CallsIn.inRound l (callsIn_wide.2 (HR.out _))).mono ?_; rintro e w2 ⟨rfl, x2⟩)
        | (refine ⟨trivial, ?_⟩; gi_at_call 52; refine (CallsIn.inRound l (callsIn_wide.2 (HS.out _ x2))).mono ?_; rintro e w3 ⟨rfl, f3, q3, k3⟩))
      have x12 := HW.out.trans x2
      obtain ⟨cs, hcs⟩ := (i2'.ext x2).isCells
      have k4 := i4.ext x12
      have k5 := i5.ext x12
      have hk := KpB.others k3 (show b1 ≠ E + 1 by omega) (show b2 ≠ E + 1 by omega) (fun cs t e => by rw [show w2.heap[b1]? = _ from k4] at e; cases e; decide) (fun cs t e => by rw [show w2.heap[b2]? = _ from k5] at e; cases e; decide)
      refine ⟨(keeps_ext x12).trans (keeps_others k3 hcs q3.size), (KpB.ext x12).trans hk, (i1'.trans (Below.mono x2 (by omega))).trans q3, ?_, by simp; omega, (hk _ _).1 k4, (hk _ _).2 k5⟩
      rw [List.flatMap_append, List.flatMap_singleton, HP.out]
      exact .inr f3
    rw [if_neg hq] at hpx
    have hqb := HQ.out x hq
    have hss := hSS w' i1'
    have cv : w'.cell? ⟨g, 0, none⟩ = some (.slice (some ⟨b, 0, none⟩) F.v.length cap) := j3'.cell 0
    obtain ⟨b', o', he, hcell⟩ := hss.2 (by omega)
    cases he
    obtain ⟨qn, hqn⟩ : ∃ q : Nat, f x = (q : Int) := ⟨(f x).toNat, by omega⟩
    rw [hqn] at hqb hpx
    rw [hqn]
    have cb : w'.cell? ⟨b, qn, none⟩ = some (.string (str (F.v.getD qn []))) := by have := cell_getD hcell (k := qn) (by omega); rwa [Nat.zero_add] at this
    have hbl : (F.v.getD qn []).length = 128 := getD_len hGd.out (by omega)
    rw [Int.toNat_natCast] at hpx
    clear hcell hss hq
    have hqs : (qn : Int) < (F.v.length : Int) := hqb.2
    generalize F.v.getD qn [] = blk at *
    have hsb : (str blk).size = 128 := by rw [str_size, hbl]
    have HS := Lib.hid (show Calls Tryz.prog 52 #[.pointer (some ⟨E + 1, 0, none⟩), .string ((str blk).extract fa ta)] w' _ from by
      rw [str_ext]
      exact writeString_keeps (E + 1) (E + 1) (pre.flatMap pc) ((blk.drop fa).take (ta - fa)) w' i2' (by omega) (by omega) (by simp; omega))
    have HP := Lib.hid hpx
    clear hpx hm hqn hc hqb
    gi_wp2_with (refine ⟨trivial, ?_⟩; gi_at_call 52; refine (CallsIn.inRound l (callsIn_wide.2 HS.out)).mono ?_; rintro e w3 ⟨rfl, f3, q3, k3⟩)
    have x12 := HW.out
    obtain ⟨cs, hcs⟩ := i2'.isCells
    have k4 := i4.ext x12
    have k5 := i5.ext x12
    have hk := KpB.others k3 (show b1 ≠ E + 1 by omega) (show b2 ≠ E + 1 by omega) (fun cs t e => by rw [show w'.heap[b1]? = _ from k4] at e; cases e; decide) (fun cs t e => by rw [show w'.heap[b2]? = _ from k5] at e; cases e; decide)
    refine ⟨(keeps_ext x12).trans (keeps_others k3 hcs q3.size), (KpB.ext x12).trans hk, i1'.trans q3, ?_, by simp; omega, (hk _ _).1 k4, (hk _ _).2 k5⟩
    rw [List.flatMap_append, List.flatMap_singleton, HP.out]
    exact .inr f3
    -- WEB ENDS
  case done =>
    rintro D ys W hD hys ⟨i1, i2, i3, i4, i5⟩ hK
    subst hys
    have HS := Lib.hid (bldS_string (E + 1) (E + 1) _ W i2 (by have := i1.size; omega))
    have HE := Lib.hid HRD.out
    clear HRD
    have i1s := i1.size
    generalize (List.range (min cb 70)).flatMap pc = R at *
    gi_wp2_with fail
    go_wp2_with (go_at_call 54; refine HS.out.mono ?_; rintro e w6 ⟨rfl, q6, k6⟩)
    obtain ⟨cs, hcs⟩ := i2.isCells
    have hK6 := (keeps_others (B := E + 1) k6 hcs q6.size).2 D _ (by omega) hK rfl
    refine ⟨by simp, .inl ⟨_, _, rfl, run_takeDeferred hK6, ?_⟩⟩
    exact ⟨_, results_tmp2 rfl _ _ _, by rw [HFE.out, HE.out]; simp, (hXE _ (i1.trans q6)).putObj (.deferred none) hK6 (by have := HXB.out.size; omega)⟩
  case stop =>
    rintro D c pre W hD _ h
    exact h.elim
end Go.Proofs.YtnoofjddikhopaaGreat
/- extent.Read of an inode that is, whatever is asked. -/
namespace Go.Proofs.YtnoofjddikhopaaGreat
set_option linter.unusedVariables false
set_option linter.unusedSimpArgs false
open Go.RowKit
/-- what reading tells -/
def readE (v : List (List UInt8)) (I k off size : Int) : List UInt8 × Int :=
  if off < 0 ∨ size < 0 then ([], 1) else if sizeP (fileOf v I k).x ≤ off then ([], 0) else (readP (fileOf v I k) off.toNat size.toNat, 0)
set_option maxHeartbeats 1000000 in
set_option maxRecDepth 100000 in
theorem fread_neg (A : Option Addr) (n c : Nat) (v : List (List UInt8)) (I k off size : Int) (w : World) (hv : Strs w A n v) (hg : Good v I) (hk1 : 1 ≤ k) (hk2 : k ≤ I) (hneg : off < 0 ∨ size < 0) :
    Calls Tryz.prog 23 #[.slice A n c, .int .i64 k, .int .i64 off, .int .i64 size] w fun e w' => e = .returned (.tuple #[.string ⟨#[]⟩, .int .i64 1]) ∧ Ext w w' := by
  have HO := Lib.hid (fun w h => opened_yes A n c v I k w h hg hk1 hk2)
  have HV := Lib.hid hv
  have x0 : Ext w (w.alloc (.cells #[.int .i64 off] 3)) := (Ext.refl w).alloc _
  have b0 := Box.new w 3 #[.int .i64 off]
  clear hv hg hk1 hk2
  rcases (by omega : off < 0 ∨ (¬ off < 0 ∧ size < 0)) with h1 | ⟨h1, h2⟩
  · have d1 : decide (off < 0) = true := decide_eq_true h1
    clear hneg h1
    go_enter Tryz.func23, Tryz.ntmps23
    go_upto_region 1 with fail
    generalize w.alloc (.cells #[.int .i64 off] 3) = w1 at *
    go_wp2_with (first
      | (go_at_call 49; refine (HO.out _ (HV.out.ext x0)).mono ?_; rintro e w2 ⟨⟨s, rfl, hsn, own2⟩, x2⟩; have xa : Ext w2 (w2.alloc (.cells fileZ 83)) := (Ext.refl w2).alloc _)
      | (refine wp_st_file (.tmp 10) (.tmp 22) rfl rfl w2.heap.size s (fileOf v I k) _ 83 rfl rfl (Box.new _ _ _) rfl ?_; intro w3 b3 g3; have x23 : Ext w2 w3 := xa.grown g3 (fun j e => by cases e; exact Nat.le_refl _); have c3 : w3.cell? ⟨w.heap.size, 0, none⟩ = some (.int .i64 off) := ((b0.ext x2).ext x23).cell 0))
    go_ret2
    exact ⟨rfl, x0.trans (x2.trans x23)⟩
  · have d1 : decide (off < 0) = false := decide_eq_false h1
    have d2 : decide (size < 0) = true := decide_eq_true h2
    clear hneg h1 h2
    go_enter Tryz.func23, Tryz.ntmps23
    go_upto_region 1 with fail
    generalize w.alloc (.cells #[.int .i64 off] 3) = w1 at *
    go_wp2_with (first
      | (go_at_call 49; refine (HO.out _ (HV.out.ext x0)).mono ?_; rintro e w2 ⟨⟨s, rfl, hsn, own2⟩, x2⟩; have xa : Ext w2 (w2.alloc (.cells fileZ 83)) := (Ext.refl w2).alloc _)
      | (refine wp_st_file (.tmp 10) (.tmp 22) rfl rfl w2.heap.size s (fileOf v I k) _ 83 rfl rfl (Box.new _ _ _) rfl ?_; intro w3 b3 g3; have x23 : Ext w2 w3 := xa.grown g3 (fun j e => by cases e; exact Nat.le_refl _); have c3 : w3.cell? ⟨w.heap.size, 0, none⟩ = some (.int .i64 off) := ((b0.ext x2).ext x23).cell 0))
    go_ret2
    exact ⟨rfl, x0.trans (x2.trans x23)⟩
theorem fread_any (A : Option Addr) (n c : Nat) (v : List (List UInt8)) (I k off size : Int) (w : World) (hv : Strs w A n v) (hg : Good v I) (hk1 : 1 ≤ k) (hk2 : k ≤ I) (ho : off ≤ 9223372036854775807) (hs : size ≤ 9223372036854775807) :
    Calls Tryz.prog 23 #[.slice A n c, .int .i64 k, .int .i64 off, .int .i64 size] w fun e w' => e = .returned (.tuple #[.string (str (readE v I k off size).1), .int .i64 (readE v I k off size).2]) ∧ Ext w w' := by
  unfold readE
  by_cases h1 : off < 0 ∨ size < 0
  · rw [if_pos h1]
    exact fread_neg A n c v I k off size w hv hg hk1 hk2 h1
  rw [if_neg h1]
  obtain ⟨o, rfl⟩ : ∃ o : Nat, off = (o : Int) := ⟨off.toNat, by omega⟩
  obtain ⟨s, rfl⟩ : ∃ s : Nat, size = (s : Int) := ⟨size.toNat, by omega⟩
  by_cases h2 : sizeP (fileOf v I k).x ≤ (o : Int)
  · rw [if_pos h2]
    exact fread_past A n c v I k o s w hv hg hk1 hk2 h2
  rw [if_neg h2]
  simp only [Int.toNat_natCast]
  by_cases h3 : (s : Int) < sizeP (fileOf v I k).x - (o : Int)
  · exact fread_less A n c v I k o s w hv hg hk1 hk2 (by omega) hs h3
  · exact fread_yes A n c v I k o s w hv hg hk1 hk2 (by omega) hs (by omega)
end Go.Proofs.YtnoofjddikhopaaGreat
/- Plain: what is written into a new file is read there. -/
namespace Go.Proofs.YtnoofjddikhopaaGreat
set_option linter.unusedVariables false
set_option linter.unusedSimpArgs false
open Go.RowKit Go.Shelf
theorem wrap64_small {z : Int} (h0 : -9223372036854775808 ≤ z) (h1 : z < 9223372036854775808) : wrap64 z = z := by
  unfold wrap64; omega
end Go.Proofs.YtnoofjddikhopaaGreat
/- The bytes that extent.Read tells, one by one: plain. -/
namespace Go.Proofs.YtnoofjddikhopaaGreat
set_option linter.unusedVariables false
set_option linter.unusedSimpArgs false
/-- the byte i of a file -/
def byteF (v : List (List UInt8)) (I : Int) (x : List Int) (i : Nat) : UInt8 := if atP v I x (i / 128) = -1 then 0 else (v.getD (atP v I x (i / 128)).toNat []).getD (i % 128) 0
def fbytes (v : List (List UInt8)) (I : Int) (x : List Int) (off m : Nat) : List UInt8 := (List.range' off m).map (byteF v I x)
theorem fbytes_succ (v : List (List UInt8)) (I : Int) (x : List Int) (off m : Nat) : fbytes v I x off (m + 1) = fbytes v I x off m ++ [byteF v I x (off + m)] := by
  unfold fbytes
  rw [← List.range'_append_1]; simp
theorem fbytes_len (v : List (List UInt8)) (I : Int) (x : List Int) (off m : Nat) : (fbytes v I x off m).length = m := by simp [fbytes]
theorem fbytes_get (v : List (List UInt8)) (I : Int) (x : List Int) (off m j : Nat) (h : j < (fbytes v I x off m).length) : (fbytes v I x off m)[j] = byteF v I x (off + j) := by
  simp [fbytes]
theorem atP_in {v : List (List UInt8)} {I : Int} {x : List Int} {k : Nat} (h : atP v I x k ≠ -1) : isB v I (atP v I x k) = true := by
  unfold atP at h ⊢
  split
  · rename_i c; exact c
  · rename_i c; rw [if_neg c] at h; exact absurd rfl h
theorem from_nat {off K : Nat} (ho : off ≤ 8960) (hK : K < 70) : fromP off K = ((max off (128 * K) - 128 * K : Nat) : Int) := by
  unfold fromP
  rw [wrap64_small (z := (K : Int) * 128) (by omega) (by omega), wrap64_small (by omega) (by omega)]
  omega
theorem to_int {e K : Nat} (he : e ≤ 8960) (hK : K < 70) : toP e K = min ((e : Int) - 128 * (K : Int)) 128 := by
  unfold toP
  rw [wrap64_small (z := (K : Int) * 128) (by omega) (by omega), wrap64_small (by omega) (by omega)]
  omega
theorem piece_bytes {F : FileT} (hg : Good F.v F.I) {off e K : Nat} (ho : off ≤ 8960) (he : e ≤ 8960) (hK : K < 70) :
    pieceP F off e K = fbytes F.v F.I F.x (max off (128 * K)) (min e (128 * (K + 1)) - max off (128 * K)) := by
  unfold pieceP
  rw [from_nat ho hK, to_int he hK]
  by_cases h : min ((e : Int) - 128 * (K : Int)) 128 ≤ ((max off (128 * K) - 128 * K : Nat) : Int)
  · rw [if_pos h, show min e (128 * (K + 1)) - max off (128 * K) = 0 by omega]; rfl
  · rw [if_neg h]
    have hm : (min ((e : Int) - 128 * (K : Int)) 128 - ((max off (128 * K) - 128 * K : Nat) : Int)).toNat = min e (128 * (K + 1)) - max off (128 * K) := by omega
    rw [hm]
    by_cases hh : atP F.v F.I F.x K = -1
    · rw [if_pos hh]
      refine List.ext_getElem (by rw [zs_len, fbytes_len]) fun j h1 h2 => ?_
      rw [zs_len] at h1
      rw [fbytes_get]
      unfold byteF
      rw [show (max off (128 * K) + j) / 128 = K by omega, if_pos hh]
      simp [zs]
    · rw [if_neg hh]
      obtain ⟨b1, b2⟩ := isB_le (atP_in hh)
      have hp := plan_bd hg.plan
      have hbl : (F.v.getD (atP F.v F.I F.x K).toNat []).length = 128 := getD_len hg (by omega)
      refine List.ext_getElem (by rw [fbytes_len, List.length_take, List.length_drop, hbl]; omega) fun j h1 h2 => ?_
      rw [fbytes_len] at h2
      rw [List.getElem_take, List.getElem_drop]
      rw [fbytes_get]
      unfold byteF
      rw [show (max off (128 * K) + j) / 128 = K by omega, if_neg hh]
      have hix : (((max off (128 * K) - 128 * K : Nat) : Int)).toNat + j = (max off (128 * K) + j) % 128 := by omega
      simp only [hix]
      rw [List.getD_eq_getElem?_getD (l := F.v.getD (atP F.v F.I F.x K).toNat []), List.getElem?_eq_getElem (by rw [hbl]; omega)]
      rfl
theorem pieces_bytes {F : FileT} (hg : Good F.v F.I) {off e : Nat} (ho : off ≤ 8960) (he : e ≤ 8960) (K : Nat) (hK : K ≤ 70) :
    (List.range K).flatMap (pieceP F off e) = fbytes F.v F.I F.x off (min e (128 * K) - off) := by
  induction K with
  | zero => rw [show min e (128 * 0) - off = 0 by omega]; rfl
  | succ K ih =>
    rw [List.range_succ, List.flatMap_append, ih (by omega), List.flatMap_cons, List.flatMap_nil, List.append_nil, piece_bytes hg ho he (by omega)]
    unfold fbytes
    rw [← List.map_append]
    congr 1
    by_cases h1 : 128 * K ≤ off
    · rw [show min e (128 * K) - off = 0 by omega, show max off (128 * K) = off by omega]; rfl
    · by_cases h2 : e ≤ 128 * K
      · rw [show min e (128 * (K + 1)) - max off (128 * K) = 0 by omega, show min e (128 * K) - off = min e (128 * (K + 1)) - off by omega]; simp
      · have e1 : min e (128 * K) - off = 128 * K - off := by omega
        have e2 : max off (128 * K) = off + (128 * K - off) := by omega
        rw [e1, e2, List.range'_append_1]
        congr 1
        omega
theorem readP_bytes {F : FileT} (hg : Good F.v F.I) {off size : Nat} (h : (off : Int) < sizeP F.x) : readP F off size = fbytes F.v F.I F.x off (min size (sizeP F.x - (off : Int)).toNat) := by
  have hs : sizeP F.x ≤ 8960 := by unfold sizeP; omega
  unfold readP
  obtain ⟨e, he⟩ : ∃ e : Nat, endP F off size = (e : Int) := ⟨(endP F off size).toNat, by unfold endP; split <;> omega⟩
  have he2 : (e : Int) = if (size : Int) < sizeP F.x - (off : Int) then (off : Int) + size else sizeP F.x := by rw [← he]; rfl
  have he3 : e ≤ 8960 := by split at he2 <;> omega
  rw [he, pieces_bytes hg (by omega) he3 _ (by omega)]
  congr 1
  unfold blocksP
  split at he2 <;> omega
/-- what extent.Read tells, byte by byte -/
theorem readE_bytes {v : List (List UInt8)} {I k : Int} (hg : Good v I) {off size : Nat} : readE v I k off size = (fbytes v I (inoAt v k) off (min size (sizeP (inoAt v k) - (off : Int)).toNat), 0) := by
  unfold readE
  rw [if_neg (by omega)]
  by_cases h : sizeP (fileOf v I k).x ≤ (off : Int)
  · rw [if_pos h]
    have : sizeP (inoAt v k) ≤ (off : Int) := h
    rw [show min size (sizeP (inoAt v k) - (off : Int)).toNat = 0 by omega]; rfl
  · rw [if_neg h, Int.toNat_natCast, Int.toNat_natCast, readP_bytes (F := fileOf v I k) hg (by omega)]; rfl
end Go.Proofs.YtnoofjddikhopaaGreat
