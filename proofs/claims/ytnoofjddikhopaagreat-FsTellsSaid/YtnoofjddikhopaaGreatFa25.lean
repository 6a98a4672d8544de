/- fs.gone, fs.Remove on a volume that is one. -/
import Derived.Test.YtnoofjddikhopaaGreatFa24
import Derived.Test.YtnoofjddikhopaaGreatFa11
namespace Go.Proofs.YtnoofjddikhopaaGreat
set_option linter.unusedVariables false
set_option linter.unusedSimpArgs false
open Go.RowKit
theorem give_nos (A : Option Addr) (n c : Nat) (b : Int) (v : List (List UInt8)) (I : Int) (hg : Good v I) (hb : canGive v I b = false) :
    ∃ z : Int, z ≠ 0 ∧ ∀ w, Strs w A n v → Calls Tryz.prog 84 #[.slice A n c, .int .i64 b] w fun e w' => e = .returned (.tuple #[.slice none 0 0, .int .i64 z]) ∧ Ext w w' := by
  cases hi : isB v I b with
  | false => exact ⟨2, by decide, fun w hv => give_out A n c b v I w hv hg hi⟩
  | true =>
    obtain ⟨h1, h2⟩ := isB_le hi
    have hp := plan_bd hg.plan
    obtain ⟨i, rfl⟩ : ∃ i : Nat, b = (i : Int) := ⟨b.toNat, by omega⟩
    refine ⟨9, by decide, fun w hv => give_free A n c i v I w hv hg h1 (by omega) ?_⟩
    unfold canGive at hb
    rw [hi, Bool.true_and] at hb
    exact hb
set_option maxHeartbeats 2000000 in
set_option maxRecDepth 100000 in
theorem gone_any (A : Option Addr) (n c : Nat) (v : List (List UInt8)) (I k : Int) (w : World) (hv : Strs w A n v) (hg : Good v I) (h1 : 1 ≤ k) (h2 : k ≤ I) :
    Calls Tryz.prog 39 #[.slice A n c, .int .i64 k] w fun e w' => WriteR w.heap.size (goneP v I k, 0) e w' ∧ Ext w w' := by
  have HC := Lib.hid (fun w h => fcut_any A n c v I k 0 w h hg h1 h2)
  have HV := Lib.hid hv
  obtain ⟨h0, _, hl, _⟩ := gone_ok hg h1 h2
  have a1 := (cutP_ok hg h1 h2 h0).1
  have HE0 := Lib.hid h0
  have e0 : (Value.int .i64 (cutP v I k 0).2) = .int .i64 0 := by rw [h0]
  have HP := Lib.hid (show goneP v I k = putAt (if canGive (cutP v I k 0).1 I ((inoAt (cutP v I k 0).1 k).getD 11 0) then givenV (cutP v I k 0).1 ((inoAt (cutP v I k 0).1 k).getD 11 0).toNat else (cutP v I k 0).1) k zero12 from rfl)
  have hpl := plan_bd a1.plan
  clear hv hg h0 hl
  generalize cutP v I k 0 = C at *
  have HG := Lib.hid (fun A n c w h => iget_yes A n c C.1 I k w h a1 h1 h2)
  have hx11 : (intVals (inoAt C.1 k))[11]? = some (.int .i64 ((inoAt C.1 k).getD 11 0)) := rfl
  have hxl : (inoAt C.1 k).length = 12 := rfl
  have HPt := Lib.hid (fun A n c r w (h : Strs w A n r) (hr : Good r I) => iput_yes A n c r I k zero12 w h hr h1 h2 rfl (i64_of_fits zero_fits rfl) zero_fits)
  have hpos : 0 < C.1.length := by omega
  go_enter Tryz.func39, Tryz.ntmps39
  go_upto_region 4 with (go_at_call 83; refine (HC.out _ HV.out).mono ?_; rintro e w2 ⟨hW, x2⟩; obtain ⟨u2, rfl, hW2⟩ := hW.form; obtain ⟨b2, cap2, rfl, own2⟩ := hW2.strs HE0.out; rw [e0]; have st2 := Strs.own own2; have HX2 := Lib.hid x2; have HO2 := Lib.hid own2; clear hW hW2 own2 x2)
  have HG2 := Lib.hid (HG.out _ _ cap2 w2 st2)
  have HS2 := Lib.hid st2
  generalize inoAt C.1 k = xs at *
  generalize xs.getD 11 0 = ex at *
  clear HG HC st2 e0 hpl
  go_upto_region 7 with (first
    | (go_at_call 35; refine HG2.out.mono ?_; rintro e w3 ⟨rfl, x3⟩)
    | (refine wp_st_ino (.tmp 8) (.tmp 24) rfl rfl w3.heap.size _ zero12 61 rfl rfl (Box.new _ _ _) hxl rfl ?_; intro w4 b4 g4; have c11 := (b4.cell 11).trans hx11))
  have X4 := Lib.hid ((x3.alloc (.cells (intVals zero12) 61)).grown g4 (fun k e => by cases e; exact x3.size))
  have S4 := Lib.hid (HS2.out.ext X4.out)
  clear x3 g4 b4
  by_cases hcg : canGive C.1 I ex = true
  · rw [if_pos hcg] at HP
    obtain ⟨g1, g2, g3⟩ := canGive_yes hcg
    obtain ⟨i, rfl⟩ : ∃ i : Nat, ex = (i : Int) := ⟨ex.toNat, by omega⟩
    rw [Int.toNat_natCast] at HP
    have gr : Good (givenV C.1 i) I := a1.flip (by unfold dataOf; omega) (by omega)
    have HGv := Lib.hid (give_yes (some ⟨b2, 0, none⟩) C.1.length cap2 i C.1 I w4 S4.out a1 g1 (by omega) g3)
    have HPt2 := Lib.hid (fun A n c w h => HPt.out A n c (givenV C.1 i) w h gr)
    have HL2 := Lib.hid (show (putAt (givenV C.1 i) k zero12).length = C.1.length by rw [putAt_len, givenV_len])
    clear hcg g1 g2 g3 HPt gr HE0
    go_wp2_with (first
      | (go_at_call 84; refine HGv.out.mono ?_; rintro e w5 ⟨u5, rfl, x5, own5⟩; obtain ⟨b5, cap5, rfl, _, st5⟩ := Strs.own' own5 hpos)
      | (go_at_call 40; refine (HPt2.out _ _ cap5 _ st5).mono ?_; rintro e w6 ⟨u6, rfl, x6, own6⟩; obtain ⟨b6, cap6, rfl, _, _⟩ := Strs.own' own6 hpos))
    go_ret2
    have X6 := ((HX2.out.trans X4.out).trans x5).trans x6
    refine ⟨.inr ⟨rfl, b6, cap6, ?_, ?_⟩, X6⟩
    · show _ = Ending.returned (.tuple #[.slice (some ⟨b6, 0, none⟩) (goneP v I k).length cap6, .int .i64 0])
      rw [HP.out, HL2.out]; rfl
    · show World.ownsRow _ _ _ 1 (.slice (some ⟨b6, 0, none⟩) (goneP v I k).length cap6) (goneP v I k).length (strL (goneP v I k))
      rw [HP.out, HL2.out]
      exact own_base own6 (by have := HX2.out.size; have := X4.out.size; have := x5.size; omega)
  · rw [if_neg hcg] at HP
    obtain ⟨z, hz, HGv0⟩ := give_nos (some ⟨b2, 0, none⟩) C.1.length cap2 ex C.1 I a1 (by simpa using hcg)
    have HGv := Lib.hid HGv0
    have dz : (z == 0) = false := by simpa using hz
    have HPt2 := Lib.hid (fun A n c w h => HPt.out A n c C.1 w h a1)
    have HL2 := Lib.hid (show (putAt C.1 k zero12).length = C.1.length by rw [putAt_len])
    clear hcg HPt HE0 HGv0 hz
    go_wp2_with (first
      | (go_at_call 84; refine (HGv.out _ S4.out).mono ?_; rintro e w5 ⟨rfl, x5⟩)
      | (go_at_call 40; refine (HPt2.out _ _ cap2 _ (S4.out.ext x5)).mono ?_; rintro e w6 ⟨u6, rfl, x6, own6⟩; obtain ⟨b6, cap6, rfl, _, _⟩ := Strs.own' own6 hpos))
    go_ret2
    have X6 := ((HX2.out.trans X4.out).trans x5).trans x6
    refine ⟨.inr ⟨rfl, b6, cap6, ?_, ?_⟩, X6⟩
    · show _ = Ending.returned (.tuple #[.slice (some ⟨b6, 0, none⟩) (goneP v I k).length cap6, .int .i64 0])
      rw [HP.out, HL2.out]; rfl
    · show World.ownsRow _ _ _ 1 (.slice (some ⟨b6, 0, none⟩) (goneP v I k).length cap6) (goneP v I k).length (strL (goneP v I k))
      rw [HP.out, HL2.out]
      exact own_base own6 (by have := HX2.out.size; have := X4.out.size; have := x5.size; omega)
theorem fits_links {x : List Int} (h : fitsB x = true) (hx : x.length = 12) {i : Int} (h0 : 0 ≤ i) (h1 : i < 65536) : fitsB (x.set 1 i) = true := by
  have h2 : ∀ k : Fin 12, fplace k = 1 → fsize k = 2 := by decide
  unfold fitsB at *
  rw [List.all_eq_true] at *
  intro k hk
  have hk2 := of_decide_eq_true (h k hk)
  refine decide_eq_true ?_
  by_cases e : fplace k = 1
  · have hg : (x.set 1 i).getD (fplace k) 0 = i := by rw [e]; simp [List.getD, hx]
    rw [hg, h2 k e]
    exact ⟨h0, by simpa using h1⟩
  · have : (x.set 1 i).getD (fplace k) 0 = x.getD (fplace k) 0 := by simp [List.getD, Ne.symm e]
    rw [this]; exact hk2
theorem ino_links (v : List (List UInt8)) (k : Int) : 0 ≤ (inoAt v k).getD 1 0 ∧ (inoAt v k).getD 1 0 < 65536 := by
  have := fit_at (inoAt_fits v k) ⟨2, by decide⟩
  exact this
theorem remP_parts (v : List (List UInt8)) (I : Int) (p : List UInt8) (h0 : (findP v I p).2 = 0) (h1 : p ≠ [47])
    (h2 : ¬ (isDirP v I (findP v I p).1 = true ∧ ((dlistP v I (findP v I p).1).2 ≠ 0 ∨ (dlistP v I (findP v I p).1).1 ≠ []))) : remP v I p =
    if (findP v I (aboveP p)).2 ≠ 0 then ([], (findP v I (aboveP p)).2)
    else if (ddropP v I (findP v I (aboveP p)).1 (baseP p)).2 ≠ 0 then ([], (ddropP v I (findP v I (aboveP p)).1 (baseP p)).2)
    else if (findP v I p).1 < 1 ∨ I < (findP v I p).1 then ((ddropP v I (findP v I (aboveP p)).1 (baseP p)).1, 0)
    else if (inoAt v (findP v I p).1).getD 1 0 ≤ 1 ∨ (inoAt v (findP v I p).1).getD 0 0 = 2 then (goneP (ddropP v I (findP v I (aboveP p)).1 (baseP p)).1 I (findP v I p).1, 0)
    else (putAt (ddropP v I (findP v I (aboveP p)).1 (baseP p)).1 (findP v I p).1 ((inoAt v (findP v I p).1).set 1 ((inoAt v (findP v I p).1).getD 1 0 - 1)), 0) := by
  unfold remP
  rw [if_neg (fun h => h h0), if_neg h1, if_neg h2]
set_option maxHeartbeats 4000000 in
set_option maxRecDepth 100000 in
theorem remove1_any (A : Option Addr) (n c : Nat) (v : List (List UInt8)) (I : Int) (p : List UInt8) (b0 b1 : Nat) (w : World) (hv : Strs w A n v) (hg : Good v I) (hp : p.length ≤ 100000000)
    (c0 : w.cell? ⟨b0, 0, none⟩ = some (.slice A n c)) (c1 : w.cell? ⟨b1, 0, none⟩ = some (.string (str p))) :
    Calls Tryz.prog 34 #[.pointer (some ⟨b0, 0, none⟩), .pointer (some ⟨b1, 0, none⟩)] w fun e w' => WriteR w.heap.size (remP v I p) e w' ∧ Ext w w' := by
  have HF := Lib.hid (fun w h => find_any A n c v I p w h hg hp)
  have HV := Lib.hid hv
  by_cases hf0 : (findP v I p).2 = 0
  case neg =>
    have HP := Lib.hid (show remP v I p = ([], (findP v I p).2) by unfold remP; rw [if_pos hf0])
    have HN := Lib.hid hf0
    have d0 : ((findP v I p).2 != 0) = true := by simpa using hf0
    clear hf0 hv hg
    generalize findP v I p = F at *
    go_enter Tryz.func34, Tryz.ntmps34
    go_wp2_with (go_at_call 6; refine (HF.out _ HV.out).mono ?_; rintro e w1 ⟨rfl, x1⟩)
    go_ret2
    rw [HP.out]
    exact ⟨WriteR.err HN.out, x1⟩
  have hpt := str_toList p
  by_cases h1 : p = [47]
  · have HP := Lib.hid (show remP v I p = ([], 12) by unfold remP; rw [if_neg (fun h => h hf0), if_pos h1])
    have hs2 : (p == [47]) = true := by simpa using h1
    rw [hf0] at HF
    clear h1 hf0 hv hg
    generalize findP v I p = F at *
    go_enter Tryz.func34, Tryz.ntmps34
    go_wp2_with (go_at_call 6; refine (HF.out _ HV.out).mono ?_; rintro e w1 ⟨rfl, x1⟩; have c1' := x1.keep c1)
    go_ret2
    rw [HP.out]
    exact ⟨WriteR.err (by decide), x1⟩
  have hs2 : (p == [47]) = false := by simpa using h1
  have hm : mayP p = true := by
    cases hm : mayP p with
    | true => rfl
    | false => unfold findP at hf0; rw [if_pos hm] at hf0; simp at hf0
  have HP2 := Lib.hid (remP_parts v I p hf0 h1)
  have HP1 := Lib.hid (fun h => show remP v I p = ([], 12) by unfold remP; rw [if_neg (fun h => h hf0), if_neg h1, if_pos h])
  have HSp := Lib.hid (fun w => split_any p w ⟨mayP_slash hm, by have := mayP_len hm; omega⟩)
  rw [show p.take (max (slashP p) 1) = aboveP p from rfl] at HSp
  have HF2 := Lib.hid (fun w h => find_any A n c v I (aboveP p) w h hg (by have := above_len p; omega))
  have HD := Lib.hid (fun k w h => ddrop_any A n c v I k (baseP p) w h hg (by have := base_len p; omega))
  have HDg := Lib.hid (fun k h => ddrop_ok (v := v) (I := I) (k := k) (name := baseP p) hg h)
  rw [hf0] at HF
  clear h1 hf0 hm
  generalize aboveP p = ab at *
  generalize baseP p = ba at *
  obtain ⟨F, hFe⟩ : ∃ F, findP v I p = F := ⟨_, rfl⟩
  rw [hFe] at HF HP1 HP2
  clear hFe
  obtain ⟨G, hGe⟩ : ∃ G, findP v I ab = G := ⟨_, rfl⟩
  rw [hGe] at HF2 HP2
  clear hGe
  generalize remP v I p = RR at *
  obtain ⟨q, fe⟩ := F
  simp only at HF HP1 HP2
  clear fe
  have HDx := Lib.hid (HD.out G.1)
  have HDgx := Lib.hid (HDg.out G.1)
  clear HD HDg
  generalize ddropP v I G.1 ba = D at *
  by_cases hin : q < 1 ∨ I < q
  · have HG := Lib.hid (fun w h => iget_no A n c v I q w h hg hin)
    have hnd : isDirP v I q = false := by unfold isDirP; rw [decide_eq_false (by omega)]; rfl
    have HP3 := Lib.hid (HP2.out (fun h => by rw [hnd] at h; cases h.1))
    rw [if_pos hin] at HP3
    clear HP1 HP2 hnd hin hv hg
    go_enter Tryz.func34, Tryz.ntmps34
    go_upto_region 12 with (first
      | (go_at_call 6; refine (HF.out _ HV.out).mono ?_; rintro e w1 ⟨rfl, x1⟩; have c1' := x1.keep c1; have c0' := x1.keep c0)
      | (go_at_call 35; refine (HG.out _ (HV.out.ext x1)).mono ?_; rintro e w2 ⟨rfl, x2⟩)
      | (refine wp_st_ino (.tmp 6) (.tmp 29) rfl rfl w2.heap.size _ zero12 61 rfl rfl (Box.new _ _ _) rfl rfl ?_; intro w3 b3 g3; have x3 : Ext w w3 := ((x1.trans x2).alloc _).grown g3 (fun k e => by cases e; exact (x1.trans x2).size); have d1 := x3.keep c1)
      | (go_at_call 37; refine (HSp.out _).mono ?_; rintro e w4 ⟨rfl, x4⟩; have X4 := x3.trans x4; have e0 := X4.keep c0))
    have HX4 := Lib.hid X4
    clear x1 x2 x3 x4 X4 c0' c1' d1 g3 b3 HF HG HSp c0 c1
    by_cases hG0 : G.2 = 0
    case neg =>
      rw [if_pos hG0] at HP3
      have dG : (G.2 != 0) = true := by simpa using hG0
      have HN := Lib.hid hG0
      clear hG0
      go_wp2_with (go_at_call 6; refine (HF2.out _ (HV.out.ext HX4.out)).mono ?_; rintro e w5 ⟨rfl, x5⟩)
      go_ret2
      rw [HP3.out]
      exact ⟨WriteR.err HN.out, HX4.out.trans x5⟩
    rw [if_neg (fun h => h hG0)] at HP3
    rw [hG0] at HF2
    clear hG0
    by_cases hD0 : D.2 = 0
    · rw [if_neg (fun h => h hD0)] at HP3
      have HD0 := Lib.hid hD0
      have e1 : (Value.int .i64 D.2) = .int .i64 0 := by rw [hD0]
      clear hD0
      go_wp2_with (first
        | (go_at_call 6; refine (HF2.out _ (HV.out.ext HX4.out)).mono ?_; rintro e w5 ⟨rfl, x5⟩; have X5 := HX4.out.trans x5; have e5 := x5.keep e0)
        | (go_at_call 38; refine (HDx.out _ (HV.out.ext X5)).mono ?_; rintro e w6 ⟨hW, x6⟩; obtain ⟨u6, rfl, hW6⟩ := hW.form; obtain ⟨b6, cap6, rfl, own6⟩ := hW6.strs HD0.out; rw [e1]; have HO6 := Lib.hid own6; clear hW hW6 own6))
      go_ret2
      rw [HP3.out]
      exact ⟨.inr ⟨rfl, b6, cap6, rfl, own_base HO6.out X5.size⟩, X5.trans x6⟩
    · rw [if_pos hD0] at HP3
      have HD0 := Lib.hid hD0
      have dD : (D.2 != 0) = true := by simpa using hD0
      clear hD0
      go_wp2_with (first
        | (go_at_call 6; refine (HF2.out _ (HV.out.ext HX4.out)).mono ?_; rintro e w5 ⟨rfl, x5⟩; have X5 := HX4.out.trans x5; have e5 := x5.keep e0)
        | (go_at_call 38; refine (HDx.out _ (HV.out.ext X5)).mono ?_; rintro e w6 ⟨hW, x6⟩; obtain ⟨u6, rfl, hW6⟩ := hW.form; obtain rfl := hW6.nils HD0.out; clear hW hW6))
      go_ret2
      rw [HP3.out]
      exact ⟨WriteR.err HD0.out, X5.trans x6⟩
  · have q1 : 1 ≤ q := by omega
    have q2 : q ≤ I := by omega
    have HG := Lib.hid (fun w h => iget_yes A n c v I q w h hg q1 q2)
    have HL := Lib.hid (fun w h => dlist_any A n c v I q w h hg)
    have HGn := Lib.hid (fun A n c r w h (hr : Good r I) => gone_any A n c r I q w h hr q1 q2)
    have hxl : (inoAt v q).length = 12 := rfl
    have hx0 : (intVals (inoAt v q))[0]? = some (.int .i64 ((inoAt v q).getD 0 0)) := rfl
    have hx1 : (intVals (inoAt v q))[1]? = some (.int .i64 ((inoAt v q).getD 1 0)) := rfl
    have hnd : isDirP v I q = decide ((inoAt v q).getD 0 0 = 2) := by unfold isDirP; rw [decide_eq_true (by omega)]; rfl
    have hlk := ino_links v q
    have HPt := Lib.hid (fun A n c r w (h : Strs w A n r) (hr : Good r I) (hl : 1 < (inoAt v q).getD 1 0) => iput_yes A n c r I q ((inoAt v q).set 1 ((inoAt v q).getD 1 0 - 1)) w h hr q1 q2 (by rw [List.length_set]; rfl)
      (i64_of_fits (fits_links (inoAt_fits v q) rfl (by omega) (by omega)) (by rw [List.length_set]; rfl)) (fits_links (inoAt_fits v q) rfl (by omega) (by omega)))
    rw [hnd] at HP1 HP2
    rw [if_neg hin] at HP2
    have hv0 := Lib.hid hv
    clear hin hnd hv hg
    obtain ⟨LL, hLL⟩ : ∃ LL, dlistP v I q = LL := ⟨_, rfl⟩
    rw [hLL] at HP1 HP2 HL
    clear hLL
    obtain ⟨xs, hxs⟩ : ∃ xs, inoAt v q = xs := ⟨_, rfl⟩
    rw [hxs] at HP1 HP2 HG hxl hx0 hx1 hlk HPt
    clear hxs
    obtain ⟨kd, hkd⟩ : ∃ kd, xs.getD 0 0 = kd := ⟨_, rfl⟩
    obtain ⟨lk, hlk2⟩ : ∃ lk, xs.getD 1 0 = lk := ⟨_, rfl⟩
    rw [hkd] at HP1 HP2 hx0
    rw [hlk2] at HP2 hx1 hlk HPt
    clear hkd hlk2
    go_enter Tryz.func34, Tryz.ntmps34
    go_upto_region 7 with (first
      | (go_at_call 6; refine (HF.out _ HV.out).mono ?_; rintro e w1 ⟨rfl, x1⟩; have c1' := x1.keep c1; have c0' := x1.keep c0)
      | (go_at_call 35; refine (HG.out _ (HV.out.ext x1)).mono ?_; rintro e w2 ⟨rfl, x2⟩)
      | (refine wp_st_ino (.tmp 6) (.tmp 29) rfl rfl w2.heap.size _ zero12 61 rfl rfl (Box.new _ _ _) hxl rfl ?_; intro w3 b3 g3; have x3 : Ext w w3 := ((x1.trans x2).alloc _).grown g3 (fun k e => by cases e; exact (x1.trans x2).size)))
    have d1 := x3.keep c1
    have d0 := x3.keep c0
    have HX3 := Lib.hid x3
    have HB3 := Lib.hid b3
    have k0 : w3.cell? ⟨w2.heap.size, 0, none⟩ = some (.int .i64 kd) := (b3.cell 0).trans hx0
    have HV3 := Lib.hid (HV.out.ext x3)
    have hx12 := (x1.trans x2).size
    clear x1 x2 x3 c0' c1' g3 b3 HF HG c0 c1 HV
    have hgx : w.heap.size ≤ w2.heap.size := hx12
    clear hx12
    generalize w2.heap.size = gx at *
    go_upto_if 37 with fail
    go_cut [8, 9] (fun _ _ wx => Ext w3 wx ∧ ¬ (decide (kd = 2) = true ∧ (LL.2 ≠ 0 ∨ LL.1 ≠ [])))
    case first =>
      clear HP2 HDx HDgx HSp HF2 HGn HPt
      by_cases hk : kd = 2
      · have dk : (kd == 2) = true := by simpa using hk
        have dk2 : decide (kd = 2) = true := decide_eq_true hk
        have HK := Lib.hid dk2
        clear hk dk2
        obtain ⟨ll, le⟩ := LL
        simp only at HL HP1 ⊢
        by_cases he : le = 0
        · subst he
          cases ll with
          | nil =>
            go_wp2_with (go_at_call 36; refine (HL.out _ HV3.out).mono ?_; rintro e w4 ⟨u, rfl, x4, own4⟩; obtain ⟨A4, cap4, rfl, _⟩ := own4.form)
            go_meet
            exact ⟨x4, fun h => by simp at h⟩
          | cons y ll =>
            have HR := Lib.hid (HP1.out ⟨HK.out, .inr (by simp)⟩)
            have hpos : 0 < (y :: ll).length := by simp
            have hposI : (0 : Int) < ((y :: ll).length : Int) := by omega
            have hne : y :: ll ≠ [] := by simp
            clear HP1
            generalize y :: ll = yl at *
            go_wp2_with (go_at_call 36; refine (HL.out _ HV3.out).mono ?_; rintro e w4 ⟨u, rfl, x4, own4⟩; obtain ⟨A4, cap4, rfl, _⟩ := own4.form)
            go_ret2
            rw [HR.out]
            exact ⟨WriteR.err (by decide), HX3.out.trans x4⟩
        · have HR := Lib.hid (HP1.out ⟨HK.out, .inl he⟩)
          have de : (le != 0) = true := by simpa using he
          clear HP1 he
          go_wp2_with (go_at_call 36; refine (HL.out _ HV3.out).mono ?_; rintro e w4 ⟨u, rfl, x4, own4⟩)
          go_ret2
          rw [HR.out]
          exact ⟨WriteR.err (by decide), HX3.out.trans x4⟩
      · have dk : (kd == 2) = false := by simpa using hk
        have HK := Lib.hid hk
        clear hk
        go_wp2_with fail
        go_meet
        exact ⟨Ext.refl _, fun h => HK.out (of_decide_eq_true h.1)⟩
    case rest =>
      obtain ⟨xc, hnb⟩ := hcut
      have HP3 := Lib.hid (HP2.out hnb)
      clear HP1 HP2 hnb HL
      have e0 := xc.keep d0
      have e1 := xc.keep d1
      have HBc := Lib.hid (HB3.out.ext xc)
      have HXc := Lib.hid (HX3.out.trans xc)
      have HVc := Lib.hid (HV3.out.ext xc)
      clear xc d0 d1 HB3 HX3 HV3 k0
      go_upto_region 12 with (go_at_call 37; refine (HSp.out _).mono ?_; rintro e w4 ⟨rfl, x4⟩; have f0 := x4.keep e0)
      have HX4 := Lib.hid (HXc.out.trans x4)
      have HB4 := Lib.hid (HBc.out.ext x4)
      clear x4 e0 e1 HXc HBc HSp HVc
      have HV := hv0
      by_cases hG0 : G.2 = 0
      case neg =>
        rw [if_pos hG0] at HP3
        have dG : (G.2 != 0) = true := by simpa using hG0
        have HN := Lib.hid hG0
        clear hG0
        go_wp2_with (go_at_call 6; refine (HF2.out _ (HV.out.ext HX4.out)).mono ?_; rintro e w5 ⟨rfl, x5⟩)
        go_ret2
        rw [HP3.out]
        exact ⟨WriteR.err HN.out, HX4.out.trans x5⟩
      rw [if_neg (fun h => h hG0)] at HP3
      rw [hG0] at HF2
      clear hG0
      by_cases hD0 : D.2 = 0
      case neg =>
        rw [if_pos hD0] at HP3
        have HD0 := Lib.hid hD0
        have dD : (D.2 != 0) = true := by simpa using hD0
        clear hD0
        go_wp2_with (first
          | (go_at_call 6; refine (HF2.out _ (HV.out.ext HX4.out)).mono ?_; rintro e w5 ⟨rfl, x5⟩; have X5 := HX4.out.trans x5; have e5 := x5.keep f0)
          | (go_at_call 38; refine (HDx.out _ (HV.out.ext X5)).mono ?_; rintro e w6 ⟨hW, x6⟩; obtain ⟨u6, rfl, hW6⟩ := hW.form; obtain rfl := hW6.nils HD0.out; clear hW hW6))
        go_ret2
        rw [HP3.out]
        exact ⟨WriteR.err HD0.out, X5.trans x6⟩
      rw [if_neg (fun h => h hD0)] at HP3
      have HD0 := Lib.hid hD0
      have HDk := Lib.hid (HDgx.out hD0)
      have e1 : (Value.int .i64 D.2) = .int .i64 0 := by rw [hD0]
      clear hD0 HDgx
      go_upto_region 18 with (first
        | (go_at_call 6; refine (HF2.out _ (HV.out.ext HX4.out)).mono ?_; rintro e w5 ⟨rfl, x5⟩; have X5 := HX4.out.trans x5; have e5 := x5.keep f0)
        | (go_at_call 38; refine (HDx.out _ (HV.out.ext X5)).mono ?_; rintro e w6 ⟨hW, x6⟩; obtain ⟨u6, rfl, hW6⟩ := hW.form; obtain ⟨b6, cap6, rfl, own6⟩ := hW6.strs HD0.out; rw [e1]; have st6 := Strs.own own6; have HO6 := Lib.hid own6; clear hW hW6 own6))
      have HX6 := Lib.hid (X5.trans x6)
      have HB6 := Lib.hid ((HB4.out.ext x5).ext x6)
      have HS6 := Lib.hid st6
      have k1 : w6.cell? ⟨gx, 1, none⟩ = some (.int .i64 lk) := (HB6.out.cell 1).trans hx1
      have k0 : w6.cell? ⟨gx, 0, none⟩ = some (.int .i64 kd) := (HB6.out.cell 0).trans hx0
      have f1 := HB6.out.frozen 1
      have hDl : 0 < D.1.length := by have := (plan_bd HDk.out.2.1.plan); omega
      have hgx6 : w.heap.size ≤ gx := hgx
      clear X5 x5 x6 e5 f0 HB4 HX4 HF2 HDx HV e1 st6
      by_cases hgo : lk ≤ 1 ∨ kd = 2
      · rw [if_pos hgo] at HP3
        have HGo := Lib.hid (HGn.out _ _ cap6 D.1 w6 HS6.out HDk.out.2.1)
        clear HGn HPt
        by_cases hl1 : lk ≤ 1
        · have dl : decide (lk ≤ 1) = true := decide_eq_true hl1
          clear hgo hl1
          go_wp2_with (go_at_call 39; refine HGo.out.mono ?_; rintro e w7 ⟨hW, x7⟩; obtain ⟨u7, rfl, hW7⟩ := hW.form; clear hW)
          go_ret2
          rw [HP3.out]
          exact ⟨hW7.base HX6.out.size, HX6.out.trans x7⟩
        · have dl : decide (lk ≤ 1) = false := decide_eq_false hl1
          have dk : (kd == 2) = true := by simpa using hgo.resolve_left hl1
          clear hgo hl1
          go_wp2_with (go_at_call 39; refine HGo.out.mono ?_; rintro e w7 ⟨hW, x7⟩; obtain ⟨u7, rfl, hW7⟩ := hW.form; clear hW)
          go_ret2
          rw [HP3.out]
          exact ⟨hW7.base HX6.out.size, HX6.out.trans x7⟩
      · rw [if_neg hgo] at HP3
        have dl : decide (lk ≤ 1) = false := decide_eq_false (fun h => hgo (.inl h))
        have dk : (kd == 2) = false := by simpa using (fun h => hgo (.inr h))
        have HPu := Lib.hid (fun w h => HPt.out (some ⟨b6, 0, none⟩) D.1.length cap6 D.1 w h HDk.out.2.1 (by omega))
        have wl : IntKind.i64.wrap (lk - 1) = lk - 1 := by rw [IntKind.wrap_i64]; omega
        have wl2 : wrap64 (lk - 1) = lk - 1 := by unfold wrap64; omega
        have hb7 : Box (w6.setCell ⟨gx, 1, none⟩ (.int .i64 (lk - 1))) gx 61 (intVals (xs.set 1 (lk - 1))) := by
          have e := HB6.out.set 1 (.int .i64 (lk - 1))
          rw [show (intVals xs).setIfInBounds 1 (.int .i64 (lk - 1)) = intVals (xs.set 1 (lk - 1)) by simp [intVals, List.map_set]] at e
          exact e
        have HX7 := Lib.hid (HX6.out.setCell (p := ⟨gx, 1, none⟩) hgx6 (.int .i64 (lk - 1)))
        have HS7 := Lib.hid (Strs.own (own_setBox (i := 1) HO6.out HB6.out (by decide) (.int .i64 (lk - 1))))
        have HB7 := Lib.hid hb7
        clear hgo HPt HGn hb7
        go_upto_region 21 with fail
        generalize w6.setCell ⟨gx, 1, none⟩ (.int .i64 (lk - 1)) = w7 at *
        go_wp2_with (first
          | (refine wp_ld_ino (.tmp 6) rfl rfl gx (xs.set 1 (lk - 1)) 61 rfl HB7.out (by rw [List.length_set]; exact hxl) ?_)
          | (go_at_call 40; refine (HPu.out _ HS7.out).mono ?_; rintro e w8 ⟨u8, rfl, x8, own8⟩; obtain ⟨b8, cap8, rfl, _, _⟩ := Strs.own' own8 hDl))
        go_ret2
        rw [HP3.out]
        refine ⟨.inr ⟨rfl, b8, cap8, ?_, ?_⟩, HX7.out.trans x8⟩
        · show _ = Ending.returned (.tuple #[.slice (some ⟨b8, 0, none⟩) (putAt D.1 q (xs.set 1 (lk - 1))).length cap8, .int .i64 0])
          rw [putAt_len]; rfl
        · show World.ownsRow _ _ _ 1 (.slice (some ⟨b8, 0, none⟩) (putAt D.1 q (xs.set 1 (lk - 1))).length cap8) (putAt D.1 q (xs.set 1 (lk - 1))).length (strL (putAt D.1 q (xs.set 1 (lk - 1))))
          rw [putAt_len]
          exact own_base own8 HX7.out.size
/-- what fs.Remove makes -/
def removeP (v : List (List UInt8)) (I : Int) (p : List UInt8) : List (List UInt8) × Int := weighP v I (remP v I p)
set_option maxHeartbeats 1000000 in
set_option maxRecDepth 100000 in
theorem remove_any (A : Option Addr) (n c : Nat) (v : List (List UInt8)) (I : Int) (p : List UInt8) (w : World) (hv : Strs w A n v) (hg : Good v I) (hp : p.length ≤ 100000000) :
    Calls Tryz.prog 16 #[.slice A n c, .string (str p)] w fun e w' => WriteR w.heap.size (removeP v I p) e w' ∧ Ext w w' := by
  have HV := Lib.hid hv
  have x2 : Ext w ((w.alloc (.cells #[.slice A n c] 22)).alloc (.cells #[.string (str p)] 9)) := (((Ext.refl w).alloc _).alloc _)
  have y0 := Box.new w 22 #[.slice A n c]
  have y1 := Box.new (w.alloc (.cells #[.slice A n c] 22)) 9 #[.string (str p)]
  have y0' := y0.ext ((Ext.refl _).alloc (.cells #[.string (str p)] 9))
  clear y0
  simp only [World.size_alloc] at y1
  have hmf : ∀ (fn : Fn) (first cap : Array Value) (w : World), (Instr.makeFunc fn first cap).run Tryz.prog w = .ok (.func fn first cap) w := fun _ _ _ _ => rfl
  go_enter Tryz.func16, Tryz.ntmps16
  go_upto_region 1 with fail
  generalize (w.alloc (.cells #[.slice A n c] 22)).alloc (.cells #[.string (str p)] 9) = w2 at *
  have c0 : w2.cell? ⟨w.heap.size, 0, none⟩ = some (.slice A n c) := y0'.cell 0
  have c1 : w2.cell? ⟨w.heap.size + 1, 0, none⟩ = some (.string (str p)) := y1.cell 0
  have HX2 := Lib.hid x2
  have HP := Lib.hid (show removeP v I p = weighP v I (remP v I p) from rfl)
  have HG := Lib.hid (fun h => (remP_good (v := v) (I := I) (p := p) hg h).1)
  have H1 := Lib.hid (remove1_any A n c v I p w.heap.size (w.heap.size + 1) w2 (HV.out.ext x2) hg hp c0 c1)
  have HW := Lib.hid (weighed_any w2.heap.size A n c v I 34 #[.pointer (some ⟨w.heap.size, 0, none⟩), .pointer (some ⟨w.heap.size + 1, 0, none⟩)] (remP v I p) (fun _ => True) w2 (enters_of Tryz.func34 (by kernel_rfl) rfl) (fun W hW => (HV.out.ext x2).ext hW) (Nat.le_refl _) hg HG.out (fun _ _ _ _ => trivial) (H1.out.mono fun e W h => ⟨h.1, h.2, trivial⟩))
  clear HG H1
  generalize remP v I p = R at *
  generalize weighP v I R = T at *
  clear hv hg HV x2 y0' y1 c1
  go_wp2_with (go_at_call 33; refine HW.out.mono ?_; rintro e w6 ⟨hW, x6, _⟩; obtain ⟨u, rfl, hW1⟩ := hW.form; clear hW)
  go_ret2
  rw [HP.out]
  exact ⟨hW1.base HX2.out.size, HX2.out.trans x6⟩
end Go.Proofs.YtnoofjddikhopaaGreat
/- The walk of fs.Find, whatever dir.Find answers. -/
namespace Go.Proofs.YtnoofjddikhopaaGreat
set_option linter.unusedVariables false
set_option linter.unusedSimpArgs false
open Go.RowKit Go.Shelf
attribute [local go_sem] Oper.semAt_some
/-- down these names -/
def stepsD (D : Int → List UInt8 → Int × Int) : Int → List (List UInt8) → Int × Int
  | n, [] => (n, 0)
  | n, x :: l => if (D n x).2 ≠ 0 then (0, (D n x).2) else stepsD D (D n x).1 l
def findD (D : Int → List UInt8 → Int × Int) (p : List UInt8) : Int × Int := if mayP p = false then (0, 7) else stepsD D 1 (pathP p)
/-- dir.Find where there is no volume -/
def badD (_ : Int) (name : List UInt8) : Int × Int := if mayD name = false then (0, 7) else (0, 3)
theorem stepsD_snoc (dd : Int → List UInt8 → Int × Int) (l : List (List UInt8)) : ∀ (n m : Int) (x : List UInt8), stepsD dd n l = (m, 0) → stepsD dd n (l ++ [x]) = if (dd m x).2 ≠ 0 then (0, (dd m x).2) else ((dd m x).1, 0) := by
  induction l with
  | nil =>
    intro n m x h
    obtain rfl : n = m := by injection h
    simp only [List.nil_append, stepsD]
  | cons y l ih =>
    intro n m x h
    simp only [List.cons_append, stepsD] at h ⊢
    by_cases h0 : (dd n y).2 ≠ 0
    · rw [if_pos h0] at h
      injection h with h1 h2
      exact absurd h2 h0
    · rw [if_neg h0] at h ⊢
      exact ih _ _ _ h
theorem stepsD_stop (dd : Int → List UInt8 → Int × Int) (l b : List (List UInt8)) : ∀ (n : Int) (R : Int × Int), stepsD dd n l = R → R.2 ≠ 0 → stepsD dd n (l ++ b) = R := by
  induction l with
  | nil =>
    intro n R h hR
    exact absurd (by rw [← h]; rfl) hR
  | cons y l ih =>
    intro n R h hR
    simp only [List.cons_append, stepsD] at h ⊢
    by_cases h0 : (dd n y).2 ≠ 0
    · rw [if_pos h0] at h ⊢; exact h
    · rw [if_neg h0] at h ⊢
      exact ih _ _ h hR
set_option maxHeartbeats 4000000 in
set_option maxRecDepth 100000 in
theorem find_gen (dd : Int → List UInt8 → Int × Int) (A : Option Addr) (n c : Nat) (v : List (List UInt8)) (p : List UInt8) (w : World) (hv : Strs w A n v) (hd : ∀ k x w, Strs w A n v → x.length ≤ 1000000000 → Calls Tryz.prog 19 #[.slice A n c, .int .i64 k, .string (str x)] w fun e w' => e = .returned (.tuple #[.int .i64 (dd k x).1, .int .i64 (dd k x).2]) ∧ Ext w w') (hp : p.length ≤ 100000000) :
    Calls Tryz.prog 6 #[.slice A n c, .string (str p)] w fun e w' => e = .returned (.tuple #[.int .i64 (findD dd p).1, .int .i64 (findD dd p).2]) ∧ Ext w w' := by
  have HMy := Lib.hid (fun w => may_any p w hp)
  have HN := Lib.hid (fun w => names_any (str p) w)
  have HV := Lib.hid hv
  have HD := Lib.hid (fun k x w h => hd k ((pathP p).getD x []) w h (by have := path_name p x; omega))
  have hpl := (pathP_len p).1
  have b0 := Box.new w 22 #[.slice A n c]
  have b1 := Box.new (w.alloc (.cells #[.slice A n c] 22)) 3 #[.int .i64 0]
  have b2 := Box.new ((w.alloc (.cells #[.slice A n c] 22)).alloc (.cells #[.int .i64 0] 3)) 26 #[.int .i64 0]
  have b0' := (b0.ext ((Ext.refl _).alloc (.cells #[.int .i64 0] 3))).ext ((Ext.refl _).alloc (.cells #[.int .i64 0] 26))
  have b1' := b1.ext ((Ext.refl _).alloc (.cells #[.int .i64 0] 26))
  have X := ((((Ext.refl w).alloc (.cells #[.slice A n c] 22)).alloc (.cells #[.int .i64 0] 3)).alloc (.cells #[.int .i64 0] 26))
  clear b0 b1 hv hd
  simp only [World.size_alloc] at b1' b2
  cases hm : mayP p with
  | false =>
    rw [hm] at HMy
    have HP := Lib.hid (show findD dd p = (0, 7) by unfold findD; rw [hm]; rfl)
    go_enter Tryz.func6, Tryz.ntmps6
    go_upto_region 1 with fail
    generalize ((w.alloc (.cells #[.slice A n c] 22)).alloc (.cells #[.int .i64 0] 3)).alloc (.cells #[.int .i64 0] 26) = w3 at *
    go_wp2_with (go_at_call 17; refine (HMy.out _).mono ?_; rintro e w4 ⟨rfl, x4⟩; have d1 := b1'.ext x4; have d2 := b2.ext x4; have e1 : w4.cell? ⟨w.heap.size + 1, 0, none⟩ = some (.int .i64 0) := d1.cell 0; have e2 : w4.cell? ⟨w.heap.size + 1 + 1, 0, none⟩ = some (.int .i64 0) := d2.cell 0; have f1 := d1.frozen 0; have f2 := d2.frozen 0)
    have k1 := (d1.set 0 (.int .i64 0)).far (p := ⟨w.heap.size + 1 + 1, 0, none⟩) (by show w.heap.size + 1 ≠ w.heap.size + 1 + 1; omega) (.int .i64 7)
    have k2 := (d2.far (p := ⟨w.heap.size + 1, 0, none⟩) (by show w.heap.size + 1 + 1 ≠ w.heap.size + 1; omega) (.int .i64 0)).set 0 (.int .i64 7)
    have hc1 := k1.cell 0
    have hc2 := k2.cell 0
    refine bodyPost_ret (v := .tuple #[.int .i64 0, .int .i64 7]) ?_ rfl ⟨by rw [HP.out], ((X.trans x4).setCell (p := ⟨w.heap.size + 1, 0, none⟩) (by show w.heap.size ≤ w.heap.size + 1; omega) _).setCell (p := ⟨w.heap.size + 1 + 1, 0, none⟩) (by show w.heap.size ≤ w.heap.size + 1 + 1; omega) _⟩
    simp at hc1 hc2
    simp [results, Tryz.results6, go_sem, hc1, hc2]
  | true =>
    rw [hm] at HMy
    have h47 : p.head? = some 47 := by obtain ⟨q, rfl⟩ := mayP_head hm; rfl
    have HP := Lib.hid (show findD dd p = stepsD dd 1 (pathP p) by unfold findD; rw [hm]; rfl)
    refine (callsIn_wide (n := 6)).1 ?_
    refine callsIn_of_wp_marks Tryz.func6 rfl trivial ?_ rfl
    simp only [Tryz.ntmps6, List.size_toArray, List.length_cons, List.length_nil, Nat.reduceAdd, Nat.reduceSub, Array.replicate_succ, Array.replicate_zero, List.push_toArray, List.append_toArray, List.nil_append, List.cons_append]
    refine wpIn_wide.2 ?_
    go_upto_region 1 with fail
    generalize ((w.alloc (.cells #[.slice A n c] 22)).alloc (.cells #[.int .i64 0] 3)).alloc (.cells #[.int .i64 0] 26) = w3 at *
    go_upto_region 3 with (go_at_call 17; refine (HMy.out _).mono ?_; rintro e w4 ⟨rfl, x4⟩)
    have d0 := b0'.ext x4
    have d1 := b1'.ext x4
    have d2 := b2.ext x4
    have X4 := X.trans x4
    have b3 := Box.new w4 3 #[.int .i64 1]
    have b4 := Box.new (w4.alloc (.cells #[.int .i64 1] 3)) 9 #[.string (str p)]
    have b3' := b3.ext ((Ext.refl _).alloc (.cells #[.string (str p)] 9))
    have x5 : Ext w4 ((w4.alloc (.cells #[.int .i64 1] 3)).alloc (.cells #[.string (str p)] 9)) := ((Ext.refl w4).alloc _).alloc _
    have e0 := d0.ext x5
    have e1 := d1.ext x5
    have e2 := d2.ext x5
    have X5 := X4.trans x5
    have h24 := d2.lt
    clear b0' b1' b2 d0 d1 d2 b3 X X4 x4 HMy
    simp only [World.size_alloc] at b4
    go_upto_region 4 with fail
    go_wp2_with (go_at_call 18; refine (HN.out _).mono ?_; rintro e w1 ⟨rfl, rfl⟩)
    refine (wpIn_wide (n := 6)).1 ?_
    gi_wp2_with fail
    generalize hw5 : (w4.alloc (.cells #[.int .i64 1] 3)).alloc (.cells #[.string (str p)] 9) = w5 at *
    have hz5 : w5.heap.size = w4.heap.size + 1 + 1 := by rw [← hw5, World.size_alloc, World.size_alloc]
    clear hw5 x5 HN
    have hNS := names_stops 5 (by decide) (w4.heap.size + 1) p w5 b4 h47
    have hRN := Lib.hid (range_names (pathP p))
    have hTk := Lib.hid (fun k => List.take_append_drop k (pathP p))
    have hSt := Lib.hid (fun k (R : Int × Int) (h : stepsD dd 1 ((pathP p).take k) = R) (h0 : R.2 ≠ 0) => stepsD_stop dd ((pathP p).take k) ((pathP p).drop k) 1 R h h0)
    have hSn := Lib.hid (fun l m x => stepsD_snoc dd l 1 m x)
    unfold nenc at hNS
    generalize hf : (fun y => (pathP p).getD y []) = f at *
    have hf' : ∀ y, (pathP p).getD y [] = f y := fun y => by rw [← hf]
    simp only [hf'] at *
    generalize hLp : pathP p = L at *
    clear hf hf' hLp
    have hG4 : w.heap.size + 1 + 1 < w4.heap.size := h24
    have hGG : w.heap.size ≤ w5.heap.size := X5.size
    generalize hG : w.heap.size = G at *
    generalize w4.heap.size = E at *
    refine wpIn_rangeFunc_ownH rfl (by decide) (gf := 43) (lb := #[.pointer (some ⟨E + 1, 0, none⟩)]) rfl trivial (enters_of Tryz.func43 (by kernel_rfl) rfl)
      hNS KpB.trans KpB.book (Below.refl _ _) (fun _ => rfl)
      (fun pre W => Ext w W ∧ Box W G 22 #[.slice A n c] ∧ Box W (G + 1) 3 #[.int .i64 0] ∧ Box W (G + 1 + 1) 26 #[.int .i64 0] ∧ ∃ m, Box W E 3 #[.int .i64 m] ∧ stepsD dd 1 (pre.map f) = (m, 0))
      (fun cc pre W => cc = .ret ∧ Ext w W ∧ Box W (G + 1) 3 #[.int .i64 0] ∧ ∃ r, Box W (G + 1 + 1) 26 #[.int .i64 r] ∧ r ≠ 0 ∧ stepsD dd 1 (pre.map f) = (0, r))
      (OwnFrom.and (ext_own (by rw [hG]; omega)) (OwnFrom.and (Own.from (box_own _ _ _) _) (OwnFrom.and (Own.from (box_own _ _ _) _) (OwnFrom.and (Own.from (box_own _ _ _) _) (Own.from (box_ex _ _ (fun m => #[.int .i64 m]) (fun (pre : List Nat) (m : Int) => stepsD dd 1 (pre.map f) = (m, 0))) _)))))
      (fun cc => OwnFrom.and (ownFrom_pure _ _) (OwnFrom.and (ext_own (by rw [hG]; omega)) (OwnFrom.and (Own.from (box_own _ _ _) _) (Own.from (box_ex _ _ (fun r => #[.int .i64 r]) (fun (pre : List Nat) (r : Int) => r ≠ 0 ∧ stepsD dd 1 (pre.map f) = (0, r))) _)))) ⟨X5, e0, e1, e2, 1, b3', rfl⟩
      (fun x a' W => a' = { tmps := #[.slice A n c, .string (str p), .pointer (some ⟨G, 0, none⟩), undef, .pointer (some ⟨G + 1, 0, none⟩), .pointer (some ⟨G + 1 + 1, 0, none⟩), .pointer (some ⟨E, 0, none⟩), .string (str (f x)), undef, undef, .string (str p), .bool true, .bool false, .string (str p), .func (.func 43) #[] #[.pointer (some ⟨E + 1, 0, none⟩)], .string (str (f x)), undef, undef, undef, undef, undef, undef, undef, undef, undef, undef, undef, undef], defers := [] })
      (fun x a' _ X Y row hs hg hr => hs) ?assign ?body ?done ?stop
    case assign =>
      rintro l pre x W K hi hK
      gi_wp2
      exact hK _ _ (keeps_ext (Ext.refl W)) (KpB.ext (Ext.refl W)) hi rfl
    case body =>
      rintro l pre x a' W hl0 ⟨r, hr⟩ ⟨i1, i2, i3, i4, m, i5, hst⟩ rfl hltN
      have HDx := Lib.hid (HD.out m x W (HV.out.ext i1))
      have hsn := Lib.hid (hSn.out (pre.map f) m (f x) hst)
      have c0 : W.cell? ⟨G, 0, none⟩ = some (.slice A n c) := i2.cell 0
      have c6 : W.cell? ⟨E, 0, none⟩ = some (.int .i64 m) := i5.cell 0
      generalize dd m (f x) = R at *
      by_cases h0 : R.2 = 0
      · rw [if_neg (fun h => h h0)] at hsn
        rw [h0] at HDx
        gi_wp2_with (first
          | (refine ⟨trivial, ?_⟩; gi_at_call 19; refine (CallsIn.inRound l (callsIn_wide.2 HDx.out)).mono ?_; rintro e W2 ⟨rfl, x2⟩; have j5 := i5.ext x2; have c5 : W2.cell? ⟨E, 0, none⟩ = some (.int .i64 m) := j5.cell 0; have c5f := j5.frozen 0))
        refine ⟨(keeps_ext x2).trans ((KeepsOthers.setCell _ _ _).from _), (KpB.ext x2).set ⟨E, 0, none⟩ (by show E + 1 ≠ E; omega) (by show E + 1 ≠ E; omega) _, (i1.trans x2).setCell (p := ⟨E, 0, none⟩) (by show w.heap.size ≤ E; omega) _, (i2.ext x2).far (p := ⟨E, 0, none⟩) (by show G ≠ E; omega) _, (i3.ext x2).far (p := ⟨E, 0, none⟩) (by show G + 1 ≠ E; omega) _, (i4.ext x2).far (p := ⟨E, 0, none⟩) (by show G + 1 + 1 ≠ E; omega) _, R.1, j5.set 0 _, ?_⟩
        rw [List.map_append]
        exact hsn.out
      · have d0 : (R.2 != 0) = true := by simpa using h0
        rw [if_pos h0] at hsn
        gi_wp2_with (first
          | (refine ⟨trivial, ?_⟩; gi_at_call 19; refine (CallsIn.inRound l (callsIn_wide.2 HDx.out)).mono ?_; rintro e W2 ⟨rfl, x2⟩; have j3 := i3.ext x2; have j4 := i4.ext x2; have c3 : W2.cell? ⟨G + 1, 0, none⟩ = some (.int .i64 0) := j3.cell 0; have c3f := j3.frozen 0; have c4 : W2.cell? ⟨G + 1 + 1, 0, none⟩ = some (.int .i64 0) := j4.cell 0; have c4f := j4.frozen 0))
        refine ⟨((keeps_ext x2).trans ((KeepsOthers.setCell _ _ _).from _)).trans ((KeepsOthers.setCell _ _ _).from _), rfl, ((i1.trans x2).setCell (p := ⟨G + 1, 0, none⟩) (by show w.heap.size ≤ G + 1; omega) _).setCell (p := ⟨G + 1 + 1, 0, none⟩) (by show w.heap.size ≤ G + 1 + 1; omega) _, (j3.set 0 _).far (p := ⟨G + 1 + 1, 0, none⟩) (by show G + 1 ≠ G + 1 + 1; omega) _, R.2, (j4.far (p := ⟨G + 1, 0, none⟩) (by show G + 1 + 1 ≠ G + 1; omega) _).set 0 _, h0, ?_⟩
        rw [List.map_append]
        exact hsn.out
    case done =>
      rintro D ys W hD rfl ⟨i1, i2, i3, i4, m, i5, hst⟩ hK
      have c5 : W.cell? ⟨E, 0, none⟩ = some (.int .i64 m) := i5.cell 0
      have c3 : W.cell? ⟨G + 1, 0, none⟩ = some (.int .i64 0) := i3.cell 0
      have c3f := i3.frozen 0
      have c4 : W.cell? ⟨G + 1 + 1, 0, none⟩ = some (.int .i64 0) := i4.cell 0
      have c4f := i4.frozen 0
      gi_wp2_with fail
      go_wp2_with fail
      have hK1 := (KeepsOthers.setCell W ⟨G + 1, 0, none⟩ (.int .i64 m)).same D _ hK rfl
      have hK' := (KeepsOthers.setCell (W.setCell ⟨G + 1, 0, none⟩ (.int .i64 m)) ⟨G + 1 + 1, 0, none⟩ (.int .i64 0)).same D _ hK1 rfl
      have k1 := ((i3.set 0 (.int .i64 m)).far (p := ⟨G + 1 + 1, 0, none⟩) (by show G + 1 ≠ G + 1 + 1; omega) (.int .i64 0)).grown (grownBy_putObj' _ D (.deferred none)) (fun e => by injection e with e; omega)
      have k2 := ((i4.far (p := ⟨G + 1, 0, none⟩) (by show G + 1 + 1 ≠ G + 1; omega) (.int .i64 m)).set 0 (.int .i64 0)).grown (grownBy_putObj' _ D (.deferred none)) (fun e => by injection e with e; omega)
      have hc1 := k1.cell 0
      have hc2 := k2.cell 0
      refine ⟨by simp, .inl ⟨_, _, rfl, run_takeDeferred hK', ?_⟩⟩
      refine ⟨.tuple #[.int .i64 m, .int .i64 0], ?_, ?_, ((i1.setCell (p := ⟨G + 1, 0, none⟩) (by show w.heap.size ≤ G + 1; omega) _).setCell (p := ⟨G + 1 + 1, 0, none⟩) (by show w.heap.size ≤ G + 1 + 1; omega) _).putObj (.deferred none) hK' (by omega)⟩
      · simp at hc1 hc2
        simp [results, Tryz.results6, go_sem, hc1, hc2]
      · rw [hRN.out _ (Nat.le_refl _), List.take_length] at hst
        rw [HP.out, hst]
    case stop =>
      rintro D cc pre W hD ⟨k, hk, rfl⟩ ⟨rfl, h1, h2, r, h3, h4, h5⟩ hK
      gi_wp2
      have k1 := h2.grown (grownBy_putObj' _ D (.deferred none)) (fun e => by injection e with e; omega)
      have k2 := h3.grown (grownBy_putObj' _ D (.deferred none)) (fun e => by injection e with e; omega)
      have hc1 := k1.cell 0
      have hc2 := k2.cell 0
      refine ⟨by simp, .inl ⟨_, _, rfl, run_takeDeferred hK, ?_⟩⟩
      refine ⟨.tuple #[.int .i64 0, .int .i64 r], ?_, ?_, h1.putObj (.deferred none) hK (by omega)⟩
      · simp at hc1 hc2
        simp [results, Tryz.results6, go_sem, hc1, hc2]
      · rw [hRN.out _ hk] at h5
        have := hSt.out k _ h5 h4
        rw [hTk.out] at this
        rw [HP.out, this]
end Go.Proofs.YtnoofjddikhopaaGreat
