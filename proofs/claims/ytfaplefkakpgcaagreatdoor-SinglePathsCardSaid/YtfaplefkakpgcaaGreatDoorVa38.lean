/- The walk of SinglePaths. -/
import Derived.Test.YtfaplefkakpgcaaGreatDoorVa34
import Derived.Test.YtfaplefkakpgcaaGreatDoorVa30
import Derived.Test.YtfaplefkakpgcaaGreatDoorVa36
import Derived.Test.YtfaplefkakpgcaaGreatDoorVa37
namespace Go.Proofs.YtfaplefkakpgcaaGreatDoor
set_option linter.unusedVariables false
set_option linter.unusedSimpArgs false
open Go.RowKit
theorem readX_kind {v : List (List UInt8)} {I : Option Int} {k : Int} (h : (readX v I k 0 8960).2 = 11) : (readX v I k 0 8960).1 = [] := by
  unfold readX at *
  cases I with
  | none => rfl
  | some I =>
    simp only at *
    split at h
    · rename_i c; rw [if_pos c]
    · rename_i c
      unfold readE at h
      rw [if_neg (by decide)] at h
      split at h
      · exact absurd h (by decide)
      · exact absurd (show (0 : Int) = 11 from h) (by decide)
/-- the file alone, and the file as it is read by its inode -/
theorem sfile_facts (v : List (List UInt8)) (I : Option Int) (p : List UInt8) :
    ((findX v I p).2 ≠ 0 → (sfileX v I p).2 = (findX v I p).2) ∧ ((findX v I p).2 = 0 → (sfileX v I p).2 = 11 → (sfileX v I p).1 = []) ∧
    ((findX v I p).2 = 0 → (sfileX v I p).2 ≠ 11 → sfileX v I p = readX v I (findX v I p).1 0 8960) := by
  by_cases h : (findX v I p).2 = 0
  · refine ⟨fun h2 => absurd h h2, fun _ h2 => ?_, fun _ h2 => ?_⟩
    · by_cases c : (igX v I (findX v I p).1).2 = 0 ∧ (igX v I (findX v I p).1).1.getD 0 0 = 1
      · have e : fileX v I p = ((findX v I p).1, 0) := by unfold fileX; rw [if_neg (by rw [h]; decide), if_pos c]
        have e2 : sfileX v I p = readX v I (findX v I p).1 0 8960 := by unfold sfileX; rw [e]; rfl
        rw [e2] at h2 ⊢
        exact readX_kind h2
      · have e : fileX v I p = (0, 11) := by unfold fileX; rw [if_neg (by rw [h]; decide), if_neg c]
        unfold sfileX
        rw [e]; rfl
    · by_cases c : (igX v I (findX v I p).1).2 = 0 ∧ (igX v I (findX v I p).1).1.getD 0 0 = 1
      · have e : fileX v I p = ((findX v I p).1, 0) := by unfold fileX; rw [if_neg (by rw [h]; decide), if_pos c]
        unfold sfileX
        rw [e]; rfl
      · have e : fileX v I p = (0, 11) := by unfold fileX; rw [if_neg (by rw [h]; decide), if_neg c]
        exact absurd (by unfold sfileX; rw [e]; rfl) h2
  · refine ⟨fun _ => ?_, fun h2 => absurd h2 h, fun h2 => absurd h2 h⟩
    have e : fileX v I p = (0, (findX v I p).2) := by unfold fileX; rw [if_pos h]
    unfold sfileX
    rw [e, if_pos h]
set_option maxHeartbeats 8000000 in
set_option maxRecDepth 100000 in
theorem singlePaths_any (m : Mac) (d : MacD) (kk : Nat) (w : World) (h : MacIn w m d) (hfit : MacFit m d) (hD0 : Dec10 w) (hk : kk < 256) :
    Calls Tryz.prog 7 #[.agg m.cells, .int .u8 (kk : Int)] w fun e w' => e = .returned (.bool true) ∧ Ext w w' := by
  have HL := Lib.hid (fun w h => large_any m d w h)
  have HC := Lib.hid (fun w h h1 h2 => rcheck_ok m d w h h1 h2)
  have HA := Lib.hid sawake_any
  have xa : Ext w (w.alloc (.cells m.cells 38)) := (Ext.refl _).alloc _
  have bm := Box.new w 38 m.cells
  have HD := Lib.hid (hD0.ext xa)
  have HM := Lib.hid (h.ext xa)
  have HFit := Lib.hid hfit
  have HK := Lib.hid hk
  clear h hfit hD0 hk
  go_enter Tryz.func7, Tryz.ntmps7
  go_upto_region 1 with fail
  generalize w.alloc (.cells m.cells 38) = w1 at xa bm HD HM ⊢
  generalize w.heap.size = G at bm ⊢
  go_cut [21] (fun s wx => ∃ b : Bool, s = .bool b ∧ Ext w1 wx ∧ (b = false → StateOk m d ∧ m.pe.n ≤ 60))
  case first =>
    clear HA
    go_wp2_with (first
      | (refine wp_ld_mac (.tmp 2) rfl rfl G _ _ rfl bm rfl ?_)
      | (refine wp_ld_mac_g (.tmp 2) rfl rfl G m 38 rfl bm2 ?_)
      | (go_at_call 13; refine (HL.out _ HM.out).mono ?_; rintro e w2 ⟨⟨z, rfl, hz⟩, x2⟩; have HZ := Lib.hid hz; clear hz; have bm2 := bm.ext x2; rcases Bool.eq_false_or_eq_true (decide (0 < z)) with dz | dz)
      | (go_at_call 19; have hlz := HZ.out (by simpa using dz); refine (HC.out _ (HM.out.ext x2) (by omega) (by omega)).mono ?_; rintro e w3 ⟨⟨q, rfl, hn⟩, x3⟩; have HLZ := Lib.hid hlz; clear hlz; have HN := Lib.hid hn; clear hn; rcases Bool.eq_false_or_eq_true (q != 0) with dn | dn))
    · go_meet
      exact ⟨true, rfl, x2, fun h => by cases h⟩
    · go_meet
      exact ⟨true, rfl, x2.trans x3, fun h => by cases h⟩
    · go_meet
      exact ⟨false, rfl, x2.trans x3, fun _ => ⟨HN.out (by simpa using dn), HLZ.out.2.1⟩⟩
  case rest =>
    obtain ⟨b, rfl, x2, hd⟩ := hcut
    cases b with
    | true =>
      go_wp2_with (go_at_call 10; refine (HA.out _).mono ?_; rintro e w3 ⟨rfl, x3⟩)
      go_ret
      exact ⟨rfl, (xa.trans x2).trans x3⟩
    | false =>
      obtain ⟨hst, hpe⟩ := hd rfl
      have l1 := HM.out.pr.1
      have l2 := HM.out.pi.1
      have l3 := HM.out.pe.1
      have l4 := HM.out.fr.1
      have l5 := HM.out.bl.1
      have RF := Lib.hid (rest_fit hst HFit.out l1.symm l2.symm (by omega))
      have hj := hst.disk.1
      obtain ⟨I, hgood⟩ := hst.disk.2.2.2
      have hg : GoodX (viewP d.bl d.pe d.di) (some I) := hgood
      have hvl : (viewP d.bl d.pe d.di).length ≤ 9223372036854775807 := by have := plan_bd hgood.plan; omega
      have hfs : m.fr.n ≤ 100000 := by have := hst.rest.frn; omega
      have hbs : m.bl.n ≤ 100000 := by have := (drvOk_of hj).most; omega
      have HV := Lib.hid (fun w h => view_any m d w h)
      have HW := Lib.hid (fun A c w h => walk_any A (viewP d.bl d.pe d.di).length c (viewP d.bl d.pe d.di) (some I) w h hvl hg)
      have HOf := Lib.hid (fun w hi hD => iof_yes m d w hi hst RF.out hD hfs hbs)
      have HIM := Lib.hid (fun (fr bl : Sl) w hF hfk hfn hB hbk hbn hD => (imach_yes fr bl m d w hF hfk hfn hB hbk hbn RF.out hst l4 l1 l2 HM.out.initk HM.out.innk HM.out.leftk hD).mono (fun e w' ⟨z, h1, h2, _, h4⟩ => (⟨z, h1, h2, h4⟩ : ∃ z : Mac, e = Ending.returned (.tuple #[.agg z.cells, .int .i64 0]) ∧ Ext w w' ∧ MacIn w' z d)))
      have HFi := Lib.hid (fun p A c w h hp => findX_any A (viewP d.bl d.pe d.di).length c (viewP d.bl d.pe d.di) (some I) p w h hvl hg hp)
      have HRd := Lib.hid (fun k A c w h => readX_any A (viewP d.bl d.pe d.di).length c (viewP d.bl d.pe d.di) (some I) k 0 8960 w h hvl hg (by decide) (by decide))
      have HSF := Lib.hid (fun (fr bl : Sl) p w hM hp => sfile_of fr.A bl.A fr.n fr.c bl.n bl.c (str (restT m d)) d (some I) p w hM hvl hg hp)
      have HFa := Lib.hid (sfile_facts (viewP d.bl d.pe d.di) (some I))
      have HSh := Lib.hid (walkX_short (viewP d.bl d.pe d.di) (some I))
      have X2 := Lib.hid (xa.trans x2)
      have HD2 := Lib.hid (HD.out.ext x2)
      have HM2 := Lib.hid (HM.out.ext x2)
      replace bm := bm.ext x2
      clear HL HC hd hst hpe l1 l2 l3 l4 l5 hj hgood hg hvl hfs hbs xa x2 HD HFit
      clear HM
      generalize viewP d.bl d.pe d.di = v at *
      go_upto_region 5 with (first
        | (refine wp_ld_mac (.tmp 2) rfl rfl G _ _ rfl bm rfl ?_)
        | (go_at_call 18; refine (HV.out _ HM2.out).mono ?_; rintro e w3 ⟨A, c, rfl, x3, o3⟩; have HSt := Lib.hid (Strs.own o3); clear o3)
        | (go_at_call 22; refine (HW.out A c _ HSt.out).mono ?_; rintro e w4 ⟨u, rfl, x4, o4⟩))
      generalize walkX v (some I) = l at *
      obtain ⟨A2, c2, hu⟩ := own_asSl o4
      subst hu
      have hS2 := Strs.own o4
      have HSt4 := Lib.hid (HSt.out.ext x4)
      have X4 := Lib.hid ((X2.out.trans x3).trans x4)
      have HD4 := Lib.hid ((HD2.out.ext x3).ext x4)
      have HM4 := Lib.hid ((HM2.out.ext x3).ext x4)
      replace bm := (bm.ext x3).ext x4
      clear o4 HW HV HM2 HD2 HSt X2
      by_cases hl0 : l.length = 0
      · have e0 : ((l.length : Int) == 0) = true := by rw [hl0]; rfl
        go_wp2_with (go_at_call 10; refine (HA.out _).mono ?_; rintro e w5 ⟨rfl, x5⟩)
        go_ret
        exact ⟨rfl, X4.out.trans x5⟩
      · have e0 : ((l.length : Int) == 0) = false := by rw [beq_eq_false_iff_ne]; omega
        have hnz : ¬ (l.length : Int) = 0 := by omega
        obtain ⟨b, o, hA, hcell⟩ := hS2.2 (by omega)
        subst hA
        have hr : kk % l.length < l.length := Nat.mod_lt _ (by omega)
        have hck := hcell (kk % l.length) hr
        have hps := HSh.out l[kk % l.length] (List.getElem_mem _)
        have hrem : Int.tmod (kk : Int) (l.length : Int) = ((kk % l.length : Nat) : Int) := rfl
        have hw0 := i64_byte (n := (kk : Int)) (by omega) (by have := HK.out; omega)
        have hri : ((kk % l.length : Nat) : Int) < (l.length : Int) := by omega
        clear hcell hS2 HSh
        generalize l[kk % l.length] = p at *
        generalize kk % l.length = r at *
        have hFa := HFa.out p
        have HFi2 := Lib.hid (fun A c w h => HFi.out p A c w h (by omega))
        have HSF2 := Lib.hid (fun (fr bl : Sl) w hM => HSF.out fr bl p w hM (by omega))
        have HRd2 := Lib.hid (HRd.out (findX v (some I) p).1)
        clear HFa HFi HSF HRd hps
        generalize findX v (some I) p = F at *
        generalize sfileX v (some I) p = S at *
        generalize readX v (some I) F.1 0 8960 = R at *
        obtain ⟨n, e⟩ := F
        obtain ⟨s, f⟩ := S
        obtain ⟨t, g⟩ := R
        simp only at hFa HFi2 HSF2 HRd2
        obtain ⟨f1, f2, f3⟩ := hFa
        have F1 := Lib.hid f1
        have F2 := Lib.hid f2
        have F3 := Lib.hid f3
        clear f1 f2 f3
        go_upto_region 11 with (first
          | (refine wp_ld_mac (.tmp 2) rfl rfl G _ _ rfl bm5 rfl ?_)
          | (go_at_call 23; refine (HFi2.out _ _ _ HSt4.out).mono ?_; rintro e w5 ⟨rfl, x5⟩; have bm5 := bm.ext x5)
          | (go_at_call 20; refine (HOf.out _ (HM4.out.ext x5) (HD4.out.ext x5)).mono ?_; rintro e w6 ⟨fr, bl, rfl, x6, r1, r2, r3, r4, r5, r6⟩; have HIm := Lib.hid (fun w' (y : Ext w6 w') => HIM.out fr bl w' (r1.ext y) r2 r3 (r4.ext y) r5 r6 (((HD4.out.ext x5).ext x6).ext y)); clear r1 r2 r3 r4 r5 r6)
          | (go_at_call 11; refine (HSF2.out fr bl _ HIm.out).mono ?_; rintro e w7 ⟨rfl, x7⟩)
          | (go_at_call 24; refine (HRd2.out _ _ _ (((HSt4.out.ext x5).ext x6).ext x7)).mono ?_; rintro e w8 ⟨rfl, x8⟩))
        have X8 := Lib.hid ((((X4.out.trans x5).trans x6).trans x7).trans x8)
        clear HOf HIm HFi2 HSF2 HRd2 HSt4 HD4 HM4 X4 bm5 bm x5 x6 x7 x8 hck hrem hw0 hri hnz e0
        by_cases h1 : e = 0
        · by_cases h2 : f = 11
          · have hs := F2.out h1 h2
            subst h1 h2 hs
            have d1 : (str []).toList = [] := str_toList []
            clear F1 F2 F3
            go_wp2_with (go_at_call 10; refine (HA.out _).mono ?_; rintro e w9 ⟨rfl, x9⟩)
            go_ret
            exact ⟨rfl, X8.out.trans x9⟩
          · have he := F3.out h1 h2
            injection he with e1 e2
            subst e1 e2 h1
            have h4 : (f == 11) = false := by simpa using h2
            have d1 : ((str s).toList == (str s).toList) = true := by simp
            clear F1 F2 F3 h2
            go_wp2_with (go_at_call 10; refine (HA.out _).mono ?_; rintro e w9 ⟨rfl, x9⟩)
            go_ret
            exact ⟨rfl, X8.out.trans x9⟩
        · have he := F1.out h1
          subst he
          have h4 : (f != 0) = true := by simpa using h1
          clear F1 F2 F3 h1
          go_wp2_with (go_at_call 10; refine (HA.out _).mono ?_; rintro e w9 ⟨rfl, x9⟩)
          go_ret
          exact ⟨rfl, X8.out.trans x9⟩
end Go.Proofs.YtfaplefkakpgcaaGreatDoor
