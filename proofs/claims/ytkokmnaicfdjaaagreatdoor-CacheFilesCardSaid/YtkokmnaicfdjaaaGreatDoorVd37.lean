/- The walk of CacheFiles. -/
import Derived.Test.YtkokmnaicfdjaaaGreatDoorVd20
import Derived.Test.YtkokmnaicfdjaaaGreatDoorVd24
import Derived.Test.YtkokmnaicfdjaaaGreatDoorVd19
import Derived.Test.YtkokmnaicfdjaaaGreatDoorVd8
import Derived.Test.YtkokmnaicfdjaaaGreatDoorVd13
import Derived.Test.YtkokmnaicfdjaaaGreatDoorVd27
import Derived.Test.YtkokmnaicfdjaaaGreatDoorVd36
namespace Go.Proofs.YtkokmnaicfdjaaaGreatDoor
set_option linter.unusedVariables false
set_option linter.unusedSimpArgs false
open Go.RowKit

theorem MadeR.no {B : Nat} {Q : List (List UInt8) × Int × Int} {e : Ending} {w : World} (h : MadeR B Q e w) (h0 : Q.2.2 ≠ 0) : e = .returned (.tuple #[.slice none 0 0, .int .i64 0, .int .i64 Q.2.2]) := by
  rcases h with ⟨_, h⟩ | ⟨h, _⟩
  · exact h
  · exact absurd h h0
theorem MadeR.yes {B : Nat} {Q : List (List UInt8) × Int × Int} {e : Ending} {w : World} (h : MadeR B Q e w) (h0 : Q.2.2 = 0) : ∃ b cap, e = .returned (.tuple #[.slice (some ⟨b, 0, none⟩) Q.1.length cap, .int .i64 Q.2.1, .int .i64 0]) ∧ w.ownsRow B 9 1 (.slice (some ⟨b, 0, none⟩) Q.1.length cap) Q.1.length (strL Q.1) := by
  rcases h with ⟨h, _⟩ | ⟨_, h⟩
  · exact absurd h0 h
  · exact h
/-- what a file's writing on a machine's volume comes to -/
theorem files_law {v : List (List UInt8)} {I : Int} {p q : List UInt8} (hg : Good v I) (hq : q.length ≤ 100) (h0 : (madeP v I p 1 0).2.2 = 0) (h1 : (fwriteP (madeP v I p 1 0).1 I (madeP v I p 1 0).2.1 0 q).2 = 0) :
    Good (madeP v I p 1 0).1 I ∧ Good (fwriteP (madeP v I p 1 0).1 I (madeP v I p 1 0).2.1 0 q).1 I ∧ (fwriteP (madeP v I p 1 0).1 I (madeP v I p 1 0).2.1 0 q).1.length = v.length ∧ freadP (fwriteP (madeP v I p 1 0).1 I (madeP v I p 1 0).2.1 0 q).1 I (madeP v I p 1 0).2.1 = (q, 0) := by
  obtain ⟨m0, me⟩ := madeP_ok h0
  have hi := makeP_ino (v := v) (p := p) hg (kd := 1) (o := 0) (by decide) (by decide) (by decide) (by decide) (by decide) m0
  obtain ⟨g1, l1⟩ := makeP_good hg m0
  rw [me] at h1 ⊢
  simp only at h1 ⊢
  generalize (makeP v I p 1 0).1 = V at *
  generalize (makeP v I p 1 0).2.1 = j at *
  obtain ⟨j1, j2, hx⟩ := hi
  have hf : fileE V I j = 0 := by unfold fileE; rw [if_neg (by omega), hx]; rfl
  have he : fwriteP V I j 0 q = weighP V I (writeP V I j 0 q) := by unfold fwriteP; rw [if_neg (fun h => h hf)]
  rw [he] at h1 ⊢
  obtain ⟨w0, we⟩ := weigh_ok h1
  rw [we]
  obtain ⟨r1, r2⟩ := read_back g1 j1 j2 hx hq w0
  obtain ⟨g2, l2, _⟩ := write_ok g1 j1 j2 (off := 0) (d := q) (by omega) w0
  refine ⟨g1, g2, l2.trans l1, ?_⟩
  have hf2 : fileE (writeP V I j 0 q).1 I j = 0 := by unfold fileE; rw [if_neg (by omega), r2]; rfl
  unfold freadP
  rw [if_neg (fun h => h hf2), r1]
theorem made_good {v : List (List UInt8)} {I : Int} {p : List UInt8} (hg : Good v I) (h0 : (madeP v I p 1 0).2.2 = 0) : Good (madeP v I p 1 0).1 I := by
  obtain ⟨m0, me⟩ := madeP_ok h0
  rw [me]
  exact (makeP_good hg m0).1
def TestF (m : Mac) (d : MacD) (p q : List UInt8) (b : Bool) : Prop := b = false → DiskOk d ∧ MacLens m ∧ p.length ≤ 100 ∧ q.length ≤ 100
set_option maxHeartbeats 40000000 in
set_option maxRecDepth 100000 in
theorem cacheFiles_any (m : Mac) (d : MacD) (p q : List UInt8) (w : World) (h : MacIn w m d) (hr : MacReach m) (hT : Tabs w) :
    Calls Tryz.prog 7 #[.agg m.cells, .string (str p), .string (str q)] w fun e w' => e = .returned (.bool true) ∧ Ext w w' := by
  have HG := Lib.hid (fun w h => rgreat_any m d w h hr)
  have HC := Lib.hid (fun w h => rcheck_any m d w h)
  have HVw := Lib.hid (fun (m : Mac) (d : MacD) w h => view_any m d w h)
  have HA := Lib.hid awake_any
  have hpz := str_size p
  have hqz := str_size q
  go_enter Tryz.func7, Tryz.ntmps7
  go_upto_region 1 with fail
  have xa : Ext w (w.alloc (.cells m.cells 30)) := (Ext.refl _).alloc _
  have bm := Box.new w 30 m.cells
  have hTa := Lib.hid (hT.ext xa)
  generalize w.alloc (.cells m.cells 30) = w1 at *
  generalize hG : w.heap.size = G at *
  have HM0 := Lib.hid h
  have HM := Lib.hid (h.ext xa)
  clear h hT
  go_cut [35] (fun s wx => ∃ b : Bool, s = .bool b ∧ Ext w1 wx ∧ TestF m d p q b)
  case first =>
    clear HVw HA
    rcases Bool.eq_false_or_eq_true (decide ((100 : Int) < (p.length : Int))) with dp | dp <;> rcases Bool.eq_false_or_eq_true (decide ((100 : Int) < (q.length : Int))) with dq | dq
    all_goals go_wp2_with (first
      | (refine wp_ld_mac (.tmp 3) rfl rfl G _ _ rfl bm rfl ?_)
      | (refine wp_ld_mac_g (.tmp 3) rfl rfl G m 30 rfl bm2 ?_)
      | (go_at_call 8; refine (HG.out _ HM.out).mono ?_; rintro e w2 ⟨⟨z, rfl, hz⟩, x2⟩; have HZ := Lib.hid hz; clear hz; have bm2 := bm.ext x2; rcases Bool.eq_false_or_eq_true (decide (0 < z)) with dz | dz)
      | (go_at_call 9; refine (HC.out _ (HM.out.ext x2)).mono ?_; rintro e w3 ⟨⟨r, rfl, hn⟩, x3⟩; have HN := Lib.hid hn; clear hn; rcases Bool.eq_false_or_eq_true (r != 0) with dn | dn))
    all_goals go_meet
    all_goals first
      | exact ⟨true, rfl, x2.trans x3, fun h => by cases h⟩
      | exact ⟨true, rfl, x2, fun h => by cases h⟩
      | exact ⟨false, rfl, x2.trans x3, fun _ => ⟨HN.out (by simpa using dn), HZ.out (by simpa using dz), by have := of_decide_eq_false dp; omega, by have := of_decide_eq_false dq; omega⟩⟩
  case rest =>
    obtain ⟨b, rfl, x2, hd⟩ := hcut
    cases b with
    | true =>
      go_wp2_with (go_at_call 10; refine (HA.out _).mono ?_; rintro e w3 ⟨rfl, x3⟩)
      go_ret
      exact ⟨rfl, (xa.trans x2).trans x3⟩
    | false =>
      obtain ⟨hdk, hlens, hp100, hq100⟩ := hd rfl
      obtain ⟨I, hg⟩ := hdk.2.2.2
      have hj := hdk.1
      have hp : d.pe.length ≤ 250 := by have := hlens.pe; have := HM.out.pe.1; omega
      have hvl : (viewP d.bl d.pe d.di).length ≤ 223 := by have := plan_bd hg.plan; omega
      have HV1 := Lib.hid (fun w h => view_any m d w h)
      have HK1 := Lib.hid (fun (R : List (List UInt8)) A n c w (a : G ≤ w.heap.size) (b : MacF G w m d) (t : Tabs w) (s : Strs w A n R) (hn : n ≤ 1000) => (ckeep_any G m d A n c R w a b hj t (by omega) s hn : Calls Tryz.prog 15 #[.agg m.cells, .slice A n c] w (KeepR G m d R w)))
      have HKD := Lib.hid (fun (R : List (List UInt8)) (gR : Good R I) (he : (keepD (drvM m d) d R).2.1 = 0) => (⟨keepD_view (D := drvM m d) (v := R) rfl rfl hj he, (keep_disk (D := drvM m d) (v := R) rfl rfl hj gR he).1, by have := keepD_pe (D := drvM m d) (d := d) R rfl; omega⟩ : viewP (keepD (drvM m d) d R).1.bl (keepD (drvM m d) d R).1.pe (keepD (drvM m d) d R).1.di = R ∧ jrnE (keepD (drvM m d) d R).1.bl (keepD (drvM m d) d R).1.pe = 0 ∧ (keepD (drvM m d) d R).1.pe.length ≤ 1000))
      have hF := (hG ▸ MacF.old HM0.out hlens.small : MacF G w m d)
      have HF := Lib.hid (hF.ext (xa.trans x2))
      have bm2 := bm.ext x2
      have hGs : G < wc.heap.size := bm2.lt
      have xc := xa.trans x2
      have HTc := Lib.hid (hTa.out.ext x2)
      have HMc := Lib.hid (HM.out.ext x2)
      clear hdk hlens hd HG HC hF x2 xa bm hTa HM HM0 hj hp
      go_upto_region 4 with (first
        | (refine wp_ld_mac (.tmp 3) rfl rfl G _ _ rfl bm2 rfl ?_)
        | (go_at_call 11; refine (HV1.out _ HMc.out).mono ?_; rintro e w3 ⟨A1, c1, rfl, x3, own3⟩))
      have st3 := Strs.own own3
      have bm3 := bm2.ext x3
      have hGs3 : G < w3.heap.size := bm3.lt
      have HF3 := Lib.hid (HF.out.ext x3)
      have HT3 := Lib.hid (HTc.out.ext x3)
      have xc3 := xc.trans x3
      clear own3 HV1 HMc bm2 HF HTc xc x3 hGs
      generalize viewP d.bl d.pe d.di = v at *
      have HCr := Lib.hid (fun w h => create_any A1 v.length c1 v I p 0 w h hg (by omega) (by decide) (by decide))
      by_cases hQ : (madeP v I p 1 0).2.2 = 0
      case neg =>
        clear HK1 HKD
        generalize madeP v I p 1 0 = Q at *
        have HB := Lib.hid (fun w => fsWrite_bad none 0 0 [] 0 0 (str q) w ⟨rfl, fun h => absurd h (Nat.lt_irrefl 0)⟩ (by decide) nil_bad)
        have dQ : (Q.2.2 != 0) = true := by simpa using hQ
        go_wp2_with (first
          | (go_at_call 25; refine (HCr.out _ st3).mono ?_; rintro e w4 ⟨hM, x4⟩; obtain rfl := hM.no hQ; clear hM)
          | (go_at_call 26; refine (HB.out _).mono ?_; rintro e w5 ⟨rfl, x5⟩)
          | (go_at_call 10; refine (HA.out _).mono ?_; rintro e w6 ⟨rfl, x6⟩))
        go_ret
        exact ⟨rfl, ((xc3.trans x4).trans x5).trans x6⟩
      case pos =>
        have g1 := made_good hg hQ
        have HL := Lib.hid (fun h1 => (files_law (p := p) hg hq100 hQ h1).2)
        have hj0 : Hid ((0 : Int) = ((0 : Nat) : Int)) := rfl
        have HWr := Lib.hid (fun A n c w h => (fsWrite_any A n c (madeP v I p 1 0).1 I (madeP v I p 1 0).2.1 0 q w h g1 (by decide) (by omega) : Calls Tryz.prog 26 #[.slice A n c, .int .i64 (madeP v I p 1 0).2.1, .int .i64 0, .string (str q)] w fun e w' => WriteR w.heap.size (fwriteP (madeP v I p 1 0).1 I (madeP v I p 1 0).2.1 0 q) e w' ∧ Ext w w'))
        generalize madeP v I p 1 0 = Q at *
        generalize fwriteP Q.1 I Q.2.1 0 q = R at *
        go_upto_region 6 with (first
          | (go_at_call 25; refine (HCr.out _ st3).mono ?_; rintro e w4 ⟨hM, x4⟩; obtain ⟨b1, cap1, rfl, own4⟩ := hM.yes hQ; have st4 := Strs.own own4; clear hM)
          | (go_at_call 26; refine (HWr.out _ _ _ _ st4).mono ?_; rintro e w5 ⟨hW, x5⟩; obtain ⟨u, rfl, hW1⟩ := hW.form; clear hW))
        have x35 := x4.trans x5
        have st5 := st3.ext x35
        have bm5 := bm3.ext x35
        have hGs5 : G < w5.heap.size := bm5.lt
        have HF5 := Lib.hid (HF3.out.ext x35)
        have HT5 := Lib.hid (HT3.out.ext x35)
        have xc5 := xc3.trans x35
        clear st3 bm3 hGs3 HF3 HT3 xc3 x35 x4 x5 own4 st4 HCr HWr
        by_cases h1 : R.2 = 0
        case neg =>
          have d1 : (R.2 != 0) = true := by simpa using h1
          go_wp2_with (first
            | (go_at_call 10; refine (HA.out _).mono ?_; rintro e w6 ⟨rfl, x6⟩))
          go_ret
          exact ⟨rfl, xc5.trans x6⟩
        case pos =>
          obtain ⟨b5, cap5, rfl, own5⟩ := hW1.strs h1
          have st6 := Strs.own own5
          obtain ⟨gR, lR, hrd⟩ := HL.out h1
          have hlR : R.1.length ≤ 223 := by omega
          have HK1R := Lib.hid (HK1.out R.1)
          have HKDR := Lib.hid (HKD.out R.1 gR)
          have HGR := Lib.hid gR
          have HRd0 := Lib.hid hrd
          have HlR := Lib.hid lR
          clear HK1 HKD HL own5 hW1 g1 gR hrd lR
          unfold KeepR at HK1R
          generalize keepD (drvM m d) d R.1 = K at *
          obtain ⟨dk, er, lx⟩ := K
          simp only at HK1R HKDR
          go_upto_region 9 with (first
            | (refine wp_ld_mac_g (.tmp 3) rfl rfl G m 30 rfl bm5 ?_)
            | (go_at_call 15; refine (HK1R.out _ _ _ w5 (by omega) HF5.out HT5.out st6 (by omega)).mono ?_; rintro e w6 ⟨m3, rfl, hF6, hl6, hk6, x6⟩; clear hl6 hk6)
            | (refine wp_st_mac (.tmp 12) (.tmp 64) rfl rfl w6.heap.size m3 _ 30 rfl rfl (Box.new _ _ _) rfl ?_; intro w7 b7 g7))
          have x67 : Ext w6 w7 := ((Ext.refl w6).alloc _).grown g7 (fun j e => by cases e; exact Nat.le_refl _)
          have x57 := x6.trans x67
          have st7 := st5.ext x57
          have HF7 := Lib.hid (hF6.ext x67)
          have HT7 := Lib.hid (HT5.out.ext x57)
          have xc7 := xc5.trans x57
          have hGs7 : G ≤ w7.heap.size := by have := x57.size; omega
          clear g7 x67 x57 hF6 x6 bm5 hGs5 HF5 HT5 xc5 st5 st6 HK1R
          generalize w6.heap.size = g3 at *
          by_cases her : er = 0
          case neg =>
            have d1 : (er != 0) = true := by simpa using her
            go_wp2_with (first
              | (go_at_call 10; refine (HA.out _).mono ?_; rintro e w8 ⟨rfl, x8⟩))
            go_ret
            exact ⟨rfl, xc7.trans x8⟩
          case pos =>
            subst her
            obtain ⟨hvw, hj3, hp3⟩ := HKDR.out rfl
            have hV3 := HVw.out m3 dk
            rw [hvw] at hV3
            have HV3 := Lib.hid hV3
            have HRd := Lib.hid (fun A c w h => fsRead_any A R.1.length c R.1 I Q.2.1 w h HGR.out)
            have HRd1 := HRd0.out
            rw [HRd1] at HRd
            have HK2 := Lib.hid (fun A n c w (a : G ≤ w.heap.size) (b : MacF G w m3 dk) (t : Tabs w) (s : Strs w A n v) (hn : n ≤ 1000) => (ckeep_any G m3 dk A n c v w a b hj3 t hp3 s hn : Calls Tryz.prog 15 #[.agg m3.cells, .slice A n c] w (KeepR G m3 dk v w)))
            have HKD2 := Lib.hid (fun (he : (keepD (drvM m3 dk) dk v).2.1 = 0) => keepD_view (D := drvM m3 dk) (v := v) rfl rfl hj3 he)
            clear hV3 hvw hj3 hp3 HKDR HRd1 HRd0 HGR
            unfold KeepR at HK2
            generalize keepD (drvM m3 dk) dk v = K2 at *
            obtain ⟨d5, er5, lx5⟩ := K2
            simp only at HK2 HKD2
            go_upto_region 12 with (first
              | (refine wp_ld_mac_g (.tmp 12) rfl rfl g3 m3 30 rfl b7 ?_)
              | (go_at_call 11; refine (HV3.out _ HF7.out.toIn).mono ?_; rintro e w8 ⟨A8, c8, rfl, x8, own8⟩; have st8 := Strs.own own8)
              | (go_at_call 27; refine (HRd.out _ _ _ st8).mono ?_; rintro e w9 ⟨rfl, x9⟩))
            have x79 := x8.trans x9
            have st9 := st7.ext x79
            have b9 := b7.ext x79
            have HF9 := Lib.hid (HF7.out.ext x79)
            have HT9 := Lib.hid (HT7.out.ext x79)
            have xc9 := xc7.trans x79
            have hGs9 : G ≤ w9.heap.size := by have := x79.size; omega
            clear st7 b7 HF7 HT7 xc7 hGs7 x79 x8 x9 own8 st8 HRd HV3
            go_upto_region 13 with (first
              | (refine wp_ld_mac_g (.tmp 12) rfl rfl g3 m3 30 rfl b9 ?_)
              | (go_at_call 15; refine (HK2.out _ _ _ w9 (by omega) HF9.out HT9.out st9 (by omega)).mono ?_; rintro e w10 ⟨m5, rfl, hF10, hl10, hk10, x10⟩; clear hl10 hk10)
              | (refine wp_st_mac (.tmp 16) (.tmp 80) rfl rfl w10.heap.size m5 _ 30 rfl rfl (Box.new _ _ _) rfl ?_; intro w11 b11 g11))
            have x1011 : Ext w10 w11 := ((Ext.refl w10).alloc _).grown g11 (fun j e => by cases e; exact Nat.le_refl _)
            have x911 := x10.trans x1011
            have st11 := st9.ext x911
            have HF11 := Lib.hid (hF10.ext x1011)
            have xc11 := xc9.trans x911
            clear g11 x1011 x911 hF10 x10 b9 HF9 HT9 xc9 st9 HK2
            generalize w10.heap.size = g5 at *
            by_cases her5 : er5 = 0
            case neg =>
              have d1 : (er5 != 0) = true := by simpa using her5
              go_wp2_with (first
                | (go_at_call 10; refine (HA.out _).mono ?_; rintro e w12 ⟨rfl, x12⟩))
              go_ret
              exact ⟨rfl, xc11.trans x12⟩
            case pos =>
              subst her5
              have hV5 := HVw.out m5 d5
              rw [HKD2.out rfl] at hV5
              have HV5 := Lib.hid hV5
              have HS := Lib.hid same16_yes
              have hVb : v.length ≤ 9223372036854775807 := by omega
              clear hV5 HKD2 HVw
              go_wp2_with (first
                | (refine wp_ld_mac_g (.tmp 16) rfl rfl g5 m5 30 rfl b11 ?_)
                | (go_at_call 11; refine (HV5.out _ HF11.out.toIn).mono ?_; rintro e w12 ⟨A12, c12, rfl, x12, own12⟩; have st12 := Strs.own own12)
                | (go_at_call 12; (have hq := HS.out A12 A1 v.length c12 c1 v w12 st12 (st11.ext x12) hVb; with_reducible (refine hq.mono ?_)); clear hq; rintro e w13 ⟨rfl, x13⟩)
                | (go_at_call 10; refine (HA.out _).mono ?_; rintro e w14 ⟨rfl, x14⟩))
              go_ret
              exact ⟨rfl, ((xc11.trans x12).trans x13).trans x14⟩
end Go.Proofs.YtkokmnaicfdjaaaGreatDoor
