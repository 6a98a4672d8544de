/- The walk of CacheMay. -/
import Derived.Test.YtkokmnaicfdjaaaGreatDoorVc27
import Derived.Test.YtkokmnaicfdjaaaGreatDoorVc30
import Derived.Test.YtkokmnaicfdjaaaGreatDoorVc31
import Derived.Test.YtkokmnaicfdjaaaGreatDoorVc32
namespace Go.Proofs.YtkokmnaicfdjaaaGreatDoor
set_option linter.unusedVariables false
set_option linter.unusedSimpArgs false
open Go.RowKit

theorem rise_of {d : MacD} (h : DiskOk d) : RiseW (d.bl.length - 33) d.di := ⟨h.2.1, h.2.2.1⟩
theorem disk_of {d : MacD} {I : Int} (hj : jrnE d.bl d.pe = 0) (hr : RiseW (d.bl.length - 33) d.di) (hg : Good (viewP d.bl d.pe d.di) I) : DiskOk d := ⟨hj, hr.1, hr.2, I, hg⟩
theorem rise_nil (N : Nat) : RiseW N [] := ⟨Nat.zero_le _, fun i h => by cases h⟩
/-- behind syncing a machine's disk is as it may be -/
theorem sync_disk {D : DrvD} {d : MacD} (hb : D.bl = d.bl) (hpe : D.pe = d.pe) (h : DiskOk d) (he : (commitP D d.di).2 = 0) : DiskOk (syncD d (commitP D d.di)) := by
  obtain ⟨I, hg⟩ := h.2.2.2
  have hj : jrnE D.bl D.pe = 0 := by rw [hb, hpe]; exact h.1
  have hl : RiseW (D.bl.length - 33) d.di := by rw [hb]; exact rise_of h
  refine disk_of (I := I) (commit_jrn hj hl) ?_ ?_
  · show RiseW _ (if (commitP D d.di).2 = 0 then [] else d.di)
    rw [if_pos he]; exact rise_nil _
  · have hc := commit_home hj hl he
    show Good (viewP (commitP D d.di).1.bl (commitP D d.di).1.pe (if (commitP D d.di).2 = 0 then [] else d.di)) I
    rw [if_pos he]
    show Good (homeP (commitP D d.di).1.bl (commitP D d.di).1.pe) I
    rw [hc, hb, hpe]; exact hg
/-- behind keeping a volume, too -/
theorem keep_disk {D : DrvD} {d : MacD} {v : List (List UInt8)} {I : Int} (hb : D.bl = d.bl) (hpe : D.pe = d.pe) (hj : jrnE d.bl d.pe = 0) (hg : Good v I) (he : (keepD D d v).2.1 = 0) : DiskOk (keepD D d v).1 := by
  have hv := keepD_view hb hpe hj he
  rw [keepD_eq] at he hv ⊢
  by_cases h1 : v.length = (homeP d.bl d.pe).length
  · rw [if_neg (fun h => h h1)] at he hv ⊢
    by_cases h2 : formE v = 0
    · rw [if_neg (fun h => h h2)] at he hv ⊢
      by_cases h3 : 32 < (keepL (homeP d.bl d.pe) v v.length).length
      · rw [if_pos h3] at he; cases he
      · rw [if_neg h3] at he hv ⊢
        have hl : RiseW (d.bl.length - 33) (keepL (homeP d.bl d.pe) v v.length) := keep_rise (by rw [h1, homeP_len hj]; exact Nat.le_refl _) (formE_mem h2) (by omega)
        by_cases h4 : 16 < (keepL (homeP d.bl d.pe) v v.length).length
        · rw [if_pos h4] at he hv ⊢
          have hl2 : RiseW (D.bl.length - 33) (keepL (homeP d.bl d.pe) v v.length) := by rw [hb]; exact hl
          refine disk_of (I := I) (commit_jrn (by rw [hb, hpe]; exact hj) hl2) ?_ (by rw [hv]; exact hg)
          show RiseW _ (if (commitP D (keepL (homeP d.bl d.pe) v v.length)).2 = 0 then [] else _)
          rw [if_pos he]; exact rise_nil _
        · rw [if_neg h4] at hv ⊢
          exact disk_of (I := I) hj hl (by rw [hv]; exact hg)
    · rw [if_pos h2] at he; cases he
  · rw [if_pos h1] at he; cases he
theorem ProcOk.like {m m' : Mac} {d d' : MacD} {y : PrT} (h : ProcOk m d y) (hn : m'.next = m.next) (hf : m'.fr.n = m.fr.n) (e2 : d'.pr = d.pr) (e3 : d'.pi = d.pi) : ProcOk m' d' y :=
  ⟨by rw [hn]; exact h.pid, h.state, h.reg, by rw [e2]; exact h.par, h.why, h.code, fun j hj => by have := h.page j hj; unfold PageP at this ⊢; rw [e2, hf]; exact this, fun j hj => by rw [e3]; exact h.fd j hj⟩
/-- a machine like it, with the same processes, frames and pipes, may be likewise -/
theorem RestOk.like {m m' : Mac} {d d' : MacD} (h : RestOk m d) (hl : m.Like m') (h1 : m'.fr.n = m.fr.n) (h2 : m'.pr.n = m.pr.n) (h3 : m'.pi.n = m.pi.n) (e1 : d'.fr = d.fr) (e2 : d'.pr = d.pr) (e3 : d'.pi = d.pi) : RestOk m' d' := by
  obtain ⟨fr', pr', pi', bl', pe', di'⟩ := d'
  simp only at e1 e2 e3
  subst e1 e2 e3
  refine ⟨⟨by rw [hl.quantum]; exact h.nums.quantum, by rw [hl.left, hl.quantum]; exact h.nums.left, by rw [hl.cur]; exact h.nums.cur, by rw [hl.next]; exact h.nums.next, by rw [hl.newPipe]; exact h.nums.newPipe⟩, by rw [h1]; exact h.frn, h.fr, by rw [h2]; exact h.prn, fun i hi hk => ?_, by rw [h3]; exact h.pin, fun i hi hk => ?_, by rw [hl.inn, hl.init]; exact h.texts⟩
  · obtain ⟨a, b⟩ := h.pr i hi hk
    exact ⟨a.like hl.next h1 rfl rfl, b⟩
  · have := h.pi i hi hk
    rw [hl.newPipe]; exact this
def OfVR (v : List (List UInt8)) (e : Ending) : Prop := ∃ b, e = .returned (.bool b) ∧ (b = true → ∃ I, Good v I)
set_option maxHeartbeats 1000000 in
set_option maxRecDepth 100000 in
theorem volume_any (A : Option Addr) (n c : Nat) (v : List (List UInt8)) (w : World) (hv : Strs w A n v) (hn : n ≤ 9223372036854775807) :
    Calls Tryz.prog 23 #[.slice A n c] w fun e w' => OfVR v e ∧ Ext w w' := by
  have HO := Lib.hid (fun w h => gof_any A n c v w h hn)
  go_enter Tryz.func23, Tryz.ntmps23
  go_wp2_with (first
    | (go_at_call 39; refine (HO.out _ hv).mono ?_; rintro e w1 ⟨hor, x1⟩; rcases hor with ⟨I, hg, rfl⟩ | rfl)
    | (rw [geomV_eq]; refine wp_st_geom (.tmp 3) (.tmp 8) rfl rfl w1.heap.size _ [0, 0, 0, 0, 0, 0] 88 rfl rfl (Box.new _ _ _) rfl rfl ?_; intro w2 b2 g2)
    | (refine wp_st_geom (.tmp 3) (.tmp 8) rfl rfl w1.heap.size [0, 0, 0, 0, 0, 0] [0, 0, 0, 0, 0, 0] 88 rfl rfl (Box.new _ _ _) rfl rfl ?_; intro w2 b2 g2))
  · go_ret
    exact ⟨⟨true, rfl, fun _ => ⟨I, hg⟩⟩, (x1.alloc _).grown g2 (fun j e => by cases e; exact x1.size)⟩
  · go_ret
    exact ⟨⟨false, rfl, fun h => by cases h⟩, (x1.alloc _).grown g2 (fun j e => by cases e; exact x1.size)⟩
def TestM (m : Mac) (d : MacD) (n : Nat) (v : List (List UInt8)) (b : Bool) : Prop := b = false → StateOk m d ∧ MacLens m ∧ n ≤ 80 ∧ ∃ I, Good v I
set_option maxHeartbeats 40000000 in
set_option maxRecDepth 100000 in
theorem cacheMay_any (m : Mac) (d : MacD) (A : Option Addr) (n c : Nat) (v : List (List UInt8)) (w : World) (h : MacIn w m d) (hr : MacReach m) (hT : Tabs w) (hv : Strs w A n v) (hn : n ≤ maxLen) :
    Calls Tryz.prog 6 #[.agg m.cells, .slice A n c] w fun e w' => e = .returned (.bool true) ∧ Ext w w' := by
  have HG := Lib.hid (fun w h => rgreat_any m d w h hr)
  have HC := Lib.hid (fun w h h1 h2 => rcheck_ok m d w h h1 h2)
  have HVo := Lib.hid (fun w h => vol_any A n c v w h (maxLen_le hn))
  have HVu := Lib.hid (fun w h => volume_any A n c v w h (maxLen_le hn))
  have HA := Lib.hid awake_any
  have HS := Lib.hid (fun (m : Mac) (d : MacD) w hi h => scheck_ok m d w hi h)
  have hl := hv.1
  go_enter Tryz.func6, Tryz.ntmps6
  go_upto_region 1 with fail
  have xa : Ext w (w.alloc (.cells m.cells 30)) := (Ext.refl _).alloc _
  have bm := Box.new w 30 m.cells
  have hTa := Lib.hid (hT.ext xa)
  have HVa := Lib.hid (hv.ext xa)
  generalize w.alloc (.cells m.cells 30) = w1 at *
  generalize hG : w.heap.size = G at *
  have HM0 := Lib.hid h
  have HM := Lib.hid (h.ext xa)
  have HNL := Lib.hid hl
  clear h hT hv hl hn
  go_cut [25] (fun s wx => ∃ b : Bool, s = .bool b ∧ Ext w1 wx ∧ TestM m d n v b)
  case first =>
    clear HA HS
    go_wp2_with (first
      | (refine wp_ld_mac (.tmp 2) rfl rfl G _ _ rfl bm rfl ?_)
      | (refine wp_ld_mac_g (.tmp 2) rfl rfl G m 30 rfl bm2 ?_)
      | (go_at_call 8; refine (HG.out _ HM.out).mono ?_; rintro e w2 ⟨⟨z, rfl, hz⟩, x2⟩; have HZ := Lib.hid hz; clear hz; have bm2 := bm.ext x2; rcases Bool.eq_false_or_eq_true (decide (0 < z)) with dz | dz)
      | (go_at_call 9; have hlz := HZ.out (by simpa using dz); refine (HC.out _ (HM.out.ext x2) (by have := hlz.pr; omega) (by have := hlz.pi; omega)).mono ?_; rintro e w3 ⟨⟨q, rfl, hn⟩, x3⟩; have HLZ := Lib.hid hlz; clear hlz; have HN := Lib.hid hn; clear hn; rcases Bool.eq_false_or_eq_true (q != 0) with dn | dn)
      | (go_at_call 14; refine (HVo.out _ ((HVa.out.ext x2).ext x3)).mono ?_; rintro e w4 ⟨b4, rfl, hb4, rfl⟩; have HB4 := Lib.hid hb4; clear hb4; rcases b4 with _ | _)
      | (go_at_call 23; refine (HVu.out _ ((HVa.out.ext x2).ext x3)).mono ?_; rintro e w5 ⟨⟨b5, rfl, hb5⟩, x5⟩; have HB5 := Lib.hid hb5; clear hb5; rcases b5 with _ | _))
    · go_meet
      exact ⟨true, rfl, x2, fun h => by cases h⟩
    · go_meet
      exact ⟨true, rfl, x2.trans x3, fun h => by cases h⟩
    · go_meet
      exact ⟨true, rfl, (x2.trans x3).trans x5, fun h => by cases h⟩
    · go_meet
      exact ⟨false, rfl, (x2.trans x3).trans x5, fun _ => ⟨HN.out (by simpa using dn), HLZ.out, HB4.out (by first | rfl | trivial), HB5.out (by first | rfl | trivial)⟩⟩
    · go_meet
      exact ⟨true, rfl, x2.trans x3, fun h => by cases h⟩
  case rest =>
    obtain ⟨b, rfl, x2, hd⟩ := hcut
    cases b with
    | true =>
      go_wp2_with (go_at_call 10; refine (HA.out _).mono ?_; rintro e w3 ⟨rfl, x3⟩)
      go_ret
      exact ⟨rfl, (xa.trans x2).trans x3⟩
    | false =>
      obtain ⟨hst, hlens, hn80, I, hgood⟩ := hd rfl
      have hdk := hst.disk
      have hrest := hst.rest
      have hj := hdk.1
      have hl : RiseW (d.bl.length - 33) d.di := rise_of hdk
      have hp : d.pe.length ≤ 1000 := by have := hlens.pe; have := HM.out.pe.1; omega
      have HS1 : ∀ (w : World) (a : G ≤ w.heap.size) (b : MacF G w m d) (c' : Tabs w) (s : Strs w A n v), Calls Tryz.prog 15 #[.agg m.cells, .slice A n c] w fun e w' => ∃ m' : Mac, e = .returned (.tuple #[.agg m'.cells, .int .i64 (keepD (drvM m d) d v).2.1]) ∧ MacF G w' m' (keepD (drvM m d) d v).1 ∧ m'.dleft = (keepD (drvM m d) d v).2.2 ∧ m.Like m' ∧ Ext w w' := fun w a b c' s => ckeep_any G m d A n c v w a b hj c' hp s (by omega)
      have HS2 : ∀ (w : World) (a : G ≤ w.heap.size) (b : MacF G w m d) (c : Tabs w), Calls Tryz.prog 20 #[.agg m.cells] w fun e w' => ∃ m' : Mac, e = .returned (.tuple #[.agg m'.cells, .int .i64 (commitP (drvM m d) d.di).2]) ∧ MacF G w' m' (syncD d (commitP (drvM m d) d.di)) ∧ m'.dleft = (commitP (drvM m d) d.di).1.left ∧ m.Like m' ∧ Ext w w' := fun w a b c => csync_any G m d w a b hj hl c hp
      have hk1 := keep_disk (D := drvM m d) (v := v) rfl rfl hj hgood
      have hk2 := keepD_rest (drvM m d) d v
      have hs1 := sync_disk (D := drvM m d) (d := d) rfl rfl hdk
      have hs2 : (syncD d (commitP (drvM m d) d.di)).fr = d.fr ∧ (syncD d (commitP (drvM m d) d.di)).pr = d.pr ∧ (syncD d (commitP (drvM m d) d.di)).pi = d.pi := ⟨rfl, rfl, rfl⟩
      generalize hR : keepD (drvM m d) d v = R at HS1 hk1 hk2
      generalize hR2 : syncD d (commitP (drvM m d) d.di) = d5 at HS2 hs1 hs2
      generalize hR3 : commitP (drvM m d) d.di = R3 at HS2 hs1
      clear hR hR2 hR3
      obtain ⟨dk, er, lx⟩ := R
      obtain ⟨E, er2⟩ := R3
      simp only at HS1 HS2 hk1 hk2 hs1
      have hml := HM.out
      have HK := Lib.hid (fun (m3 : Mac) (hlk : m.Like m3) (wx : World) (hF : MacF G wx m3 dk) (he : er = 0) => (⟨hrest.like hlk (by rw [hF.fr.k.row.1, hml.fr.1, hk2.1]) (by rw [hF.pr.k.row.1, hml.pr.1, hk2.2.1]) (by rw [hF.pi.k.row.1, hml.pi.1, hk2.2.2]) hk2.1 hk2.2.1 hk2.2.2, hk1 he⟩ : StateOk m3 dk))
      have HY := Lib.hid (fun (m3 : Mac) (hlk : m.Like m3) (wx : World) (hF : MacF G wx m3 d5) (he : er2 = 0) => (⟨hrest.like hlk (by rw [hF.fr.k.row.1, hml.fr.1, hs2.1]) (by rw [hF.pr.k.row.1, hml.pr.1, hs2.2.1]) (by rw [hF.pi.k.row.1, hml.pi.1, hs2.2.2]) hs2.1 hs2.2.1 hs2.2.2, hs1 he⟩ : StateOk m3 d5))
      have HSa := Lib.hid HS1
      have HSb := Lib.hid HS2
      have hF := (hG ▸ MacF.old HM0.out hlens.small : MacF G w m d)
      have HF := Lib.hid (hF.ext (xa.trans x2))
      have bm2 := bm.ext x2
      have hGs : G < wc.heap.size := bm2.lt
      have xc := xa.trans x2
      have HTc := Lib.hid (hTa.out.ext x2)
      have HVc := Lib.hid (HVa.out.ext x2)
      clear HS1 HS2 hk1 hk2 hs1 hs2 hdk hlens hd hp HG HC hF x2 xa bm hTa HVa HVo HVu hj hl hst hrest hml hgood
      go_upto_region 4 with (first
        | (refine wp_ld_mac (.tmp 2) rfl rfl G _ _ rfl bm2 rfl ?_)
        | (go_at_call 15; refine (HSa.out _ (by omega) HF.out HTc.out HVc.out).mono ?_; rintro e w3 ⟨m3, rfl, hF3, hl3, hk3, x3⟩; have HK3 := Lib.hid hk3; clear hl3 hk3)
        | (refine wp_st_mac (.tmp 5) (.tmp 31) rfl rfl w3.heap.size m3 _ 30 rfl rfl (Box.new _ _ _) rfl ?_; intro w4 b4 g4))
      have x34 : Ext w3 w4 := ((Ext.refl w3).alloc _).grown g4 (fun j e => by cases e; exact Nat.le_refl _)
      have x4 := x3.trans x34
      have hF4 := hF3.ext x34
      have bm4 := bm2.ext x4
      have HF4 := Lib.hid (HF.out.ext x4)
      have HT4 := Lib.hid (HTc.out.ext x4)
      have xc4 := xc.trans x4
      have hGs4 : G < w4.heap.size := bm4.lt
      clear g4 x34 x3 hF3 bm2 x4 xc hGs HVc
      generalize w3.heap.size = g3 at *
      go_upto_region 5 with (first
        | (refine wp_ld_mac (.tmp 2) rfl rfl G _ _ rfl bm4 rfl ?_)
        | (go_at_call 20; refine (HSb.out _ (by omega) HF4.out HT4.out).mono ?_; rintro e w5 ⟨m5, rfl, hF5, hl5, hk5, x5⟩; have HK5 := Lib.hid hk5; clear hl5 hk5)
        | (refine wp_st_mac (.tmp 7) (.tmp 36) rfl rfl w5.heap.size m5 _ 30 rfl rfl (Box.new _ _ _) rfl ?_; intro w6 b6 g6))
      have x56 : Ext w5 w6 := ((Ext.refl w5).alloc _).grown g6 (fun j e => by cases e; exact Nat.le_refl _)
      have x6 := x5.trans x56
      have HA6 := Lib.hid (hF4.ext x6)
      have HB6 := Lib.hid (hF5.ext x56)
      have b46 := b4.ext x6
      have xc6 := xc4.trans x6
      clear g6 x56 x5 hF5 hF4 bm4 b4 x6 xc4 HSa HSb HF HF4 HTc HT4 HM HM0 hGs4
      generalize w5.heap.size = g5 at *
      have HC3 : ∀ (wx : World) (he : er = 0) (hF : MacF G wx m3 dk), Hid (Calls Tryz.prog 24 #[.agg m3.cells] wx fun e w' => e = .returned (.int .i64 0) ∧ Ext wx w') := fun wx he hF => Lib.hid (HS.out m3 dk wx hF.toIn (HK.out m3 HK3.out wx hF he))
      have HC5 : ∀ (wx : World) (he : er2 = 0) (hF : MacF G wx m5 d5), Hid (Calls Tryz.prog 24 #[.agg m5.cells] wx fun e w' => e = .returned (.int .i64 0) ∧ Ext wx w') := fun wx he hF => Lib.hid (HS.out m5 d5 wx hF.toIn (HY.out m5 HK5.out wx hF he))
      have H3 := Lib.hid HC3
      have H5 := Lib.hid HC5
      clear HC3 HC5 HK HY HS HK3 HK5
      by_cases h1 : er = 0
      · subst h1
        by_cases h2 : er2 = 0
        · subst h2
          go_wp2_with (first
            | (refine wp_ld_mac_g (.tmp 5) rfl rfl g3 m3 30 rfl b46 ?_)
            | (go_at_call 24; (have hq := (H3.out _ (by first | rfl | trivial) HA6.out).out; with_reducible (refine hq.mono ?_)); clear hq; rintro e w7 ⟨rfl, x7⟩; have b67 := b6.ext x7)
            | (refine wp_ld_mac_g (.tmp 7) rfl rfl g5 m5 30 rfl b67 ?_)
            | (go_at_call 24; (have hq := (H5.out _ (by first | rfl | trivial) (HB6.out.ext x7)).out; with_reducible (refine hq.mono ?_)); clear hq; rintro e w8 ⟨rfl, x8⟩)
            | (go_at_call 10; refine (HA.out _).mono ?_; rintro e w9 ⟨rfl, x9⟩))
          go_ret
          exact ⟨rfl, ((xc6.trans x7).trans x8).trans x9⟩
        · have d2 : (er2 != 0) = true := by simpa using h2
          clear h2
          go_wp2_with (first
            | (refine wp_ld_mac_g (.tmp 5) rfl rfl g3 m3 30 rfl b46 ?_)
            | (go_at_call 24; (have hq := (H3.out _ (by first | rfl | trivial) HA6.out).out; with_reducible (refine hq.mono ?_)); clear hq; rintro e w7 ⟨rfl, x7⟩)
            | (go_at_call 10; refine (HA.out _).mono ?_; rintro e w9 ⟨rfl, x9⟩))
          go_ret
          exact ⟨rfl, (xc6.trans x7).trans x9⟩
      · have d1 : (er != 0) = true := by simpa using h1
        clear h1
        by_cases h2 : er2 = 0
        · subst h2
          go_wp2_with (first
            | (refine wp_ld_mac_g (.tmp 7) rfl rfl g5 m5 30 rfl b6 ?_)
            | (go_at_call 24; (have hq := (H5.out _ (by first | rfl | trivial) HB6.out).out; with_reducible (refine hq.mono ?_)); clear hq; rintro e w8 ⟨rfl, x8⟩)
            | (go_at_call 10; refine (HA.out _).mono ?_; rintro e w9 ⟨rfl, x9⟩))
          go_ret
          exact ⟨rfl, (xc6.trans x8).trans x9⟩
        · have d2 : (er2 != 0) = true := by simpa using h2
          clear h2
          go_wp2_with (first
            | (go_at_call 10; refine (HA.out _).mono ?_; rintro e w9 ⟨rfl, x9⟩))
          go_ret
          exact ⟨rfl, xc6.trans x9⟩
end Go.Proofs.YtkokmnaicfdjaaaGreatDoor
