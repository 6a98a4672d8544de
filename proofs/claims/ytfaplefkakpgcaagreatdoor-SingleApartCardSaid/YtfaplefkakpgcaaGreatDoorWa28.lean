/- single.living, single.pages. -/
import Derived.Test.YtfaplefkakpgcaaGreatDoorWa25
import Derived.Test.YtfaplefkakpgcaaGreatDoorWa27
import Derived.Test.YtfaplefkakpgcaaGreatDoorWa14
import Derived.Test.YtfaplefkakpgcaaGreatDoorWa17
namespace Go.Proofs.YtfaplefkakpgcaaGreatDoor
set_option linter.unusedVariables false
set_option linter.unusedSimpArgs false
open Go.RowKit
theorem find_at {α : Type} {l : List α} {p : α → Bool} {k : Nat} (hk : k < l.length) (hp : p l[k] = true) (hno : ∀ (j : Nat) (h : j < l.length), j < k → p l[j] = false) : l.find? p = some l[k] :=
  List.find?_eq_some_iff_getElem.2 ⟨hp, k, hk, rfl, fun j hj => by rw [hno j (by omega) hj]; rfl⟩
theorem prSz {y : PrT} : (Tryz.prog.info? 57).map (·.size) = some (prL y).toArray.size := by kernel_rfl
set_option maxHeartbeats 1000000 in
set_option maxRecDepth 100000 in
theorem pages_any (y : PrT) (w : World) :
    Calls Tryz.prog 35 #[.agg (spaceL y).toArray] w fun e w' => e = .returned (.int .i64 (cntIs y 16)) ∧ Ext w w' := by
  have x0 := (Ext.refl w).alloc (.cells (spaceL y).toArray 52)
  have b0 := Box.new w 52 (spaceL y).toArray
  go_enter Tryz.func35, Tryz.ntmps35
  go_upto_region 1 with fail
  change Code.wp _ _ _ _ (w.alloc (.cells (spaceL y).toArray 52))
  generalize w.alloc (.cells (spaceL y).toArray 52) = w1 at *
  go_upto_region 3 with (refine wp_ld _ _ rfl rfl w.heap.size (spaceL y).toArray 52 _ rfl b0 Tryz.underlying52 rfl (by exact spaceSize) ?_)
  clear b0
  go_loopw [3, 7] (fun s i wx => ∃ j : Nat, j ≤ 16 ∧ i = .int .i64 j ∧ s = .int .i64 (cntIs y j) ∧ Ext w1 wx) (fun _ i _ => 16 - (intOf i).toNat)
  case atStart => exact ⟨0, by omega, rfl, rfl, Ext.refl _⟩
  case round =>
    obtain ⟨j, hj, rfl, rfl, xj⟩ := hrel
    by_cases hlt : j < 16
    · have hji : (j : Int) < 16 := by omega
      have HC := Lib.hid (show cntIs y (j + 1) = cntIs y j + (if y.pis j = true then 1 else 0) from rfl)
      have HB := Lib.hid (show cntIs y j ≤ j from by
        clear HC hji hlt hj xj
        induction j with
        | zero => exact Nat.le_refl _
        | succ j ih => rw [cntIs]; split <;> omega)
      go_upto_region 5 with (refine wp_idx_pte (.tmp 6) (.tmp 7) rfl rfl y j rfl rfl hlt ?_)
      have xz := xj.alloc (.cells #[.bool (y.pis j), .bool (y.pwr j), .int .i64 (y.pfr j)] 50)
      have bq := Box.new wr 50 #[.bool (y.pis j), .bool (y.pwr j), .int .i64 (y.pfr j)]
      have hcb : cntIs y j ≤ 16 := by have := HB.out; omega
      generalize cntIs y j = cj at *
      generalize y.pis j = ia at *
      generalize y.pwr j = iw at *
      generalize y.pfr j = ifr at *
      generalize wr.alloc (.cells #[.bool ia, .bool iw, .int .i64 ifr] 50) = wq at *
      have q0 : wq.cell? ⟨wr.heap.size, 0, none⟩ = some (.bool ia) := bq.cell 0
      cases ia
      · go_wp2_with fail
        go_roundw
        case rel => exact ⟨j + 1, by omega, by go_num, by rw [HC.out]; rfl, xz⟩
        case measure => simp [intOf]; omega
      · go_wp2_with fail
        go_roundw
        case rel => exact ⟨j + 1, by omega, by go_num, by rw [HC.out]; go_num, xz⟩
        case measure => simp [intOf]; omega
    · obtain rfl : j = 16 := by omega
      go_wp2_with fail
      go_ret
      exact ⟨rfl, x0.trans xj⟩
set_option maxHeartbeats 4000000 in
set_option maxRecDepth 100000 in
theorem living_any (m : Mac) (d : MacD) (pid : Int) (w : World) (hi : MacIn w m d) (hrn : m.pr.n ≤ 1000) :
    Calls Tryz.prog 33 #[.agg m.cells, .int .i64 pid] w fun e w' => e = .returned (.tuple #[.agg (prL ((livingP d.pr pid).getD zeroPr)).toArray, .bool (livingP d.pr pid).isSome]) ∧ Ext w w' := by
  have x0 := ((Ext.refl w).alloc (.cells m.cells 38)).alloc (.cells (prL zeroPr).toArray 57)
  have bm := (Box.new w 38 m.cells).ext ((Ext.refl _).alloc (.cells (prL zeroPr).toArray 57))
  have bp := Box.new (w.alloc (.cells m.cells 38)) 57 (prL zeroPr).toArray
  rw [World.size_alloc] at bp
  obtain ⟨hv1, hv2⟩ := hi.pr
  have HV1 := Lib.hid hv1
  clear hi hv1
  obtain ⟨LP, hLP⟩ : ∃ LP, LP = livingP d.pr pid := ⟨_, rfl⟩
  rw [← hLP]
  have HLP := Lib.hid hLP
  clear hLP
  go_enter Tryz.func33, Tryz.ntmps33
  go_upto_region 1 with fail
  change Code.wp _ _ _ _ ((w.alloc (.cells m.cells 38)).alloc (.cells (prL zeroPr).toArray 57))
  generalize (w.alloc (.cells m.cells 38)).alloc (.cells (prL zeroPr).toArray 57) = w1 at *
  obtain ⟨G, hG⟩ : ∃ G, G = w.heap.size := ⟨_, rfl⟩
  rw [← hG] at bm bp ⊢
  have HG := Lib.hid hG
  clear hG
  have k5 : w1.cell? ⟨G, 5, none⟩ = some (.slice m.pr.A m.pr.n m.pr.c) := bm.cell 5
  go_upto_region 2 with fail
  clear k5 bm
  have hln : m.pr.n = d.pr.length := HV1.out
  generalize m.pr.A = A at *
  generalize m.pr.n = pn at *
  subst hln
  have HF := Lib.hid (fun k (hk : k < d.pr.length) => find_at (l := d.pr) (p := fun p => p.pid == pid && (p.state == 1 || p.state == 2)) hk)
  have HNf := Lib.hid (fun (h : ∀ (j : Nat) (hj : j < d.pr.length), j < d.pr.length → (d.pr[j].pid == pid && (d.pr[j].state == 1 || d.pr[j].state == 2)) = false) => show livingP d.pr pid = none from List.find?_eq_none.2 (fun p hp => by
    obtain ⟨j, hj, rfl⟩ := List.getElem_of_mem hp
    rw [h j hj hj]; decide))
  have HLD := Lib.hid (show livingP d.pr pid = d.pr.find? (fun p => p.pid == pid && (p.state == 1 || p.state == 2)) from rfl)
  generalize d.pr = l at *
  go_loopw [11] (fun i wx => ∃ k : Nat, k ≤ l.length ∧ i = .int .i64 k ∧ Ext w1 wx ∧ ∀ (j : Nat) (h : j < l.length), j < k → (l[j].pid == pid && (l[j].state == 1 || l[j].state == 2)) = false) (fun i _ => l.length - (intOf i).toNat)
  case atStart => exact ⟨0, by omega, rfl, Ext.refl _, fun j h h2 => by omega⟩
  case round =>
    obtain ⟨k, hk, rfl, xk, hno⟩ := hrel
    have HNO := Lib.hid hno
    clear hno
    have bpk := bp.ext xk
    by_cases hlt : k < l.length
    · obtain ⟨b, o, rfl, hcell⟩ := hv2 (by omega)
      have r1 := range_ext (pr_range hcell hlt) (x0.trans xk)
      have hki : (k : Int) < (l.length : Int) := by omega
      have HNN := Lib.hid (show (l[k].pid == pid && (l[k].state == 1 || l[k].state == 2)) = false → ∀ (j : Nat) (h : j < l.length), j < k + 1 → (l[j].pid == pid && (l[j].state == 1 || l[j].state == 2)) = false from fun h j hj hjk => by
        by_cases e : j < k
        · exact HNO.out j hj e
        · obtain rfl : j = k := by omega
          exact h)
      have HFk := Lib.hid (show (l[k].pid == pid && (l[k].state == 1 || l[k].state == 2)) = true → LP = some l[k] from fun h => by rw [HLP.out, HLD.out]; exact HF.out k hlt h HNO.out)
      clear hcell HNO HF HNf
      generalize l[k] = y at *
      go_upto_region 4 with (first
        | (refine wp_ld_pr (.tmp 13) rfl rfl b (o + k * 96) y rfl r1 ?_)
        | (refine wp_st_pr (.tmp 7) (.tmp 14) rfl rfl wr.heap.size y _ 57 rfl rfl (Box.new _ _ _) rfl ?_; intro w3 b3 g3))
      have x3 : Ext wr w3 := ((Ext.refl wr).alloc _).grown g3 (fun j e => by cases e; exact Nat.le_refl _)
      have bp3 := bpk.ext x3
      have c0 : w3.cell? ⟨wr.heap.size, 0, none⟩ = some (.int .i64 y.pid) := b3.cell 0
      have c2 : w3.cell? ⟨wr.heap.size, 2, none⟩ = some (.int .i64 y.state) := b3.cell 2
      clear g3 r1 bpk bp
      rcases Bool.eq_false_or_eq_true (y.pid == pid) with h1 | h1
      · rcases Bool.eq_false_or_eq_true (y.state == 1) with h2 | h2
        · have HL := Lib.hid (HFk.out (by rw [h1, h2]; rfl))
          go_wp2_with (first
            | (refine wp_ld_pr (.tmp 7) rfl rfl wr.heap.size 0 y rfl (pr_range1 b3) ?_)
            | (refine wp_st_pr (.tmp 4) (.tmp 29) rfl rfl (G + 1) y _ 57 rfl rfl bp3 rfl ?_; intro w4 b4 g4))
          refine bodyPost_ret (results_cell2 rfl _ _ (G + 1) _ _ _ _ rfl rfl b4 Tryz.underlying57 rfl prSz) rfl ⟨by rw [HL.out]; rfl, ((x0.trans xk).trans x3).grown g4 (fun j e => by cases e; rw [← HG.out]; exact Nat.le_succ _)⟩
        · rcases Bool.eq_false_or_eq_true (y.state == 2) with h3 | h3
          · have HL := Lib.hid (HFk.out (by rw [h1, h2, h3]; rfl))
            go_wp2_with (first
              | (refine wp_ld_pr (.tmp 7) rfl rfl wr.heap.size 0 y rfl (pr_range1 b3) ?_)
              | (refine wp_st_pr (.tmp 4) (.tmp 29) rfl rfl (G + 1) y _ 57 rfl rfl bp3 rfl ?_; intro w4 b4 g4))
            refine bodyPost_ret (results_cell2 rfl _ _ (G + 1) _ _ _ _ rfl rfl b4 Tryz.underlying57 rfl prSz) rfl ⟨by rw [HL.out]; rfl, ((x0.trans xk).trans x3).grown g4 (fun j e => by cases e; rw [← HG.out]; exact Nat.le_succ _)⟩
          · have HL := Lib.hid (HNN.out (by rw [h1, h2, h3]; rfl))
            go_wp2_with fail
            go_roundw
            case rel => exact ⟨k + 1, by omega, by go_num, xk.trans x3, HL.out⟩
            case measure => simp [intOf]; omega
      · have HL := Lib.hid (HNN.out (by rw [h1]; rfl))
        go_wp2_with fail
        go_roundw
        case rel => exact ⟨k + 1, by omega, by go_num, xk.trans x3, HL.out⟩
        case measure => simp [intOf]; omega
    · obtain rfl : k = l.length := by omega
      have HL := Lib.hid (show LP = none from HLP.out.trans (HNf.out (fun j h _ => HNO.out j h h)))
      clear HNO HF HNf
      go_wp2_with (refine wp_st_pr (.tmp 4) (.tmp 31) rfl rfl (G + 1) zeroPr _ 57 rfl rfl bpk rfl ?_; intro w4 b4 g4)
      refine bodyPost_ret (results_cell2 rfl _ _ (G + 1) _ _ _ _ rfl rfl b4 Tryz.underlying57 rfl prSz) rfl ⟨by rw [HL.out]; rfl, (x0.trans xk).grown g4 (fun j e => by cases e; rw [← HG.out]; exact Nat.le_succ _)⟩
end Go.Proofs.YtfaplefkakpgcaaGreatDoor
/- state.Free: the frames that nobody has. -/
namespace Go.Proofs.YtfaplefkakpgcaaGreatDoor
set_option linter.unusedVariables false
set_option linter.unusedSimpArgs false
open Go.RowKit
theorem freeP_yes {l : List PrT} {j : Nat} (h : usersK l (j : Int) l.length = 0) : freeP (j + 1) l = freeP j l ++ [j] := by
  unfold freeP
  rw [List.range_succ, List.filter_append]
  simp [h]
theorem freeP_no {l : List PrT} {j : Nat} (h : usersK l (j : Int) l.length ≠ 0) : freeP (j + 1) l = freeP j l := by
  unfold freeP
  rw [List.range_succ, List.filter_append]
  simp [h]
theorem freeP_le (n : Nat) (l : List PrT) : (freeP n l).length ≤ n := Nat.le_trans (List.length_filter_le _ _) (Nat.le_of_eq List.length_range)
/-- the frames as numbers -/
def freeN (n : Nat) (l : List PrT) : List Int := (freeP n l).map fun f : Nat => (f : Int)
theorem freeN_len (n : Nat) (l : List PrT) : (freeN n l).length = (freeP n l).length := by unfold freeN; rw [List.length_map]
theorem met_end {l : List PrT} {f : Int} : Met l l.length 0 f ↔ usersK l f l.length ≠ 0 := by
  unfold Met
  rw [cntFr]; omega
set_option maxHeartbeats 8000000 in
set_option maxRecDepth 100000 in
theorem free_any (m : Mac) (d : MacD) (w : World) (hi : MacIn w m d) (h : StateOk m d) :
    Calls Tryz.prog 34 #[.agg m.cells] w fun e w' => ∃ u, e = .returned u ∧ Ext w w' ∧ w'.ownsRow w.heap.size 3 1 u (freeP m.fr.n d.pr).length (numsL (freeN m.fr.n d.pr)) := by
  have x0 := (Ext.refl w).alloc (.cells m.cells 38)
  have bm := Box.new w 38 m.cells
  obtain ⟨hv1, hv2⟩ := hi.pr
  have HV2 := Lib.hid hv2
  have HV1 := Lib.hid hv1
  have hn := h.rest.prn
  have hfn := h.rest.frn.2
  have HPG := Lib.hid (show ∀ k (hk : k < d.pr.length) j, j < 16 → PageP m d (d.pr.getD k default) j from fun k hk j hj => by
    have e : d.pr.getD k default = d.pr[k] := by rw [List.getD_eq_getElem?_getD, List.getElem?_eq_getElem hk]; rfl
    rw [e]; exact (h.rest.pr k hk hk).1.page j hj)
  clear hv2 hv1 h hi
  have hmk := fun w => run_makeMap (P := Tryz.prog) 125 w
  go_enter Tryz.func34, Tryz.ntmps34
  go_upto_region 1 with fail
  generalize w.alloc (.cells m.cells 38) = w1 at *
  go_upto_region 2 with fail
  clear hmk
  have xm := x0.alloc (.map #[] 0)
  have bm2 := bm.ext ((Ext.refl w1).alloc (.map #[] 0))
  have hmap : (w1.alloc (.map #[] 0)).ownsMap Tryz.prog 3 (plainElem (H := Unit) Tryz.prog 4) w1.heap.size 0 (.map []) := World.ownsMap_made w1 Tryz.prog 3 _
  have hlm : w.heap.size < w1.heap.size := bm.lt
  generalize w1.alloc (.map #[] 0) = w2 at *
  generalize hBm : w1.heap.size = Bm at *
  generalize hG : w.heap.size = G at *
  have HGe := Lib.hid hG
  have k5 : w2.cell? ⟨G, 5, none⟩ = some (.slice m.pr.A m.pr.n m.pr.c) := bm2.cell 5
  clear bm
  go_upto_region 3 with fail
  clear k5
  have hln : m.pr.n = d.pr.length := HV1.out
  have hv3 := HV2.out
  clear HV2
  generalize hrA : m.pr.A = A at hv3 ⊢
  generalize hrn : m.pr.n = pn at hv3 ⊢
  obtain rfl : d.pr.length = pn := by omega
  have hn8 : d.pr.length ≤ 8 := by omega
  clear hrA hrn hln hn
  go_loopw [14] (fun i wx => ∃ k : Nat, k ≤ d.pr.length ∧ i = .int .i64 k ∧ (∃ D, wx.ownsMap Tryz.prog 3 (plainElem (H := Unit) Tryz.prog 4) Bm (16 * k) D ∧ MetD d.pr k 0 D) ∧ w2.grownBy wx (some Bm)) (fun i _ => d.pr.length - (intOf i).toNat)
  case atStart => exact ⟨0, by omega, rfl, ⟨.map [], hmap, MetD.zero _⟩, grown_refl _ _⟩
  case round =>
    obtain ⟨k, hk, rfl, ⟨D, hown, hmet⟩, hg⟩ := hrel
    have xk : Ext w wr := xm.grown hg (fun j e => by cases e; omega)
    have bmk := bm2.grown hg (by intro e; injection e with e; omega)
    have HG := Lib.hid hg
    have HMT := Lib.hid hmet
    clear hg hmet
    by_cases hlt : k < d.pr.length
    · obtain ⟨b, o, rfl, hcell⟩ := hv3 (by omega)
      have r1 := range_ext (pr_ranged hcell hlt) xk
      have hki : (k : Int) < (d.pr.length : Int) := by omega
      have HMsk := Lib.hid (fun (j : Nat) (D : DataW Unit) (h : MetD d.pr k j D) hi => h.skip hi)
      have HMput := Lib.hid (fun (j f : Nat) (D : DataW Unit) (h : MetD d.pr k j D) hD hi hf hk => h.put (f := f) hD hi hf hk)
      have HMpr := Lib.hid (fun (D : DataW Unit) (h : MetD d.pr k 16 D) => h.proc)
      have HPg := Lib.hid (HPG.out k hlt)
      clear hcell
      generalize d.pr.getD k default = y at *
      go_upto_region 5 with (first
        | (refine wp_ld_pr (.tmp 16) rfl rfl b (o + k * 96) y rfl r1 ?_)
        | (refine wp_st_pr (.tmp 5) (.tmp 17) rfl rfl wr.heap.size y _ 57 rfl rfl (Box.new _ _ _) rfl ?_; intro w3 b3 g3))
      have x3 : Ext wr w3 := ((Ext.refl wr).alloc _).grown g3 (fun j e => by cases e; exact Nat.le_refl _)
      have xx3 := xk.trans x3
      have own3 := ownsMap_ext hown x3
      have HG3 := Lib.hid (grown_later HG.out x3)
      have hMk : Bm < wr.heap.size := hown.lt
      clear g3 r1 hown x3 bmk xk HG
      generalize wr.heap.size = P3 at *
      go_upto_region 6 with (refine wp_ld_space (.tmp 18) rfl rfl P3 57 y rfl b3 ?_)
      go_loopw [20] (fun i wx => ∃ j : Nat, j ≤ 16 ∧ i = .int .i64 j ∧ (∃ D, wx.ownsMap Tryz.prog 3 (plainElem (H := Unit) Tryz.prog 4) Bm (16 * k + j) D ∧ MetD d.pr k j D) ∧ w3.grownBy wx (some Bm)) (fun i _ => 16 - (intOf i).toNat)
      case atStart => exact ⟨0, by omega, rfl, ⟨D, own3, HMT.out⟩, grown_refl _ _⟩
      case round =>
        clear own3 HMT
        obtain ⟨j, hj, rfl, ⟨D2, own6, hmet2⟩, hg6⟩ := hrel
        have HMT2 := Lib.hid hmet2
        have HG6 := Lib.hid hg6
        clear hmet2 hg6
        by_cases hj2 : j < 16
        · have hji : (j : Int) < 16 := by omega
          have HMp0 := Lib.hid (fun f => HMput.out j f D2 HMT2.out own6.isMap)
          have HSk := Lib.hid (HMsk.out j D2 HMT2.out)
          have hpg := HPg.out j hj2
          go_upto_region 8 with (refine wp_idx_pte (.tmp 19) (.tmp 20) rfl rfl y j rfl rfl hj2 ?_)
          unfold PageP at hpg
          generalize hia : y.pis j = ia at *
          generalize hiw : y.pwr j = iw at *
          generalize hif : y.pfr j = ifr at *
          have hcase : (ia = false) ∨ (ia = true ∧ 0 ≤ ifr ∧ ifr < (m.fr.n : Int)) := by
            rcases hpg with h | h
            · exact .inl h.1
            · exact .inr ⟨h.1, h.2.2.1, h.2.2.2.1⟩
          clear hpg hia hiw hif
          have xq : Ext wr (wr.alloc (.cells #[.bool ia, .bool iw, .int .i64 ifr] 50)) := (Ext.refl _).alloc _
          have bq := Box.new wr 50 #[.bool ia, .bool iw, .int .i64 ifr]
          have own7 := own6.alloc (.cells #[.bool ia, .bool iw, .int .i64 ifr] 50)
          generalize wr.alloc (.cells #[.bool ia, .bool iw, .int .i64 ifr] 50) = wq at *
          have q0 : wq.cell? ⟨wr.heap.size, 0, none⟩ = some (.bool ia) := bq.cell 0
          have q2 : wq.cell? ⟨wr.heap.size, 2, none⟩ = some (.int .i64 ifr) := bq.cell 2
          rcases hcase with rfl | ⟨rfl, hf0, hf1⟩
          · go_wp2_with fail
            go_roundw
            case rel => exact ⟨j + 1, by omega, by go_num, ⟨D2, own7.mono (by omega), HSk.out rfl⟩, grown_later HG6.out xq⟩
            case measure => simp [intOf]; omega
          · obtain ⟨f, rfl⟩ : ∃ f : Nat, ifr = (f : Int) := ⟨ifr.toNat, by omega⟩
            have hfb : f ≤ 100000 := by omega
            have HMp := Lib.hid (HMp0.out f rfl rfl (intKeyed.key (key_i64 f hfb)))
            clear hf0 hf1
            go_wp2_with (first
              | (at_mapUpdate; refine wpList_mapUpdate_own _ rfl _ _ _ 125 rfl 3 4 intKeyed Tryz.underlying125 (plainElem (H := Unit) Tryz.prog 4) Bm (16 * k + j) _ rfl own7 (by unfold maxLen; omega) _ _ (.int .i64 (f : Int)) rfl rfl (key_i64 f hfb) (.lit (.bool true)) [] (plainElem_bool Tryz.underlying4 true) ?_; intro w8 own8 hg8))
            go_roundw
            case rel => exact ⟨j + 1, by omega, by go_num, ⟨_, own8, HMp.out⟩, grown_then (grown_later HG6.out xq) hg8 (fun j e => .inr e)⟩
            case measure => simp [intOf]; omega
        · obtain rfl : j = 16 := by omega
          have HG7 := Lib.hid (grown_then HG3.out HG6.out (fun j e => .inr e))
          go_wp2_with fail
          go_roundw
          case rel => exact ⟨k + 1, by omega, by go_num, ⟨D2, own6.mono (by omega), HMpr.out _ HMT2.out⟩, HG7.out⟩
          case measure => simp [intOf]; omega
    · obtain rfl : k = d.pr.length := by omega
      clear hv3 hlt
      have k4 : wr.cell? ⟨G, 4, none⟩ = some (.slice m.fr.A m.fr.n m.fr.c) := bmk.cell 4
      go_upto_region 14 with fail
      clear k4 bm2 bmk xm hmap
      have HMe := Lib.hid (fun f : Nat => show (usersK d.pr (f : Int) d.pr.length ≠ 0 → D.atKey (.int .i64 (f : Int)) (.lit (.bool false)) = .lit (.bool true)) ∧ (usersK d.pr (f : Int) d.pr.length = 0 → D.atKey (.int .i64 (f : Int)) (.lit (.bool false)) = .lit (.bool false)) from
        ⟨fun h => (HMT.out f).1 (met_end.2 h), fun h => (HMT.out f).2 (fun h2 => met_end.1 h2 h)⟩)
      generalize hus : (fun f : Nat => usersK d.pr (f : Int) d.pr.length) = us at *
      have HFy := Lib.hid (fun j (h : us j = 0) => show freeN (j + 1) d.pr = freeN j d.pr ++ [(j : Int)] from by
        subst hus
        unfold freeN
        rw [freeP_yes h, List.map_append]; rfl)
      have HFn := Lib.hid (fun j (h : us j ≠ 0) => show freeN (j + 1) d.pr = freeN j d.pr from by
        subst hus
        unfold freeN
        rw [freeP_no h])
      have HMe2 := Lib.hid (fun f : Nat => show (us f ≠ 0 → D.atKey (.int .i64 (f : Int)) (.lit (.bool false)) = .lit (.bool true)) ∧ (us f = 0 → D.atKey (.int .i64 (f : Int)) (.lit (.bool false)) = .lit (.bool false)) from by
        subst hus; exact HMe.out f)
      have HFl := Lib.hid (fun j => show (freeN j d.pr).length ≤ j from by rw [freeN_len]; exact freeP_le j d.pr)
      have HF0 := Lib.hid (show freeN 0 d.pr = [] from rfl)
      have HFe := Lib.hid (freeN_len m.fr.n d.pr)
      clear HMe hus
      have hxg : G ≤ wr.heap.size := by have := xk.size; omega
      have HXk := Lib.hid xk
      clear xk
      generalize hfN : (fun j => freeN j d.pr) = fN at *
      have HFN := Lib.hid hfN
      generalize hwz : wr = wz at *
      generalize hfr : m.fr.n = fn at *
      have HFR := Lib.hid hfr
      clear hwz hfr
      go_loopw [8, 33] (fun u i wx => ∃ j : Nat, j ≤ fn ∧ i = .int .i64 j ∧ Ext wz wx ∧ wx.ownsRow wz.heap.size 3 1 u (freeN j d.pr).length (numsL (freeN j d.pr))) (fun _ i _ => fn - (intOf i).toNat)
      case atStart => exact ⟨0, by omega, rfl, Ext.refl _, World.ownsRow_nil _ _ _ _⟩
      case round =>
        obtain ⟨j, hj, rfl, xj, own⟩ := hrel
        have hxs := xj.size
        by_cases hlt : j < fn
        · have hji : (j : Int) < (fn : Int) := by omega
          have hlen := HFl.out j
          have ownM := ownsMap_ext hown xj
          have HY := Lib.hid (HFy.out j)
          have HN := Lib.hid (HFn.out j)
          by_cases hz : us j = 0
          · have hlk := look_bool Bm (16 * d.pr.length) j D false ownM (by omega) ((HMe2.out j).2 hz)
            have HYz := Lib.hid (HY.out hz)
            clear hz
            generalize freeN j d.pr = L at *
            have ownA := own_ext own ((Ext.refl wr).alloc (.cells #[.int .i64 (j : Int)] 3))
            have hsA : wz.heap.size ≤ (wr.alloc (.cells #[.int .i64 (j : Int)] 3)).heap.size := by have := ((Ext.refl wr).alloc (.cells #[.int .i64 (j : Int)] 3)).size; omega
            go_wp2_with (refine wp_app_int rfl _ _ rfl rfl rfl ownA (Box.new _ _ _) (by omega) hsA ?_; intro u' w4 own4 g4)
            go_roundw
            case rel => exact ⟨j + 1, by omega, by go_num, (xj.alloc _).grown g4 (fun q e => own_low own e), by rw [HYz.out, List.length_append]; exact own4⟩
            case measure => simp [intOf]; omega
          · have hlk := look_bool Bm (16 * d.pr.length) j D true ownM (by omega) ((HMe2.out j).1 hz)
            have HNz := Lib.hid (HN.out hz)
            clear hz
            go_wp2_with fail
            go_roundw
            case rel => exact ⟨j + 1, by omega, by go_num, xj, by rw [HNz.out]; exact own⟩
            case measure => simp [intOf]; omega
        · obtain rfl : j = fn := by omega
          go_wp2_with fail
          go_ret
          refine ⟨_, rfl, HXk.out.trans xj, ?_⟩
          have hle : w.heap.size ≤ wz.heap.size := by have := HGe.out; omega
          have := own_base own hle
          rw [HFR.out, ← freeN_len]
          exact this
end Go.Proofs.YtfaplefkakpgcaaGreatDoor
/- state.Check of a machine that may be: all points. -/
namespace Go.Proofs.YtfaplefkakpgcaaGreatDoor
set_option linter.unusedVariables false
set_option linter.unusedSimpArgs false
open Go.RowKit
set_option maxHeartbeats 4000000 in
set_option maxRecDepth 100000 in
theorem scheck_ok (m : Mac) (d : MacD) (w : World) (hi : MacIn w m d) (h : StateOk m d) :
    Calls Tryz.prog 17 #[.agg m.cells] w fun e w' => e = .returned (.int .i64 0) ∧ Ext w w' := by
  have H1 := Lib.hid (fun w => numbers_ok m w h.rest.nums)
  have H2 := Lib.hid (fun w hi => frames_ok m d w hi h.rest.frn h.rest.fr)
  have H3 := Lib.hid (fun w hi => procs_ok m d w hi h.rest.prn (Nat.le_trans h.rest.pin (by decide)) h.rest.pr h.rest.frn.2)
  have H4 := Lib.hid (fun w hi => pipes_ok m d w hi h.rest.pin h.rest.pi)
  have H5 := Lib.hid (fun w => texts_ok m w h.rest.texts)
  have H6 := Lib.hid (fun w hi => volume_ok m d w hi h.disk)
  have x0 := (Ext.refl w).alloc (.cells m.cells 38)
  have bm := Box.new w 38 m.cells
  have HM := Lib.hid (hi.ext x0)
  clear h hi
  go_enter Tryz.func17, Tryz.ntmps17
  go_upto_region 1 with fail
  generalize w.alloc (.cells m.cells 38) = w1 at *
  generalize w.heap.size = G at *
  go_upto_region 2 with fail
  have xm : Ext w1 (w1.alloc (.cells #[.func (.func 44) #[] #[], .func (.func 45) #[] #[], .func (.func 46) #[] #[], .func (.func 47) #[] #[], .func (.func 48) #[] #[], .func (.func 49) #[] #[]] 44)) := (Ext.refl _).alloc _
  have bf := Box.new w1 44 #[.func (.func 44) #[] #[], .func (.func 45) #[] #[], .func (.func 46) #[] #[], .func (.func 47) #[] #[], .func (.func 48) #[] #[], .func (.func 49) #[] #[]]
  have bm2 := bm.ext xm
  have HM2 := Lib.hid (HM.out.ext xm)
  have xx := x0.trans xm
  generalize hw2 : w1.alloc _ = w2 at *
  generalize w1.heap.size = G1 at *
  clear hw2 bm HM x0 xm
  go_loopw [8] (fun i wx => ∃ k : Nat, k ≤ 6 ∧ i = .int .i64 k ∧ Ext w2 wx) (fun i _ => 6 - (intOf i).toNat)
  case atStart => exact ⟨0, by omega, rfl, Ext.refl _⟩
  case round =>
    obtain ⟨k, hk, rfl, xk⟩ := hrel
    have bmk := bm2.ext xk
    have bfk := bf.ext xk
    have HMk := Lib.hid (HM2.out.ext xk)
    by_cases hlt : k < 6
    · have hki : (k : Int) < 6 := by omega
      have HX := Lib.hid xk
      clear xk bm2 bf HM2
      rcases (by omega : k = 0 ∨ k = 1 ∨ k = 2 ∨ k = 3 ∨ k = 4 ∨ k = 5) with h0 | h0 | h0 | h0 | h0 | h0
      · have hf : wr.cell? ⟨G1, k, none⟩ = some (.func (.func 44) #[] #[]) := by rw [h0]; exact bfk.cell 0
        clear h0 bfk
        go_wp2_with (first
          | (refine wp_ld_mac (.tmp 1) rfl rfl G _ _ rfl bmk rfl ?_)
          | (go_at_call 44; refine (H1.out _).mono ?_; rintro e w3 ⟨rfl, x3⟩))
        go_roundw
        case rel => exact ⟨k + 1, by omega, by go_num, HX.out.trans x3⟩
        case measure => simp [intOf]; omega
      · have hf : wr.cell? ⟨G1, k, none⟩ = some (.func (.func 45) #[] #[]) := by rw [h0]; exact bfk.cell 1
        clear h0 bfk
        go_wp2_with (first
          | (refine wp_ld_mac (.tmp 1) rfl rfl G _ _ rfl bmk rfl ?_)
          | (go_at_call 45; refine (H2.out _ HMk.out).mono ?_; rintro e w3 ⟨rfl, x3⟩))
        go_roundw
        case rel => exact ⟨k + 1, by omega, by go_num, HX.out.trans x3⟩
        case measure => simp [intOf]; omega
      · have hf : wr.cell? ⟨G1, k, none⟩ = some (.func (.func 46) #[] #[]) := by rw [h0]; exact bfk.cell 2
        clear h0 bfk
        go_wp2_with (first
          | (refine wp_ld_mac (.tmp 1) rfl rfl G _ _ rfl bmk rfl ?_)
          | (go_at_call 46; refine (H3.out _ HMk.out).mono ?_; rintro e w3 ⟨rfl, x3⟩))
        go_roundw
        case rel => exact ⟨k + 1, by omega, by go_num, HX.out.trans x3⟩
        case measure => simp [intOf]; omega
      · have hf : wr.cell? ⟨G1, k, none⟩ = some (.func (.func 47) #[] #[]) := by rw [h0]; exact bfk.cell 3
        clear h0 bfk
        go_wp2_with (first
          | (refine wp_ld_mac (.tmp 1) rfl rfl G _ _ rfl bmk rfl ?_)
          | (go_at_call 47; refine (H4.out _ HMk.out).mono ?_; rintro e w3 ⟨rfl, x3⟩))
        go_roundw
        case rel => exact ⟨k + 1, by omega, by go_num, HX.out.trans x3⟩
        case measure => simp [intOf]; omega
      · have hf : wr.cell? ⟨G1, k, none⟩ = some (.func (.func 48) #[] #[]) := by rw [h0]; exact bfk.cell 4
        clear h0 bfk
        go_wp2_with (first
          | (refine wp_ld_mac (.tmp 1) rfl rfl G _ _ rfl bmk rfl ?_)
          | (go_at_call 48; refine (H5.out _).mono ?_; rintro e w3 ⟨rfl, x3⟩))
        go_roundw
        case rel => exact ⟨k + 1, by omega, by go_num, HX.out.trans x3⟩
        case measure => simp [intOf]; omega
      · have hf : wr.cell? ⟨G1, k, none⟩ = some (.func (.func 49) #[] #[]) := by rw [h0]; exact bfk.cell 5
        clear h0 bfk
        go_wp2_with (first
          | (refine wp_ld_mac (.tmp 1) rfl rfl G _ _ rfl bmk rfl ?_)
          | (go_at_call 49; refine (H6.out _ HMk.out).mono ?_; rintro e w3 ⟨rfl, x3⟩))
        go_roundw
        case rel => exact ⟨k + 1, by omega, by go_num, HX.out.trans x3⟩
        case measure => simp [intOf]; omega
    · have hlt2 : ¬ (k : Int) < 6 := by omega
      go_wp2_with fail
      go_ret
      exact ⟨rfl, xx.trans xk⟩
end Go.Proofs.YtfaplefkakpgcaaGreatDoor
/- The document's machines: Check. -/
namespace Go.Proofs.YtfaplefkakpgcaaGreatDoor
set_option linter.unusedVariables false
set_option linter.unusedSimpArgs false
open Go.RowKit
section
variable {P : Program} {C : World → Prop} {o : Oper} {a : Act} {K : Act → Prop}
theorem quiet_load_mid (ty : TypeId) (x : Operand) (h : o.op = .load ty x) (b i : Nat) (hx : a.eval x = .pointer (some ⟨b, i, none⟩)) (cs : List Value) (d : TypeDesc) (hc : ∀ w, C w → w.rangeAt b i cs)
    (hu : P.underlying ty = some d) (hd : d.isRow = true) (hi : (P.info? ty).map (·.size) = some cs.length) (hk : K (a.put o.dst (.agg cs.toArray))) : o.quiet P a C K :=
  ⟨_, fun w hw => by
    unfold Oper.quietAt execOp
    simp only [h, hx, Instr.loadAt, Instr.sureAddr, Sem.run_bind, Sem.run_pure, Result.andThen_ok, run_loadVar_mid w b i ty cs d (hc w hw) hu hd hi]
    exact ⟨rfl, rfl⟩, hk⟩
end
theorem pr_range0 {w : World} {g : Nat} {t : TypeId} {p : PrT} (h : Box w g t (prL p).toArray) : w.rangeAt g 0 (prL p) := fun j v hj => by
  rw [Nat.zero_add]; exact (h.cell j).trans (by rw [← hj]; simp)
end Go.Proofs.YtfaplefkakpgcaaGreatDoor
/- A machine that comes in, with its numbers as they are of their kinds. -/
namespace Go.Proofs.YtfaplefkakpgcaaGreatDoor
set_option linter.unusedVariables false
set_option linter.unusedSimpArgs false
open Go.ChangeShapes Go.WideShapes Go.ChangeAt Go.RowKit
theorem wf_u32 {m : Int} (h : (Lit.int .u32 m).wf = true) : 0 ≤ m ∧ m < 4294967296 := by
  unfold Lit.wf at h
  simp only [Bool.and_eq_true, decide_eq_true_eq, show IntKind.u32.min = 0 from rfl, show IntKind.u32.max = 4294967295 from rfl] at h
  omega
theorem wf_u64 {m : Int} (h : (Lit.int .u64 m).wf = true) : 0 ≤ m ∧ m < 18446744073709551616 := by
  unfold Lit.wf at h
  simp only [Bool.and_eq_true, decide_eq_true_eq, show IntKind.u64.min = 0 from rfl, show IntKind.u64.max = 18446744073709551615 from rfl] at h
  omega
theorem wf_i64 {m : Int} (h : (Lit.int .i64 m).wf = true) : N64 m := by
  unfold Lit.wf at h
  simp only [Bool.and_eq_true, decide_eq_true_eq, show IntKind.i64.min = -9223372036854775808 from rfl, show IntKind.i64.max = 9223372036854775807 from rfl] at h
  exact ⟨by omega, by omega⟩
def PrWf (y : PrT) : Prop := (∀ i < 16, 0 ≤ y.reg i ∧ y.reg i < 4294967296) ∧ (0 ≤ y.pc ∧ y.pc < 4294967296) ∧ (0 ≤ y.code ∧ y.code < 4294967296) ∧ (0 ≤ y.num ∧ y.num < 18446744073709551616)
section
variable {H : Type} {enc : TypeId × Value → H} {w : World} {base : Nat} {spare : Nat → Bool} {held : Bool}
theorem pr_leafs : (List.range 17).all (fun i => (leavesAt Tryz.prog 6 57).contains (3 + i, 45)) = true := by kernel_rfl
theorem prL_reg (a : PrT) {i : Nat} (hi : i < 16) : (prL a)[3 + i]? = some (.int .u32 (a.reg i)) := by
  have e : (prL a).drop 3 = (List.range 16).map (fun i => .int .u32 (a.reg i)) ++ ([.int .u32 a.pc] ++ (List.range 16).flatMap (pteL a) ++ (List.range 8).flatMap (fdL a) ++ [.bool a.mask, .int .u32 a.code, .int .i64 a.why, .int .u64 a.num]) := rfl
  rw [← List.getElem?_drop, e, List.getElem?_append_left (by simp; exact hi)]
  simp [hi]
theorem pr_inF {m : Nat} {cs : List Value} {y : DataW H × List MemPlace} (hl : cs.length = 96) (h : DataW.trod enc Tryz.prog w base spare held m 57 cs = some y) : ∃ a : { a : PrT // PrWf a }, cs = prL a.1 := by
  obtain ⟨a, rfl⟩ := pr_in hl h
  refine ⟨⟨a, fun i hi => ?_, ?_, ?_, ?_⟩, rfl⟩
  · obtain ⟨n, e, k⟩ := leaf_int (n := 6) (o := 3 + i) Tryz.underlying45 (List.all_eq_true.1 pr_leafs i (List.mem_range.2 (by omega))) h (by omega)
    rw [prL_reg a hi] at e
    injection e with e
    injection e with _ e
    rw [e]; exact wf_u32 k
  · obtain ⟨n, e, k⟩ := leaf_int (n := 6) (o := 19) Tryz.underlying45 (by kernel_rfl) h (by omega)
    have e2 : n = a.pc := by
      have e3 : some (Value.int .u32 a.pc) = some (.int .u32 n) := e
      injection e3 with e3
      injection e3 with _ e3
      exact e3.symm
    rw [← e2]; exact wf_u32 k
  · obtain ⟨n, e, k⟩ := leaf_int (n := 6) (o := 93) Tryz.underlying45 (by kernel_rfl) h (by omega)
    have e2 : n = a.code := by
      have e3 : some (Value.int .u32 a.code) = some (.int .u32 n) := e
      injection e3 with e3
      injection e3 with _ e3
      exact e3.symm
    rw [← e2]; exact wf_u32 k
  · obtain ⟨n, e, k⟩ := leaf_int (n := 6) (o := 95) Tryz.underlying31 (by kernel_rfl) h (by omega)
    have e2 : n = a.num := by
      have e3 : some (Value.int .u64 a.num) = some (.int .u64 n) := e
      injection e3 with e3
      injection e3 with _ e3
      exact e3.symm
    rw [← e2]; exact wf_u64 k
instance prWfInh : Inhabited { a : PrT // PrWf a } := ⟨⟨default, fun _ _ => ⟨Int.le_refl _, (by decide : (0 : Int) < 4294967296)⟩, ⟨Int.le_refl _, (by decide : (0 : Int) < 4294967296)⟩, ⟨Int.le_refl _, (by decide : (0 : Int) < 4294967296)⟩, ⟨Int.le_refl _, (by decide : (0 : Int) < 18446744073709551616)⟩⟩⟩
theorem prs_inF {fuel : Nat} {v : Value} {x : DataW H × List MemPlace} (h : DataW.trod enc Tryz.prog w base spare held fuel 32 [v] = some x) :
    ∃ (s : Sl) (l : List PrT), v = .slice s.A s.n s.c ∧ s.ok ∧ RowOf prL w s.A s.n l ∧ ∀ y ∈ l, PrWf y := by
  obtain ⟨A, n, c, l, e, h0, h1, h2, _⟩ := row_in (fun a : { a : PrT // PrWf a } => prL a.1) Tryz.underlying32 prCells (by omega) (fun m cs y => pr_inF) h
  refine ⟨⟨A, n, c⟩, l.map (·.1), e, ⟨h0, h1⟩, ⟨h2.1.trans (by rw [List.length_map]), fun hn => ?_⟩, fun y hy => ?_⟩
  · obtain ⟨b, o, k1, k2⟩ := h2.2 hn
    refine ⟨b, o, k1, fun j v hj => k2 j v ?_⟩
    rw [← hj, List.flatMap_map]
  · obtain ⟨a, _, rfl⟩ := List.mem_map.1 hy
    exact a.2
set_option maxRecDepth 100000 in
theorem mac_inF {fuel : Nat} {cs : List Value} {x : DataW H × List MemPlace} (hl : cs.length = 17) (h : DataW.trod enc Tryz.prog w base spare held fuel 38 cs = some x) :
    ∃ (m : Mac) (d : MacD), cs = m.cells.toList ∧ MacIn w m d ∧ MacFit m d := by
  obtain ⟨c0, e0, k0⟩ := mac_int (o := 0) Tryz.underlying31 rfl h (by omega)
  obtain ⟨c1, e1, _⟩ := mac_int (o := 1) Tryz.underlying3 rfl h (by omega)
  obtain ⟨c2, e2, k2⟩ := mac_int (o := 2) Tryz.underlying3 rfl h (by omega)
  obtain ⟨c3, e3, _⟩ := mac_int (o := 3) Tryz.underlying3 rfl h (by omega)
  obtain ⟨_, v4, _, e4, h4⟩ := mac_slice (o := 4) Tryz.underlying22 rfl h (by omega)
  obtain ⟨_, v5, _, e5, h5⟩ := mac_slice (o := 5) Tryz.underlying32 rfl h (by omega)
  obtain ⟨c6, e6, _⟩ := mac_int (o := 6) Tryz.underlying3 rfl h (by omega)
  obtain ⟨c7, e7, k7⟩ := mac_string (o := 7) rfl h (by omega)
  obtain ⟨_, v8, _, e8, h8⟩ := mac_slice (o := 8) Tryz.underlying33 rfl h (by omega)
  obtain ⟨c9, e9, _⟩ := mac_int (o := 9) Tryz.underlying3 rfl h (by omega)
  obtain ⟨c10, e10, k10⟩ := mac_string (o := 10) rfl h (by omega)
  obtain ⟨c11, e11⟩ := mac_bool (o := 11) rfl h (by omega)
  obtain ⟨c12, e12, k12⟩ := mac_int (o := 12) Tryz.underlying31 rfl h (by omega)
  obtain ⟨_, v13, _, e13, h13⟩ := mac_slice (o := 13) Tryz.underlying22 rfl h (by omega)
  obtain ⟨_, v14, _, e14, h14⟩ := mac_slice (o := 14) Tryz.underlying34 rfl h (by omega)
  obtain ⟨c15, e15, k15⟩ := mac_int (o := 15) Tryz.underlying3 rfl h (by omega)
  obtain ⟨_, v16, _, e16, h16⟩ := mac_slice (o := 16) Tryz.underlying34 rfl h (by omega)
  obtain ⟨s4, l4, rfl, o4, r4⟩ := strs_in h4
  obtain ⟨s5, l5, rfl, o5, r5, f5⟩ := prs_inF h5
  obtain ⟨s8, l8, rfl, o8, r8⟩ := pis_in h8
  obtain ⟨s13, l13, rfl, o13, r13⟩ := strs_in h13
  obtain ⟨s14, l14, rfl, o14, r14⟩ := wrs_in h14
  obtain ⟨s16, l16, rfl, o16, r16⟩ := wrs_in h16
  refine ⟨⟨c0, c1, c2, c3, s4, s5, c6, c7, s8, c9, c10, c11, c12, s13, s14, c15, s16⟩, ⟨l4, l5, l8, l13, l14, l16⟩, ?_, ⟨r4, r5, r8, r13, r14, r16, o4, o5, o8, o13, o14, o16, k7, k10, k15⟩, ⟨wf_u64 k0, wf_u64 k12, wf_i64 k15, wf_i64 k2, f5⟩⟩
  rw [list17 hl]
  simp only [List.range, List.range.loop, List.map_cons, List.map_nil, getD_of e0, getD_of e1, getD_of e2, getD_of e3, getD_of e4, getD_of e5, getD_of e6, getD_of e7, getD_of e8, getD_of e9, getD_of e10, getD_of e11, getD_of e12, getD_of e13, getD_of e14, getD_of e15, getD_of e16]
  rfl
end
end Go.Proofs.YtfaplefkakpgcaaGreatDoor
/- An image that comes in. -/
namespace Go.Proofs.YtfaplefkakpgcaaGreatDoor
set_option linter.unusedVariables false
set_option linter.unusedSimpArgs false
open Go.RowKit Go.WideShapes Go.ChangeShapes
section
variable {H : Type} {enc : TypeId × Value → H} {w : World} {base : Nat} {spare : Nat → Bool} {held : Bool}
theorem img_slice {o fuel : Nat} {cs : List Value} {x : DataW H × List MemPlace} (h : (leavesAt Tryz.prog 6 24).contains (o, 22) = true) (ht : DataW.trod enc Tryz.prog w base spare held fuel 24 cs = some x) (hl : o < cs.length) :
    ∃ fuel' v x', cs[o]? = some v ∧ DataW.trod enc Tryz.prog w base spare held fuel' 22 [v] = some x' := by
  obtain ⟨f', cs', x', h1, h2⟩ := leaf_trod 6 (List.contains_iff_mem.1 h) ht (List.getElem?_eq_getElem hl)
  obtain ⟨v, rfl⟩ := one_slice Tryz.underlying22 h1
  exact ⟨f', v, x', (List.getElem?_eq_getElem hl).trans h2.symm, h1⟩
theorem img_in {fuel : Nat} {cs : List Value} {x : DataW H × List MemPlace} (hl : cs.length = 3) (h : DataW.trod enc Tryz.prog w base spare held fuel 24 cs = some x) :
    ∃ (fr bl : Sl) (FB BB : List (List UInt8)) (s : List UInt8), cs = [.slice fr.A fr.n fr.c, .slice bl.A bl.n bl.c, .string (str s)] ∧ fr.ok ∧ RowOf stL w fr.A fr.n FB ∧ bl.ok ∧ RowOf stL w bl.A bl.n BB ∧ s.length ≤ maxLen := by
  obtain ⟨_, v0, _, e0, h0⟩ := img_slice (o := 0) (by kernel_rfl) h (by omega)
  obtain ⟨_, v1, _, e1, h1⟩ := img_slice (o := 1) (by kernel_rfl) h (by omega)
  obtain ⟨s, e2, k2⟩ := leaf_string (n := 6) (o := 2) Tryz.underlying9 (by kernel_rfl) h (by omega)
  obtain ⟨s0, l0, rfl, o0, r0⟩ := strs_in h0
  obtain ⟨s1, l1, rfl, o1, r1⟩ := strs_in h1
  match cs, hl with
  | [a, b, c], _ =>
    have q0 : a = _ := Option.some.inj e0
    have q1 : b = _ := Option.some.inj e1
    have q2 : c = _ := Option.some.inj e2
    exact ⟨s0, s1, l0, l1, _, by rw [q0, q1, q2], o0, r0, o1, r1, k2⟩
end
end Go.Proofs.YtfaplefkakpgcaaGreatDoor
