/- state.Free: the frames that nobody has. -/
import Derived.Test.YtfaplefkakpgcaaGreatDoorWc27
import Derived.Test.YtfaplefkakpgcaaGreatDoorWc14
import Derived.Test.YtfaplefkakpgcaaGreatDoorWc17
import Derived.Test.YtfaplefkakpgcaaGreatDoorWc25
namespace Go.Proofs.YtfaplefkakpgcaaGreatDoor
set_option linter.unusedVariables false
set_option linter.unusedSimpArgs false
open Go.RowKit
theorem freeP_yes {l : List PrT} {j : Nat} (h : usersK l (j : Int) l.length = 0) : freeP (j + 1) l = freeP j l ++ [j] := by
 unfold freeP
 rw [List.range_succ, List.filter_append]
 simp [h]
theorem freeP_no {l : List PrT} {j : Nat} (h : usersK l (j : Int) l.length ≠ 0) : freeP (j + 1) l = freeP j l := by
 unfold freeP
 rw [List.range_succ, List.filter_append]
 simp [h]
theorem freeP_le (n : Nat) (l : List PrT) : (freeP n l).length ≤ n := Nat.le_trans (List.length_filter_le _ _) (Nat.le_of_eq List.length_range)
def freeN (n : Nat) (l : List PrT) : List Int := (freeP n l).map fun f : Nat => (f : Int)
theorem freeN_len (n : Nat) (l : List PrT) : (freeN n l).length = (freeP n l).length := by unfold freeN; rw [List.length_map]
theorem met_end {l : List PrT} {f : Int} : Met l l.length 0 f ↔ usersK l f l.length ≠ 0 := by
 unfold Met
 rw [cntFr]; omega
set_option maxHeartbeats 8000000 in
set_option maxRecDepth 100000 in
theorem free_any (m : Mac) (d : MacD) (w : World) (hi : MacIn w m d) (h : StateOk m d) :
  Calls Tryz.prog 34 #[.agg m.cells] w fun e w' => ∃ u, e = .returned u ∧ Ext w w' ∧ w'.ownsRow w.heap.size 3 1 u (freeP m.fr.n d.pr).length (numsL (freeN m.fr.n d.pr)) := by
 have x0 := (Ext.refl w).alloc (.cells m.cells 38)
 have bm := Box.new w 38 m.cells
 obtain ⟨hv1, hv2⟩ := hi.pr
 have HV2 := Lib.hid hv2
 have HV1 := Lib.hid hv1
 have hn := h.rest.prn
 have hfn := h.rest.frn.2
 have HPG := Lib.hid (show ∀ k (hk : k < d.pr.length) j, j < 16 → PageP m d (d.pr.getD k default) j from fun k hk j hj => by
  have e : d.pr.getD k default = d.pr[k] := by rw [List.getD_eq_getElem?_getD, List.getElem?_eq_getElem hk]; rfl
  rw [e]; exact (h.rest.pr k hk hk).1.page j hj)
 clear hv2 hv1 h hi
 have hmk := fun w => run_makeMap (P := Tryz.prog) 125 w
 go_enter Tryz.func34, Tryz.ntmps34
 go_upto_region 1 with fail
 generalize w.alloc (.cells m.cells 38) = w1 at *
 go_upto_region 2 with fail
 clear hmk
 have xm := x0.alloc (.map #[] 0)
 have bm2 := bm.ext ((Ext.refl w1).alloc (.map #[] 0))
 have hmap : (w1.alloc (.map #[] 0)).ownsMap Tryz.prog 3 (plainElem (H := Unit) Tryz.prog 4) w1.heap.size 0 (.map []) := World.ownsMap_made w1 Tryz.prog 3 _
 have hlm : w.heap.size < w1.heap.size := bm.lt
 generalize w1.alloc (.map #[] 0) = w2 at *
 generalize hBm : w1.heap.size = Bm at *
 generalize hG : w.heap.size = G at *
 have HGe := Lib.hid hG
 have k5 : w2.cell? ⟨G, 5, none⟩ = some (.slice m.pr.A m.pr.n m.pr.c) := bm2.cell 5
 clear bm
 go_upto_region 3 with fail
 clear k5
 have hln : m.pr.n = d.pr.length := HV1.out
 have hv3 := HV2.out
 clear HV2
 generalize hrA : m.pr.A = A at hv3 ⊢
 generalize hrn : m.pr.n = pn at hv3 ⊢
 obtain rfl : d.pr.length = pn := by omega
 have hn8 : d.pr.length ≤ 8 := by omega
 clear hrA hrn hln hn
 go_loopw [14] (fun i wx => ∃ k : Nat, k ≤ d.pr.length ∧ i = .int .i64 k ∧ (∃ D, wx.ownsMap Tryz.prog 3 (plainElem (H := Unit) Tryz.prog 4) Bm (16 * k) D ∧ MetD d.pr k 0 D) ∧ w2.grownBy wx (some Bm)) (fun i _ => d.pr.length - (intOf i).toNat)
 case atStart => exact ⟨0, by omega, rfl, ⟨.map [], hmap, MetD.zero _⟩, grown_refl _ _⟩
 case round =>
  obtain ⟨k, hk, rfl, ⟨D, hown, hmet⟩, hg⟩ := hrel
  have xk : Ext w wr := xm.grown hg (fun j e => by cases e; omega)
  have bmk := bm2.grown hg (by intro e; injection e with e; omega)
  have HG := Lib.hid hg
  have HMT := Lib.hid hmet
  clear hg hmet
  by_cases hlt : k < d.pr.length
  ·obtain ⟨b, o, rfl, hcell⟩ := hv3 (by omega)
   have r1 := range_ext (pr_ranged hcell hlt) xk
   have hki : (k : Int) < (d.pr.length : Int) := by omega
   have HMsk := Lib.hid (fun (j : Nat) (D : DataW Unit) (h : MetD d.pr k j D) hi => h.skip hi)
   have HMput := Lib.hid (fun (j f : Nat) (D : DataW Unit) (h : MetD d.pr k j D) hD hi hf hk => h.put (f := f) hD hi hf hk)
   have HMpr := Lib.hid (fun (D : DataW Unit) (h : MetD d.pr k 16 D) => h.proc)
   have HPg := Lib.hid (HPG.out k hlt)
   clear hcell
   generalize d.pr.getD k default = y at *
   go_upto_region 5 with (first
    | (refine wp_ld_pr (.tmp 16) rfl rfl b (o + k * 96) y rfl r1 ?_)
    | (refine wp_st_pr (.tmp 5) (.tmp 17) rfl rfl wr.heap.size y _ 57 rfl rfl (Box.new _ _ _) rfl ?_; intro w3 b3 g3))
   have x3 : Ext wr w3 := ((Ext.refl wr).alloc _).grown g3 (fun j e => by cases e; exact Nat.le_refl _)
   have xx3 := xk.trans x3
   have own3 := ownsMap_ext hown x3
   have HG3 := Lib.hid (grown_later HG.out x3)
   have hMk : Bm < wr.heap.size := hown.lt
   clear g3 r1 hown x3 bmk xk HG
   generalize wr.heap.size = P3 at *
   go_upto_region 6 with (refine wp_ld_space (.tmp 18) rfl rfl P3 57 y rfl b3 ?_)
   go_loopw [20] (fun i wx => ∃ j : Nat, j ≤ 16 ∧ i = .int .i64 j ∧ (∃ D, wx.ownsMap Tryz.prog 3 (plainElem (H := Unit) Tryz.prog 4) Bm (16 * k + j) D ∧ MetD d.pr k j D) ∧ w3.grownBy wx (some Bm)) (fun i _ => 16 - (intOf i).toNat)
   case atStart => exact ⟨0, by omega, rfl, ⟨D, own3, HMT.out⟩, grown_refl _ _⟩
   case round =>
    clear own3 HMT
    obtain ⟨j, hj, rfl, ⟨D2, own6, hmet2⟩, hg6⟩ := hrel
    have HMT2 := Lib.hid hmet2
    have HG6 := Lib.hid hg6
    clear hmet2 hg6
    by_cases hj2 : j < 16
    ·have hji : (j : Int) < 16 := by omega
     have HMp0 := Lib.hid (fun f => HMput.out j f D2 HMT2.out own6.isMap)
     have HSk := Lib.hid (HMsk.out j D2 HMT2.out)
     have hpg := HPg.out j hj2
     go_upto_region 8 with (refine wp_idx_pte (.tmp 19) (.tmp 20) rfl rfl y j rfl rfl hj2 ?_)
     unfold PageP at hpg
     generalize hia : y.pis j = ia at *
     generalize hiw : y.pwr j = iw at *
     generalize hif : y.pfr j = ifr at *
     have hcase : (ia = false) ∨ (ia = true ∧ 0 ≤ ifr ∧ ifr < (m.fr.n : Int)) := by
      rcases hpg with h | h
      ·exact .inl h.1
      ·exact .inr ⟨h.1, h.2.2.1, h.2.2.2.1⟩
     clear hpg hia hiw hif
     have xq : Ext wr (wr.alloc (.cells #[.bool ia, .bool iw, .int .i64 ifr] 50)) := (Ext.refl _).alloc _
     have bq := Box.new wr 50 #[.bool ia, .bool iw, .int .i64 ifr]
     have own7 := own6.alloc (.cells #[.bool ia, .bool iw, .int .i64 ifr] 50)
     generalize wr.alloc (.cells #[.bool ia, .bool iw, .int .i64 ifr] 50) = wq at *
     have q0 : wq.cell? ⟨wr.heap.size, 0, none⟩ = some (.bool ia) := bq.cell 0
     have q2 : wq.cell? ⟨wr.heap.size, 2, none⟩ = some (.int .i64 ifr) := bq.cell 2
     rcases hcase with rfl | ⟨rfl, hf0, hf1⟩
     ·go_wp2_with fail
      go_roundw
      case rel => exact ⟨j + 1, by omega, by go_num, ⟨D2, own7.mono (by omega), HSk.out rfl⟩, grown_later HG6.out xq⟩
      case measure => simp [intOf]; omega
     ·obtain ⟨f, rfl⟩ : ∃ f : Nat, ifr = (f : Int) := ⟨ifr.toNat, by omega⟩
      have hfb : f ≤ 100000 := by omega
      have HMp := Lib.hid (HMp0.out f rfl rfl (intKeyed.key (key_i64 f hfb)))
      clear hf0 hf1
      go_wp2_with (first
       | (at_mapUpdate; refine wpList_mapUpdate_own _ rfl _ _ _ 125 rfl 3 4 intKeyed Tryz.underlying125 (plainElem (H := Unit) Tryz.prog 4) Bm (16 * k + j) _ rfl own7 (by unfold maxLen; omega) _ _ (.int .i64 (f : Int)) rfl rfl (key_i64 f hfb) (.lit (.bool true)) [] (plainElem_bool Tryz.underlying4 true) ?_; intro w8 own8 hg8))
      go_roundw
      case rel => exact ⟨j + 1, by omega, by go_num, ⟨_, own8, HMp.out⟩, grown_then (grown_later HG6.out xq) hg8 (fun j e => .inr e)⟩
      case measure => simp [intOf]; omega
    ·obtain rfl : j = 16 := by omega
     have HG7 := Lib.hid (grown_then HG3.out HG6.out (fun j e => .inr e))
     go_wp2_with fail
     go_roundw
     case rel => exact ⟨k + 1, by omega, by go_num, ⟨D2, own6.mono (by omega), HMpr.out _ HMT2.out⟩, HG7.out⟩
     case measure => simp [intOf]; omega
  ·obtain rfl : k = d.pr.length := by omega
   clear hv3 hlt
   have k4 : wr.cell? ⟨G, 4, none⟩ = some (.slice m.fr.A m.fr.n m.fr.c) := bmk.cell 4
   go_upto_region 14 with fail
   clear k4 bm2 bmk xm hmap
   have HMe := Lib.hid (fun f : Nat => show (usersK d.pr (f : Int) d.pr.length ≠ 0 → D.atKey (.int .i64 (f : Int)) (.lit (.bool false)) = .lit (.bool true)) ∧ (usersK d.pr (f : Int) d.pr.length = 0 → D.atKey (.int .i64 (f : Int)) (.lit (.bool false)) = .lit (.bool false)) from
    ⟨fun h => (HMT.out f).1 (met_end.2 h), fun h => (HMT.out f).2 (fun h2 => met_end.1 h2 h)⟩)
   generalize hus : (fun f : Nat => usersK d.pr (f : Int) d.pr.length) = us at *
   have HFy := Lib.hid (fun j (h : us j = 0) => show freeN (j + 1) d.pr = freeN j d.pr ++ [(j : Int)] from by
    subst hus
    unfold freeN
    rw [freeP_yes h, List.map_append]; rfl)
   have HFn := Lib.hid (fun j (h : us j ≠ 0) => show freeN (j + 1) d.pr = freeN j d.pr from by
    subst hus
    unfold freeN
    rw [freeP_no h])
   have HMe2 := Lib.hid (fun f : Nat => show (us f ≠ 0 → D.atKey (.int .i64 (f : Int)) (.lit (.bool false)) = .lit (.bool true)) ∧ (us f = 0 → D.atKey (.int .i64 (f : Int)) (.lit (.bool false)) = .lit (.bool false)) from by
    subst hus; exact HMe.out f)
   have HFl := Lib.hid (fun j => show (freeN j d.pr).length ≤ j from by rw [freeN_len]; exact freeP_le j d.pr)
   have HF0 := Lib.hid (show freeN 0 d.pr = [] from rfl)
   have HFe := Lib.hid (freeN_len m.fr.n d.pr)
   clear HMe hus
   have hxg : G ≤ wr.heap.size := by have := xk.size; omega
   have HXk := Lib.hid xk
   clear xk
   generalize hfN : (fun j => freeN j d.pr) = fN at *
   have HFN := Lib.hid hfN
   generalize hwz : wr = wz at *
   generalize hfr : m.fr.n = fn at *
   have HFR := Lib.hid hfr
   clear hwz hfr
   go_loopw [8, 33] (fun u i wx => ∃ j : Nat, j ≤ fn ∧ i = .int .i64 j ∧ Ext wz wx ∧ wx.ownsRow wz.heap.size 3 1 u (freeN j d.pr).length (numsL (freeN j d.pr))) (fun _ i _ => fn - (intOf i).toNat)
   case atStart => exact ⟨0, by omega, rfl, Ext.refl _, World.ownsRow_nil _ _ _ _⟩
   case round =>
    obtain ⟨j, hj, rfl, xj, own⟩ := hrel
    have hxs := xj.size
    by_cases hlt : j < fn
    ·have hji : (j : Int) < (fn : Int) := by omega
     have hlen := HFl.out j
     have ownM := ownsMap_ext hown xj
     have HY := Lib.hid (HFy.out j)
     have HN := Lib.hid (HFn.out j)
     by_cases hz : us j = 0
     ·have hlk := look_bool Bm (16 * d.pr.length) j D false ownM (by omega) ((HMe2.out j).2 hz)
      have HYz := Lib.hid (HY.out hz)
      clear hz
      generalize freeN j d.pr = L at *
      have ownA := own_ext own ((Ext.refl wr).alloc (.cells #[.int .i64 (j : Int)] 3))
      have hsA : wz.heap.size ≤ (wr.alloc (.cells #[.int .i64 (j : Int)] 3)).heap.size := by have := ((Ext.refl wr).alloc (.cells #[.int .i64 (j : Int)] 3)).size; omega
      go_wp2_with (refine wp_app_int rfl _ _ rfl rfl rfl ownA (Box.new _ _ _) (by omega) hsA ?_; intro u' w4 own4 g4)
      go_roundw
      case rel => exact ⟨j + 1, by omega, by go_num, (xj.alloc _).grown g4 (fun q e => own_low own e), by rw [HYz.out, List.length_append]; exact own4⟩
      case measure => simp [intOf]; omega
     ·have hlk := look_bool Bm (16 * d.pr.length) j D true ownM (by omega) ((HMe2.out j).1 hz)
      have HNz := Lib.hid (HN.out hz)
      clear hz
      go_wp2_with fail
      go_roundw
      case rel => exact ⟨j + 1, by omega, by go_num, xj, by rw [HNz.out]; exact own⟩
      case measure => simp [intOf]; omega
    ·obtain rfl : j = fn := by omega
     go_wp2_with fail
     go_ret
     refine ⟨_, rfl, HXk.out.trans xj, ?_⟩
     have hle : w.heap.size ≤ wz.heap.size := by have := HGe.out; omega
     have := own_base own hle
     rw [HFR.out, ← freeN_len]
     exact this
end Go.Proofs.YtfaplefkakpgcaaGreatDoor
/- state.Check of a machine that may be: all points. -/
namespace Go.Proofs.YtfaplefkakpgcaaGreatDoor
set_option linter.unusedVariables false
set_option linter.unusedSimpArgs false
open Go.RowKit
set_option maxHeartbeats 4000000 in
set_option maxRecDepth 100000 in
theorem scheck_ok (m : Mac) (d : MacD) (w : World) (hi : MacIn w m d) (h : StateOk m d) :
  Calls Tryz.prog 17 #[.agg m.cells] w fun e w' => e = .returned (.int .i64 0) ∧ Ext w w' := by
 have H1 := Lib.hid (fun w => numbers_ok m w h.rest.nums)
 have H2 := Lib.hid (fun w hi => frames_ok m d w hi h.rest.frn h.rest.fr)
 have H3 := Lib.hid (fun w hi => procs_ok m d w hi h.rest.prn (Nat.le_trans h.rest.pin (by decide)) h.rest.pr h.rest.frn.2)
 have H4 := Lib.hid (fun w hi => pipes_ok m d w hi h.rest.pin h.rest.pi)
 have H5 := Lib.hid (fun w => texts_ok m w h.rest.texts)
 have H6 := Lib.hid (fun w hi => volume_ok m d w hi h.disk)
 have x0 := (Ext.refl w).alloc (.cells m.cells 38)
 have bm := Box.new w 38 m.cells
 have HM := Lib.hid (hi.ext x0)
 clear h hi
 go_enter Tryz.func17, Tryz.ntmps17
 go_upto_region 1 with fail
 generalize w.alloc (.cells m.cells 38) = w1 at *
 generalize w.heap.size = G at *
 go_upto_region 2 with fail
 have xm : Ext w1 (w1.alloc (.cells #[.func (.func 44) #[] #[], .func (.func 45) #[] #[], .func (.func 46) #[] #[], .func (.func 47) #[] #[], .func (.func 48) #[] #[], .func (.func 49) #[] #[]] 44)) := (Ext.refl _).alloc _
 have bf := Box.new w1 44 #[.func (.func 44) #[] #[], .func (.func 45) #[] #[], .func (.func 46) #[] #[], .func (.func 47) #[] #[], .func (.func 48) #[] #[], .func (.func 49) #[] #[]]
 have bm2 := bm.ext xm
 have HM2 := Lib.hid (HM.out.ext xm)
 have xx := x0.trans xm
 generalize hw2 : w1.alloc _ = w2 at *
 generalize w1.heap.size = G1 at *
 clear hw2 bm HM x0 xm
 go_loopw [8] (fun i wx => ∃ k : Nat, k ≤ 6 ∧ i = .int .i64 k ∧ Ext w2 wx) (fun i _ => 6 - (intOf i).toNat)
 case atStart => exact ⟨0, by omega, rfl, Ext.refl _⟩
 case round =>
  obtain ⟨k, hk, rfl, xk⟩ := hrel
  have bmk := bm2.ext xk
  have bfk := bf.ext xk
  have HMk := Lib.hid (HM2.out.ext xk)
  by_cases hlt : k < 6
  ·have hki : (k : Int) < 6 := by omega
   have HX := Lib.hid xk
   clear xk bm2 bf HM2
   rcases (by omega : k = 0 ∨ k = 1 ∨ k = 2 ∨ k = 3 ∨ k = 4 ∨ k = 5) with h0 | h0 | h0 | h0 | h0 | h0
   ·have hf : wr.cell? ⟨G1, k, none⟩ = some (.func (.func 44) #[] #[]) := by rw [h0]; exact bfk.cell 0
    clear h0 bfk
    go_wp2_with (first
     | (refine wp_ld_mac (.tmp 1) rfl rfl G _ _ rfl bmk rfl ?_)
     | (go_at_call 44; refine (H1.out _).mono ?_; rintro e w3 ⟨rfl, x3⟩))
    go_roundw
    case rel => exact ⟨k + 1, by omega, by go_num, HX.out.trans x3⟩
    case measure => simp [intOf]; omega
   ·have hf : wr.cell? ⟨G1, k, none⟩ = some (.func (.func 45) #[] #[]) := by rw [h0]; exact bfk.cell 1
    clear h0 bfk
    go_wp2_with (first
     | (refine wp_ld_mac (.tmp 1) rfl rfl G _ _ rfl bmk rfl ?_)
     | (go_at_call 45; refine (H2.out _ HMk.out).mono ?_; rintro e w3 ⟨rfl, x3⟩))
    go_roundw
    case rel => exact ⟨k + 1, by omega, by go_num, HX.out.trans x3⟩
    case measure => simp [intOf]; omega
   ·have hf : wr.cell? ⟨G1, k, none⟩ = some (.func (.func 46) #[] #[]) := by rw [h0]; exact bfk.cell 2
    clear h0 bfk
    go_wp2_with (first
     | (refine wp_ld_mac (.tmp 1) rfl rfl G _ _ rfl bmk rfl ?_)
     | (go_at_call 46; refine (H3.out _ HMk.out).mono ?_; rintro e w3 ⟨rfl, x3⟩))
    go_roundw
    case rel => exact ⟨k + 1, by omega, by go_num, HX.out.trans x3⟩
    case measure => simp [intOf]; omega
   ·have hf : wr.cell? ⟨G1, k, none⟩ = some (.func (.func 47) #[] #[]) := by rw [h0]; exact bfk.cell 3
    clear h0 bfk
    go_wp2_with (first
     | (refine wp_ld_mac (.tmp 1) rfl rfl G _ _ rfl bmk rfl ?_)
     | (go_at_call 47; refine (H4.out _ HMk.out).mono ?_; rintro e w3 ⟨rfl, x3⟩))
    go_roundw
    case rel => exact ⟨k + 1, by omega, by go_num, HX.out.trans x3⟩
    case measure => simp [intOf]; omega
   ·have hf : wr.cell? ⟨G1, k, none⟩ = some (.func (.func 48) #[] #[]) := by rw [h0]; exact bfk.cell 4
    clear h0 bfk
    go_wp2_with (first
     | (refine wp_ld_mac (.tmp 1) rfl rfl G _ _ rfl bmk rfl ?_)
     | (go_at_call 48; refine (H5.out _).mono ?_; rintro e w3 ⟨rfl, x3⟩))
    go_roundw
    case rel => exact ⟨k + 1, by omega, by go_num, HX.out.trans x3⟩
    case measure => simp [intOf]; omega
   ·have hf : wr.cell? ⟨G1, k, none⟩ = some (.func (.func 49) #[] #[]) := by rw [h0]; exact bfk.cell 5
    clear h0 bfk
    go_wp2_with (first
     | (refine wp_ld_mac (.tmp 1) rfl rfl G _ _ rfl bmk rfl ?_)
     | (go_at_call 49; refine (H6.out _ HMk.out).mono ?_; rintro e w3 ⟨rfl, x3⟩))
    go_roundw
    case rel => exact ⟨k + 1, by omega, by go_num, HX.out.trans x3⟩
    case measure => simp [intOf]; omega
  ·have hlt2 : ¬ (k : Int) < 6 := by omega
   go_wp2_with fail
   go_ret
   exact ⟨rfl, xx.trans xk⟩
end Go.Proofs.YtfaplefkakpgcaaGreatDoor
/- The document's machines: Check. -/
namespace Go.Proofs.YtfaplefkakpgcaaGreatDoor
set_option linter.unusedVariables false
set_option linter.unusedSimpArgs false
open Go.RowKit
section
variable {P : Program} {C : World → Prop} {o : Oper} {a : Act} {K : Act → Prop}
theorem quiet_load_mid (ty : TypeId) (x : Operand) (h : o.op = .load ty x) (b i : Nat) (hx : a.eval x = .pointer (some ⟨b, i, none⟩)) (cs : List Value) (d : TypeDesc) (hc : ∀ w, C w → w.rangeAt b i cs)
  (hu : P.underlying ty = some d) (hd : d.isRow = true) (hi : (P.info? ty).map (·.size) = some cs.length) (hk : K (a.put o.dst (.agg cs.toArray))) : o.quiet P a C K :=
 ⟨_, fun w hw => by
  unfold Oper.quietAt execOp
  simp only [h, hx, Instr.loadAt, Instr.sureAddr, Sem.run_bind, Sem.run_pure, Result.andThen_ok, run_loadVar_mid w b i ty cs d (hc w hw) hu hd hi]
  exact ⟨rfl, rfl⟩, hk⟩
end
theorem mac_range {w : World} {g : Nat} {t : TypeId} {m : Mac} (h : Box w g t m.cells) : w.rangeAt g 0 m.cells.toList := fun j v hj => by
 rw [Nat.zero_add]; exact (h.cell j).trans (by rw [← hj]; simp)
theorem pr_range0 {w : World} {g : Nat} {t : TypeId} {p : PrT} (h : Box w g t (prL p).toArray) : w.rangeAt g 0 (prL p) := fun j v hj => by
 rw [Nat.zero_add]; exact (h.cell j).trans (by rw [← hj]; simp)
section
variable {C : World → Prop} {o : Oper} {a : Act} {K : Act → Prop}
theorem quiet_ld_mac (x : Operand) (h : o.op = .load 38 x) (b : Nat) (hx : a.eval x = .pointer (some ⟨b, 0, none⟩)) (m : Mac) (hc : ∀ w, C w → w.rangeAt b 0 m.cells.toList) (hk : K (a.put o.dst (.agg m.cells))) : o.quiet Tryz.prog a C K :=
 quiet_load_mid _ x h b 0 hx _ _ hc Tryz.underlying38 rfl macSize hk
theorem quiet_ld_pr (x : Operand) (h : o.op = .load 57 x) (b : Nat) (hx : a.eval x = .pointer (some ⟨b, 0, none⟩)) (p : PrT) (hc : ∀ w, C w → w.rangeAt b 0 (prL p)) (hk : K (a.put o.dst (.agg (prL p).toArray))) : o.quiet Tryz.prog a C K :=
 quiet_load_mid _ x h b 0 hx _ _ hc Tryz.underlying57 rfl (by rw [prL_len]; exact prSize) hk
end
end Go.Proofs.YtfaplefkakpgcaaGreatDoor
/- The document's machines, point by point: lives, users, Pipe, fd tell what they say. -/
namespace Go.Proofs.YtfaplefkakpgcaaGreatDoor
set_option linter.unusedVariables false
set_option linter.unusedSimpArgs false
open Go.RowKit
def LivesR (l : List PrT) (pid : Int) (e : Ending) : Prop := ∃ b, e = .returned (.bool b) ∧ (b = true ↔ LivesP l pid)
def PipeR (l : List WrT) (id : Int) (e : Ending) : Prop := ∃ (y : WrT) (b : Bool), e = .returned (.tuple #[.agg #[.int .i64 y.1, .string (str y.2)], .bool b]) ∧ (b = true ↔ ∃ z ∈ l, z.1 = id)
def FdR (l : List WrT) (k n p : Int) (e : Ending) : Prop := ∃ b, e = .returned (.bool b) ∧ (b = true ↔ FdP l k n p)
def NoneK {α : Type} (f : α → Prop) (l : List α) (k : Nat) : Prop := ∀ (i : Nat) (h : i < l.length), i < k → ¬ f l[i]
theorem NoneK.zero {α : Type} {f : α → Prop} {l : List α} : NoneK f l 0 := fun _ _ h => absurd h (Nat.not_lt_zero _)
theorem NoneK.next {α : Type} {f : α → Prop} {l : List α} {k : Nat} (h : NoneK f l k) (hk : k < l.length) (hn : ¬ f l[k]) : NoneK f l (k + 1) := fun i hi hik => by
 by_cases e : i < k
 ·exact h i hi e
 ·obtain rfl : i = k := by omega
  exact hn
theorem NoneK.all {α : Type} {f : α → Prop} {l : List α} (h : NoneK f l l.length) : ¬ ∃ y ∈ l, f y := fun ⟨y, hy, hf⟩ => by
 obtain ⟨i, hi, rfl⟩ := List.getElem_of_mem hy
 exact h i hi hi hf
theorem no_iff {p : Prop} (h : ¬ p) : (false = true ↔ p) := ⟨fun e => (by cases e), fun e => absurd e h⟩
theorem yes_iff {p : Prop} (h : p) : (true = true ↔ p) := ⟨fun _ => h, fun _ => rfl⟩
set_option maxHeartbeats 2000000 in
set_option maxRecDepth 100000 in
theorem lives_ok (m : Mac) (l : List PrT) (pid : Int) (w : World) (h : RowOf prL w m.pr.A m.pr.n l) (hpk : m.pr.n ≤ 4000) :
  Calls Tryz.prog 96 #[.agg m.cells, .int .i64 pid] w fun e w' => LivesR l pid e ∧ Ext w w' := by
 obtain ⟨hp1, hp2⟩ := h
 have xa : Ext w (w.alloc (.cells m.cells 38)) := (Ext.refl _).alloc _
 have ba := Box.new w 38 m.cells
 have q5 : (w.alloc (.cells m.cells 38)).cell? ⟨w.heap.size, 5, none⟩ = some (.slice m.pr.A m.pr.n m.pr.c) := ba.cell 5
 go_enter Tryz.func96, Tryz.ntmps96
 go_wp2_with fail
 clear q5 ba
 generalize w.alloc (.cells m.cells 38) = w1 at *
 try rw [hp1]
 rw [hp1] at hpk
 have HP1 := Lib.hid hp1
 clear hp1
 generalize m.pr.A = A at *
 go_loopw [6, 10] (fun _ i wx => ∃ k : Nat, k ≤ l.length ∧ i = .int .i64 k ∧ Ext w wx ∧ NoneK (fun y : PrT => y.pid = pid ∧ (y.state = 1 ∨ y.state = 2)) l k) (fun _ i _ => l.length - (intOf i).toNat)
 case atStart => exact ⟨0, by omega, rfl, xa, NoneK.zero⟩
 case round =>
  obtain ⟨k, hk, rfl, xk, hnk⟩ := hrel
  have HNK := Lib.hid hnk
  clear hnk
  by_cases hlt : k < l.length
  ·obtain ⟨b, o, rfl, hcell⟩ := hp2 (by rw [HP1.out]; omega)
   have r1 := range_ext (pr_range hcell hlt) xk
   clear hcell
   have hki : (k : Int) < (l.length : Int) := by omega
   have HL := Lib.hid (show l[k].pid = pid → (l[k].state = 1 ∨ l[k].state = 2) → LivesP l pid from fun h1 h2 => ⟨l[k], List.getElem_mem hlt, h1, h2⟩)
   have HNX := Lib.hid (fun h => HNK.out.next hlt h)
   clear HNK
   generalize l[k] = y at *
   go_upto_region 4 with (first
    | (refine wp_ld_pr (.tmp 12) rfl rfl b (o + k * 96) y rfl r1 ?_)
    | (refine wp_st_pr (.tmp 6) (.tmp 13) rfl rfl wr.heap.size y _ 57 rfl rfl (Box.new _ _ _) rfl ?_; intro w2 b2 g2))
   have x2 : Ext w w2 := (xk.alloc _).grown g2 (fun j e => by cases e; exact xk.size)
   have c0 : w2.cell? ⟨wr.heap.size, 0, none⟩ = some (.int .i64 y.pid) := b2.cell 0
   have c2 : w2.cell? ⟨wr.heap.size, 2, none⟩ = some (.int .i64 y.state) := b2.cell 2
   clear g2 r1 b2
   rcases Bool.eq_false_or_eq_true (y.pid == pid) with d1 | d1
   ·rcases Bool.eq_false_or_eq_true (y.state == 1) with d2 | d2
    ·have HD := Lib.hid (HL.out (by simpa using d1) (.inl (by simpa using d2)))
     go_wp2_with fail
     go_ret
     exact ⟨⟨true, rfl, yes_iff HD.out⟩, x2⟩
    ·rcases Bool.eq_false_or_eq_true (y.state == 2) with d3 | d3
     ·have HD := Lib.hid (HL.out (by simpa using d1) (.inr (by simpa using d3)))
      go_wp2_with fail
      go_ret
      exact ⟨⟨true, rfl, yes_iff HD.out⟩, x2⟩
     ·have HNN := Lib.hid (HNX.out (fun h => by
       rcases h.2 with e | e
       ·rw [e] at d2; simp at d2
       ·rw [e] at d3; simp at d3))
      go_wp2_with fail
      go_roundw
      case rel => exact ⟨k + 1, by omega, by go_num, x2, HNN.out⟩
      case measure => simp [intOf]; omega
   ·have HNN := Lib.hid (HNX.out (fun h => by rw [h.1] at d1; simp at d1))
    go_wp2_with fail
    go_roundw
    case rel => exact ⟨k + 1, by omega, by go_num, x2, HNN.out⟩
    case measure => simp [intOf]; omega
  ·obtain rfl : k = l.length := by omega
   go_wp2_with fail
   go_ret
   exact ⟨⟨false, rfl, no_iff (fun h => HNK.out.all h)⟩, xk⟩
set_option maxHeartbeats 2000000 in
set_option maxRecDepth 100000 in
theorem users_ok (m : Mac) (l : List PrT) (fr : Int) (w : World) (h : RowOf prL w m.pr.A m.pr.n l) (hn : m.pr.n ≤ 4000) :
  Calls Tryz.prog 81 #[.agg m.cells, .int .i64 fr] w fun e w' => e = .returned (.int .i64 (usersK l fr l.length)) ∧ Ext w w' := by
 obtain ⟨hp1, hp2⟩ := h
 have xa : Ext w (w.alloc (.cells m.cells 38)) := (Ext.refl _).alloc _
 have ba := Box.new w 38 m.cells
 have q5 : (w.alloc (.cells m.cells 38)).cell? ⟨w.heap.size, 5, none⟩ = some (.slice m.pr.A m.pr.n m.pr.c) := ba.cell 5
 go_enter Tryz.func81, Tryz.ntmps81
 go_wp2_with fail
 clear q5 ba
 generalize w.alloc (.cells m.cells 38) = w1 at *
 try rw [hp1]
 rw [hp1] at hn
 have HP1 := Lib.hid hp1
 clear hp1
 generalize m.pr.A = A at *
 go_loopw [5, 13] (fun t i wx => ∃ (k : Nat), k ≤ l.length ∧ i = .int .i64 k ∧ t = .int .i64 (usersK l fr k) ∧ usersK l fr k ≤ 16 * k ∧ Ext w wx) (fun _ i _ => l.length - (intOf i).toNat)
 case atStart => exact ⟨0, by omega, rfl, rfl, by simp [usersK], xa⟩
 case round =>
  obtain ⟨k, hk, rfl, rfl, hz, xk⟩ := hrel
  by_cases hlt : k < l.length
  ·obtain ⟨b, o, rfl, hcell⟩ := hp2 (by rw [HP1.out]; omega)
   have r1 := range_ext (pr_range hcell hlt) xk
   clear hcell
   have hki : (k : Int) < (l.length : Int) := by omega
   have HU := Lib.hid (show usersK l fr (k + 1) = usersK l fr k + cntFr l[k] fr 16 by
    rw [usersK, List.getD_eq_getElem?_getD, List.getElem?_eq_getElem hlt]; rfl)
   generalize l[k] = y at *
   generalize usersK l fr k = z at *
   go_wp2_with (first
    | (refine wp_ld_pr (.tmp 15) rfl rfl b (o + k * 96) y rfl r1 ?_)
    | (refine wp_st_pr (.tmp 7) (.tmp 16) rfl rfl wr.heap.size y _ 57 rfl rfl (Box.new _ _ _) rfl ?_; intro w2 b2 g2; have x2 : Ext w w2 := (xk.alloc _).grown g2 (fun j e => by cases e; exact xk.size))
    | (refine wp_ld_space (.tmp 17) rfl rfl wr.heap.size 57 y rfl b2 ?_))
   go_loopw [5, 19] (fun t i wx => ∃ (j : Nat), j ≤ 16 ∧ i = .int .i64 j ∧ t = .int .i64 ((z + cntFr y fr j : Nat) : Int) ∧ cntFr y fr j ≤ j ∧ Ext w wx) (fun _ i _ => 16 - (intOf i).toNat)
   case atStart => exact ⟨0, by omega, rfl, rfl, by simp [cntFr], x2⟩
   case round =>
    clear r1 b2 g2 xk x2
    obtain ⟨j, hj, rfl, rfl, hz2, xj⟩ := hrel
    by_cases hj2 : j < 16
    ·have hji : (j : Int) < 16 := by omega
     have HC := Lib.hid (show cntFr y fr (j + 1) = cntFr y fr j + (if y.pis j = true ∧ y.pfr j = fr then 1 else 0) from rfl)
     generalize cntFr y fr j = c at *
     cases e1 : y.pis j with
     | false =>
      have HC2 := Lib.hid (HC.out.trans (by rw [e1, if_neg (fun h => by cases h.1)]))
      go_wp2_with (first
       | (refine wp_idx_pte (.tmp 18) (.tmp 19) rfl rfl y j rfl rfl hj2 ?_; rw [e1]))
      go_roundw
      case rel => exact ⟨j + 1, by omega, by go_num, by rw [HC2.out]; rfl, by rw [HC2.out]; omega, xj.alloc _⟩
      case measure => simp [intOf]; omega
     | true =>
      rcases Bool.eq_false_or_eq_true (y.pfr j == fr) with e2 | e2
      ·have HC2 := Lib.hid (HC.out.trans (by rw [if_pos ⟨e1, by simpa using e2⟩]))
       go_wp2_with (first
        | (refine wp_idx_pte (.tmp 18) (.tmp 19) rfl rfl y j rfl rfl hj2 ?_; rw [e1]))
       go_roundw
       case rel => exact ⟨j + 1, by omega, by go_num, by rw [HC2.out]; go_num, by rw [HC2.out]; omega, xj.alloc _⟩
       case measure => simp [intOf]; omega
      ·have HC2 := Lib.hid (HC.out.trans (by rw [if_neg (fun h => by simp [h.2] at e2)]))
       go_wp2_with (first
        | (refine wp_idx_pte (.tmp 18) (.tmp 19) rfl rfl y j rfl rfl hj2 ?_; rw [e1]))
       go_roundw
       case rel => exact ⟨j + 1, by omega, by go_num, by rw [HC2.out]; rfl, by rw [HC2.out]; omega, xj.alloc _⟩
       case measure => simp [intOf]; omega
    ·have hjn : ¬ (j : Int) < 16 := by omega
     have HJ := Lib.hid (show j = 16 by omega)
     go_wp2_with fail
     go_roundw
     case rel => exact ⟨k + 1, by omega, by go_num, by rw [HU.out, ← HJ.out], by rw [HU.out]; have h1 := hz2; rw [HJ.out] at h1; omega, xj⟩
     case measure => simp [intOf]; omega
  ·obtain rfl : k = l.length := by omega
   go_wp2_with fail
   go_ret
   exact ⟨by rfl, xk⟩
set_option maxHeartbeats 2000000 in
set_option maxRecDepth 100000 in
theorem rpipe_ok (m : Mac) (l : List WrT) (id : Int) (w : World) (h : Wrs w m.pi.A m.pi.n l) (hpk : m.pi.n ≤ 4000) :
  Calls Tryz.prog 167 #[.agg m.cells, .int .i64 id] w fun e w' => PipeR l id e ∧ Ext w w' := by
 obtain ⟨hp1, hp2⟩ := h
 have xa : Ext w (w.alloc (.cells m.cells 38)) := (Ext.refl _).alloc _
 have ba := (Box.new w 38 m.cells).ext ((Ext.refl _).alloc (.cells #[.int .i64 0, .string ⟨#[]⟩] 95))
 have q8 : ((w.alloc (.cells m.cells 38)).alloc (.cells #[.int .i64 0, .string ⟨#[]⟩] 95)).cell? ⟨w.heap.size, 8, none⟩ = some (.slice m.pi.A m.pi.n m.pi.c) := ba.cell 8
 have b4 : Box ((w.alloc (.cells m.cells 38)).alloc (.cells #[.int .i64 0, .string ⟨#[]⟩] 95)) (w.heap.size + 1) 95 #[.int .i64 0, .string ⟨#[]⟩] := by
  have := Box.new (w.alloc (.cells m.cells 38)) 95 #[.int .i64 0, .string ⟨#[]⟩]
  rw [World.size_alloc] at this; exact this
 have xa2 := xa.alloc (.cells #[.int .i64 0, .string ⟨#[]⟩] 95)
 go_enter Tryz.func167, Tryz.ntmps167
 go_wp2_with fail
 clear q8 ba xa
 generalize ((w.alloc (.cells m.cells 38)).alloc (.cells #[.int .i64 0, .string ⟨#[]⟩] 95)) = w1 at *
 try rw [hp1]
 rw [hp1] at hpk
 have HP1 := Lib.hid hp1
 clear hp1
 generalize m.pi.A = A at *
 go_loopw [7, 11] (fun _ i wx => ∃ (k : Nat), k ≤ l.length ∧ i = .int .i64 k ∧ Ext w wx ∧ Box wx (w.heap.size + 1) 95 #[.int .i64 0, .string ⟨#[]⟩] ∧ NoneK (fun y : WrT => y.1 = id) l k) (fun _ i _ => l.length - (intOf i).toNat)
 case atStart => exact ⟨0, by omega, rfl, xa2, b4, NoneK.zero⟩
 case round =>
  obtain ⟨k, hk, rfl, xk, bk, hnk⟩ := hrel
  have HNK := Lib.hid hnk
  clear hnk
  by_cases hlt : k < l.length
  ·obtain ⟨b, o, rfl, hcell⟩ := hp2 (by rw [HP1.out]; omega)
   have e1 := xk.keep (hcell k hlt).1
   have e2 := xk.keep (hcell k hlt).2
   clear hcell
   have hki : (k : Int) < (l.length : Int) := by omega
   have HL := Lib.hid (show l[k].1 = id → ∃ z ∈ l, z.1 = id from fun h1 => ⟨l[k], List.getElem_mem hlt, h1⟩)
   have HNX := Lib.hid (fun h => HNK.out.next hlt h)
   clear HNK
   generalize l[k] = y at *
   have bk2 := bk.ext ((Ext.refl wr).alloc (.cells #[.int .i64 y.1, .string (str y.2)] 95))
   rcases Bool.eq_false_or_eq_true (y.1 == id) with d1 | d1
   ·have HD := Lib.hid (HL.out (by simpa using d1))
    go_wp2_with (first
     | (refine wp_st_pipe (.tmp 4) (.tmp 19) rfl rfl (w.heap.size + 1) y.1 (str y.2) _ 95 rfl rfl bk2 rfl ?_; intro w2 b2 g2; have x2 : Ext w w2 := (xk.alloc _).grown g2 (fun j e => by cases e; omega)))
    exact bodyPost_ret (v := .tuple #[.agg #[.int .i64 y.1, .string (str y.2)], .bool true]) (results_cell2 Tryz.results167 _ _ _ _ _ _ _ rfl rfl b2 Tryz.underlying95 rfl pipeSize) rfl ⟨⟨_, _, rfl, yes_iff HD.out⟩, x2⟩
   ·have HNN := Lib.hid (HNX.out (fun h => by rw [h] at d1; simp at d1))
    go_wp2_with fail
    go_roundw
    case rel => exact ⟨k + 1, by omega, by go_num, xk.alloc _, bk2, HNN.out⟩
    case measure => simp [intOf]; omega
  ·obtain rfl : k = l.length := by omega
   go_wp2_with (first
    | (refine wp_st_pipe (.tmp 4) (.tmp 21) rfl rfl (w.heap.size + 1) 0 ⟨#[]⟩ _ 95 rfl rfl bk rfl ?_; intro w2 b2 g2; have x2 : Ext w w2 := xk.grown g2 (fun j e => by cases e; omega)))
   exact bodyPost_ret (v := .tuple #[.agg #[.int .i64 0, .string ⟨#[]⟩], .bool false]) (results_cell2 Tryz.results167 _ _ _ _ _ _ _ rfl rfl b2 Tryz.underlying95 rfl pipeSize) rfl ⟨⟨(0, []), _, rfl, no_iff (fun h => HNK.out.all h)⟩, x2⟩
theorem fd_low {l : List WrT} {k n p : Int} (hk : k ≤ 2) (hn : n ≠ 0) (h : FdP l k n p) : False := by
 rcases h with ⟨_, h, _⟩ | ⟨h, _⟩ | ⟨h, _⟩ <;> omega
theorem fd_zero {l : List WrT} {k n p : Int} (hk : k = 0 ∨ k = 1 ∨ k = 2) (hn : n = 0) : ((p == 0) = true ↔ FdP l k n p) := by
 constructor
 ·intro h; exact .inl ⟨hk, hn, by simpa using h⟩
 ·intro h
  rcases h with ⟨_, _, h⟩ | ⟨h, _⟩ | ⟨h, _⟩
  ·simpa using h
  ·omega
  ·omega
theorem fd_three {l : List WrT} {n p : Int} (h : FdP l 3 n p) : 1 ≤ n ∧ n ≤ 64 ∧ 0 ≤ p ∧ p ≤ 8960 := by
 rcases h with ⟨h, _⟩ | ⟨_, h⟩ | ⟨h, _⟩
 ·omega
 ·exact h
 ·omega
theorem fd_pipe {l : List WrT} {k n p : Int} (hk : k = 4 ∨ k = 5) (h : FdP l k n p) : p = 0 ∧ ∃ z ∈ l, z.1 = n := by
 rcases h with ⟨h, _⟩ | ⟨h, _⟩ | ⟨_, h⟩
 ·omega
 ·omega
 ·exact h
theorem fd_none {l : List WrT} {k n p : Int} (hk : ¬ (k = 0 ∨ k = 1 ∨ k = 2 ∨ k = 3 ∨ k = 4 ∨ k = 5)) (h : FdP l k n p) : False := by
 rcases h with ⟨h, _⟩ | ⟨h, _⟩ | ⟨h, _⟩ <;> omega
set_option maxHeartbeats 4000000 in
set_option maxRecDepth 100000 in
theorem rfd_ok (m : Mac) (l : List WrT) (k n p : Int) (w : World) (h : Wrs w m.pi.A m.pi.n l) (hpk : m.pi.n ≤ 4000) :
  Calls Tryz.prog 97 #[.agg m.cells, .agg #[.int .i64 k, .int .i64 n, .int .i64 p]] w fun e w' => FdR l k n p e ∧ Ext w w' := by
 have xa : Ext w ((w.alloc (.cells m.cells 38)).alloc (.cells #[.int .i64 k, .int .i64 n, .int .i64 p] 54)) := ((Ext.refl _).alloc _).alloc _
 have ba := (Box.new w 38 m.cells).ext ((Ext.refl _).alloc (.cells #[.int .i64 k, .int .i64 n, .int .i64 p] 54))
 have HP := Lib.hid (fun id w h => rpipe_ok m l id w h hpk)
 have h2 := h.ext xa
 have bf := Box.new (w.alloc (.cells m.cells 38)) 54 #[.int .i64 k, .int .i64 n, .int .i64 p]
 rw [World.size_alloc] at bf
 clear h
 go_enter Tryz.func97, Tryz.ntmps97
 go_upto_region 2 with (first
  | (refine wp_ld_mac (.tmp 2) rfl rfl w.heap.size _ 38 rfl ba rfl ?_)
  | (go_at_call 167; refine (HP.out _ _ h2).mono ?_; rintro e w1 ⟨⟨y, b1, rfl, hb1⟩, x1⟩; have bf1 := (bf.ext x1).ext ((Ext.refl w1).alloc (.cells #[.int .i64 y.1, .string (str y.2)] 95)); have f0 := bf1.cell 0; have f1 := bf1.cell 1; have f2 := bf1.cell 2; have xw := (xa.trans x1).alloc (.cells #[.int .i64 y.1, .string (str y.2)] 95); have HB := Lib.hid hb1; clear hb1))
 rcases (by omega : k = 0 ∨ k = 1 ∨ k = 2 ∨ k = 3 ∨ k = 4 ∨ k = 5 ∨ (k ≠ 0 ∧ k ≠ 1 ∧ k ≠ 2 ∧ k ≠ 3 ∧ k ≠ 4 ∧ k ≠ 5)) with rfl | rfl | rfl | rfl | rfl | rfl | ⟨h0, h1, h2, h3, h4, h5⟩
 ·rcases Bool.eq_false_or_eq_true (n == 0) with d1 | d1 <;> go_wp2_with fail
  all_goals
   go_ret
   exact ⟨⟨_, rfl, by first | exact no_iff (fun h => fd_low (by omega) (by simpa using d1) h) | exact fd_zero (by omega) (by simpa using d1)⟩, xw⟩
 ·rcases Bool.eq_false_or_eq_true (n == 0) with d1 | d1 <;> go_wp2_with fail
  all_goals
   go_ret
   exact ⟨⟨_, rfl, by first | exact no_iff (fun h => fd_low (by omega) (by simpa using d1) h) | exact fd_zero (by omega) (by simpa using d1)⟩, xw⟩
 ·rcases Bool.eq_false_or_eq_true (n == 0) with d1 | d1 <;> go_wp2_with fail
  all_goals
   go_ret
   exact ⟨⟨_, rfl, by first | exact no_iff (fun h => fd_low (by omega) (by simpa using d1) h) | exact fd_zero (by omega) (by simpa using d1)⟩, xw⟩
 ·rcases Bool.eq_false_or_eq_true (decide (1 ≤ n)) with d1 | d1
  ·rcases Bool.eq_false_or_eq_true (decide (n ≤ 64)) with d2 | d2
   ·rcases Bool.eq_false_or_eq_true (decide (0 ≤ p)) with d3 | d3
    ·go_wp2_with fail
     go_ret
     exact ⟨⟨_, rfl, fun h => .inr (.inl ⟨rfl, of_decide_eq_true d1, of_decide_eq_true d2, of_decide_eq_true d3, of_decide_eq_true h⟩), fun h => decide_eq_true (fd_three h).2.2.2⟩, xw⟩
    ·go_wp2_with fail
     go_ret
     exact ⟨⟨false, rfl, no_iff (fun h => of_decide_eq_false d3 (fd_three h).2.2.1)⟩, xw⟩
   ·go_wp2_with fail
    go_ret
    exact ⟨⟨false, rfl, no_iff (fun h => of_decide_eq_false d2 (fd_three h).2.1)⟩, xw⟩
  ·go_wp2_with fail
   go_ret
   exact ⟨⟨false, rfl, no_iff (fun h => of_decide_eq_false d1 (fd_three h).1)⟩, xw⟩
 ·rcases Bool.eq_false_or_eq_true (p == 0) with d1 | d1
  ·go_wp2_with fail
   go_ret
   exact ⟨⟨b1, rfl, fun h => .inr (.inr ⟨by omega, by simpa using d1, HB.out.1 h⟩), fun h => HB.out.2 (fd_pipe (by omega) h).2⟩, xw⟩
  ·go_wp2_with fail
   go_ret
   exact ⟨⟨false, rfl, no_iff (fun h => by have := (fd_pipe (by omega) h).1; rw [this] at d1; simp at d1)⟩, xw⟩
 ·rcases Bool.eq_false_or_eq_true (p == 0) with d1 | d1
  ·go_wp2_with fail
   go_ret
   exact ⟨⟨b1, rfl, fun h => .inr (.inr ⟨by omega, by simpa using d1, HB.out.1 h⟩), fun h => HB.out.2 (fd_pipe (by omega) h).2⟩, xw⟩
  ·go_wp2_with fail
   go_ret
   exact ⟨⟨false, rfl, no_iff (fun h => by have := (fd_pipe (by omega) h).1; rw [this] at d1; simp at d1)⟩, xw⟩
 ·have e0 : (k == 0) = false := by simpa using h0
  have e1 : (k == 1) = false := by simpa using h1
  have e2 : (k == 2) = false := by simpa using h2
  have e3 : (k == 3) = false := by simpa using h3
  have e4 : (k == 4) = false := by simpa using h4
  have e5 : (k == 5) = false := by simpa using h5
  have H05 := Lib.hid (show ¬ (k = 0 ∨ k = 1 ∨ k = 2 ∨ k = 3 ∨ k = 4 ∨ k = 5) by omega)
  clear h0 h1 h2 h3 h4 h5
  go_wp2_with fail
  go_ret
  exact ⟨⟨false, rfl, no_iff (fun h => fd_none H05.out h)⟩, xw⟩
end Go.Proofs.YtfaplefkakpgcaaGreatDoor
/- The document's machines, point by point: process tells that a process is as it may be. -/
namespace Go.Proofs.YtfaplefkakpgcaaGreatDoor
set_option linter.unusedVariables false
set_option linter.unusedSimpArgs false
open Go.RowKit
def ProcR (m : Mac) (d : MacD) (y : PrT) (e : Ending) : Prop := ∃ b, e = .returned (.bool b) ∧ (b = true ↔ ProcOk m d y)
def BvP (v : Value) (p : Prop) : Prop := ∃ b, v = .bool b ∧ (b = false ↔ p)
theorem BvP.yes {p : Prop} (h : ¬ p) : BvP (.bool true) p := ⟨true, rfl, fun e => (by cases e), fun k => absurd k h⟩
theorem BvP.of {b : Bool} {p : Prop} (h : b = false ↔ p) : BvP (.bool b) p := ⟨b, rfl, h⟩
theorem BvP.no {p : Prop} (h : p) : BvP (.bool false) p := ⟨false, rfl, fun _ => h, fun _ => rfl⟩
theorem eq0_iff {a : Int} : ((a != 0) = false) ↔ a = 0 := by simp
set_option maxHeartbeats 40000000 in
set_option maxRecDepth 100000 in
theorem rprocess_ok (m : Mac) (d : MacD) (y : PrT) (w : World) (h : MacIn w m d) (hrn : m.pr.n ≤ 4000) (hpn : m.pi.n ≤ 4000) :
  Calls Tryz.prog 51 #[.agg m.cells, .agg (prL y).toArray] w fun e w' => ProcR m d y e ∧ Ext w w' := by
 have HL := Lib.hid (fun id w (h : MacIn w m d) => lives_ok m d.pr id w h.pr hrn)
 have HU := Lib.hid (fun id w (h : MacIn w m d) => users_ok m d.pr id w h.pr hrn)
 have HF := Lib.hid (fun k n p w (h : MacIn w m d) => rfd_ok m d.pi k n p w h.pi.wrs hpn)
 go_enter Tryz.func51, Tryz.ntmps51
 go_upto_region 1 with fail
 have xa : Ext w ((w.alloc (.cells m.cells 38)).alloc (.cells (prL y).toArray 57)) := ((Ext.refl _).alloc _).alloc _
 have bm := (Box.new w 38 m.cells).ext ((Ext.refl _).alloc (.cells (prL y).toArray 57))
 have bp := Box.new (w.alloc (.cells m.cells 38)) 57 (prL y).toArray
 rw [World.size_alloc] at bp
 generalize (w.alloc (.cells m.cells 38)).alloc (.cells (prL y).toArray 57) = w1 at *
 have h1 := h.ext xa
 have cf : ∀ wx, Ext w1 wx → wx.cell? ⟨w.heap.size + 1, 0, none⟩ = some (.int .i64 y.pid) ∧ wx.cell? ⟨w.heap.size + 1, 1, none⟩ = some (.int .i64 y.parent) ∧ wx.cell? ⟨w.heap.size + 1, 2, none⟩ = some (.int .i64 y.state) ∧ wx.cell? ⟨w.heap.size + 1, 3, none⟩ = some (.int .u32 (y.reg 0)) ∧ wx.cell? ⟨w.heap.size + 1, 93, none⟩ = some (.int .u32 y.code) ∧ wx.cell? ⟨w.heap.size + 1, 94, none⟩ = some (.int .i64 y.why) ∧ wx.cell? ⟨w.heap.size + 1, 95, none⟩ = some (.int .u64 y.num) ∧ wx.cell? ⟨w.heap.size, 6, none⟩ = some (.int .i64 m.next) ∧ wx.cell? ⟨w.heap.size, 4, none⟩ = some (.slice m.fr.A m.fr.n m.fr.c) := fun wx x =>
  ⟨(bp.ext x).cell 0, (bp.ext x).cell 1, (bp.ext x).cell 2, (bp.ext x).cell 3, (bp.ext x).cell 93, (bp.ext x).cell 94, (bp.ext x).cell 95, (bm.ext x).cell 6, (bm.ext x).cell 4⟩
 have CF := Lib.hid cf
 clear cf
 obtain ⟨p0, p1, p2, p3, p93, p94, p95, m6, m4⟩ := CF.out _ (Ext.refl w1)
 go_upto_region 3 with fail
 generalize hdead : (y.state == 3) = dead at *
 generalize hwaits : (y.state == 2) = waits at *
 have HDD := Lib.hid (show (dead = true → y.state = 3) ∧ (dead = false → y.state ≠ 3) from ⟨fun h => by rw [h] at hdead; simpa using hdead, fun h => by rw [h] at hdead; simpa using hdead⟩)
 have HWW := Lib.hid (show (waits = true → y.state = 2) ∧ (waits = false → y.state ≠ 2) from ⟨fun h => by rw [h] at hwaits; simpa using hwaits, fun h => by rw [h] at hwaits; simpa using hwaits⟩)
 clear hdead hwaits
 go_cut [47] (fun s wx => BvP s ((1 ≤ y.pid ∧ y.pid < m.next) ∧ (y.state = 1 ∨ y.state = 2 ∨ y.state = 3) ∧ y.reg 0 = 0) ∧ w1 = wx)
 case first =>
  as_aux_lemma =>
   have d1 := Bool.eq_false_or_eq_true (decide (y.pid < 1))
   have d2 := Bool.eq_false_or_eq_true (decide (m.next ≤ y.pid))
   have d3 := Bool.eq_false_or_eq_true (y.state != 1)
   clear p1 p93 p94 p95 m4
   rcases d1 with d1 | d1
   ·have HX := Lib.hid (of_decide_eq_true d1)
    clear d2 d3
    go_wp2_with fail
    go_meet
    exact ⟨BvP.yes (fun h => by have := h.1; have := HX.out; omega), rfl⟩
   ·rcases d2 with d2 | d2
    ·have HX := Lib.hid (of_decide_eq_true d2)
     clear d3
     go_wp2_with fail
     go_meet
     exact ⟨BvP.yes (fun h => by have := h.1; have := HX.out; omega), rfl⟩
    ·have HPid := Lib.hid (show 1 ≤ y.pid ∧ y.pid < m.next by have := of_decide_eq_false d1; have := of_decide_eq_false d2; omega)
     rcases d3 with d3 | d3
     ·have HS1 := Lib.hid (show y.state ≠ 1 by simpa using d3)
      cases waits
      ·cases dead
       ·go_wp2_with fail
        go_meet
        exact ⟨BvP.yes (fun h => by
         rcases h.2.1 with e | e | e
         ·exact HS1.out e
         ·exact HWW.out.2 (by first | rfl | trivial) e
         ·exact HDD.out.2 (by first | rfl | trivial) e), rfl⟩
       ·go_wp2_with fail
        go_meet
        exact ⟨BvP.of (eq0_iff.trans ⟨fun h => ⟨HPid.out, .inr (.inr (HDD.out.1 (by first | rfl | trivial))), h⟩, fun h => h.2.2⟩), rfl⟩
      ·go_wp2_with fail
       go_meet
       exact ⟨BvP.of (eq0_iff.trans ⟨fun h => ⟨HPid.out, .inr (.inl (HWW.out.1 (by first | rfl | trivial))), h⟩, fun h => h.2.2⟩), rfl⟩
     ·have HS1 := Lib.hid (show y.state = 1 by simpa using d3)
      go_wp2_with fail
      go_meet
      exact ⟨BvP.of (eq0_iff.trans ⟨fun h => ⟨HPid.out, .inl HS1.out, h⟩, fun h => h.2.2⟩), rfl⟩
 case rest =>
  obtain ⟨⟨b47, rfl, hb47⟩, rfl⟩ := hcut
  have HB47 := Lib.hid hb47
  clear hb47
  cases b47 with
  | true =>
   go_wp2_with fail
   go_ret
   exact ⟨⟨false, rfl, no_iff (fun h => by have := HB47.out.2 ⟨h.pid, h.state, h.reg⟩; cases this)⟩, xa⟩
  | false =>
   go_upto_region 5 with fail
   go_cut [60] (fun s wx => BvP s (LivesP d.pr y.parent ∨ (y.state ≠ 3 ∧ y.parent = 0)) ∧ Ext w1 wx)
   case first =>
    as_aux_lemma =>
     clear p0 p2 p3 p93 p94 p95 m6 m4
     go_wp2_with (first
      | (refine wp_ld_mac (.tmp 2) rfl rfl w.heap.size _ 38 rfl bm rfl ?_)
      | (go_at_call 96; refine (HL.out _ _ h1).mono ?_; rintro e w2 ⟨⟨b2, rfl, hb2⟩, x2⟩; have HB2 := Lib.hid hb2; clear hb2; have p1' := x2.keep p1; clear p1; rcases b2 with _ | _ <;> rcases dead with _ | _))
     ·go_meet
      exact ⟨BvP.of (eq0_iff.trans ⟨fun h => .inr ⟨HDD.out.2 (by first | rfl | trivial), h⟩, fun h => h.elim (fun h => by have := HB2.out.2 h; cases this) (fun h => h.2)⟩), x2⟩
     ·go_meet
      exact ⟨BvP.yes (fun h => h.elim (fun h => by have := HB2.out.2 h; cases this) (fun h => h.1 (HDD.out.1 (by first | rfl | trivial)))), x2⟩
     ·go_meet
      exact ⟨BvP.no (.inl (HB2.out.1 (by first | rfl | trivial))), x2⟩
     ·go_meet
      exact ⟨BvP.no (.inl (HB2.out.1 (by first | rfl | trivial))), x2⟩
   case rest =>
    obtain ⟨⟨b60, rfl, hb60⟩, x5⟩ := hcut
    have HB60 := Lib.hid hb60
    clear hb60
    clear p0 p1 p2 p3 p93 p94 p95 m6 m4
    obtain ⟨p0, p1, p2, p3, p93, p94, p95, m6, m4⟩ := CF.out _ x5
    cases b60 with
    | true =>
     go_wp2_with fail
     go_ret
     exact ⟨⟨false, rfl, no_iff (fun h => by have := HB60.out.2 h.par; cases this)⟩, xa.trans x5⟩
    | false =>
     go_upto_region 7 with fail
     go_cut [93] (fun s wx => BvP s (((y.state = 2 ∧ 1 ≤ y.why ∧ y.why ≤ 5) ∨ (y.state ≠ 2 ∧ y.why = 0 ∧ y.num = 0)) ∧ (y.state = 3 ∨ y.code = 0)) ∧ wc = wx)
     case first =>
      as_aux_lemma =>
       have d1 := Bool.eq_false_or_eq_true (y.why != 0)
       have d2 := Bool.eq_false_or_eq_true (decide (y.why < 0))
       have d3 := Bool.eq_false_or_eq_true (decide (5 < y.why))
       have d4 := Bool.eq_false_or_eq_true (y.num != 0)
       clear p0 p1 p2 p3 m6 m4
       cases waits
       ·rcases d1 with d1 | d1
        ·have HX := Lib.hid (show y.why ≠ 0 by simpa using d1)
         clear d2 d3 d4
         go_wp2_with fail
         go_meet
         exact ⟨BvP.yes (fun h => h.1.elim (fun h => HWW.out.2 (by first | rfl | trivial) h.1) (fun h => HX.out h.2.1)), rfl⟩
        ·have HW0 := Lib.hid (show y.why = 0 by simpa using d1)
         rcases d2 with d2 | d2
         ·have HX := Lib.hid (of_decide_eq_true d2)
          clear d3 d4
          go_wp2_with fail
          go_meet
          exact ⟨BvP.yes (fun _ => by have := HW0.out; have := HX.out; omega), rfl⟩
         ·rcases d3 with d3 | d3
          ·have HX := Lib.hid (of_decide_eq_true d3)
           clear d4
           go_wp2_with fail
           go_meet
           exact ⟨BvP.yes (fun _ => by have := HW0.out; have := HX.out; omega), rfl⟩
          ·rcases d4 with d4 | d4
           ·have HX := Lib.hid (show y.num ≠ 0 by simpa using d4)
            go_wp2_with fail
            go_meet
            exact ⟨BvP.yes (fun h => h.1.elim (fun h => HWW.out.2 (by first | rfl | trivial) h.1) (fun h => HX.out h.2.2)), rfl⟩
           ·have HN0 := Lib.hid (show y.num = 0 by simpa using d4)
            cases dead
            ·go_wp2_with fail
             go_meet
             exact ⟨BvP.of (eq0_iff.trans ⟨fun h => ⟨.inr ⟨HWW.out.2 (by first | rfl | trivial), HW0.out, HN0.out⟩, .inr h⟩, fun h => h.2.elim (fun e => absurd e (HDD.out.2 (by first | rfl | trivial))) id⟩), rfl⟩
            ·go_wp2_with fail
             go_meet
             exact ⟨BvP.no ⟨.inr ⟨HWW.out.2 (by first | rfl | trivial), HW0.out, HN0.out⟩, .inl (HDD.out.1 (by first | rfl | trivial))⟩, rfl⟩
       ·rcases d1 with d1 | d1
        ·have HW0 := Lib.hid (show y.why ≠ 0 by simpa using d1)
         rcases d2 with d2 | d2
         ·have HX := Lib.hid (of_decide_eq_true d2)
          clear d3 d4
          go_wp2_with fail
          go_meet
          exact ⟨BvP.yes (fun h => h.1.elim (fun h => by have := HX.out; omega) (fun h => HW0.out h.2.1)), rfl⟩
         ·have HW1 := Lib.hid (of_decide_eq_false d2)
          rcases d3 with d3 | d3
          ·have HX := Lib.hid (of_decide_eq_true d3)
           clear d4
           go_wp2_with fail
           go_meet
           exact ⟨BvP.yes (fun h => h.1.elim (fun h => by have := HX.out; omega) (fun h => HW0.out h.2.1)), rfl⟩
          ·have HW2 := Lib.hid (of_decide_eq_false d3)
           clear d4
           have HWy := Lib.hid (show 1 ≤ y.why ∧ y.why ≤ 5 by have := HW0.out; have := HW1.out; have := HW2.out; omega)
           cases dead
           ·go_wp2_with fail
            go_meet
            exact ⟨BvP.of (eq0_iff.trans ⟨fun h => ⟨.inl ⟨HWW.out.1 (by first | rfl | trivial), HWy.out⟩, .inr h⟩, fun h => h.2.elim (fun e => absurd e (HDD.out.2 (by first | rfl | trivial))) id⟩), rfl⟩
           ·go_wp2_with fail
            go_meet
            exact ⟨BvP.no ⟨.inl ⟨HWW.out.1 (by first | rfl | trivial), HWy.out⟩, .inl (HDD.out.1 (by first | rfl | trivial))⟩, rfl⟩
        ·have HX := Lib.hid (show y.why = 0 by simpa using d1)
         clear d2 d3 d4
         go_wp2_with fail
         go_meet
         exact ⟨BvP.yes (fun h => h.1.elim (fun h => by have := HX.out; omega) (fun h => h.1 (HWW.out.1 (by first | rfl | trivial)))), rfl⟩
     case rest =>
      obtain ⟨⟨b93, rfl, hb93⟩, rfl⟩ := hcut
      have HB93 := Lib.hid hb93
      clear hb93
      cases b93 with
      | true =>
       go_wp2_with fail
       go_ret
       exact ⟨⟨false, rfl, no_iff (fun h => by have := HB93.out.2 ⟨h.why, h.code⟩; cases this)⟩, xa.trans x5⟩
      | false =>
       clear p0 p1 p2 p3 p93 p94 p95 m6 m4
       have bp5 := bp.ext x5
       go_wp2_with (refine wp_ld_space (.tmp 94) rfl rfl (w.heap.size + 1) 57 y rfl bp5 ?_)
       go_loopw [96] (fun i wx => ∃ j : Nat, j ≤ 16 ∧ i = .int .i64 j ∧ Ext w1 wx ∧ ∀ q < j, PageP m d y q) (fun i _ => 16 - (intOf i).toNat)
       case atStart => exact ⟨0, by omega, rfl, x5, fun q h => by omega⟩
       case round =>
        clear x5 bp5
        obtain ⟨j, hj, rfl, xj, hpg⟩ := hrel
        have HPG := Lib.hid hpg
        clear hpg
        by_cases hj2 : j < 16
        ·have hji : (j : Int) < 16 := by omega
         have HPN := Lib.hid (show PageP m d y j → ∀ q < j + 1, PageP m d y q from fun h q hq => by
          by_cases e : q < j
          ·exact HPG.out q e
          ·obtain rfl : q = j := by omega
           exact h)
         have HPM := Lib.hid (show ProcOk m d y → PageP m d y j from fun h => h.page j hj2)
         unfold PageP at HPN HPM
         go_upto_region 12 with (refine wp_idx_pte (.tmp 95) (.tmp 96) rfl rfl y j rfl rfl hj2 ?_)
         clear HPG
         generalize y.pis j = ia at *
         generalize y.pwr j = iw at *
         generalize y.pfr j = ifr at *
         have bq := Box.new wr 50 #[.bool ia, .bool iw, .int .i64 ifr]
         have xq := xj.alloc (.cells #[.bool ia, .bool iw, .int .i64 ifr] 50)
         generalize wr.alloc (.cells #[.bool ia, .bool iw, .int .i64 ifr] 50) = wq at *
         have q0 := bq.cell 0
         have q1 := bq.cell 1
         have q2 := bq.cell 2
         go_cut [9] (fun s wx => (∃ b, s = .bool b ∧ (b = true ↔ ia = false ∧ iw = false ∧ ifr = 0)) ∧ wq = wx)
         case first =>
          as_aux_lemma =>
           clear HPN HPM
           cases ia <;> cases iw <;> go_wp2_with fail
           all_goals
            go_meet
            exact ⟨⟨_, rfl, by first | (simp; done) | (simp_all; done) | omega⟩, rfl⟩
         case rest =>
          obtain ⟨⟨b9, rfl, hb9⟩, rfl⟩ := hcut
          have HB9 := Lib.hid hb9
          clear hb9
          have m4 := (CF.out _ xq).2.2.2.2.2.2.2.2
          have bmq := bm.ext xq
          have h2 := h1.ext xq
          go_upto_region 13 with fail
          go_cut [135] (fun s wx => BvP s ((ia = false ∧ iw = false ∧ ifr = 0) ∨ (ia = true ∧ y.state ≠ 3 ∧ 0 ≤ ifr ∧ ifr < (m.fr.n : Int) ∧ usersK d.pr ifr d.pr.length = 1)) ∧ Ext wq wx)
          case first =>
           as_aux_lemma =>
            clear HPN HPM
            have dA := Bool.eq_false_or_eq_true (decide (ifr < 0))
            have dB := Bool.eq_false_or_eq_true (decide ((m.fr.n : Int) ≤ ifr))
            cases ia
            ·clear dA dB
             cases b9
             ·go_wp2_with fail
              go_meet
              exact ⟨BvP.yes (fun h => h.elim (fun h => by have := HB9.out.2 h; cases this) (fun h => by cases h.1)), Ext.refl _⟩
             ·go_wp2_with fail
              go_meet
              exact ⟨BvP.no (.inl (HB9.out.1 (by first | rfl | trivial))), Ext.refl _⟩
            ·cases dead
             ·rcases dA with dA | dA
              ·have HX := Lib.hid (of_decide_eq_true dA)
               clear dB
               go_wp2_with fail
               go_meet
               exact ⟨BvP.yes (fun h => h.elim (fun h => by cases h.1) (fun h => by have := HX.out; omega)), Ext.refl _⟩
              ·have HA := Lib.hid (of_decide_eq_false dA)
               rcases dB with dB | dB
               ·have HX := Lib.hid (of_decide_eq_true dB)
                go_wp2_with fail
                go_meet
                exact ⟨BvP.yes (fun h => h.elim (fun h => by cases h.1) (fun h => by have := HX.out; omega)), Ext.refl _⟩
               ·have HBb := Lib.hid (of_decide_eq_false dB)
                go_wp2_with (first
                 | (refine wp_ld_mac_g (.tmp 2) rfl rfl w.heap.size m 38 rfl bmq ?_)
                 | (go_at_call 81; refine (HU.out _ _ h2).mono ?_; rintro e w2 ⟨rfl, x2⟩))
                go_meet
                exact ⟨BvP.of ⟨fun h => .inr ⟨by first | rfl | trivial, HDD.out.2 (by first | rfl | trivial), by have := HA.out; omega, by have := HBb.out; omega, by have h' : ((usersK d.pr ifr d.pr.length : Nat) : Int) = 1 := (by simpa using h); omega⟩, fun h => h.elim (fun h => by cases h.1) (fun h => by rw [h.2.2.2.2]; rfl)⟩, x2⟩
             ·clear dA dB
              go_wp2_with fail
              go_meet
              exact ⟨BvP.yes (fun h => h.elim (fun h => by cases h.1) (fun h => h.2.1 (HDD.out.1 (by first | rfl | trivial)))), Ext.refl _⟩
          case rest =>
           obtain ⟨⟨b135, rfl, hb135⟩, x9⟩ := hcut
           have HB135 := Lib.hid hb135
           clear hb135
           cases b135 with
           | true =>
            go_wp2_with fail
            go_ret
            exact ⟨⟨false, rfl, no_iff (fun h => by have := HB135.out.2 (HPM.out h); cases this)⟩, xa.trans (xq.trans x9)⟩
           | false =>
            go_wp2_with fail
            go_roundw
            case rel => exact ⟨j + 1, by omega, by go_num, xq.trans x9, HPN.out (HB135.out.1 (by first | rfl | trivial))⟩
            case measure => simp [intOf]; omega
        ·have HJ16 := Lib.hid (show j = 16 by omega)
         have hjn : ¬ (j : Int) < 16 := by omega
         have bp5 := bp.ext xj
         go_wp2_with (refine wp_ld_fds (.tmp 137) rfl rfl (w.heap.size + 1) 57 y rfl bp5 ?_)
         go_loopw [139] (fun i wx => ∃ j : Nat, j ≤ 8 ∧ i = .int .i64 j ∧ Ext w1 wx ∧ ∀ q < j, FdP d.pi (y.fk q) (y.fn q) (y.fp q) ∧ (y.state = 3 → y.fk q = 0)) (fun i _ => 8 - (intOf i).toNat)
         case atStart => exact ⟨0, by omega, rfl, xj, fun q h => by omega⟩
         case round =>
          clear xj bp5 hjn
          obtain ⟨j2, hj, rfl, xj, hfd⟩ := hrel
          have HFD := Lib.hid hfd
          clear hfd
          by_cases hj2 : j2 < 8
          ·have hji : (j2 : Int) < 8 := by omega
           have HFN := Lib.hid (show (FdP d.pi (y.fk j2) (y.fn j2) (y.fp j2) ∧ (y.state = 3 → y.fk j2 = 0)) → ∀ q < j2 + 1, FdP d.pi (y.fk q) (y.fn q) (y.fp q) ∧ (y.state = 3 → y.fk q = 0) from fun h q hq => by
            by_cases e : q < j2
            ·exact HFD.out q e
            ·obtain rfl : q = j2 := by omega
             exact h)
           have HFM := Lib.hid (show ProcOk m d y → FdP d.pi (y.fk j2) (y.fn j2) (y.fp j2) ∧ (y.state = 3 → y.fk j2 = 0) from fun h => h.fd j2 hj2)
           go_upto_region 19 with (refine wp_idx_fd (.tmp 138) (.tmp 139) rfl rfl y j2 rfl rfl hj2 ?_)
           clear HFD
           obtain ⟨ik, hik⟩ : ∃ x, x = y.fk j2 := ⟨_, rfl⟩
           obtain ⟨ifn, hifn⟩ : ∃ x, x = y.fn j2 := ⟨_, rfl⟩
           obtain ⟨ifp, hifp⟩ : ∃ x, x = y.fp j2 := ⟨_, rfl⟩
           have HFN2 := Lib.hid (fun (h : FdP d.pi ik ifn ifp ∧ (y.state = 3 → ik = 0)) => HFN.out (by rw [← hik, ← hifn, ← hifp]; exact h))
           have HFM2 := Lib.hid (fun (h : ProcOk m d y) => show FdP d.pi ik ifn ifp ∧ (y.state = 3 → ik = 0) by rw [hik, hifn, hifp]; exact HFM.out h)
           clear HFN HFM
           rw [← hik, ← hifn, ← hifp]
           clear hik hifn hifp
           have bq := Box.new wr 54 #[.int .i64 ik, .int .i64 ifn, .int .i64 ifp]
           have xq := xj.alloc (.cells #[.int .i64 ik, .int .i64 ifn, .int .i64 ifp] 54)
           generalize wr.alloc (.cells #[.int .i64 ik, .int .i64 ifn, .int .i64 ifp] 54) = wq at *
           have q0 : wq.cell? ⟨wr.heap.size, 0, none⟩ = some (.int .i64 ik) := bq.cell 0
           have q1 := bq.cell 1
           have q2 := bq.cell 2
           have bmq := bm.ext xq
           have h2 := h1.ext xq
           go_cut [153] (fun s wx => BvP s (FdP d.pi ik ifn ifp ∧ (y.state = 3 → ik = 0)) ∧ Ext wq wx)
           case first =>
            as_aux_lemma =>
             clear HFN2 HFM2
             go_wp2_with (first
              | (refine wp_ld_mac (.tmp 2) rfl rfl w.heap.size _ 38 rfl bmq rfl ?_)
              | (go_at_call 97; refine (HF.out _ _ _ _ h2).mono ?_; rintro e w2 ⟨⟨b2, rfl, hb2⟩, x2⟩; have HB2 := Lib.hid hb2; clear hb2; have q0' := x2.keep q0; clear q0; rcases b2 with _ | _ <;> rcases dead with _ | _))
             ·go_meet
              exact ⟨BvP.yes (fun h => by have := HB2.out.2 h.1; cases this), x2⟩
             ·go_meet
              exact ⟨BvP.yes (fun h => by have := HB2.out.2 h.1; cases this), x2⟩
             ·go_meet
              exact ⟨BvP.no ⟨HB2.out.1 (by first | rfl | trivial), fun h3 => absurd h3 (HDD.out.2 (by first | rfl | trivial))⟩, x2⟩
             ·go_meet
              exact ⟨BvP.of (eq0_iff.trans ⟨fun h => ⟨HB2.out.1 (by first | rfl | trivial), fun _ => h⟩, fun h => h.2 (HDD.out.1 (by first | rfl | trivial))⟩), x2⟩
           case rest =>
            obtain ⟨⟨b153, rfl, hb153⟩, x9⟩ := hcut
            have HB153 := Lib.hid hb153
            clear hb153
            cases b153 with
            | true =>
             go_wp2_with fail
             go_ret
             exact ⟨⟨false, rfl, no_iff (fun h => by have := HB153.out.2 (HFM2.out h); cases this)⟩, xa.trans (xq.trans x9)⟩
            | false =>
             go_wp2_with fail
             go_roundw
             case rel => exact ⟨j2 + 1, by omega, by go_num, xq.trans x9, HFN2.out (HB153.out.1 (by first | rfl | trivial))⟩
             case measure => simp [intOf]; omega
          ·have hjn : ¬ (j2 : Int) < 8 := by omega
           have HJ8 := Lib.hid (show j2 = 8 by omega)
           go_wp2_with fail
           go_ret
           refine ⟨⟨true, rfl, yes_iff ?_⟩, xa.trans xj⟩
           obtain ⟨a1, a2, a3⟩ := HB47.out.1 (by first | rfl | trivial)
           obtain ⟨c1, c2⟩ := HB93.out.1 (by first | rfl | trivial)
           exact ⟨a1, a2, a3, HB60.out.1 (by first | rfl | trivial), c1, c2, fun q hq => HPG.out q (by rw [HJ16.out]; exact hq), fun q hq => HFD.out q (by rw [HJ8.out]; exact hq)⟩
end Go.Proofs.YtfaplefkakpgcaaGreatDoor
/- The document's machines, point by point: Check tells that a machine may be. -/
namespace Go.Proofs.YtfaplefkakpgcaaGreatDoor
set_option linter.unusedVariables false
set_option linter.unusedSimpArgs false
open Go.RowKit
def CheckS (m : Mac) (d : MacD) (e : Ending) : Prop := ∃ n : Int, e = .returned (.int .i64 n) ∧ (n = 0 → StateOk m d)
def CheckX (m : Mac) (d : MacD) (e : Ending) : Prop := ∃ n : Int, e = .returned (.int .i64 n) ∧ n = chkE m d
theorem jrnE_drv {d : MacD} (hj : jrnE d.bl d.pe = 0) : drvE d.bl d.pe = 0 := by
 by_cases h0 : drvE d.bl d.pe = 0
 ·exact h0
 ·unfold jrnE at hj; rw [if_pos h0] at hj; exact hj
theorem DiskC.voE_eq {d : MacD} {n : Int} (h : DiskC d n) : n = voE d := by
 by_cases hok : DiskOk d
 ·rw [voE_zero.2 hok]
  cases h with
  | drv h => exact jrnE_drv hok.1
  | home _ h => exact absurd hok.1 h
  | many _ h => have := hok.2.1; omega
  | form _ _ h => exact absurd hok h
  | ok _ => rfl
 have hne : voE d ≠ 0 := fun h => hok (voE_zero.1 h)
 unfold voE at hne ⊢
 cases h with
 | drv h => rw [orE_l h]
 | home h hj =>
  rw [h, orE_r] at hne ⊢
  have hl : ¬ 33 < d.bl.length := fun hl => hj (by unfold jrnE; rw [if_neg (by omega), if_neg (by omega)])
  rw [errB_no hl, orE_l (by omega)]
 | many hj h =>
  have hl : 33 < d.bl.length := (drvOk_of hj).least
  rw [jrnE_drv hj, orE_r, errB_yes hl, orE_r, errB_no (by omega), orE_l (by omega)]
 | form hj h hn =>
  have hl : 33 < d.bl.length := (drvOk_of hj).least
  rw [jrnE_drv hj, orE_r, errB_yes hl, orE_r, errB_yes h, orE_r] at hne ⊢
  by_cases h4 : DirtyK (d.bl.length - 33) d.di d.di.length
  ·rw [errB_yes h4, orE_r] at hne ⊢
   by_cases h5 : ∃ I, Good (viewP d.bl d.pe d.di) I
   ·rw [errB_yes h5] at hne; exact absurd rfl hne
   ·rw [errB_no h5]
  ·rw [errB_no h4, orE_l (by omega)]
 | ok h => exact absurd h hok
section
variable {m : Mac} {d : MacD}
theorem chk_num (h : ¬ NumsOk m) : chkE m d = 2 := by
 unfold chkE numE; rw [errB_no h, orE_l (show (2 : Int) ≠ 0 by decide)]
theorem chk_frn (h1 : NumsOk m) (h : ¬ (1 ≤ m.fr.n ∧ m.fr.n ≤ 64)) : chkE m d = 6 := by
 unfold chkE numE frE; rw [errB_yes h1, orE_r, errB_no h, orE_l (show (6 : Int) ≠ 0 by decide), orE_l (show (6 : Int) ≠ 0 by decide)]
theorem chk_fr (h1 : NumsOk m) (h2 : 1 ≤ m.fr.n ∧ m.fr.n ≤ 64) (h : ¬ ∀ b ∈ d.fr, b.length = 128) : chkE m d = 3 := by
 unfold chkE numE frE; rw [errB_yes h1, orE_r, errB_yes h2, orE_r, errB_no h, orE_l (show (3 : Int) ≠ 0 by decide)]
theorem frE_zero (h2 : 1 ≤ m.fr.n ∧ m.fr.n ≤ 64) (h3 : ∀ b ∈ d.fr, b.length = 128) : frE m d = 0 := by
 unfold frE; rw [errB_yes h2, orE_r, errB_yes h3]
theorem chk_prn (h1 : NumsOk m) (h2 : 1 ≤ m.fr.n ∧ m.fr.n ≤ 64) (h3 : ∀ b ∈ d.fr, b.length = 128) (h : ¬ m.pr.n ≤ 8) : chkE m d = 6 := by
 unfold chkE numE; rw [errB_yes h1, orE_r, frE_zero h2 h3, orE_r]; unfold prE; rw [errB_no h, orE_l (show (6 : Int) ≠ 0 by decide), orE_l (show (6 : Int) ≠ 0 by decide)]
theorem chk_pr (h1 : NumsOk m) (h2 : 1 ≤ m.fr.n ∧ m.fr.n ≤ 64) (h3 : ∀ b ∈ d.fr, b.length = 128) (h4 : m.pr.n ≤ 8) (h : ¬ ProcsK m d d.pr.length) : chkE m d = 3 := by
 unfold chkE numE; rw [errB_yes h1, orE_r, frE_zero h2 h3, orE_r]; unfold prE; rw [errB_yes h4, orE_r, errB_no h, orE_l (show (3 : Int) ≠ 0 by decide)]
theorem chk_pin (h1 : NumsOk m) (h2 : 1 ≤ m.fr.n ∧ m.fr.n ≤ 64) (h3 : ∀ b ∈ d.fr, b.length = 128) (h4 : m.pr.n ≤ 8) (h5 : ProcsK m d d.pr.length) (h : ¬ m.pi.n ≤ 64) : chkE m d = 6 := by
 unfold chkE numE; rw [errB_yes h1, orE_r, frE_zero h2 h3, orE_r]; unfold prE; rw [errB_yes h4, orE_r, errB_yes h5, orE_r]; unfold piE; rw [errB_no h, orE_l (show (6 : Int) ≠ 0 by decide), orE_l (show (6 : Int) ≠ 0 by decide)]
theorem chk_pi (h1 : NumsOk m) (h2 : 1 ≤ m.fr.n ∧ m.fr.n ≤ 64) (h3 : ∀ b ∈ d.fr, b.length = 128) (h4 : m.pr.n ≤ 8) (h5 : ProcsK m d d.pr.length) (h6 : m.pi.n ≤ 64) (h : ¬ PipesK m d.pi d.pi.length) : chkE m d = 3 := by
 unfold chkE numE; rw [errB_yes h1, orE_r, frE_zero h2 h3, orE_r]; unfold prE; rw [errB_yes h4, orE_r, errB_yes h5, orE_r]; unfold piE; rw [errB_yes h6, orE_r, errB_no h, orE_l (show (3 : Int) ≠ 0 by decide)]
theorem chk_te (h1 : NumsOk m) (h2 : 1 ≤ m.fr.n ∧ m.fr.n ≤ 64) (h3 : ∀ b ∈ d.fr, b.length = 128) (h4 : m.pr.n ≤ 8) (h5 : ProcsK m d d.pr.length) (h6 : m.pi.n ≤ 64) (h7 : PipesK m d.pi d.pi.length) (h : ¬ (m.inn.length ≤ 65536 ∧ m.init.length ≤ 128)) : chkE m d = 6 := by
 unfold chkE numE; rw [errB_yes h1, orE_r, frE_zero h2 h3, orE_r]; unfold prE; rw [errB_yes h4, orE_r, errB_yes h5, orE_r]; unfold piE; rw [errB_yes h6, orE_r, errB_yes h7, orE_r]; unfold teE; rw [errB_no h, orE_l (show (6 : Int) ≠ 0 by decide)]
theorem chk_all (h1 : NumsOk m) (h2 : 1 ≤ m.fr.n ∧ m.fr.n ≤ 64) (h3 : ∀ b ∈ d.fr, b.length = 128) (h4 : m.pr.n ≤ 8) (h5 : ProcsK m d d.pr.length) (h6 : m.pi.n ≤ 64) (h7 : PipesK m d.pi d.pi.length) (h8 : m.inn.length ≤ 65536 ∧ m.init.length ≤ 128) : chkE m d = voE d := by
 unfold chkE numE; rw [errB_yes h1, orE_r, frE_zero h2 h3, orE_r]; unfold prE; rw [errB_yes h4, orE_r, errB_yes h5, orE_r]; unfold piE; rw [errB_yes h6, orE_r, errB_yes h7, orE_r]; unfold teE; rw [errB_yes h8, orE_r]
end
set_option maxHeartbeats 40000000 in
set_option maxRecDepth 100000 in
theorem rcheck_ex (m : Mac) (d : MacD) (w : World) (h : MacIn w m d) (hrn : m.pr.n ≤ 4000) (hpn : m.pi.n ≤ 4000) :
  Calls Tryz.prog 19 #[.agg m.cells] w fun e w' => CheckX m d e ∧ Ext w w' := by
 have HP := Lib.hid (fun y w h => rprocess_ok m d y w h hrn hpn)
 have HDI := Lib.hid (fun w h => rdisk_ex m d w h)
 obtain ⟨hf1, hf2⟩ := h.fr.strs
 obtain ⟨hr1, hr2⟩ := h.pr
 obtain ⟨hi1, hi2⟩ := h.pi.wrs
 have hfk := h.frk.2.1
 have hrk := h.prk.2.1
 have hik := h.pik.2.1
 unfold maxLen at hfk hrk hik
 have HF1 := Lib.hid hf1
 have HR1 := Lib.hid hr1
 have HI1 := Lib.hid hi1
 have hz := str_size
 clear hf1 hr1 hi1
 go_enter Tryz.func19, Tryz.ntmps19
 go_upto_region 1 with fail
 have xa : Ext w (w.alloc (.cells m.cells 38)) := (Ext.refl _).alloc _
 have bm := Box.new w 38 m.cells
 generalize w.alloc (.cells m.cells 38) = w1 at *
 have HM := Lib.hid (h.ext xa)
 clear h
 obtain ⟨k0, k1, k2, k3, k4, k5, k6, k7, k8, k9, k10, k11, k12, k13, k14, k15, k16⟩ := mac_cells bm
 clear k0 k11 k12 k13 k14 k15 k16
 go_upto_region 2 with fail
 go_cut [56] (fun s wx => BvP s (NumsOk m) ∧ w1 = wx)
 case first =>
  clear k4 k5 k7 k8 k10
  go_wp2_with fail
  all_goals
   go_meet
   first
    | exact ⟨BvP.yes (fun h => by obtain ⟨⟨_, _⟩, ⟨_, _⟩, _, ⟨_, _⟩, ⟨_, _⟩⟩ := h; omega), rfl⟩
    | exact ⟨BvP.of ⟨fun h => by
      simp only [Bool.or_eq_false_iff, decide_eq_false_iff_not] at h
      exact ⟨by omega, by omega, by omega, by omega, by omega⟩, fun h => by
      obtain ⟨⟨_, _⟩, ⟨_, _⟩, _, ⟨_, _⟩, ⟨_, _⟩⟩ := h
      simp only [Bool.or_eq_false_iff, decide_eq_false_iff_not]
      omega⟩, rfl⟩
 case rest =>
 obtain ⟨⟨b56, rfl, hb56⟩, rfl⟩ := hcut
 have HB56 := Lib.hid hb56
 clear hb56
 cases b56 with
 | true =>
  go_wp2_with fail
  go_ret
  exact ⟨⟨2, rfl, (chk_num (fun h => by have := HB56.out.2 h; cases this)).symm⟩, xa⟩
 | false =>
 clear k1 k2 k3 k6 k9
 have HNU := Lib.hid (HB56.out.1 rfl)
 go_upto_region 4 with fail
 go_cut [66] (fun s wx => BvP s (1 ≤ m.fr.n ∧ m.fr.n ≤ 64) ∧ w1 = wx)
 case first =>
  go_wp2_with fail
  all_goals
   go_meet
   first
    | exact ⟨BvP.yes (fun h => by omega), rfl⟩
    | exact ⟨BvP.of ⟨fun h => by
      simp only [Bool.or_eq_false_iff, decide_eq_false_iff_not] at h
      omega, fun h => by
      simp only [Bool.or_eq_false_iff, decide_eq_false_iff_not]
      omega⟩, rfl⟩
 case rest =>
 obtain ⟨⟨b66, rfl, hb66⟩, rfl⟩ := hcut
 have HB66 := Lib.hid hb66
 clear hb66
 cases b66 with
 | true =>
  go_wp2_with fail
  go_ret
  exact ⟨⟨6, rfl, (chk_frn HNU.out (fun h => by have := HB66.out.2 h; cases this)).symm⟩, xa⟩
 | false =>
 have HFRN := Lib.hid (HB66.out.1 rfl)
 go_wp2_with fail
 obtain ⟨fl, hfl⟩ : ∃ x, x = d.fr := ⟨_, rfl⟩
 rw [← hfl] at hf2 HF1
 have HFL := Lib.hid hfl
 clear hfl
 generalize m.fr.A = fA at *
 go_loop [70] (fun i => ∃ j : Nat, j ≤ m.fr.n ∧ i = .int .i64 j ∧ ∀ b ∈ fl.take j, b.length = 128) (fun i => m.fr.n - (intOf i).toNat)
 case atStart => exact ⟨0, by omega, rfl, by simp⟩
 case round =>
  obtain ⟨j, hj, rfl, hall⟩ := hrel
  have HALL := Lib.hid hall
  clear hall
  by_cases hlt : j < m.fr.n
  ·obtain ⟨b, o, rfl, hcell⟩ := hf2 (by omega)
   have c1 := xa.keep (hcell j (by rw [← HF1.out]; exact hlt))
   have HAN := Lib.hid (fun (h : (fl[j]'(by rw [← HF1.out]; exact hlt)).length = 128) => show ∀ b ∈ fl.take (j + 1), b.length = 128 from fun b hb => by
    rw [List.take_succ_eq_append_getElem (by rw [← HF1.out]; exact hlt)] at hb
    rcases List.mem_append.1 hb with hb | hb
    ·exact HALL.out b hb
    ·rw [List.mem_singleton.1 hb]; exact h)
   have HBF := Lib.hid (fun (h : ∀ b ∈ d.fr, b.length = 128) => show (fl[j]'(by rw [← HF1.out]; exact hlt)).length = 128 from h _ (by rw [← HFL.out]; exact List.getElem_mem _))
   generalize fl[j]'(by rw [← HF1.out]; exact hlt) = s at *
   have hjn : (j : Int) < (m.fr.n : Int) := by omega
   clear hcell
   by_cases hl : s.length = 128
   ·have hl' : ((s.length : Int) != 128) = false := by rw [hl]; rfl
    have HAM := Lib.hid (HAN.out hl)
    clear hl
    go_wp2_with fail
    go_round
    case rel => exact ⟨j + 1, by omega, by go_num, HAM.out⟩
    case measure => simp [intOf]; omega
   ·have hl' : ((s.length : Int) != 128) = true := by simp; omega
    have HX := Lib.hid hl
    go_wp2_with fail
    go_ret
    exact ⟨⟨3, rfl, (chk_fr HNU.out HFRN.out (fun h => HX.out (HBF.out h))).symm⟩, xa⟩
  ·obtain rfl : j = m.fr.n := by omega
   have HFA := Lib.hid (show ∀ b ∈ d.fr, b.length = 128 by
    have h := HALL.out
    rw [List.take_of_length_le (by rw [← HF1.out]; exact Nat.le_refl _), HFL.out] at h
    exact h)
   clear HALL
   by_cases h8 : 8 < m.pr.n
   ·have HX := Lib.hid h8
    go_wp2_with fail
    go_ret
    exact ⟨⟨6, rfl, (chk_prn HNU.out HFRN.out HFA.out (fun h => by have := HX.out; omega)).symm⟩, xa⟩
   ·go_wp2_with fail
    clear k4 k5 k7 k8 k10
    have HPL := Lib.hid (show ∀ k (h : k < d.pr.length), ProcsK m d k → ProcOk m d d.pr[k] → (0 < k → (d.pr[k - 1]'(by omega)).pid < d.pr[k].pid) → ProcsK m d (k + 1) from fun k h h1 h2 h3 i hi hik => by
     by_cases e : i < k
     ·exact h1 i hi e
     ·obtain rfl : i = k := by omega
      exact ⟨h2, h3⟩)
    have HPRN := Lib.hid (show m.pr.n ≤ 8 by omega)
    have HP3 := Lib.hid (fun (h : ¬ ProcsK m d d.pr.length) => show (3 : Int) = chkE m d from (chk_pr HNU.out HFRN.out HFA.out HPRN.out h).symm)
    have HPA := Lib.hid (show ∀ k (h : k < d.pr.length), ProcsK m d d.pr.length → ProcOk m d d.pr[k] ∧ (0 < k → (d.pr[k - 1]'(by omega)).pid < d.pr[k].pid) from fun k h hp => hp k h h)
    obtain ⟨l, hll⟩ : ∃ x, x = d.pr := ⟨_, rfl⟩
    rw [← hll] at hr2 HR1
    have HLL := Lib.hid hll
    clear hll
    generalize hrA : m.pr.A = A at hr2 ⊢
    have HRA := Lib.hid hrA
    clear hrA
    go_loopw [85] (fun i wx => ∃ k : Nat, k ≤ m.pr.n ∧ i = .int .i64 k ∧ Ext w1 wx ∧ ProcsK m d k) (fun i _ => m.pr.n - (intOf i).toNat)
    case atStart => exact ⟨0, by omega, rfl, Ext.refl _, fun i h hk => by omega⟩
    case round =>
     obtain ⟨k, hk, rfl, xk, hprk⟩ := hrel
     have HPRK := Lib.hid hprk
     clear hprk
     by_cases hlt : k < m.pr.n
     ·obtain ⟨b, o, rfl, hcell⟩ := hr2 (by omega)
      have hlk : k < l.length := by rw [← HR1.out]; exact hlt
      have r1 := range_ext (pr_range hcell hlk) (xa.trans xk)
      have e0 : 0 < k → wr.cell? ⟨b, o + (k - 1) * 96, none⟩ = some (.int .i64 (l[k - 1]'(by omega)).pid) := fun h => (xa.trans xk).keep (pr_range hcell (k := k - 1) (by omega) 0 _ rfl)
      clear hcell
      have hkn : (k : Int) < (m.pr.n : Int) := by omega
      have HNX := Lib.hid (show ProcOk m d l[k] → (0 < k → (l[k - 1]'(by omega)).pid < l[k].pid) → ProcsK m d (k + 1) from by
       have he := HLL.out
       subst he
       exact HPL.out k hlk HPRK.out)
      have HNA := Lib.hid (show ProcsK m d d.pr.length → ProcOk m d l[k] ∧ (0 < k → (l[k - 1]'(by omega)).pid < l[k].pid) from by
       have he := HLL.out
       subst he
       exact HPA.out k hlk)
      generalize l[k] = y at *
      generalize hprv : l[k - 1]'(by omega) = prv at *
      clear hprv
      go_upto_region 17 with (first
       | (refine wp_ld_pr (.tmp 88) rfl rfl b (o + k * 96) y rfl r1 ?_)
       | (refine wp_st_pr (.tmp 7) (.tmp 89) rfl rfl wr.heap.size y _ 57 rfl rfl (Box.new _ _ _) rfl ?_; intro w2 b2 g2))
      have z2 : Ext wr w2 := ((Ext.refl wr).alloc _).grown g2 (fun j e => by cases e; exact Nat.le_refl _)
      have x2 := xk.trans z2
      have c0 : ∀ x : Later w2, x.now.cell? ⟨wr.heap.size, 0, none⟩ = some (.int .i64 y.pid) := fun x => (b2.ext x.ext).cell 0
      have k5 : ∀ x : Later w2, x.now.cell? ⟨w.heap.size, 5, none⟩ = some (.slice (some ⟨b, o, none⟩) m.pr.n m.pr.c) := fun x => by rw [← HRA.out]; exact ((bm.ext x2).ext x.ext).cell 5
      have rm : ∀ wx, (∃ x : Later w2, wx = x.now) → wx.rangeAt w.heap.size 0 m.cells.toList := fun wx ⟨x, hx⟩ => by rw [hx]; exact mac_range ((bm.ext x2).ext x.ext)
      have rp : ∀ wx, (∃ x : Later w2, wx = x.now) → wx.rangeAt wr.heap.size 0 (prL y) := fun wx ⟨x, hx⟩ => by rw [hx]; exact pr_range0 (b2.ext x.ext)
      have RM := Lib.hid rm
      have RP := Lib.hid rp
      have HPC : ∀ x : Later w2, Hid (Calls Tryz.prog 51 #[.agg m.cells, .agg (prL y).toArray] x.now fun e w' => ProcR m d y e ∧ Ext x.now w') := fun x => Lib.hid (HP.out y _ (HM.out.ext (x2.trans x.ext)))
      clear r1 g2 rm rp
      have E0 : 0 < k → ∀ x : Later w2, x.now.cell? ⟨b, o + (k - 1) * 96, none⟩ = some (.int .i64 prv.pid) := fun h x => x.ext.keep (z2.keep (e0 h))
      clear e0
      by_cases n3 : 0 < k
      ·have d3 : decide ((0 : Int) < (k : Int)) = true := by simp; omega
       have E0' := E0 n3
       clear E0
       have E0 := E0'
       clear E0'
       have kk1 : (k : Int) - 1 = ((k - 1 : Nat) : Int) := by omega
       have kk2 : IntKind.i64.wrap ((k : Int) - 1) = ((k - 1 : Nat) : Int) := by rw [IntKind.wrap_i64]; omega
       have kk3 : ((k - 1 : Nat) : Int) < (m.pr.n : Int) := by omega
       by_cases n4 : y.pid ≤ prv.pid
       ·have d4 : decide (y.pid ≤ prv.pid) = true := decide_eq_true n4
        simp only [Act.put]
        refine wp_region_later_tail 17 (by kernel_rfl) (by kernel_rfl) ?_
        simp only [List.take_succ_cons, List.take_zero, List.drop_succ_cons, List.drop_zero]
        repeat (first
         | (go_big_quiet_want; refine quiet_ld_mac (.tmp 1) rfl w.heap.size rfl m RM.out ?_; simp only [Act.put, List.setIfInBounds_toArray, List.set_cons_zero, List.set_cons_succ]; go_big_quiet_on)
         | (go_big_quiet_want; refine quiet_ld_pr (.tmp 7) rfl wr.heap.size rfl y RP.out ?_; simp only [Act.put, List.setIfInBounds_toArray, List.set_cons_zero, List.set_cons_succ]; go_big_quiet_on)
         | go_big_quiet_step (fail))
        refine wpQuiet_nil ?_
        rintro w3 ⟨x3, rfl⟩
        clear c0 k5 E0
        have HX := Lib.hid n4
        have HX3 := Lib.hid n3
        go_wp2_with fail
        go_ret
        exact ⟨⟨3, rfl, HP3.out (fun h => by have := (HNA.out h).2 HX3.out; have := HX.out; omega)⟩, (xa.trans x2).trans x3.ext⟩
       ·have d4 : decide (y.pid ≤ prv.pid) = false := decide_eq_false n4
        simp only [Act.put]
        refine wp_region_later_tail 17 (by kernel_rfl) (by kernel_rfl) ?_
        simp only [List.take_succ_cons, List.take_zero, List.drop_succ_cons, List.drop_zero]
        repeat (first
         | (go_big_quiet_want; refine quiet_ld_mac (.tmp 1) rfl w.heap.size rfl m RM.out ?_; simp only [Act.put, List.setIfInBounds_toArray, List.set_cons_zero, List.set_cons_succ]; go_big_quiet_on)
         | (go_big_quiet_want; refine quiet_ld_pr (.tmp 7) rfl wr.heap.size rfl y RP.out ?_; simp only [Act.put, List.setIfInBounds_toArray, List.set_cons_zero, List.set_cons_succ]; go_big_quiet_on)
         | go_big_quiet_step (fail))
        refine wpQuiet_nil ?_
        rintro w3 ⟨x3, rfl⟩
        clear c0 k5 E0
        have HLT := Lib.hid (show prv.pid < y.pid by omega)
        go_wp2_with (go_at_call 51; refine (HPC x3).out.mono ?_; rintro e w4 ⟨⟨b4, rfl, hb4⟩, x4⟩; have HB4 := Lib.hid hb4; clear hb4; rcases b4 with _ | _)
        ·go_ret
         exact ⟨⟨3, rfl, HP3.out (fun h => by have := HB4.out.2 (HNA.out h).1; cases this)⟩, ((xa.trans x2).trans x3.ext).trans x4⟩
        ·go_roundw
         case rel => exact ⟨k + 1, by omega, by go_num, (x2.trans x3.ext).trans x4, HNX.out (HB4.out.1 (by first | rfl | trivial)) (fun _ => HLT.out)⟩
         case measure => simp [intOf]; omega
      ·have d3 : decide ((0 : Int) < (k : Int)) = false := by simp; omega
       simp only [Act.put]
       refine wp_region_later_tail 17 (by kernel_rfl) (by kernel_rfl) ?_
       simp only [List.take_succ_cons, List.take_zero, List.drop_succ_cons, List.drop_zero]
       repeat (first
        | (go_big_quiet_want; refine quiet_ld_mac (.tmp 1) rfl w.heap.size rfl m RM.out ?_; simp only [Act.put, List.setIfInBounds_toArray, List.set_cons_zero, List.set_cons_succ]; go_big_quiet_on)
        | (go_big_quiet_want; refine quiet_ld_pr (.tmp 7) rfl wr.heap.size rfl y RP.out ?_; simp only [Act.put, List.setIfInBounds_toArray, List.set_cons_zero, List.set_cons_succ]; go_big_quiet_on)
        | go_big_quiet_step (fail))
       refine wpQuiet_nil ?_
       rintro w3 ⟨x3, rfl⟩
       clear c0 k5 E0
       go_wp2_with (go_at_call 51; refine (HPC x3).out.mono ?_; rintro e w4 ⟨⟨b4, rfl, hb4⟩, x4⟩; have HB4 := Lib.hid hb4; clear hb4; rcases b4 with _ | _)
       ·go_ret
        exact ⟨⟨3, rfl, HP3.out (fun h => by have := HB4.out.2 (HNA.out h).1; cases this)⟩, ((xa.trans x2).trans x3.ext).trans x4⟩
       ·go_roundw
        case rel => exact ⟨k + 1, by omega, by go_num, (x2.trans x3.ext).trans x4, HNX.out (HB4.out.1 (by first | rfl | trivial)) (fun h => absurd h n3)⟩
        case measure => simp [intOf]; omega
     ·obtain rfl : k = m.pr.n := by omega
      have HPR := Lib.hid (show ProcsK m d d.pr.length by
       have h := HPRK.out
       rw [HR1.out, HLL.out] at h
       exact h)
      have HPN := Lib.hid (show m.pr.n ≤ 8 by omega)
      have q8 : wr.cell? ⟨w.heap.size, 8, none⟩ = some (.slice m.pi.A m.pi.n m.pi.c) := (bm.ext xk).cell 8
      by_cases h64 : 64 < m.pi.n
      ·have HX := Lib.hid h64
       go_wp2_with fail
       go_ret
       exact ⟨⟨6, rfl, (chk_pin HNU.out HFRN.out HFA.out HPN.out HPR.out (fun h => by have := HX.out; omega)).symm⟩, xa.trans xk⟩
      ·go_wp2_with fail
       clear q8
       generalize wr = w5 at *
       have HPL2 := Lib.hid (show ∀ k (h : k < d.pi.length), PipesK m d.pi k → (1 ≤ d.pi[k].1 ∧ d.pi[k].1 < m.newPipe ∧ d.pi[k].2.length ≤ 64) → (0 < k → (d.pi[k - 1]'(by omega)).1 < d.pi[k].1) → PipesK m d.pi (k + 1) from fun k h h1 h2 h3 i hi hik => by
        by_cases e : i < k
        ·exact h1 i hi e
        ·obtain rfl : i = k := by omega
         exact ⟨h2.1, h2.2.1, h2.2.2, h3⟩)
       have HPIN := Lib.hid (show m.pi.n ≤ 64 by omega)
       have HQ3 := Lib.hid (fun (h : ¬ PipesK m d.pi d.pi.length) => show (3 : Int) = chkE m d from (chk_pi HNU.out HFRN.out HFA.out HPN.out HPR.out HPIN.out h).symm)
       have HQA := Lib.hid (show ∀ k (h : k < d.pi.length), PipesK m d.pi d.pi.length → 1 ≤ d.pi[k].1 ∧ d.pi[k].1 < m.newPipe ∧ d.pi[k].2.length ≤ 64 ∧ (0 < k → (d.pi[k - 1]'(by omega)).1 < d.pi[k].1) from fun k h hp => hp k h h)
       obtain ⟨pl, hpl⟩ : ∃ x, x = d.pi := ⟨_, rfl⟩
       rw [← hpl] at hi2 HI1
       have HPLe := Lib.hid hpl
       clear hpl
       go_loopw [118] (fun i wx => ∃ k : Nat, k ≤ m.pi.n ∧ i = .int .i64 k ∧ Ext w1 wx ∧ PipesK m d.pi k) (fun i _ => m.pi.n - (intOf i).toNat)
       case atStart => exact ⟨0, by omega, rfl, xk, fun i h hk => by omega⟩
       case round =>
        clear xk
        obtain ⟨k, hk, rfl, xk, hpik⟩ := hrel
        have HPIK := Lib.hid hpik
        clear hpik
        by_cases hlt : k < m.pi.n
        ·obtain ⟨b, o, hA, hcell⟩ := hi2 (by omega)
         have hlk : k < pl.length := by rw [← HI1.out]; exact hlt
         have e1 := (xa.trans xk).keep (hcell k hlk).1
         have e2 := (xa.trans xk).keep (hcell k hlk).2
         have e0 : 0 < k → wr.cell? ⟨b, o + (k - 1) * 2, none⟩ = some (.int .i64 (pl[k - 1]'(by omega)).1) := fun h => (xa.trans xk).keep (hcell (k - 1) (by omega)).1
         have r8 : wr.cell? ⟨w.heap.size, 8, none⟩ = some (.slice m.pi.A m.pi.n m.pi.c) := (bm.ext xk).cell 8
         have r9 : wr.cell? ⟨w.heap.size, 9, none⟩ = some (.int .i64 m.newPipe) := (bm.ext xk).cell 9
         rw [hA] at r8
         clear hcell
         have hkn : (k : Int) < (m.pi.n : Int) := by omega
         have HNX2 := Lib.hid (show (1 ≤ pl[k].1 ∧ pl[k].1 < m.newPipe ∧ pl[k].2.length ≤ 64) → (0 < k → (pl[k - 1]'(by omega)).1 < pl[k].1) → PipesK m d.pi (k + 1) from by
          have he := HPLe.out
          subst he
          exact HPL2.out k hlk HPIK.out)
         have HNA2 := Lib.hid (show PipesK m d.pi d.pi.length → 1 ≤ pl[k].1 ∧ pl[k].1 < m.newPipe ∧ pl[k].2.length ≤ 64 ∧ (0 < k → (pl[k - 1]'(by omega)).1 < pl[k].1) from by
          have he := HPLe.out
          subst he
          exact HQA.out k hlk)
         generalize pl[k] = y at *
         generalize hprv : pl[k - 1]'(by omega) = prv at *
         clear hprv
         go_upto_region 25 with fail
         have E1 : (wr.alloc (.cells #[.int .i64 y.1, .string (str y.2)] 95)).cell? ⟨w.heap.size, 8, none⟩ = some (.slice (some ⟨b, o, none⟩) m.pi.n m.pi.c) := ((Ext.refl wr).alloc _).keep r8
         have E9 : (wr.alloc (.cells #[.int .i64 y.1, .string (str y.2)] 95)).cell? ⟨w.heap.size, 9, none⟩ = some (.int .i64 m.newPipe) := ((Ext.refl wr).alloc _).keep r9
         have E0 : 0 < k → (wr.alloc (.cells #[.int .i64 y.1, .string (str y.2)] 95)).cell? ⟨b, o + (k - 1) * 2, none⟩ = some (.int .i64 prv.1) := fun h => ((Ext.refl wr).alloc _).keep (e0 h)
         clear e0 e1 e2 r8 r9
         by_cases n0 : y.1 < 1
         ·have d0 : decide (y.1 < 1) = true := decide_eq_true n0
          have HX := Lib.hid n0
          clear E0
          go_quiet (fail)
          go_wp2_with fail
          go_ret
          exact ⟨⟨3, rfl, HQ3.out (fun h => by have := HNA2.out h; have := HX.out; omega)⟩, (xa.trans xk).trans (((Ext.refl wr).alloc _).drewN _)⟩
         ·have d0 : decide (y.1 < 1) = false := decide_eq_false n0
          by_cases n1 : m.newPipe ≤ y.1
          ·have d1 : decide (m.newPipe ≤ y.1) = true := decide_eq_true n1
           have HX := Lib.hid n1
           clear E0
           go_quiet (fail)
           go_wp2_with fail
           go_ret
           exact ⟨⟨3, rfl, HQ3.out (fun h => by have := HNA2.out h; have := HX.out; omega)⟩, (xa.trans xk).trans (((Ext.refl wr).alloc _).drewN _)⟩
          ·have d1 : decide (m.newPipe ≤ y.1) = false := decide_eq_false n1
           by_cases n3 : 0 < k
           ·have d3 : decide ((0 : Int) < (k : Int)) = true := by simp; omega
            have E0' := E0 n3
            have kk1 : (k : Int) - 1 = ((k - 1 : Nat) : Int) := by omega
            have kk2 : IntKind.i64.wrap ((k : Int) - 1) = ((k - 1 : Nat) : Int) := by rw [IntKind.wrap_i64]; omega
            have kk3 : ((k - 1 : Nat) : Int) < (m.pi.n : Int) := by omega
            clear E0
            by_cases n4 : y.1 ≤ prv.1
            ·have d4 : decide (y.1 ≤ prv.1) = true := decide_eq_true n4
             have HX := Lib.hid n4
             have HX3 := Lib.hid n3
             go_quiet (fail)
             go_wp2_with fail
             go_ret
             exact ⟨⟨3, rfl, HQ3.out (fun h => by have := HNA2.out h; have := this.2.2.2 HX3.out; have := HX.out; omega)⟩, (xa.trans xk).trans (((Ext.refl wr).alloc _).drewN _)⟩
            ·have d4 : decide (y.1 ≤ prv.1) = false := decide_eq_false n4
             by_cases n2 : 64 < y.2.length
             ·have d2 : decide (64 < (y.2.length : Int)) = true := by simp; omega
              have HX := Lib.hid n2
              go_quiet (fail)
              go_wp2_with fail
              go_ret
              exact ⟨⟨3, rfl, HQ3.out (fun h => by have := HNA2.out h; have := HX.out; omega)⟩, (xa.trans xk).trans (((Ext.refl wr).alloc _).drewN _)⟩
             ·have d2 : decide (64 < (y.2.length : Int)) = false := by simp; omega
              have HN2 := Lib.hid (HNX2.out ⟨by omega, by omega, by omega⟩ (fun _ => by omega))
              go_quiet (fail)
              go_wp2_with fail
              go_roundw
              case rel => exact ⟨k + 1, by omega, by go_num, (xk.alloc _).drewN _, HN2.out⟩
              case measure => simp [intOf]; omega
           ·have d3 : decide ((0 : Int) < (k : Int)) = false := by simp; omega
            clear E0
            by_cases n2 : 64 < y.2.length
            ·have d2 : decide (64 < (y.2.length : Int)) = true := by simp; omega
             have HX := Lib.hid n2
             go_quiet (fail)
             go_wp2_with fail
             go_ret
             exact ⟨⟨3, rfl, HQ3.out (fun h => by have := HNA2.out h; have := HX.out; omega)⟩, (xa.trans xk).trans (((Ext.refl wr).alloc _).drewN _)⟩
            ·have d2 : decide (64 < (y.2.length : Int)) = false := by simp; omega
             have HN2 := Lib.hid (HNX2.out ⟨by omega, by omega, by omega⟩ (fun h => absurd h n3))
             go_quiet (fail)
             go_wp2_with fail
             go_roundw
             case rel => exact ⟨k + 1, by omega, by go_num, (xk.alloc _).drewN _, HN2.out⟩
             case measure => simp [intOf]; omega
        ·obtain rfl : k = m.pi.n := by omega
         have HPI := Lib.hid (show PipesK m d.pi d.pi.length by
          have h := HPIK.out
          rw [HI1.out, HPLe.out] at h
          exact h)
         obtain ⟨k0, k1, k2, k3, k4, k5, k6, k7, k8, k9, k10, k11, k12, k13, k14, k15, k16⟩ := mac_cells (bm.ext xk)
         have bmk := bm.ext xk
         clear k0 k1 k2 k3 k4 k5 k6 k8 k9 k11 k12 k13 k14 k15 k16
         go_upto_region 28 with fail
         go_cut [165] (fun s wx => BvP s (m.inn.length ≤ 65536 ∧ m.init.length ≤ 128) ∧ wr = wx)
         case first =>
          go_wp2_with fail
          all_goals
           go_meet
           first
            | exact ⟨BvP.yes (fun h => by omega), rfl⟩
            | exact ⟨BvP.of ⟨fun h => by
              simp only [Bool.or_eq_false_iff, decide_eq_false_iff_not] at h
              omega, fun h => by
              simp only [Bool.or_eq_false_iff, decide_eq_false_iff_not]
              omega⟩, rfl⟩
         case rest =>
          obtain ⟨⟨b165, rfl, hb165⟩, rfl⟩ := hcut
          have HB165 := Lib.hid hb165
          clear hb165
          cases b165 with
          | true =>
           go_wp2_with fail
           go_ret
           exact ⟨⟨6, rfl, (chk_te HNU.out HFRN.out HFA.out HPN.out HPR.out HPIN.out HPI.out (fun h => by have := HB165.out.2 h; cases this)).symm⟩, xa.trans xk⟩
          | false =>
           clear k7 k10
           go_wp2_with (first
            | (refine wp_ld_mac (.tmp 1) rfl rfl w.heap.size _ 38 rfl bmk rfl ?_)
            | (go_at_call 52; refine (HDI.out _ (HM.out.ext xk)).mono ?_; rintro e w6 ⟨⟨n6, rfl, hn6⟩, x6⟩; have HN6 := Lib.hid hn6; clear hn6))
           go_ret
           refine ⟨⟨n6, rfl, ?_⟩, (xa.trans xk).trans x6⟩
           rw [chk_all HNU.out HFRN.out HFA.out HPN.out HPR.out HPIN.out HPI.out (HB165.out.1 (by first | rfl | trivial))]
           exact HN6.out.voE_eq
theorem rcheck_ok (m : Mac) (d : MacD) (w : World) (h : MacIn w m d) (hrn : m.pr.n ≤ 4000) (hpn : m.pi.n ≤ 4000) :
  Calls Tryz.prog 19 #[.agg m.cells] w fun e w' => CheckS m d e ∧ Ext w w' :=
 (rcheck_ex m d w h hrn hpn).mono fun e w' ⟨⟨n, e, hn⟩, x⟩ => ⟨⟨n, e, fun h0 => chkE_zero.1 (by rw [← hn]; exact h0)⟩, x⟩
end Go.Proofs.YtfaplefkakpgcaaGreatDoor
/- A machine that comes in, with its numbers as they are of their kinds. -/
namespace Go.Proofs.YtfaplefkakpgcaaGreatDoor
set_option linter.unusedVariables false
set_option linter.unusedSimpArgs false
open Go.ChangeShapes Go.WideShapes Go.ChangeAt Go.RowKit
theorem wf_u32 {m : Int} (h : (Lit.int .u32 m).wf = true) : 0 ≤ m ∧ m < 4294967296 := by
 unfold Lit.wf at h
 simp only [Bool.and_eq_true, decide_eq_true_eq, show IntKind.u32.min = 0 from rfl, show IntKind.u32.max = 4294967295 from rfl] at h
 omega
theorem wf_u64 {m : Int} (h : (Lit.int .u64 m).wf = true) : 0 ≤ m ∧ m < 18446744073709551616 := by
 unfold Lit.wf at h
 simp only [Bool.and_eq_true, decide_eq_true_eq, show IntKind.u64.min = 0 from rfl, show IntKind.u64.max = 18446744073709551615 from rfl] at h
 omega
theorem wf_i64 {m : Int} (h : (Lit.int .i64 m).wf = true) : N64 m := by
 unfold Lit.wf at h
 simp only [Bool.and_eq_true, decide_eq_true_eq, show IntKind.i64.min = -9223372036854775808 from rfl, show IntKind.i64.max = 9223372036854775807 from rfl] at h
 exact ⟨by omega, by omega⟩
def PrWf (y : PrT) : Prop := (∀ i < 16, 0 ≤ y.reg i ∧ y.reg i < 4294967296) ∧ (0 ≤ y.pc ∧ y.pc < 4294967296) ∧ (0 ≤ y.code ∧ y.code < 4294967296) ∧ (0 ≤ y.num ∧ y.num < 18446744073709551616)
section
variable {H : Type} {enc : TypeId × Value → H} {w : World} {base : Nat} {spare : Nat → Bool} {held : Bool}
theorem pr_leafs : (List.range 17).all (fun i => (leavesAt Tryz.prog 6 57).contains (3 + i, 45)) = true := by kernel_rfl
theorem prL_reg (a : PrT) {i : Nat} (hi : i < 16) : (prL a)[3 + i]? = some (.int .u32 (a.reg i)) := by
 have e : (prL a).drop 3 = (List.range 16).map (fun i => .int .u32 (a.reg i)) ++ ([.int .u32 a.pc] ++ (List.range 16).flatMap (pteL a) ++ (List.range 8).flatMap (fdL a) ++ [.bool a.mask, .int .u32 a.code, .int .i64 a.why, .int .u64 a.num]) := rfl
 rw [← List.getElem?_drop, e, List.getElem?_append_left (by simp; exact hi)]
 simp [hi]
theorem pr_inF {m : Nat} {cs : List Value} {y : DataW H × List MemPlace} (hl : cs.length = 96) (h : DataW.trod enc Tryz.prog w base spare held m 57 cs = some y) : ∃ a : { a : PrT // PrWf a }, cs = prL a.1 := by
 obtain ⟨a, rfl⟩ := pr_in hl h
 refine ⟨⟨a, fun i hi => ?_, ?_, ?_, ?_⟩, rfl⟩
 ·obtain ⟨n, e, k⟩ := leaf_int (n := 6) (o := 3 + i) Tryz.underlying45 (List.all_eq_true.1 pr_leafs i (List.mem_range.2 (by omega))) h (by omega)
  rw [prL_reg a hi] at e
  injection e with e
  injection e with _ e
  rw [e]; exact wf_u32 k
 ·obtain ⟨n, e, k⟩ := leaf_int (n := 6) (o := 19) Tryz.underlying45 (by kernel_rfl) h (by omega)
  have e2 : n = a.pc := by
   have e3 : some (Value.int .u32 a.pc) = some (.int .u32 n) := e
   injection e3 with e3
   injection e3 with _ e3
   exact e3.symm
  rw [← e2]; exact wf_u32 k
 ·obtain ⟨n, e, k⟩ := leaf_int (n := 6) (o := 93) Tryz.underlying45 (by kernel_rfl) h (by omega)
  have e2 : n = a.code := by
   have e3 : some (Value.int .u32 a.code) = some (.int .u32 n) := e
   injection e3 with e3
   injection e3 with _ e3
   exact e3.symm
  rw [← e2]; exact wf_u32 k
 ·obtain ⟨n, e, k⟩ := leaf_int (n := 6) (o := 95) Tryz.underlying31 (by kernel_rfl) h (by omega)
  have e2 : n = a.num := by
   have e3 : some (Value.int .u64 a.num) = some (.int .u64 n) := e
   injection e3 with e3
   injection e3 with _ e3
   exact e3.symm
  rw [← e2]; exact wf_u64 k
instance prWfInh : Inhabited { a : PrT // PrWf a } := ⟨⟨default, fun _ _ => ⟨Int.le_refl _, (by decide : (0 : Int) < 4294967296)⟩, ⟨Int.le_refl _, (by decide : (0 : Int) < 4294967296)⟩, ⟨Int.le_refl _, (by decide : (0 : Int) < 4294967296)⟩, ⟨Int.le_refl _, (by decide : (0 : Int) < 18446744073709551616)⟩⟩⟩
theorem prs_inF {fuel : Nat} {v : Value} {x : DataW H × List MemPlace} (h : DataW.trod enc Tryz.prog w base spare held fuel 32 [v] = some x) :
  ∃ (s : Sl) (l : List PrT), v = .slice s.A s.n s.c ∧ s.ok ∧ RowOf prL w s.A s.n l ∧ ∀ y ∈ l, PrWf y := by
 obtain ⟨A, n, c, l, e, h0, h1, h2, _⟩ := row_in (fun a : { a : PrT // PrWf a } => prL a.1) Tryz.underlying32 prCells (by omega) (fun m cs y => pr_inF) h
 refine ⟨⟨A, n, c⟩, l.map (·.1), e, ⟨h0, h1⟩, ⟨h2.1.trans (by rw [List.length_map]), fun hn => ?_⟩, fun y hy => ?_⟩
 ·obtain ⟨b, o, k1, k2⟩ := h2.2 hn
  refine ⟨b, o, k1, fun j v hj => k2 j v ?_⟩
  rw [← hj, List.flatMap_map]
 ·obtain ⟨a, _, rfl⟩ := List.mem_map.1 hy
  exact a.2
set_option maxRecDepth 100000 in
theorem mac_inF {fuel : Nat} {cs : List Value} {x : DataW H × List MemPlace} (hl : cs.length = 17) (h : DataW.trod enc Tryz.prog w base spare held fuel 38 cs = some x) :
  ∃ (m : Mac) (d : MacD), cs = m.cells.toList ∧ MacIn w m d ∧ MacFit m d := by
 obtain ⟨c0, e0, k0⟩ := mac_int (o := 0) Tryz.underlying31 rfl h (by omega)
 obtain ⟨c1, e1, _⟩ := mac_int (o := 1) Tryz.underlying3 rfl h (by omega)
 obtain ⟨c2, e2, k2⟩ := mac_int (o := 2) Tryz.underlying3 rfl h (by omega)
 obtain ⟨c3, e3, _⟩ := mac_int (o := 3) Tryz.underlying3 rfl h (by omega)
 obtain ⟨_, v4, _, e4, h4⟩ := mac_slice (o := 4) Tryz.underlying22 rfl h (by omega)
 obtain ⟨_, v5, _, e5, h5⟩ := mac_slice (o := 5) Tryz.underlying32 rfl h (by omega)
 obtain ⟨c6, e6, _⟩ := mac_int (o := 6) Tryz.underlying3 rfl h (by omega)
 obtain ⟨c7, e7, k7⟩ := mac_string (o := 7) rfl h (by omega)
 obtain ⟨_, v8, _, e8, h8⟩ := mac_slice (o := 8) Tryz.underlying33 rfl h (by omega)
 obtain ⟨c9, e9, _⟩ := mac_int (o := 9) Tryz.underlying3 rfl h (by omega)
 obtain ⟨c10, e10, k10⟩ := mac_string (o := 10) rfl h (by omega)
 obtain ⟨c11, e11⟩ := mac_bool (o := 11) rfl h (by omega)
 obtain ⟨c12, e12, k12⟩ := mac_int (o := 12) Tryz.underlying31 rfl h (by omega)
 obtain ⟨_, v13, _, e13, h13⟩ := mac_slice (o := 13) Tryz.underlying22 rfl h (by omega)
 obtain ⟨_, v14, _, e14, h14⟩ := mac_slice (o := 14) Tryz.underlying34 rfl h (by omega)
 obtain ⟨c15, e15, k15⟩ := mac_int (o := 15) Tryz.underlying3 rfl h (by omega)
 obtain ⟨_, v16, _, e16, h16⟩ := mac_slice (o := 16) Tryz.underlying34 rfl h (by omega)
 obtain ⟨s4, l4, rfl, o4, r4⟩ := strs_in h4
 obtain ⟨s5, l5, rfl, o5, r5, f5⟩ := prs_inF h5
 obtain ⟨s8, l8, rfl, o8, r8⟩ := pis_in h8
 obtain ⟨s13, l13, rfl, o13, r13⟩ := strs_in h13
 obtain ⟨s14, l14, rfl, o14, r14⟩ := wrs_in h14
 obtain ⟨s16, l16, rfl, o16, r16⟩ := wrs_in h16
 refine ⟨⟨c0, c1, c2, c3, s4, s5, c6, c7, s8, c9, c10, c11, c12, s13, s14, c15, s16⟩, ⟨l4, l5, l8, l13, l14, l16⟩, ?_, ⟨r4, r5, r8, r13, r14, r16, o4, o5, o8, o13, o14, o16, k7, k10, k15⟩, ⟨wf_u64 k0, wf_u64 k12, wf_i64 k15, wf_i64 k2, f5⟩⟩
 rw [list17 hl]
 simp only [List.range, List.range.loop, List.map_cons, List.map_nil, getD_of e0, getD_of e1, getD_of e2, getD_of e3, getD_of e4, getD_of e5, getD_of e6, getD_of e7, getD_of e8, getD_of e9, getD_of e10, getD_of e11, getD_of e12, getD_of e13, getD_of e14, getD_of e15, getD_of e16]
 rfl
end
end Go.Proofs.YtfaplefkakpgcaaGreatDoor
