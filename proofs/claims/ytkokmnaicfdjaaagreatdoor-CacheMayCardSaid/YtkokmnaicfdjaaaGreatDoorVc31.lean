/- state.Check on a machine that may be: its processes. -/
import Derived.Test.YtkokmnaicfdjaaaGreatDoorVc30
import Derived.Maps.Own
import Derived.Maps.OwnSet
import Derived.Maps.OwnOps
import Derived.Maps.Views
import Derived.Test.YtkokmnaicfdjaaaGreatDoorVc27
namespace Go.Proofs.YtkokmnaicfdjaaaGreatDoor
set_option linter.unusedVariables false
set_option linter.unusedSimpArgs false
open Go.RowKit

/-- a map's answer at each frame: was it met? -/
def MetD (l : List PrT) (k j : Nat) (D : DataW Unit) : Prop := ∀ fr : Nat, (Met l k j (fr : Int) → D.atKey (.int .i64 (fr : Int)) (.lit (.bool false)) = .lit (.bool true)) ∧ (¬ Met l k j (fr : Int) → D.atKey (.int .i64 (fr : Int)) (.lit (.bool false)) = .lit (.bool false))
theorem MetD.zero (l : List PrT) : MetD l 0 0 (.map []) := fun fr => ⟨fun h => absurd h met_zero, fun _ => rfl⟩
theorem MetD.proc {l : List PrT} {k : Nat} {D : DataW Unit} (h : MetD l k 16 D) : MetD l (k + 1) 0 D := fun fr => ⟨fun hm => (h fr).1 (met_proc.1 hm), fun hm => (h fr).2 (fun h2 => hm (met_proc.2 h2))⟩
theorem MetD.skip {l : List PrT} {k j : Nat} {D : DataW Unit} (h : MetD l k j D) (hi : (l.getD k default).pis j = false) : MetD l k (j + 1) D := fun fr => ⟨fun hm => (h fr).1 ((met_skip hi).1 hm), fun hm => (h fr).2 (fun h2 => hm ((met_skip hi).2 h2))⟩
theorem MetD.put {l : List PrT} {k j f : Nat} {D : DataW Unit} (h : MetD l k j D) (hD : Maps.IsMap D) (hi : (l.getD k default).pis j = true) (hf : (l.getD k default).pfr j = (f : Int)) (hk : WideAt.IsKeyLit (.int .i64 (f : Int))) : MetD l k (j + 1) (D.put (.int .i64 (f : Int)) (.lit (.bool true))) := fun fr => by
  by_cases e : fr = f
  · subst e
    refine ⟨fun _ => Maps.atKey_put_same hD hk _ _, fun hm => ?_⟩
    exact absurd ((met_next hi).2 (.inr hf.symm)) hm
  · have hne : Lit.int .i64 (fr : Int) ≠ .int .i64 (f : Int) := fun h => by injection h with _ h; omega
    rw [Maps.atKey_put_other hne]
    refine ⟨fun hm => (h fr).1 ?_, fun hm => (h fr).2 (fun h2 => hm ((met_next hi).2 (.inl h2)))⟩
    rcases (met_next hi).1 hm with h2 | h2
    · exact h2
    · rw [hf] at h2; omega
theorem boolZero (w : World) : (zeroValue 4).run Tryz.prog w = .ok (.bool false) w := by kernel_rfl
set_option maxRecDepth 100000 in
/-- m[k], of bools -/
theorem look_bool {w : World} (b n k : Nat) (D : DataW Unit) (q : Bool) (hown : w.ownsMap Tryz.prog 3 (plainElem Tryz.prog 4) b n D) (h1 : k ≤ 100000) (hat : D.atKey (.int .i64 (k : Int)) (.lit (.bool false)) = .lit (.bool q)) :
    (Instr.lookup 126 (.map (some b)) (.int .i64 (k : Int)) false).run Tryz.prog w = .ok (.bool q) w := by
  have hk := key_i64 k h1
  obtain ⟨v, ps, hrun, hv⟩ := hown.lookup intKeyed Tryz.underlying126 (boolZero w) (zd := .lit (.bool false)) (zp := []) (plainElem_bool Tryz.underlying4 false) hk
  rw [hat] at hv
  obtain rfl : v = .bool q := by
    unfold plainElem at hv
    rw [Tryz.underlying4] at hv
    split at hv
    · injection hv with hv
      injection hv with hv _
      injection hv with hv
      injection hv with hv
      rw [← hv]
    · split at hv <;> cases hv
    · split at hv <;> cases hv
    · cases hv
  exact hrun
theorem pr_ranged {w : World} {b o : Nat} {l : List PrT} (hc : ∀ j v, (l.flatMap prL)[j]? = some v → w.cell? ⟨b, o + j, none⟩ = some v) {k : Nat} (hk : k < l.length) : w.rangeAt b (o + k * 96) (prL (l.getD k default)) := by
  rw [List.getD_eq_getElem?_getD, List.getElem?_eq_getElem hk]; exact pr_range hc hk
/-- the number of the process ahead -/
def lastPid (l : List PrT) (k : Nat) : Int := if 0 < k then (l.getD (k - 1) default).pid else 0
theorem lastPid_lt {m : Mac} {d : MacD} {k : Nat} (h : ProcsK m d d.pr.length) (hk : k < d.pr.length) : ProcOk m d (d.pr.getD k default) ∧ decide ((d.pr.getD k default).pid ≤ lastPid d.pr k) = false := by
  obtain ⟨h1, h2⟩ := h k hk hk
  have e : d.pr.getD k default = d.pr[k] := by rw [List.getD_eq_getElem?_getD, List.getElem?_eq_getElem hk]; rfl
  rw [e]
  refine ⟨h1, decide_eq_false ?_⟩
  unfold lastPid
  split
  · rename_i h0
    have := h2 h0
    rw [List.getD_eq_getElem?_getD, List.getElem?_eq_getElem (by omega)]
    show ¬ d.pr[k].pid ≤ (d.pr[k - 1]'(by omega)).pid
    omega
  · have := h1.pid.1; omega
set_option maxHeartbeats 4000000 in
set_option maxRecDepth 100000 in
theorem procs_ok (m : Mac) (d : MacD) (w : World) (hi : MacIn w m d) (hn : m.pr.n ≤ 8) (hpi : m.pi.n ≤ 64) (hp : ProcsK m d d.pr.length) (hfn : m.fr.n ≤ 64) :
    Calls Tryz.prog 42 #[.agg m.cells] w fun e w' => e = .returned (.int .i64 0) ∧ Ext w w' := by
  have HFi := Lib.hid (fun y w h => fields_ok m d y w h)
  have HPa := Lib.hid (fun y w hi h => parent_ok m d y w hi (by omega) h)
  have HFl := Lib.hid (fun k n p w hi h h0 => file_ok m d k n p w hi (by omega) h h0)
  have x0 := (Ext.refl w).alloc (.cells m.cells 30)
  have bm := Box.new w 30 m.cells
  have HM := Lib.hid (hi.ext x0)
  obtain ⟨hv1, hv2⟩ := hi.pr
  have HV2 := Lib.hid hv2
  have HV1 := Lib.hid hv1
  clear hv2 hv1
  have f1 : decide (8 < (m.pr.n : Int)) = false := by simp; omega
  have HP := Lib.hid (fun k hk => lastPid_lt (k := k) hp hk)
  clear hp
  have hmk := fun w => run_makeMap (P := Tryz.prog) 126 w
  go_enter Tryz.func42, Tryz.ntmps42
  go_upto_region 1 with fail
  generalize w.alloc (.cells m.cells 30) = w1 at *
  have k5 : w1.cell? ⟨w.heap.size, 5, none⟩ = some (.slice m.pr.A m.pr.n m.pr.c) := bm.cell 5
  go_upto_region 4 with fail
  clear hmk f1 k5
  have xm := x0.alloc (.map #[] 0)
  have bm2 := bm.ext ((Ext.refl w1).alloc (.map #[] 0))
  have HM2 := Lib.hid (HM.out.ext ((Ext.refl w1).alloc (.map #[] 0)))
  have hmap : (w1.alloc (.map #[] 0)).ownsMap Tryz.prog 3 (plainElem (H := Unit) Tryz.prog 4) w1.heap.size 0 (.map []) := World.ownsMap_made w1 Tryz.prog 3 _
  have hMB : (w1.alloc (.map #[] 0)).heap[w1.heap.size]? = some (.map #[] 0) := World.alloc_heap_new w1 _
  have hlm : w.heap.size < w1.heap.size := bm.lt
  generalize w1.alloc (.map #[] 0) = w2 at *
  generalize hBm : w1.heap.size = Bm at *
  generalize hG : w.heap.size = G at *
  have k5 : w2.cell? ⟨G, 5, none⟩ = some (.slice m.pr.A m.pr.n m.pr.c) := bm2.cell 5
  clear bm
  go_upto_region 6 with fail
  clear k5
  have hln : m.pr.n = d.pr.length := HV1.out
  have hv3 := HV2.out
  clear HV2
  generalize hrA : m.pr.A = A at hv3 ⊢
  generalize hrn : m.pr.n = pn at hv3 ⊢
  have HRA := Lib.hid hrA
  obtain rfl : d.pr.length = pn := by omega
  have hn8 : d.pr.length ≤ 8 := by omega
  clear hrA hrn hln hn
  go_loopw [4, 19] (fun s i wx => ∃ k : Nat, k ≤ d.pr.length ∧ i = .int .i64 k ∧ s = .int .i64 (lastPid d.pr k) ∧ (∃ D, wx.ownsMap Tryz.prog 3 (plainElem (H := Unit) Tryz.prog 4) Bm (16 * k) D ∧ MetD d.pr k 0 D) ∧ w2.grownBy wx (some Bm)) (fun _ i _ => d.pr.length - (intOf i).toNat)
  case atStart => exact ⟨0, by omega, rfl, rfl, ⟨.map [], hmap, MetD.zero _⟩, grown_refl _ _⟩
  case round =>
    obtain ⟨k, hk, rfl, rfl, ⟨D, hown, hmet⟩, hg⟩ := hrel
    have xk : Ext w wr := xm.grown hg (fun j e => by cases e; omega)
    have bmk := bm2.grown hg (by intro e; injection e with e; omega)
    have HMk := Lib.hid (hi.ext xk)
    have HG := Lib.hid hg
    clear hg
    by_cases hlt : k < d.pr.length
    · obtain ⟨b, o, rfl, hcell⟩ := hv3 (by omega)
      have r1 := range_ext (pr_ranged hcell hlt) xk
      obtain ⟨hpo, hlast⟩ := HP.out k hlt
      have hki : (k : Int) < (d.pr.length : Int) := by omega
      have HLN := Lib.hid (show lastPid d.pr (k + 1) = (d.pr.getD k default).pid by unfold lastPid; rw [if_pos (by omega), Nat.add_sub_cancel])
      have hpo2 := hpo.pid
      have hnx : decide (m.next ≤ (d.pr.getD k default).pid) = false := decide_eq_false (by omega)
      have HPO := Lib.hid hpo
      have HMT := Lib.hid hmet
      have HMTs := Lib.hid (fun (j : Nat) (fr : Int) h1 h2 h3 => met_one (l := d.pr) (k := k) (j := j) (fr := fr) hlt h1 h2 h3)
      have HMsk := Lib.hid (fun (j : Nat) (D : DataW Unit) (h : MetD d.pr k j D) hi => h.skip hi)
      have HMput := Lib.hid (fun (j f : Nat) (D : DataW Unit) (h : MetD d.pr k j D) hD hi hf hk => h.put (f := f) hD hi hf hk)
      have HMpr := Lib.hid (fun (D : DataW Unit) (h : MetD d.pr k 16 D) => h.proc)
      clear hcell hpo hpo2 hmet
      generalize lastPid d.pr k = last at *
      generalize d.pr.getD k default = y at *
      go_upto_region 8 with (first
        | (refine wp_ld_pr (.tmp 21) rfl rfl b (o + k * 96) y rfl r1 ?_)
        | (refine wp_st_pr (.tmp 6) (.tmp 22) rfl rfl wr.heap.size y _ 72 rfl rfl (Box.new _ _ _) rfl ?_; intro w3 b3 g3))
      have x3 : Ext wr w3 := ((Ext.refl wr).alloc _).grown g3 (fun j e => by cases e; exact Nat.le_refl _)
      have xx3 := xk.trans x3
      have bm3 := bmk.ext x3
      have own3 := ownsMap_ext hown x3
      have HG3 := Lib.hid (grown_later HG.out x3)
      have hMk : Bm < wr.heap.size := hown.lt
      clear g3 r1 hown x3 bmk xk HMk
      generalize wr.heap.size = P3 at *
      have c0 : w3.cell? ⟨P3, 0, none⟩ = some (.int .i64 y.pid) := b3.cell 0
      have q6 : w3.cell? ⟨G, 6, none⟩ = some (.int .i64 m.next) := bm3.cell 6
      go_upto_region 10 with (first
        | (refine wp_ld_pr_g (.tmp 6) rfl rfl P3 y 72 rfl b3 ?_)
        | (go_at_call 90; refine (HFi.out _ _ HPO.out).mono ?_; rintro e w4 ⟨rfl, x4⟩; have b4 := b3.ext x4; have bm4 := bm3.ext x4)
        | (refine wp_ld_mac_g (.tmp 1) rfl rfl G m 30 rfl bm4 ?_)
        | (refine wp_ld_pr_g (.tmp 6) rfl rfl P3 y 72 rfl b4 ?_)
        | (go_at_call 91; refine (HPa.out _ _ (hi.ext (xx3.trans x4)) HPO.out).mono ?_; rintro e w5 ⟨rfl, x5⟩))
      have b5 := b4.ext x5
      have bm5 := bm4.ext x5
      have x45 := x4.trans x5
      have own5 := ownsMap_ext own3 x45
      have HG5 := Lib.hid (grown_later HG3.out x45)
      have xx5 := xx3.trans x45
      have hP5 := b5.lt
      have hPm : P3 ≠ Bm := by omega
      have e0 : w5.cell? ⟨P3, 0, none⟩ = some (.int .i64 y.pid) := b5.cell 0
      have HPG := Lib.hid HPO.out.page
      have HFD := Lib.hid HPO.out.fd
      clear x4 x5 x45 b3 b4 bm3 bm4 c0 q6 own3 xx3 hlast hnx HG HG3 HPO HFi HPa
      go_upto_region 12 with (first
        | (refine wp_ld_space (.tmp 47) rfl rfl P3 72 y rfl b5 ?_))
      clear e0
      go_loopw [49] (fun i wx => ∃ j : Nat, j ≤ 16 ∧ i = .int .i64 j ∧ (∃ D, wx.ownsMap Tryz.prog 3 (plainElem (H := Unit) Tryz.prog 4) Bm (16 * k + j) D ∧ MetD d.pr k j D) ∧ w5.grownBy wx (some Bm)) (fun i _ => 16 - (intOf i).toNat)
      case atStart => exact ⟨0, by omega, rfl, ⟨D, own5, HMT.out⟩, grown_refl _ _⟩
      case round =>
        clear own5
        obtain ⟨j, hj, rfl, ⟨D2, own6, hmet2⟩, hg6⟩ := hrel
        have HMT2 := Lib.hid hmet2
        have HG6 := Lib.hid hg6
        have b6 := b5.grown hg6 (by intro e; injection e with e; omega)
        have bm6 := bm5.grown hg6 (by intro e; injection e with e; omega)
        have xx6 : Ext w wr := xx5.grown hg6 (fun j e => by cases e; omega)
        clear hmet2 hg6
        by_cases hj2 : j < 16
        · have hji : (j : Int) < 16 := by omega
          have hpg := HPG.out j hj2
          have hms := fun fr => HMTs.out j fr hj2
          have hmp := fun f => HMput.out j f D2 HMT2.out own6.isMap
          have hsk := HMsk.out j D2 HMT2.out
          clear HMTs
          go_upto_region 14 with (refine wp_idx_pte (.tmp 48) (.tmp 49) rfl rfl y j rfl rfl hj2 ?_)
          unfold PageP at hpg
          generalize hia : y.pis j = ia at *
          generalize hiw : y.pwr j = iw at *
          generalize hif : y.pfr j = ifr at *
          have xq : Ext wr (wr.alloc (.cells #[.bool ia, .bool iw, .int .i64 ifr] 65)) := (Ext.refl _).alloc _
          have bq := Box.new wr 65 #[.bool ia, .bool iw, .int .i64 ifr]
          have own7 := own6.alloc (.cells #[.bool ia, .bool iw, .int .i64 ifr] 65)
          have b7 := b6.ext xq
          have bm7 := bm6.ext xq
          have hQm : wr.heap.size ≠ Bm := by have := own6.lt; omega
          generalize wr.alloc (.cells #[.bool ia, .bool iw, .int .i64 ifr] 65) = wq at *
          have q0 := bq.cell 0
          have q1 := bq.cell 1
          have q2 := bq.cell 2
          rcases hpg with ⟨rfl, rfl, rfl⟩ | ⟨rfl, hs3, hf0, hf1, hus⟩
          · clear hmp hms
            go_wp2_with fail
            go_roundw
            case rel => exact ⟨j + 1, by omega, by go_num, ⟨D2, own7.mono (by omega), hsk rfl⟩, grown_later HG6.out xq⟩
            case measure => simp [intOf]; omega
          · obtain ⟨f, rfl⟩ : ∃ f : Nat, ifr = (f : Int) := ⟨ifr.toNat, by omega⟩
            have hat := (HMT2.out f).2 (hms _ rfl rfl hus)
            have hfb : f ≤ 100000 := by omega
            have HMp := Lib.hid (hmp f rfl rfl (intKeyed.key (key_i64 f hfb)))
            have d2 : y.state = 3 → False := hs3
            have s3 : (y.state == 3) = false := by simpa using hs3
            have s4 : decide ((f : Int) < 0) = false := decide_eq_false (by omega)
            have s5 : decide ((m.fr.n : Int) ≤ (f : Int)) = false := decide_eq_false (by omega)
            have s6 : decide (m.fr.n ≤ f) = false := decide_eq_false (by omega)
            have c2 : wq.cell? ⟨P3, 2, none⟩ = some (.int .i64 y.state) := b7.cell 2
            have c4 : wq.cell? ⟨G, 4, none⟩ = some (.slice m.fr.A m.fr.n m.fr.c) := bm7.cell 4
            have hlk := look_bool Bm (16 * k + j) f D2 false own7 hfb hat
            clear hmp hms hsk hs3 d2 hus hf0 hf1 hat
            go_wp2_with (first
              | (at_mapUpdate; refine wpList_mapUpdate_own _ rfl _ _ _ 126 rfl 3 4 intKeyed Tryz.underlying126 (plainElem (H := Unit) Tryz.prog 4) Bm (16 * k + j) _ rfl own7 (by unfold maxLen; omega) _ _ (.int .i64 (f : Int)) rfl rfl (key_i64 f hfb) (.lit (.bool true)) [] (plainElem_bool Tryz.underlying4 true) ?_; intro w8 own8 hg8))
            go_roundw
            case rel => exact ⟨j + 1, by omega, by go_num, ⟨_, own8, HMp.out⟩, grown_then (grown_later HG6.out xq) hg8 (fun j e => .inr e)⟩
            case measure => simp [intOf]; omega
        · have hjn16 : ¬ (j : Int) < 16 := by omega
          have HJ16 := Lib.hid (show j = 16 by omega)
          have HMT3 := Lib.hid (show MetD d.pr k 16 D2 by rw [← HJ16.out]; exact HMT2.out)
          clear HMput HMsk HMTs HPG HMT2
          have HG7 := Lib.hid (grown_then HG5.out HG6.out (fun j e => .inr e))
          go_upto_region 22 with (first
            | (refine wp_ld_fds (.tmp 84) rfl rfl P3 72 y rfl b6 ?_))
          generalize hwz : wr = wz at *
          clear hwz
          go_loopw [86] (fun i wx => ∃ j : Nat, j ≤ 8 ∧ i = .int .i64 j ∧ Ext wz wx) (fun i _ => 8 - (intOf i).toNat)
          case atStart => exact ⟨0, by omega, rfl, Ext.refl _⟩
          case round =>
            obtain ⟨j, hj, rfl, xj⟩ := hrel
            by_cases hj2 : j < 8
            · have hji : (j : Int) < 8 := by omega
              obtain ⟨hfd, hdead⟩ := HFD.out j hj2
              go_upto_region 24 with (refine wp_idx_fd (.tmp 85) (.tmp 86) rfl rfl y j rfl rfl hj2 ?_)
              generalize y.fk j = ik at *
              generalize y.fn j = ifn at *
              generalize y.fp j = ifp at *
              have xq : Ext wr (wr.alloc (.cells #[.int .i64 ik, .int .i64 ifn, .int .i64 ifp] 69)) := (Ext.refl _).alloc _
              have bq := Box.new wr 69 #[.int .i64 ik, .int .i64 ifn, .int .i64 ifp]
              have xz := xj.trans xq
              generalize wr.alloc (.cells #[.int .i64 ik, .int .i64 ifn, .int .i64 ifp] 69) = wq at *
              have q0 : wq.cell? ⟨wr.heap.size, 0, none⟩ = some (.int .i64 ik) := bq.cell 0
              have q1 := bq.cell 1
              have q2 := bq.cell 2
              have c2 : wq.cell? ⟨P3, 2, none⟩ = some (.int .i64 y.state) := (b6.ext xz).cell 2
              have bm7 := bm6.ext xz
              have HMq := Lib.hid (hi.ext (xx6.trans xz))
              clear bq xq
              by_cases hk0 : ik = 0
              · have hz : ifn = 0 ∧ ifp = 0 := by
                  rcases hfd with ⟨_, h1, h2⟩ | ⟨h, _⟩ | ⟨h, _⟩
                  · exact ⟨h1, h2⟩
                  · omega
                  · omega
                obtain ⟨rfl, rfl⟩ := hz
                subst hk0
                clear hfd hdead
                go_wp2_with fail
                go_roundw
                case rel => exact ⟨j + 1, by omega, by go_num, xz⟩
                case measure => simp [intOf]; omega
              · have hs3 : (y.state == 3) = false := by
                  have : y.state ≠ 3 := fun h => hk0 (hdead h)
                  simpa using this
                have hk1 : (ik == 0) = false := by simpa using hk0
                have HFD2 := Lib.hid hfd
                have HK0 := Lib.hid hk0
                clear hfd hdead hk0
                go_wp2_with (first
                  | (refine wp_ld_mac_g (.tmp 1) rfl rfl G m 30 rfl bm7 ?_)
                  | (go_at_call 92; refine (HFl.out _ _ _ _ HMq.out HFD2.out HK0.out).mono ?_; rintro e w9 ⟨rfl, x9⟩))
                go_roundw
                case rel => exact ⟨j + 1, by omega, by go_num, xz.trans x9⟩
                case measure => simp [intOf]; omega
            · have hjn8 : ¬ (j : Int) < 8 := by omega
              go_wp2_with fail
              go_roundw
              case rel => exact ⟨k + 1, by omega, by go_num, by rw [HLN.out], ⟨D2, (ownsMap_ext own6 xj).mono (by omega), HMpr.out _ HMT3.out⟩, grown_later HG7.out xj⟩
              case measure => simp [intOf]; omega
    · obtain rfl : k = d.pr.length := by omega
      go_wp2_with fail
      go_ret
      exact ⟨rfl, xk⟩
end Go.Proofs.YtkokmnaicfdjaaaGreatDoor
/- state.Check on a machine that may be: its volume; all points. -/
namespace Go.Proofs.YtkokmnaicfdjaaaGreatDoor
set_option linter.unusedVariables false
set_option linter.unusedSimpArgs false
open Go.RowKit

set_option maxHeartbeats 4000000 in
set_option maxRecDepth 100000 in
theorem volume_ok (m : Mac) (d : MacD) (w : World) (hi : MacIn w m d) (h : DiskOk d) :
    Calls Tryz.prog 45 #[.agg m.cells] w fun e w' => e = .returned (.int .i64 0) ∧ Ext w w' := by
  obtain ⟨hj, hdl, hdi, I, hgood⟩ := h
  have hdrv : drvE d.bl d.pe = 0 := by
    unfold jrnE at hj
    split at hj
    · rename_i h; exact absurd hj h
    · rename_i h; exact Decidable.of_not_not h
  have hlen := homeP_len hj
  have hok := drvOk_of hj
  have hleast := hok.least
  have HC := Lib.hid (fun w h1 h2 => dcheck_any m.bl.A m.pe.A m.bl.n m.bl.c m.pe.n m.pe.c m.dleft d.bl d.pe w h1 h2 (maxLen_le hi.pek.2.1))
  have HH := Lib.hid (fun w h1 h2 => home_any m.bl.A m.pe.A m.bl.n m.bl.c m.pe.n m.pe.c m.dleft d.bl d.pe w h1 h2 (maxLen_le hi.pek.2.1) hi.blk.2.2)
  rw [hdrv] at HC
  have HO := Lib.hid (fun A n c w h => of_yes A n c (viewP d.bl d.pe d.di) I w h hgood)
  have x0 := (Ext.refl w).alloc (.cells m.cells 30)
  have bm := Box.new w 30 m.cells
  have HM := Lib.hid (hi.ext x0)
  obtain ⟨hd1, hd2⟩ := hi.di.wrs
  have HD1 := Lib.hid hd1
  have HDI := Lib.hid hdi
  have HV := Lib.hid (show viewP d.bl d.pe d.di = d.di.foldl layP (homeP d.bl d.pe) from rfl)
  have hH33 : 0 < (homeP d.bl d.pe).length := by omega
  have HHL := Lib.hid hlen
  have hmost : (homeP d.bl d.pe).length ≤ 1000 := by have := hok.most; omega
  clear hi hj hdrv hgood hok hdi hlen hleast hd1
  go_enter Tryz.func45, Tryz.ntmps45
  go_upto_region 1 with fail
  generalize w.alloc (.cells m.cells 30) = w1 at *
  go_upto_region 4 with (first
    | (refine wp_ld_drvM (.tmp 10) rfl rfl w.heap.size m 30 rfl bm ?_)
    | (go_at_call 85; refine (HC.out _ HM.out.bl.strs HM.out.pe.wrs).mono ?_; rintro e w2 ⟨rfl, x2⟩))
  have bm2 := bm.ext x2
  have xx2 := x0.trans x2
  go_upto_region 5 with (first
    | (refine wp_ld_drvM (.tmp 16) rfl rfl w.heap.size m 30 rfl bm2 ?_)
    | (go_at_call 22; refine (HH.out _ (HM.out.ext x2).bl.strs (HM.out.ext x2).pe.wrs).mono ?_; rintro e w3 ⟨A1, c1, rfl, x3, own1⟩))
  have bm3 := bm2.ext x3
  have xx3 := xx2.trans x3
  have hGw : w.heap.size < w2.heap.size := bm2.lt
  have c16 : w3.cell? ⟨w.heap.size, 16, none⟩ = some (.slice m.di.A m.di.n m.di.c) := bm3.cell 16
  have own1' := own_base own1 (base' := w.heap.size) (by omega)
  have d32 : decide (32 < (m.di.n : Int)) = false := by have := HD1.out; simp; omega
  clear bm bm2 x2 x3 xx2 own1 HC HH x0
  generalize homeP d.bl d.pe = H at *
  have hH0 : ((H.length : Int) == 0) = false := by rw [beq_eq_false_iff_ne]; omega
  have hln : m.di.n = d.di.length := HD1.out
  go_upto_region 11 with fail
  clear d32 hH0 c16
  have HOv := Lib.hid HO.out
  have HVl := Lib.hid HV.out
  have HDL := Lib.hid (fun k => foldl_lay_len (d.di.take k) H)
  have HTk := Lib.hid (fun k (h : k < d.di.length) => foldl_lay_take h H)
  have HLK := Lib.hid (show ∀ (k : Nat) (h : k < d.di.length), 0 ≤ (d.di.getD k default).1 ∧ (d.di.getD k default).1 < (H.length : Int) ∧ (d.di.getD k default).2.length = 128 ∧ d.di[k] = d.di.getD k default ∧ decide ((d.di.getD k default).1 ≤ (if 0 < k then (d.di.getD (k - 1) default).1 else -1)) = false from fun k h => by
    have e : d.di.getD k default = d.di[k] := by rw [List.getD_eq_getElem?_getD, List.getElem?_eq_getElem h]; rfl
    obtain ⟨h1, h2, h3, h4⟩ := HDI.out k h
    rw [e]
    refine ⟨h1, by rw [HHL.out]; exact h2, h3, rfl, decide_eq_false ?_⟩
    split
    · rename_i h0
      have := h4 h0
      rw [List.getD_eq_getElem?_getD, List.getElem?_eq_getElem (by omega)]
      show ¬ d.di[k].1 ≤ (d.di[k - 1]'(by omega)).1
      omega
    · omega)
  clear HV HO HDI HHL
  generalize viewP d.bl d.pe d.di = V at *
  generalize d.di = l at *
  generalize hdA : m.di.A = dA at hd2 ⊢
  generalize hdn : m.di.n = dn at hd2 hln ⊢
  clear hdA hdn HD1
  subst hln
  go_loopw [5, 29] (fun s i wx => ∃ k : Nat, k ≤ l.length ∧ i = .int .i64 k ∧ s = .int .i64 (if 0 < k then (l.getD (k - 1) default).1 else -1) ∧ Ext w wx ∧ wx.ownsRow w.heap.size 9 1 (.slice A1 H.length c1) H.length (strL ((l.take k).foldl layP H))) (fun _ i _ => l.length - (intOf i).toNat)
  case atStart => exact ⟨0, by omega, rfl, rfl, xx3, own1'⟩
  case round =>
    obtain ⟨k, hk, rfl, rfl, xk, ok⟩ := hrel
    by_cases hlt : k < l.length
    · obtain ⟨b2, o2, rfl, hcell⟩ := hd2 (by omega)
      have e1 := xk.keep (hcell k hlt).1
      have e2 := xk.keep (hcell k hlt).2
      obtain ⟨h0, h1, h128, hge, hlast⟩ := HLK.out k hlt
      have HT := Lib.hid (HTk.out k hlt)
      have HVl := Lib.hid (HDL.out k)
      have HN := Lib.hid (show (if 0 < k + 1 then (l.getD (k + 1 - 1) default).1 else -1) = (l.getD k default).1 by rw [if_pos (by omega), Nat.add_sub_cancel])
      have hki : (k : Int) < (l.length : Int) := by omega
      have hz := str_size
      rw [hge] at e1 e2 HT
      clear hcell hge
      generalize (if 0 < k then (l.getD (k - 1) default).1 else (-1 : Int)) = last at *
      generalize l.getD k default = y at *
      generalize (l.take k).foldl layP H = W at *
      have d1 : decide ((H.length : Int) ≤ y.1) = false := decide_eq_false (by omega)
      have d2 : ((y.2.length : Int) != 128) = false := by rw [h128]; rfl
      obtain ⟨y1, y2⟩ := y
      simp only at h0 h1 h128 d1 d2 e1 e2 hlast HN
      obtain ⟨q, rfl⟩ : ∃ q : Nat, y1 = q := ⟨y1.toNat, by omega⟩
      have hqN : q < H.length := by omega
      have hqI : (q : Int) < (H.length : Int) := h1
      have okA := own_ext ok ((Ext.refl wr).alloc (.cells #[.int .i64 (q : Int), .string (str y2)] 57))
      have HY := Lib.hid (show layP W ((q : Int), y2) = W.set q y2 by unfold layP; simp only; rw [if_pos (by have := HVl.out; omega)]; rfl)
      obtain ⟨g, cap, hgc, hg, _⟩ := Strs.own' ok (by omega)
      injection hgc with hgA _ hgc
      subst hgA; subst hgc
      have kc : (wr.alloc (.cells #[.int .i64 (q : Int), .string (str y2)] 57)).cell? ⟨g, q, none⟩ = some (.string (str (W.getD q []))) := (okA.cellAt q (by omega)).trans (by have := HVl.out; simp [strL, this, hqN, List.getD_eq_getElem?_getD])
      have kf := okA.frozenAt q
      clear h0 h1 h128
      go_wp2_with fail
      go_roundw
      case rel => exact ⟨k + 1, by omega, by go_num, by rw [HN.out], (xk.alloc _).setCell hg _, by rw [HT.out, HY.out]; exact own_set okA _⟩
      case measure => simp [intOf]; omega
    · have hlt2 : ¬ (k : Int) < (l.length : Int) := by omega
      obtain rfl : k = l.length := by omega
      rw [List.take_length, ← HVl.out] at ok
      have hVl : V.length = H.length := by rw [HVl.out]; exact foldl_lay_len _ _
      rw [← hVl] at ok ⊢
      have hs := Strs.own ok
      clear hVl HVl HTk HDL HLK ok
      go_wp2_with (first
        | (go_at_call 39; refine (HOv.out _ _ _ _ hs).mono ?_; rintro e w6 ⟨rfl, x6⟩)
        | (rw [geomV_eq]; refine wp_st_geom (.tmp 8) (.tmp 62) rfl rfl w6.heap.size _ [0, 0, 0, 0, 0, 0] 88 rfl rfl (Box.new _ _ _) rfl rfl ?_; intro w7 b7 g7))
      all_goals
        go_ret
        exact ⟨rfl, ((xk.trans x6).alloc _).grown g7 (fun j e => by cases e; exact (xk.trans x6).size)⟩
end Go.Proofs.YtkokmnaicfdjaaaGreatDoor
/- state.Check of a machine that may be: all points. -/
namespace Go.Proofs.YtkokmnaicfdjaaaGreatDoor
set_option linter.unusedVariables false
set_option linter.unusedSimpArgs false
open Go.RowKit

set_option maxHeartbeats 4000000 in
set_option maxRecDepth 100000 in
theorem scheck_ok (m : Mac) (d : MacD) (w : World) (hi : MacIn w m d) (h : StateOk m d) :
    Calls Tryz.prog 24 #[.agg m.cells] w fun e w' => e = .returned (.int .i64 0) ∧ Ext w w' := by
  have H1 := Lib.hid (fun w => numbers_ok m w h.rest.nums)
  have H2 := Lib.hid (fun w hi => frames_ok m d w hi h.rest.frn h.rest.fr)
  have H3 := Lib.hid (fun w hi => procs_ok m d w hi h.rest.prn h.rest.pin h.rest.pr h.rest.frn.2)
  have H4 := Lib.hid (fun w hi => pipes_ok m d w hi h.rest.pin h.rest.pi)
  have H5 := Lib.hid (fun w => texts_ok m w h.rest.texts)
  have H6 := Lib.hid (fun w hi => volume_ok m d w hi h.disk)
  have x0 := (Ext.refl w).alloc (.cells m.cells 30)
  have bm := Box.new w 30 m.cells
  have HM := Lib.hid (hi.ext x0)
  clear h hi
  go_enter Tryz.func24, Tryz.ntmps24
  go_upto_region 1 with fail
  generalize w.alloc (.cells m.cells 30) = w1 at *
  generalize w.heap.size = G at *
  go_upto_region 2 with fail
  have xm : Ext w1 (w1.alloc (.cells #[.func (.func 40) #[] #[], .func (.func 41) #[] #[], .func (.func 42) #[] #[], .func (.func 43) #[] #[], .func (.func 44) #[] #[], .func (.func 45) #[] #[]] 33)) := (Ext.refl _).alloc _
  have bf := Box.new w1 33 #[.func (.func 40) #[] #[], .func (.func 41) #[] #[], .func (.func 42) #[] #[], .func (.func 43) #[] #[], .func (.func 44) #[] #[], .func (.func 45) #[] #[]]
  have bm2 := bm.ext xm
  have HM2 := Lib.hid (HM.out.ext xm)
  have xx := x0.trans xm
  generalize hw2 : w1.alloc _ = w2 at *
  generalize w1.heap.size = G1 at *
  clear hw2 bm HM x0 xm
  go_loopw [8] (fun i wx => ∃ k : Nat, k ≤ 6 ∧ i = .int .i64 k ∧ Ext w2 wx) (fun i _ => 6 - (intOf i).toNat)
  case atStart => exact ⟨0, by omega, rfl, Ext.refl _⟩
  case round =>
    obtain ⟨k, hk, rfl, xk⟩ := hrel
    have bmk := bm2.ext xk
    have bfk := bf.ext xk
    have HMk := Lib.hid (HM2.out.ext xk)
    by_cases hlt : k < 6
    · have hki : (k : Int) < 6 := by omega
      have HX := Lib.hid xk
      clear xk bm2 bf HM2
      rcases (by omega : k = 0 ∨ k = 1 ∨ k = 2 ∨ k = 3 ∨ k = 4 ∨ k = 5) with h0 | h0 | h0 | h0 | h0 | h0
      · have hf : wr.cell? ⟨G1, k, none⟩ = some (.func (.func 40) #[] #[]) := by rw [h0]; exact bfk.cell 0
        clear h0 bfk
        go_wp2_with (first
          | (refine wp_ld_mac (.tmp 1) rfl rfl G _ _ rfl bmk rfl ?_)
          | (go_at_call 40; refine (H1.out _).mono ?_; rintro e w3 ⟨rfl, x3⟩))
        go_roundw
        case rel => exact ⟨k + 1, by omega, by go_num, HX.out.trans x3⟩
        case measure => simp [intOf]; omega
      · have hf : wr.cell? ⟨G1, k, none⟩ = some (.func (.func 41) #[] #[]) := by rw [h0]; exact bfk.cell 1
        clear h0 bfk
        go_wp2_with (first
          | (refine wp_ld_mac (.tmp 1) rfl rfl G _ _ rfl bmk rfl ?_)
          | (go_at_call 41; refine (H2.out _ HMk.out).mono ?_; rintro e w3 ⟨rfl, x3⟩))
        go_roundw
        case rel => exact ⟨k + 1, by omega, by go_num, HX.out.trans x3⟩
        case measure => simp [intOf]; omega
      · have hf : wr.cell? ⟨G1, k, none⟩ = some (.func (.func 42) #[] #[]) := by rw [h0]; exact bfk.cell 2
        clear h0 bfk
        go_wp2_with (first
          | (refine wp_ld_mac (.tmp 1) rfl rfl G _ _ rfl bmk rfl ?_)
          | (go_at_call 42; refine (H3.out _ HMk.out).mono ?_; rintro e w3 ⟨rfl, x3⟩))
        go_roundw
        case rel => exact ⟨k + 1, by omega, by go_num, HX.out.trans x3⟩
        case measure => simp [intOf]; omega
      · have hf : wr.cell? ⟨G1, k, none⟩ = some (.func (.func 43) #[] #[]) := by rw [h0]; exact bfk.cell 3
        clear h0 bfk
        go_wp2_with (first
          | (refine wp_ld_mac (.tmp 1) rfl rfl G _ _ rfl bmk rfl ?_)
          | (go_at_call 43; refine (H4.out _ HMk.out).mono ?_; rintro e w3 ⟨rfl, x3⟩))
        go_roundw
        case rel => exact ⟨k + 1, by omega, by go_num, HX.out.trans x3⟩
        case measure => simp [intOf]; omega
      · have hf : wr.cell? ⟨G1, k, none⟩ = some (.func (.func 44) #[] #[]) := by rw [h0]; exact bfk.cell 4
        clear h0 bfk
        go_wp2_with (first
          | (refine wp_ld_mac (.tmp 1) rfl rfl G _ _ rfl bmk rfl ?_)
          | (go_at_call 44; refine (H5.out _).mono ?_; rintro e w3 ⟨rfl, x3⟩))
        go_roundw
        case rel => exact ⟨k + 1, by omega, by go_num, HX.out.trans x3⟩
        case measure => simp [intOf]; omega
      · have hf : wr.cell? ⟨G1, k, none⟩ = some (.func (.func 45) #[] #[]) := by rw [h0]; exact bfk.cell 5
        clear h0 bfk
        go_wp2_with (first
          | (refine wp_ld_mac (.tmp 1) rfl rfl G _ _ rfl bmk rfl ?_)
          | (go_at_call 45; refine (H6.out _ HMk.out).mono ?_; rintro e w3 ⟨rfl, x3⟩))
        go_roundw
        case rel => exact ⟨k + 1, by omega, by go_num, HX.out.trans x3⟩
        case measure => simp [intOf]; omega
    · have hlt2 : ¬ (k : Int) < 6 := by omega
      go_wp2_with fail
      go_ret
      exact ⟨rfl, xx.trans xk⟩
end Go.Proofs.YtkokmnaicfdjaaaGreatDoor
