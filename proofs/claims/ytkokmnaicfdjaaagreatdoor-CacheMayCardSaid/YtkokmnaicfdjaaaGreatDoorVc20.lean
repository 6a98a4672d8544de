/- Rows, drives and machines that are one are the same. -/
import Derived.Test.YtkokmnaicfdjaaaGreatDoorVc14
import Derived.Test.YtkokmnaicfdjaaaGreatDoorVc15
import Derived.Test.YtkokmnaicfdjaaaGreatDoorVc3
import Derived.Test.YtkokmnaicfdjaaaGreatDoorVc12
import Derived.BigQuiet
namespace Go.Proofs.YtkokmnaicfdjaaaGreatDoor
set_option linter.unusedVariables false
set_option linter.unusedSimpArgs false
open Go.RowKit

theorem wp_box_row {P : Program} {ops : Array Oper} {rest : List Oper} {o : Oper} {a : Act} {w : World} {Q : Exit → Act → World → Prop} (T : TypeId) (x : Operand) (hgd : o.guard = none) (ho : o.op = .box T x) (cs : Array Value) (hx : a.eval x = .agg cs)
    (hK : ∀ w', Box w' w.heap.size T cs → Ext w w' → w'.heap.size = w.heap.size + 1 → wpList P ops Q rest (a.put o.dst (.pointer (some ⟨w.heap.size, 0, none⟩))) w') : wpList P ops Q (o :: rest) a w := by
  refine wpList_plain hgd fun K hK' => ?_
  have h := hK (w.alloc (.cells cs T)) (Box.new _ _ _) ((Ext.refl w).alloc _) (World.size_alloc _ _)
  unfold Oper.wp execOp
  simp only [ho, hx]
  have e : (Instr.box T (.agg cs)).run P w = .ok (.pointer (some ⟨w.heap.size, 0, none⟩)) (w.alloc (.cells cs T)) := by
    simp [Instr.box, newVar, newRow, newObj, Value.cells]
    rfl
  simp only [Sem.run_bind, e, Result.andThen_ok]
  exact hK' _ _ h
set_option maxHeartbeats 1000000 in
set_option maxRecDepth 100000 in
theorem writes_yes (s t : Sl) (l : List WrT) (w : World) (ha : RowOf wrL w s.A s.n l) (hb : RowOf wrL w t.A t.n l) (hn : s.n ≤ 100000) :
    Calls Tryz.prog 18 #[.slice s.A s.n s.c, .slice t.A t.n t.c] w fun e w' => e = .returned (.bool true) ∧ Ext w w' := by
  obtain ⟨A, n, c⟩ := s
  obtain ⟨A', n', c'⟩ := t
  simp only at *
  obtain rfl : n = l.length := ha.1
  obtain rfl : n' = l.length := hb.1
  have HA := Lib.hid ha.wrs.2
  have HB := Lib.hid hb.wrs.2
  have hz := str_size
  clear ha hb
  go_enter Tryz.func18, Tryz.ntmps18
  go_wp2_with fail
  go_loopw [5] (fun i wx => ∃ k : Nat, k ≤ l.length ∧ i = .int .i64 k ∧ Ext w wx) (fun i _ => l.length - (intOf i).toNat)
  case atStart => exact ⟨0, by omega, rfl, Ext.refl _⟩
  case round =>
    obtain ⟨k, hk, rfl, xk⟩ := hrel
    by_cases hlt : k < l.length
    · obtain ⟨b, o, rfl, hc⟩ := HA.out (by omega)
      obtain ⟨b', o', rfl, hc'⟩ := HB.out (by omega)
      have c1 := xk.keep (hc k hlt).1
      have c2 := xk.keep (hc k hlt).2
      have c3 := xk.keep (hc' k hlt).1
      have c4 := xk.keep (hc' k hlt).2
      have hki : (k : Int) < (l.length : Int) := by omega
      clear hc hc'
      generalize l[k] = y at *
      go_wp2_with fail
      go_quiet (fail)
      go_wp2_with fail
      go_roundw
      case rel => exact ⟨k + 1, by omega, by go_num, xk.drewN _⟩
      case measure => simp [intOf]; omega
    · obtain rfl : k = l.length := by omega
      go_wp2_with fail
      go_ret
      exact ⟨rfl, xk⟩
set_option maxHeartbeats 1000000 in
set_option maxRecDepth 100000 in
theorem pipes_yes (s t : Sl) (l : List WrT) (w : World) (ha : RowOf wrL w s.A s.n l) (hb : RowOf wrL w t.A t.n l) (hn : s.n ≤ 100000) :
    Calls Tryz.prog 71 #[.slice s.A s.n s.c, .slice t.A t.n t.c] w fun e w' => e = .returned (.bool true) ∧ Ext w w' := by
  obtain ⟨A, n, c⟩ := s
  obtain ⟨A', n', c'⟩ := t
  simp only at *
  obtain rfl : n = l.length := ha.1
  obtain rfl : n' = l.length := hb.1
  have HA := Lib.hid ha.wrs.2
  have HB := Lib.hid hb.wrs.2
  have hz := str_size
  clear ha hb
  go_enter Tryz.func71, Tryz.ntmps71
  go_wp2_with fail
  go_loopw [5, 13] (fun _ i wx => ∃ k : Nat, k ≤ l.length ∧ i = .int .i64 k ∧ Ext w wx) (fun _ i _ => l.length - (intOf i).toNat)
  case atStart => exact ⟨0, by omega, rfl, Ext.refl _⟩
  case round =>
    obtain ⟨k, hk, rfl, xk⟩ := hrel
    by_cases hlt : k < l.length
    · obtain ⟨b, o, rfl, hc⟩ := HA.out (by omega)
      obtain ⟨b', o', rfl, hc'⟩ := HB.out (by omega)
      have c1 := xk.keep (hc k hlt).1
      have c2 := xk.keep (hc k hlt).2
      have c3 := xk.keep (hc' k hlt).1
      have c4 := xk.keep (hc' k hlt).2
      have hki : (k : Int) < (l.length : Int) := by omega
      clear hc hc'
      generalize l[k] = y at *
      go_wp2_with fail
      go_quiet (fail)
      go_wp2_with fail
      go_roundw
      case rel => exact ⟨k + 1, by omega, by go_num, xk.drewN _⟩
      case measure => simp [intOf]; omega
    · obtain rfl : k = l.length := by omega
      go_wp2_with fail
      go_ret
      exact ⟨rfl, xk⟩
set_option maxHeartbeats 1000000 in
set_option maxRecDepth 100000 in
theorem same01_yes (s t : Sl) (l : List (List UInt8)) (w : World) (ha : RowOf stL w s.A s.n l) (hb : RowOf stL w t.A t.n l) (hn : s.n ≤ 100000) :
    Calls Tryz.prog 70 #[.slice s.A s.n s.c, .slice t.A t.n t.c] w fun e w' => e = .returned (.bool true) ∧ Ext w w' := by
  obtain ⟨A, n, c⟩ := s
  obtain ⟨A', n', c'⟩ := t
  simp only at *
  obtain rfl : n = l.length := ha.1
  obtain rfl : n' = l.length := hb.1
  have HA := Lib.hid ha.strs.2
  have HB := Lib.hid hb.strs.2
  have hz := str_size
  clear ha hb
  go_enter Tryz.func70, Tryz.ntmps70
  go_wp2_with fail
  go_loopw [5, 13] (fun _ i wx => ∃ k : Nat, k ≤ l.length ∧ i = .int .i64 k ∧ Ext w wx) (fun _ i _ => l.length - (intOf i).toNat)
  case atStart => exact ⟨0, by omega, rfl, Ext.refl _⟩
  case round =>
    obtain ⟨k, hk, rfl, xk⟩ := hrel
    by_cases hlt : k < l.length
    · obtain ⟨b, o, rfl, hc⟩ := HA.out (by omega)
      obtain ⟨b', o', rfl, hc'⟩ := HB.out (by omega)
      have c1 := xk.keep (hc k hlt)
      have c3 := xk.keep (hc' k hlt)
      have hki : (k : Int) < (l.length : Int) := by omega
      clear hc hc'
      generalize l[k] = y at *
      go_wp2_with fail
      go_quiet (fail)
      go_wp2_with fail
      go_roundw
      case rel => exact ⟨k + 1, by omega, by go_num, xk.drewN _⟩
      case measure => simp [intOf]; omega
    · obtain rfl : k = l.length := by omega
      go_wp2_with fail
      go_ret
      exact ⟨rfl, xk⟩
section
variable {C : World → Prop} {o : Oper} {a : Act} {K : Act → Prop}
theorem quiet_ld_mid {P : Program} (ty : TypeId) (x : Operand) (h : o.op = .load ty x) (b i : Nat) (hx : a.eval x = .pointer (some ⟨b, i, none⟩)) (cs : List Value) (d : TypeDesc) (hc : ∀ w, C w → w.rangeAt b i cs)
    (hu : P.underlying ty = some d) (hd : d.isRow = true) (hi : (P.info? ty).map (·.size) = some cs.length) (hk : K (a.put o.dst (.agg cs.toArray))) : o.quiet P a C K :=
  ⟨_, fun w hw => by
    unfold Oper.quietAt execOp
    simp only [h, hx, Instr.loadAt, Instr.sureAddr, Sem.run_bind, Sem.run_pure, Result.andThen_ok, run_loadVar_mid w b i ty cs d (hc w hw) hu hd hi]
    exact ⟨rfl, rfl⟩, hk⟩
theorem quiet_ld_prc (x : Operand) (h : o.op = .load 72 x) (b i : Nat) (hx : a.eval x = .pointer (some ⟨b, i, none⟩)) (p : PrT) (hc : ∀ w, C w → w.rangeAt b i (prL p)) (hk : K (a.put o.dst (.agg (prL p).toArray))) : o.quiet Tryz.prog a C K :=
  quiet_ld_mid _ x h b i hx _ _ hc Tryz.underlying72 rfl (by rw [prL_len]; exact prSize) hk
end
set_option maxHeartbeats 4000000 in
set_option maxRecDepth 100000 in
theorem same25_yes (m : Mac) (fr pr pi : Sl) (d : MacD) (w : World) (h : MacIn w m d) (h' : MacIn w ({ m with fr := fr, pr := pr, pi := pi } : Mac) d) (hs : MacSmall m) (hs' : MacSmall ({ m with fr := fr, pr := pr, pi := pi } : Mac)) :
    Calls Tryz.prog 35 #[.agg ({ m with fr := fr, pr := pr, pi := pi } : Mac).cells, .agg m.cells] w fun e w' => e = .returned (.int .i64 1) ∧ Ext w w' := by
  have HF := Lib.hid (fun w a b => same01_yes fr m.fr d.fr w a b hs'.fr)
  have HP := Lib.hid (fun w a b => pipes_yes pi m.pi d.pi w a b hs'.pi)
  have dPr : ((pr.n : Int) != (m.pr.n : Int)) = false := by have := h'.pr.1; have := h.pr.1; simp at *; omega
  have HM := Lib.hid h
  have HM' := Lib.hid h'
  have hpn := hs.pr
  have hpn' := hs'.pr
  have hdn := hs.di
  have HL1 := Lib.hid (show m.pr.n = d.pr.length from h.pr.1)
  have HL1' := Lib.hid (show pr.n = d.pr.length from h'.pr.1)
  have HL2 := Lib.hid (show m.di.n = d.di.length from h.di.1)
  have HW := Lib.hid h.di.wrs.2
  clear h h' hs hs'
  go_enter Tryz.func35, Tryz.ntmps35
  go_wp2_with (first
    | (refine wp_box_row 30 (.tmp 0) rfl rfl ({ m with fr := fr, pr := pr, pi := pi } : Mac).cells rfl ?_; intro w1 b1 x1 z1)
    | (refine wp_box_row 30 (.tmp 1) rfl rfl m.cells rfl ?_; intro w2 b2 x2 z2; rw [z1] at b2; clear z2; have c1 := b1.ext x2; clear b1; have ka0 : w2.cell? ⟨w.heap.size, 0, none⟩ = some (.int .u64 m.clock) := c1.cell 0; have ka1 : w2.cell? ⟨w.heap.size, 1, none⟩ = some (.int .i64 m.quantum) := c1.cell 1; have ka2 : w2.cell? ⟨w.heap.size, 2, none⟩ = some (.int .i64 m.cur) := c1.cell 2; have ka3 : w2.cell? ⟨w.heap.size, 3, none⟩ = some (.int .i64 m.left) := c1.cell 3; have ka4 : w2.cell? ⟨w.heap.size, 4, none⟩ = some (.slice fr.A fr.n fr.c) := c1.cell 4; have ka5 : w2.cell? ⟨w.heap.size, 5, none⟩ = some (.slice pr.A pr.n pr.c) := c1.cell 5; have ka6 : w2.cell? ⟨w.heap.size, 6, none⟩ = some (.int .i64 m.next) := c1.cell 6; have ka7 : w2.cell? ⟨w.heap.size, 7, none⟩ = some (.string (str m.init)) := c1.cell 7; have ka8 : w2.cell? ⟨w.heap.size, 8, none⟩ = some (.slice pi.A pi.n pi.c) := c1.cell 8; have ka9 : w2.cell? ⟨w.heap.size, 9, none⟩ = some (.int .i64 m.newPipe) := c1.cell 9; have ka10 : w2.cell? ⟨w.heap.size, 10, none⟩ = some (.string (str m.inn)) := c1.cell 10; have ka11 : w2.cell? ⟨w.heap.size, 11, none⟩ = some (.bool m.fin) := c1.cell 11; have ka12 : w2.cell? ⟨w.heap.size, 12, none⟩ = some (.int .u64 m.told) := c1.cell 12; have ka13 : w2.cell? ⟨w.heap.size, 13, none⟩ = some (.slice m.bl.A m.bl.n m.bl.c) := c1.cell 13; have ka14 : w2.cell? ⟨w.heap.size, 14, none⟩ = some (.slice m.pe.A m.pe.n m.pe.c) := c1.cell 14; have ka15 : w2.cell? ⟨w.heap.size, 15, none⟩ = some (.int .i64 m.dleft) := c1.cell 15; have ka16 : w2.cell? ⟨w.heap.size, 16, none⟩ = some (.slice m.di.A m.di.n m.di.c) := c1.cell 16; have la0 : w2.cell? ⟨w.heap.size + 1, 0, none⟩ = some (.int .u64 m.clock) := b2.cell 0; have la1 : w2.cell? ⟨w.heap.size + 1, 1, none⟩ = some (.int .i64 m.quantum) := b2.cell 1; have la2 : w2.cell? ⟨w.heap.size + 1, 2, none⟩ = some (.int .i64 m.cur) := b2.cell 2; have la3 : w2.cell? ⟨w.heap.size + 1, 3, none⟩ = some (.int .i64 m.left) := b2.cell 3; have la4 : w2.cell? ⟨w.heap.size + 1, 4, none⟩ = some (.slice m.fr.A m.fr.n m.fr.c) := b2.cell 4; have la5 : w2.cell? ⟨w.heap.size + 1, 5, none⟩ = some (.slice m.pr.A m.pr.n m.pr.c) := b2.cell 5; have la6 : w2.cell? ⟨w.heap.size + 1, 6, none⟩ = some (.int .i64 m.next) := b2.cell 6; have la7 : w2.cell? ⟨w.heap.size + 1, 7, none⟩ = some (.string (str m.init)) := b2.cell 7; have la8 : w2.cell? ⟨w.heap.size + 1, 8, none⟩ = some (.slice m.pi.A m.pi.n m.pi.c) := b2.cell 8; have la9 : w2.cell? ⟨w.heap.size + 1, 9, none⟩ = some (.int .i64 m.newPipe) := b2.cell 9; have la10 : w2.cell? ⟨w.heap.size + 1, 10, none⟩ = some (.string (str m.inn)) := b2.cell 10; have la11 : w2.cell? ⟨w.heap.size + 1, 11, none⟩ = some (.bool m.fin) := b2.cell 11; have la12 : w2.cell? ⟨w.heap.size + 1, 12, none⟩ = some (.int .u64 m.told) := b2.cell 12; have la13 : w2.cell? ⟨w.heap.size + 1, 13, none⟩ = some (.slice m.bl.A m.bl.n m.bl.c) := b2.cell 13; have la14 : w2.cell? ⟨w.heap.size + 1, 14, none⟩ = some (.slice m.pe.A m.pe.n m.pe.c) := b2.cell 14; have la15 : w2.cell? ⟨w.heap.size + 1, 15, none⟩ = some (.int .i64 m.dleft) := b2.cell 15; have la16 : w2.cell? ⟨w.heap.size + 1, 16, none⟩ = some (.slice m.di.A m.di.n m.di.c) := b2.cell 16)
    | (go_at_call 70; refine (HF.out _ (HM'.out.fr.ext (x1.trans x2)) (HM.out.fr.ext (x1.trans x2))).mono ?_; rintro e w3 ⟨rfl, x3⟩; have c3 := c1.ext x3; have d3 := b2.ext x3; clear ka0 ka1 ka2 ka3 ka4 ka5 ka6 ka7 ka8 ka9 ka10 ka11 ka12 ka13 ka14 ka15 ka16 la0 la1 la2 la3 la4 la5 la6 la7 la8 la9 la10 la11 la12 la13 la14 la15 la16; have kb5 : w3.cell? ⟨w.heap.size, 5, none⟩ = some (.slice pr.A pr.n pr.c) := c3.cell 5; have kb8 : w3.cell? ⟨w.heap.size, 8, none⟩ = some (.slice pi.A pi.n pi.c) := c3.cell 8; have kb13 : w3.cell? ⟨w.heap.size, 13, none⟩ = some (.slice m.bl.A m.bl.n m.bl.c) := c3.cell 13; have kb14 : w3.cell? ⟨w.heap.size, 14, none⟩ = some (.slice m.pe.A m.pe.n m.pe.c) := c3.cell 14; have kb15 : w3.cell? ⟨w.heap.size, 15, none⟩ = some (.int .i64 m.dleft) := c3.cell 15; have lb5 : w3.cell? ⟨w.heap.size + 1, 5, none⟩ = some (.slice m.pr.A m.pr.n m.pr.c) := d3.cell 5; have lb8 : w3.cell? ⟨w.heap.size + 1, 8, none⟩ = some (.slice m.pi.A m.pi.n m.pi.c) := d3.cell 8; have lb13 : w3.cell? ⟨w.heap.size + 1, 13, none⟩ = some (.slice m.bl.A m.bl.n m.bl.c) := d3.cell 13; have lb14 : w3.cell? ⟨w.heap.size + 1, 14, none⟩ = some (.slice m.pe.A m.pe.n m.pe.c) := d3.cell 14; have lb15 : w3.cell? ⟨w.heap.size + 1, 15, none⟩ = some (.int .i64 m.dleft) := d3.cell 15)
    | (go_at_call 71; refine (HP.out _ (HM'.out.pi.ext ((x1.trans x2).trans x3)) (HM.out.pi.ext ((x1.trans x2).trans x3))).mono ?_; rintro e w4 ⟨rfl, x4⟩; have c4 := c3.ext x4; have d4 := d3.ext x4; clear kb5 kb8 kb13 kb14 kb15 lb5 lb8 lb13 lb14 lb15; have kc5 : w4.cell? ⟨w.heap.size, 5, none⟩ = some (.slice pr.A pr.n pr.c) := c4.cell 5; have kc13 : w4.cell? ⟨w.heap.size, 13, none⟩ = some (.slice m.bl.A m.bl.n m.bl.c) := c4.cell 13; have kc14 : w4.cell? ⟨w.heap.size, 14, none⟩ = some (.slice m.pe.A m.pe.n m.pe.c) := c4.cell 14; have kc15 : w4.cell? ⟨w.heap.size, 15, none⟩ = some (.int .i64 m.dleft) := c4.cell 15; have kc16 : w4.cell? ⟨w.heap.size, 16, none⟩ = some (.slice m.di.A m.di.n m.di.c) := c4.cell 16; have lc5 : w4.cell? ⟨w.heap.size + 1, 5, none⟩ = some (.slice m.pr.A m.pr.n m.pr.c) := d4.cell 5; have lc13 : w4.cell? ⟨w.heap.size + 1, 13, none⟩ = some (.slice m.bl.A m.bl.n m.bl.c) := d4.cell 13; have lc14 : w4.cell? ⟨w.heap.size + 1, 14, none⟩ = some (.slice m.pe.A m.pe.n m.pe.c) := d4.cell 14; have lc15 : w4.cell? ⟨w.heap.size + 1, 15, none⟩ = some (.int .i64 m.dleft) := d4.cell 15; have lc16 : w4.cell? ⟨w.heap.size + 1, 16, none⟩ = some (.slice m.di.A m.di.n m.di.c) := d4.cell 16))
  have xx := ((x1.trans x2).trans x3).trans x4
  have zc := z1
  clear kc13 kc14 kc15 kc16 lc13 lc14 lc15 lc16 lc5 z1
  clear zc x1 x2 x3 x4 c3 d3
  generalize w.heap.size = G at *
  go_loopw [5, 143] (fun _ i wx => ∃ k : Nat, k ≤ d.pr.length ∧ i = .int .i64 k ∧ Ext w4 wx) (fun _ i _ => d.pr.length - (intOf i).toNat)
  case atStart => exact ⟨0, by omega, rfl, Ext.refl _⟩
  case round =>
    clear kc5
    obtain ⟨k, hk, rfl, xk⟩ := hrel
    have l1 := HL1.out
    have l2 := HL1'.out
    by_cases hlt : k < d.pr.length
    · obtain ⟨b, o, hA, hc⟩ := HM.out.pr.2 (by omega)
      obtain ⟨b', o', hA', hc'⟩ := HM'.out.pr.2 (by show 0 < pr.n; omega)
      have q5 : ∀ x : Later wr, x.now.cell? ⟨G + 1, 5, none⟩ = some (.slice (some ⟨b, o, none⟩) m.pr.n m.pr.c) := fun x => by rw [← hA]; exact ((d4.ext xk).ext x.ext).cell 5
      have q5' : ∀ x : Later wr, x.now.cell? ⟨G, 5, none⟩ = some (.slice (some ⟨b', o', none⟩) pr.n pr.c) := fun x => by
        have hA2 : pr.A = some ⟨b', o', none⟩ := hA'
        rw [← hA2]; exact ((c4.ext xk).ext x.ext).cell 5
      have R1 := Lib.hid (show ∀ wx, (∃ x : Later wr, wx = x.now) → wx.rangeAt b (o + k * 96) (prL d.pr[k]) from fun wx ⟨x, e⟩ => by rw [e]; exact range_ext (pr_range hc hlt) ((xx.trans xk).trans x.ext))
      have R2 := Lib.hid (show ∀ wx, (∃ x : Later wr, wx = x.now) → wx.rangeAt b' (o' + k * 96) (prL d.pr[k]) from fun wx ⟨x, e⟩ => by rw [e]; exact range_ext (pr_range hc' hlt) ((xx.trans xk).trans x.ext))
      have hki : (k : Int) < (pr.n : Int) := by omega
      have hki2 : (k : Int) < (m.pr.n : Int) := by omega
      have hk0 : (0 : Int) ≤ (k : Int) := by omega
      have hki3 : k < pr.n := by omega
      have hki4 : k < m.pr.n := by omega
      clear hc hc' hA hA' l1 l2
      generalize d.pr[k] = y at *
      go_wp2_with fail
      try simp only [Act.put]
      refine wp_region_later (by kernel_rfl) (by kernel_rfl) ?_
      repeat (first
        | (go_big_quiet_want; refine quiet_ld_prc (.tmp 149) rfl b' _ rfl y R2.out ?_; simp only [Act.put, List.setIfInBounds_toArray, List.set_cons_zero, List.set_cons_succ]; go_big_quiet_on)
        | (go_big_quiet_want; refine quiet_ld_prc (.tmp 154) rfl b _ rfl y R1.out ?_; simp only [Act.put, List.setIfInBounds_toArray, List.set_cons_zero, List.set_cons_succ]; go_big_quiet_on)
        | (go_big_quiet_want; refine quiet_neq_pr (.tmp 150) (.tmp 155) rfl y rfl rfl ?_; simp only [Act.put, List.setIfInBounds_toArray, List.set_cons_zero, List.set_cons_succ]; go_big_quiet_on)
        | go_big_quiet_step (fail))
      refine wpQuiet_nil ?_
      rintro w5 ⟨x5, rfl⟩
      clear q5 q5'
      go_wp2_with fail
      go_roundw
      case rel => exact ⟨k + 1, by omega, by go_num, xk.trans x5.ext⟩
      case measure => simp [intOf]; omega
    · have hkp : (k : Int) = (pr.n : Int) := by omega
      have dk : decide (k < pr.n) = false := decide_eq_false (by omega)
      clear hkp l1 l2
      have q16 : wr.cell? ⟨G, 16, none⟩ = some (.slice m.di.A m.di.n m.di.c) := (c4.ext xk).cell 16
      go_wp2_with fail
      have xw := xx.trans xk
      have c5 := c4.ext xk
      have d5 := d4.ext xk
      clear q16 xk xx c4 d4 dk hlt hk
      generalize wr = ws at *
      go_loopw [6, 161] (fun _ i wx => ∃ k : Nat, k ≤ d.di.length ∧ i = .int .i64 k ∧ Ext ws wx) (fun _ i _ => d.di.length - (intOf i).toNat)
      case atStart => exact ⟨0, by omega, rfl, Ext.refl _⟩
      case round =>
        obtain ⟨k, hk, rfl, xk⟩ := hrel
        have l1 := HL2.out
        by_cases hlt : k < d.di.length
        · obtain ⟨b, o, hA, hc⟩ := HW.out (by omega)
          have c1 := (xw.trans xk).keep (hc k hlt).1
          have c2 := (xw.trans xk).keep (hc k hlt).2
          have q1 : wr.cell? ⟨G, 16, none⟩ = some (.slice (some ⟨b, o, none⟩) m.di.n m.di.c) := by rw [← hA]; exact (c5.ext xk).cell 16
          have q2 : wr.cell? ⟨G + 1, 16, none⟩ = some (.slice (some ⟨b, o, none⟩) m.di.n m.di.c) := by rw [← hA]; exact (d5.ext xk).cell 16
          have hki : (k : Int) < (m.di.n : Int) := by omega
          clear hc hA l1
          generalize d.di[k] = y at *
          go_wp2_with fail
          go_quiet (fail)
          go_wp2_with fail
          go_roundw
          case rel => exact ⟨k + 1, by omega, by go_num, xk.drewN _⟩
          case measure => simp [intOf]; omega
        · have dk : decide (k < m.di.n) = false := decide_eq_false (by omega)
          clear l1
          go_wp2_with fail
          go_ret
          exact ⟨rfl, xw.trans xk⟩
set_option maxHeartbeats 1000000 in
set_option maxRecDepth 100000 in
theorem sameDrive_yes (bl pe bl' pe' : Sl) (left : Int) (B : List (List UInt8)) (p : List WrT) (w : World) (hb : RowK stL w bl B) (hb' : RowK stL w bl' B) (hp : RowK wrL w pe p) (hp' : RowK wrL w pe' p) :
    Calls Tryz.prog 17 #[.agg (drvC bl pe left), .agg (drvC bl' pe' left)] w fun e w' => e = .returned (.bool true) ∧ Ext w w' := by
  have e1 : bl'.n = bl.n := hb'.row.1.trans hb.row.1.symm
  have e2 : pe'.n = pe.n := hp'.row.1.trans hp.row.1.symm
  have HB := Lib.hid (fun w (x : Strs w bl.A bl.n B) (y : Strs w bl'.A bl.n B) => same16_yes bl.A bl'.A bl.n bl.c bl'.c B w x y (by have := hb.small; omega))
  have S1 := Lib.hid hb.row.strs
  have S2 := Lib.hid (show Strs w bl'.A bl.n B by have := hb'.row.strs; rw [e1] at this; exact this)
  have hpn := hp.small
  have HP := Lib.hid hp.row.wrs.2
  have HP' := Lib.hid (show 0 < pe.n → _ by have := hp'.row.wrs.2; rw [e2] at this; exact this)
  have hpl : pe.n = p.length := hp.row.1
  clear hb hb' hp hp'
  obtain ⟨bA, bn, bc⟩ := bl
  obtain ⟨bA', bn', bc'⟩ := bl'
  obtain ⟨pA, pn, pc⟩ := pe
  obtain ⟨pA', pn', pc'⟩ := pe'
  simp only at *
  subst e1 e2 hpl
  have hz := str_size
  go_enter Tryz.func17, Tryz.ntmps17
  go_upto_region 1 with fail
  have b1 := Box.new w 28 (drvC ⟨bA, bn', bc⟩ ⟨pA, p.length, pc⟩ left)
  have b2 := Box.new (w.alloc (.cells (drvC ⟨bA, bn', bc⟩ ⟨pA, p.length, pc⟩ left) 28)) 28 (drvC ⟨bA', bn', bc'⟩ ⟨pA', p.length, pc'⟩ left)
  have x2 := ((Ext.refl w).alloc (.cells (drvC ⟨bA, bn', bc⟩ ⟨pA, p.length, pc⟩ left) 28)).alloc (.cells (drvC ⟨bA', bn', bc'⟩ ⟨pA', p.length, pc'⟩ left) 28)
  have c1 := b1.ext ((Ext.refl _).alloc (.cells (drvC ⟨bA', bn', bc'⟩ ⟨pA', p.length, pc'⟩ left) 28))
  rw [World.size_alloc] at b2
  clear b1
  change Code.wp _ _ _ _ ((w.alloc (.cells (drvC ⟨bA, bn', bc⟩ ⟨pA, p.length, pc⟩ left) 28)).alloc (.cells (drvC ⟨bA', bn', bc'⟩ ⟨pA', p.length, pc'⟩ left) 28))
  generalize (w.alloc (.cells (drvC ⟨bA, bn', bc⟩ ⟨pA, p.length, pc⟩ left) 28)).alloc (.cells (drvC ⟨bA', bn', bc'⟩ ⟨pA', p.length, pc'⟩ left) 28) = w2 at *
  generalize hG : w.heap.size = G at *
  have q0 : w2.cell? ⟨G, 0, none⟩ = some (.slice bA bn' bc) := c1.cell 0
  have q1 : w2.cell? ⟨G, 1, none⟩ = some (.slice pA p.length pc) := c1.cell 1
  have q2 : w2.cell? ⟨G, 2, none⟩ = some (.int .i64 left) := c1.cell 2
  have r0 : w2.cell? ⟨G + 1, 0, none⟩ = some (.slice bA' bn' bc') := b2.cell 0
  have r1 : w2.cell? ⟨G + 1, 1, none⟩ = some (.slice pA' p.length pc') := b2.cell 1
  have r2 : w2.cell? ⟨G + 1, 2, none⟩ = some (.int .i64 left) := b2.cell 2
  go_upto_region 4 with (go_at_call 12; refine (HB.out _ (S1.out.ext x2) (S2.out.ext x2)).mono ?_; rintro e w3 ⟨rfl, x3⟩; have t1 : w3.cell? ⟨G, 1, none⟩ = some (.slice pA p.length pc) := (c1.ext x3).cell 1)
  have x23 := x2.trans x3
  have c3 := c1.ext x3
  have d3 := b2.ext x3
  clear q0 q1 q2 r0 r1 r2 t1 x2 x3 c1 b2
  go_loopw [5, 31] (fun _ i wx => ∃ k : Nat, k ≤ p.length ∧ i = .int .i64 k ∧ Ext w3 wx) (fun _ i _ => p.length - (intOf i).toNat)
  case atStart => exact ⟨0, by omega, rfl, Ext.refl _⟩
  case round =>
    obtain ⟨k, hk, rfl, xk⟩ := hrel
    by_cases hlt : k < p.length
    · obtain ⟨b, o, rfl, hc⟩ := HP.out (by omega)
      obtain ⟨b', o', rfl, hc'⟩ := HP'.out (by omega)
      have t1 := (x23.trans xk).keep (hc k hlt).1
      have t2 := (x23.trans xk).keep (hc k hlt).2
      have t3 := (x23.trans xk).keep (hc' k hlt).1
      have t4 := (x23.trans xk).keep (hc' k hlt).2
      have q1 : wr.cell? ⟨G, 1, none⟩ = some (.slice (some ⟨b, o, none⟩) p.length pc) := (c3.ext xk).cell 1
      have r1 : wr.cell? ⟨G + 1, 1, none⟩ = some (.slice (some ⟨b', o', none⟩) p.length pc') := (d3.ext xk).cell 1
      have hki : (k : Int) < (p.length : Int) := by omega
      clear hc hc'
      generalize p[k] = y at *
      go_wp2_with fail
      go_quiet (fail)
      go_wp2_with fail
      go_roundw
      case rel => exact ⟨k + 1, by omega, by go_num, xk.drewN _⟩
      case measure => simp [intOf]; omega
    · obtain rfl : k = p.length := by omega
      go_wp2_with fail
      go_ret
      exact ⟨rfl, x23.trans xk⟩
end Go.Proofs.YtkokmnaicfdjaaaGreatDoor
