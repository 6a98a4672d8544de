/- state.Check of any machine: parents. -/
import Derived.Test.YtfaplefkakpgcaaGreatDoorWc25
import Derived.Maps.Own
import Derived.Maps.OwnSet
import Derived.Maps.OwnOps
import Derived.Maps.Views
import Derived.Test.YtfaplefkakpgcaaGreatDoorWc14
import Derived.Test.YtfaplefkakpgcaaGreatDoorWc13
namespace Go.Proofs.YtfaplefkakpgcaaGreatDoor
set_option linter.unusedVariables false
set_option linter.unusedSimpArgs false
open Go.RowKit
set_option maxHeartbeats 1000000 in
set_option maxRecDepth 100000 in
theorem pridx_no (A : Option Addr) (n c : Nat) (l : List PrT) (g : Nat) (p : PrT) (w : World) (hv : RowOf prL w A n l) (hn : n ≤ 4000) (hb : Box w g 57 (prL p).toArray) (hy : ¬ LivesP l p.parent) :
  Calls Tryz.prog 206 #[.slice A n c, .func (.func 160) #[] #[.pointer (some ⟨g, 0, none⟩)]] w fun e w' => e = .returned (.int .i64 (-1)) ∧ Ext w w' := by
 have HP := Lib.hid (fun q w h => parent1_any q p g w h)
 obtain ⟨rfl, hv2⟩ := hv
 have HY := Lib.hid hy
 clear hy
 go_enter Tryz.func206, Tryz.ntmps206
 go_wp2_with fail
 go_loopw [8] (fun i wx => ∃ k : Nat, k ≤ l.length ∧ i = .int .i64 k ∧ Ext w wx) (fun i _ => l.length - (intOf i).toNat)
 case atStart => exact ⟨0, by omega, rfl, Ext.refl _⟩
 case round =>
  obtain ⟨k, hk, rfl, xk⟩ := hrel
  by_cases hlt : k < l.length
  ·obtain ⟨b, o, rfl, hcell⟩ := hv2 (by omega)
   have r1 := range_ext (pr_range hcell hlt) xk
   have hki : (k : Int) < (l.length : Int) := by omega
   have hbk := hb.ext xk
   have hd : (l[k].pid == p.parent && (l[k].state == 1 || l[k].state == 2)) = false := by
    rw [Bool.eq_false_iff]
    intro h
    simp only [Bool.and_eq_true, Bool.or_eq_true, beq_iff_eq] at h
    exact HY.out ⟨_, List.getElem_mem hlt, h.1, h.2⟩
   generalize l[k] = y at *
   clear hcell
   go_wp2_with (first
    | (refine wp_ld_pr (.tmp 14) rfl rfl b (o + k * 96) y rfl r1 ?_)
    | (go_at_call 160; refine (HP.out _ _ hbk).mono ?_; rintro e w2 ⟨rfl, x2⟩))
   go_roundw
   case rel => exact ⟨k + 1, by omega, by go_num, xk.trans x2⟩
   case measure => simp [intOf]; omega
  ·have hlt2 : ¬ (k : Int) < (l.length : Int) := by omega
   go_wp2_with fail
   go_ret
   exact ⟨rfl, xk⟩
set_option maxHeartbeats 1000000 in
set_option maxRecDepth 100000 in
theorem prcont_no (A : Option Addr) (n c : Nat) (l : List PrT) (g : Nat) (p : PrT) (w : World) (hv : RowOf prL w A n l) (hn : n ≤ 4000) (hb : Box w g 57 (prL p).toArray) (hy : ¬ LivesP l p.parent) :
  Calls Tryz.prog 159 #[.slice A n c, .func (.func 160) #[] #[.pointer (some ⟨g, 0, none⟩)]] w fun e w' => e = .returned (.bool false) ∧ Ext w w' := by
 have HP := Lib.hid (fun w h1 h2 => pridx_no A n c l g p w h1 hn h2 hy)
 go_enter Tryz.func159, Tryz.ntmps159
 go_wp2_with (go_at_call 206; refine (HP.out _ hv hb).mono ?_; rintro e w2 ⟨rfl, x2⟩)
 go_ret
 exact ⟨rfl, x2⟩
set_option maxHeartbeats 1000000 in
set_option maxRecDepth 100000 in
theorem parent_no (m : Mac) (d : MacD) (y : PrT) (w : World) (hi : MacIn w m d) (hn : m.pr.n ≤ 4000) (hst : y.state = 1 ∨ y.state = 2 ∨ y.state = 3) (h : ¬ ParP d y) :
  Calls Tryz.prog 91 #[.agg m.cells, .agg (prL y).toArray] w fun e w' => e = .returned (.bool false) ∧ Ext w w' := by
 have hmf : ∀ (fn : Fn) (first cap : Array Value) (w : World), (Instr.makeFunc fn first cap).run Tryz.prog w = .ok (.func fn first cap) w := fun _ _ _ _ => rfl
 have HL := Lib.hid (fun w => stlives_any y w)
 have x0 := ((Ext.refl w).alloc (.cells m.cells 38)).alloc (.cells (prL y).toArray 57)
 have bm := (Box.new w 38 m.cells).ext ((Ext.refl _).alloc (.cells (prL y).toArray 57))
 have bp := Box.new (w.alloc (.cells m.cells 38)) 57 (prL y).toArray
 rw [World.size_alloc] at bp
 have HR := Lib.hid (hi.pr.ext x0)
 have h1 : ¬ LivesP d.pr y.parent := fun h2 => h (.inl h2)
 have h2 : y.parent ≠ 0 ∨ (y.state == 1 || y.state == 2) = false := by
  by_cases e : y.parent = 0
  ·right
   have : y.state = 3 := by
    rcases hst with h3 | h3 | h3
    ·exact absurd (Or.inr ⟨by omega, e⟩) h
    ·exact absurd (Or.inr ⟨by omega, e⟩) h
    ·exact h3
   rw [this]; rfl
  ·exact .inl e
 clear h hi hst
 go_enter Tryz.func91, Tryz.ntmps91
 go_upto_region 1 with fail
 generalize (w.alloc (.cells m.cells 38)).alloc (.cells (prL y).toArray 57) = w1 at *
 generalize w.heap.size = G at *
 have c1 : w1.cell? ⟨G + 1, 1, none⟩ = some (.int .i64 y.parent) := bp.cell 1
 have HC := Lib.hid (fun w h1 h2 hy => prcont_no m.pr.A m.pr.n m.pr.c d.pr (G + 1) y w h1 hn h2 hy)
 have q5 : ∀ wx, Ext w1 wx → wx.cell? ⟨G, 5, none⟩ = some (.slice m.pr.A m.pr.n m.pr.c) := fun wx x => (bm.ext x).cell 5
 have HQ := Lib.hid q5
 clear q5
 have HY := Lib.hid h1
 clear h1
 rcases Bool.eq_false_or_eq_true (y.parent == 0) with e1 | e1
 ·have h3 : (y.state == 1 || y.state == 2) = false := by
   rcases h2 with h2 | h2
   ·exact absurd (by simpa using e1) h2
   ·exact h2
  clear h2
  go_wp2_with (first
   | (refine wp_ld_pr_g (.tmp 3) rfl rfl (G + 1) y 57 rfl bp ?_)
   | (go_at_call 158; refine (HL.out _).mono ?_; rintro e w2 ⟨rfl, x2⟩; have q5 := HQ.out _ x2)
   | (go_at_call 159; refine (HC.out _ (HR.out.ext x2) (bp.ext x2) HY.out).mono ?_; rintro e w3 ⟨rfl, x3⟩))
  go_ret
  exact ⟨rfl, (x0.trans x2).trans x3⟩
 ·clear h2
  have q5 := HQ.out _ (Ext.refl _)
  go_wp2_with (first
   | (go_at_call 159; refine (HC.out _ HR.out bp HY.out).mono ?_; rintro e w3 ⟨rfl, x3⟩))
  go_ret
  exact ⟨rfl, x0.trans x3⟩
theorem stparent_any (m : Mac) (d : MacD) (y : PrT) (w : World) (hi : MacIn w m d) (hn : m.pr.n ≤ 4000) (hst : y.state = 1 ∨ y.state = 2 ∨ y.state = 3) :
  Calls Tryz.prog 91 #[.agg m.cells, .agg (prL y).toArray] w fun e w' => IsB e (ParP d y) ∧ Ext w w' := by
 by_cases h : ParP d y
 ·exact (parent_ok' m d y w hi hn hst h).mono (fun e w' k => ⟨k.1 ▸ IsB.yes h, k.2⟩)
 ·exact (parent_no m d y w hi hn hst h).mono (fun e w' k => ⟨k.1 ▸ IsB.no h, k.2⟩)
end Go.Proofs.YtfaplefkakpgcaaGreatDoor
/- state.Check on a machine that may be: numbers, frames, pipes, texts. -/
namespace Go.Proofs.YtfaplefkakpgcaaGreatDoor
set_option linter.unusedVariables false
set_option linter.unusedSimpArgs false
open Go.RowKit
set_option maxHeartbeats 1000000 in
set_option maxRecDepth 100000 in
theorem numbers_ok (m : Mac) (w : World) (h : NumsOk m) :
  Calls Tryz.prog 44 #[.agg m.cells] w fun e w' => e = .returned (.int .i64 0) ∧ Ext w w' := by
 have x0 := (Ext.refl w).alloc (.cells m.cells 38)
 have bm := Box.new w 38 m.cells
 obtain ⟨⟨a1, a2⟩, ⟨b1, b2⟩, c1, ⟨d1, d2⟩, ⟨e1, e2⟩⟩ := h
 have f1 : decide (m.quantum < 1) = false := by simp; omega
 have f2 : decide (1000 < m.quantum) = false := by simp; omega
 have f3 : decide (m.left < 0) = false := by simp; omega
 have f4 : decide (m.quantum < m.left) = false := by simp; omega
 have f5 : decide (m.cur < 0) = false := by simp; omega
 have f6 : decide (m.next < 1) = false := by simp; omega
 have f7 : decide (1000000000 < m.next) = false := by simp; omega
 have f8 : decide (m.newPipe < 1) = false := by simp; omega
 have f9 : decide (1000000000 < m.newPipe) = false := by simp; omega
 clear a1 a2 b1 b2 c1 d1 d2 e1 e2
 go_enter Tryz.func44, Tryz.ntmps44
 go_upto_region 1 with fail
 generalize w.alloc (.cells m.cells 38) = w1 at *
 obtain ⟨k0, k1, k2, k3, k4, k5, k6, k7, k8, k9, k10, k11, k12, k13, k14, k15, k16⟩ := mac_cells bm
 clear k0 k4 k5 k7 k8 k10 k11 k12 k13 k14 k15 k16 bm
 go_wp2_with fail
 go_ret
 exact ⟨rfl, x0⟩
set_option maxHeartbeats 1000000 in
set_option maxRecDepth 100000 in
theorem texts_ok (m : Mac) (w : World) (h : m.inn.length ≤ 65536 ∧ m.init.length ≤ 128) :
  Calls Tryz.prog 48 #[.agg m.cells] w fun e w' => e = .returned (.int .i64 0) ∧ Ext w w' := by
 have x0 := (Ext.refl w).alloc (.cells m.cells 38)
 have bm := Box.new w 38 m.cells
 obtain ⟨a1, a2⟩ := h
 have hz := str_size
 have f1 : decide (65536 < (m.inn.length : Int)) = false := by simp; omega
 have f2 : decide (128 < (m.init.length : Int)) = false := by simp; omega
 clear a1 a2
 go_enter Tryz.func48, Tryz.ntmps48
 go_upto_region 1 with fail
 generalize w.alloc (.cells m.cells 38) = w1 at *
 obtain ⟨k0, k1, k2, k3, k4, k5, k6, k7, k8, k9, k10, k11, k12, k13, k14, k15, k16⟩ := mac_cells bm
 clear k0 k1 k2 k3 k4 k5 k6 k8 k9 k11 k12 k13 k14 k15 k16 bm
 go_wp2_with fail
 go_ret
 exact ⟨rfl, x0⟩
set_option maxHeartbeats 1000000 in
set_option maxRecDepth 100000 in
theorem frames_ok (m : Mac) (d : MacD) (w : World) (hi : MacIn w m d) (h : 1 ≤ m.fr.n ∧ m.fr.n ≤ 64) (hf : ∀ b ∈ d.fr, b.length = 128) :
  Calls Tryz.prog 45 #[.agg m.cells] w fun e w' => e = .returned (.int .i64 0) ∧ Ext w w' := by
 have x0 := (Ext.refl w).alloc (.cells m.cells 38)
 have bm := Box.new w 38 m.cells
 obtain ⟨hv1, hv2⟩ := hi.fr.strs
 clear hi
 obtain ⟨a1, a2⟩ := h
 have hz := str_size
 have f1 : decide ((m.fr.n : Int) < 1) = false := by simp; omega
 have f2 : decide (64 < (m.fr.n : Int)) = false := by simp; omega
 have HF := Lib.hid hf
 have HV1 := Lib.hid hv1
 clear hf hv1
 go_enter Tryz.func45, Tryz.ntmps45
 go_upto_region 1 with fail
 generalize w.alloc (.cells m.cells 38) = w1 at *
 obtain ⟨k0, k1, k2, k3, k4, k5, k6, k7, k8, k9, k10, k11, k12, k13, k14, k15, k16⟩ := mac_cells bm
 clear k0 k1 k2 k3 k5 k6 k7 k8 k9 k10 k11 k12 k13 k14 k15 k16 bm
 go_wp2_with fail
 clear f1 f2 k4
 generalize d.fr = l at *
 generalize m.fr.A = A at *
 generalize m.fr.n = n at *
 obtain rfl : n = l.length := HV1.out
 go_loop [18] (fun i => ∃ k : Nat, k ≤ l.length ∧ i = .int .i64 k) (fun i => l.length - (intOf i).toNat)
 case atStart => exact ⟨0, by omega, rfl⟩
 case round =>
  obtain ⟨k, hk, rfl⟩ := hrel
  by_cases hlt : k < l.length
  ·obtain ⟨b, o, rfl, hcell⟩ := hv2 (by omega)
   have e1 := x0.keep (hcell k hlt)
   have hki : (k : Int) < (l.length : Int) := by omega
   have hl := HF.out _ (List.getElem_mem hlt)
   have hl' : ((l[k].length : Int) != 128) = false := by rw [hl]; rfl
   clear hcell hl
   generalize l[k] = y at *
   go_wp2_with fail
   go_round
   case rel => exact ⟨k + 1, by omega, by go_num⟩
   case measure => simp [intOf]; omega
  ·obtain rfl : k = l.length := by omega
   go_wp2_with fail
   go_ret
   exact ⟨rfl, x0⟩
set_option maxHeartbeats 1000000 in
set_option maxRecDepth 100000 in
theorem pipes_ok (m : Mac) (d : MacD) (w : World) (hi : MacIn w m d) (hn : m.pi.n ≤ 64) (hp : PipesK m d.pi d.pi.length) :
  Calls Tryz.prog 47 #[.agg m.cells] w fun e w' => e = .returned (.int .i64 0) ∧ Ext w w' := by
 have x0 := (Ext.refl w).alloc (.cells m.cells 38)
 have bm := Box.new w 38 m.cells
 obtain ⟨hv1, hv2⟩ := hi.pi.wrs
 clear hi
 have hz := str_size
 have f2 : decide (64 < (m.pi.n : Int)) = false := by simp; omega
 have HP := Lib.hid hp
 have HV1 := Lib.hid hv1
 clear hp hv1
 go_enter Tryz.func47, Tryz.ntmps47
 go_upto_region 1 with fail
 generalize w.alloc (.cells m.cells 38) = w1 at *
 have k8 : w1.cell? ⟨w.heap.size, 8, none⟩ = some (.slice m.pi.A m.pi.n m.pi.c) := bm.cell 8
 have k9 : ∀ wx, Ext w1 wx → wx.cell? ⟨w.heap.size, 9, none⟩ = some (.int .i64 m.newPipe) := fun wx x => (bm.ext x).cell 9
 have K9 := Lib.hid k9
 clear k9 bm
 go_wp2_with fail
 clear f2 k8
 generalize hl : d.pi = l at *
 clear hl
 generalize m.pi.A = A at *
 generalize m.pi.n = n at *
 obtain rfl : n = l.length := HV1.out
 go_loopw [3, 13] (fun s i wx => ∃ k : Nat, k ≤ l.length ∧ i = .int .i64 k ∧ s = .int .i64 (if 0 < k then (l.getD (k - 1) default).1 else 0) ∧ Ext w1 wx) (fun _ i _ => l.length - (intOf i).toNat)
 case atStart => exact ⟨0, by omega, rfl, rfl, Ext.refl _⟩
 case round =>
  obtain ⟨k, hk, rfl, rfl, xk⟩ := hrel
  by_cases hlt : k < l.length
  ·obtain ⟨b, o, rfl, hcell⟩ := hv2 (by omega)
   have e1 := (x0.trans xk).keep (hcell k hlt).1
   have e2 := (x0.trans xk).keep (hcell k hlt).2
   have hki : (k : Int) < (l.length : Int) := by omega
   obtain ⟨p1, p2, p3, p4⟩ := HP.out k hlt hlt
   have g1 : decide (l[k].1 ≤ (if 0 < k then (l.getD (k - 1) default).1 else 0)) = false := by
    simp only [decide_eq_false_iff_not]
    split
    ·rename_i h0
     have := p4 h0
     rw [List.getD_eq_getElem?_getD, List.getElem?_eq_getElem (by omega)]
     show ¬ l[k].1 ≤ (l[k - 1]'(by omega)).1
     omega
    ·omega
   have g2 : decide (m.newPipe ≤ l[k].1) = false := by simp; omega
   have g3 : decide (64 < (l[k].2.length : Int)) = false := by simp; omega
   have g4 : l[k] = l.getD k default := by rw [List.getD_eq_getElem?_getD, List.getElem?_eq_getElem hlt]; rfl
   have G4 := Lib.hid g4
   generalize (if 0 < k then (l.getD (k - 1) default).1 else 0) = last at *
   have xz := xk.alloc (.cells #[.int .i64 l[k].1, .string (str l[k].2)] 95)
   have k9 := K9.out _ xz
   clear hcell p1 p2 p3 p4 g4
   generalize l[k] = y at *
   go_wp2_with fail
   go_roundw
   case rel => exact ⟨k + 1, by omega, by go_num, by rw [if_pos (by omega), Nat.add_sub_cancel, ← G4.out], xz⟩
   case measure => simp [intOf]; omega
  ·obtain rfl : k = l.length := by omega
   go_wp2_with fail
   all_goals
    go_ret
    exact ⟨rfl, x0.trans xk⟩
end Go.Proofs.YtfaplefkakpgcaaGreatDoor
/- state.Check on a machine that may be: its processes. -/
namespace Go.Proofs.YtfaplefkakpgcaaGreatDoor
set_option linter.unusedVariables false
set_option linter.unusedSimpArgs false
open Go.RowKit
def MetD (l : List PrT) (k j : Nat) (D : DataW Unit) : Prop := ∀ fr : Nat, (Met l k j (fr : Int) → D.atKey (.int .i64 (fr : Int)) (.lit (.bool false)) = .lit (.bool true)) ∧ (¬ Met l k j (fr : Int) → D.atKey (.int .i64 (fr : Int)) (.lit (.bool false)) = .lit (.bool false))
theorem MetD.zero (l : List PrT) : MetD l 0 0 (.map []) := fun fr => ⟨fun h => absurd h met_zero, fun _ => rfl⟩
theorem MetD.proc {l : List PrT} {k : Nat} {D : DataW Unit} (h : MetD l k 16 D) : MetD l (k + 1) 0 D := fun fr => ⟨fun hm => (h fr).1 (met_proc.1 hm), fun hm => (h fr).2 (fun h2 => hm (met_proc.2 h2))⟩
theorem MetD.skip {l : List PrT} {k j : Nat} {D : DataW Unit} (h : MetD l k j D) (hi : (l.getD k default).pis j = false) : MetD l k (j + 1) D := fun fr => ⟨fun hm => (h fr).1 ((met_skip hi).1 hm), fun hm => (h fr).2 (fun h2 => hm ((met_skip hi).2 h2))⟩
theorem MetD.put {l : List PrT} {k j f : Nat} {D : DataW Unit} (h : MetD l k j D) (hD : Maps.IsMap D) (hi : (l.getD k default).pis j = true) (hf : (l.getD k default).pfr j = (f : Int)) (hk : WideAt.IsKeyLit (.int .i64 (f : Int))) : MetD l k (j + 1) (D.put (.int .i64 (f : Int)) (.lit (.bool true))) := fun fr => by
 by_cases e : fr = f
 ·subst e
  refine ⟨fun _ => Maps.atKey_put_same hD hk _ _, fun hm => ?_⟩
  exact absurd ((met_next hi).2 (.inr hf.symm)) hm
 ·have hne : Lit.int .i64 (fr : Int) ≠ .int .i64 (f : Int) := fun h => by injection h with _ h; omega
  rw [Maps.atKey_put_other hne]
  refine ⟨fun hm => (h fr).1 ?_, fun hm => (h fr).2 (fun h2 => hm ((met_next hi).2 (.inl h2)))⟩
  rcases (met_next hi).1 hm with h2 | h2
  ·exact h2
  ·rw [hf] at h2; omega
theorem boolZero (w : World) : (zeroValue 4).run Tryz.prog w = .ok (.bool false) w := by kernel_rfl
set_option maxRecDepth 100000 in
theorem look_bool {w : World} (b n k : Nat) (D : DataW Unit) (q : Bool) (hown : w.ownsMap Tryz.prog 3 (plainElem Tryz.prog 4) b n D) (h1 : k ≤ 100000) (hat : D.atKey (.int .i64 (k : Int)) (.lit (.bool false)) = .lit (.bool q)) :
  (Instr.lookup 125 (.map (some b)) (.int .i64 (k : Int)) false).run Tryz.prog w = .ok (.bool q) w := by
 have hk := key_i64 k h1
 obtain ⟨v, ps, hrun, hv⟩ := hown.lookup intKeyed Tryz.underlying125 (boolZero w) (zd := .lit (.bool false)) (zp := []) (plainElem_bool Tryz.underlying4 false) hk
 rw [hat] at hv
 obtain rfl : v = .bool q := by
  unfold plainElem at hv
  rw [Tryz.underlying4] at hv
  split at hv
  ·injection hv with hv
   injection hv with hv _
   injection hv with hv
   injection hv with hv
   rw [← hv]
  ·split at hv <;> cases hv
  ·split at hv <;> cases hv
  ·cases hv
 exact hrun
theorem pr_ranged {w : World} {b o : Nat} {l : List PrT} (hc : ∀ j v, (l.flatMap prL)[j]? = some v → w.cell? ⟨b, o + j, none⟩ = some v) {k : Nat} (hk : k < l.length) : w.rangeAt b (o + k * 96) (prL (l.getD k default)) := by
 rw [List.getD_eq_getElem?_getD, List.getElem?_eq_getElem hk]; exact pr_range hc hk
def lastPid (l : List PrT) (k : Nat) : Int := if 0 < k then (l.getD (k - 1) default).pid else 0
theorem lastPid_lt {m : Mac} {d : MacD} {k : Nat} (h : ProcsK m d d.pr.length) (hk : k < d.pr.length) : ProcOk m d (d.pr.getD k default) ∧ decide ((d.pr.getD k default).pid ≤ lastPid d.pr k) = false := by
 obtain ⟨h1, h2⟩ := h k hk hk
 have e : d.pr.getD k default = d.pr[k] := by rw [List.getD_eq_getElem?_getD, List.getElem?_eq_getElem hk]; rfl
 rw [e]
 refine ⟨h1, decide_eq_false ?_⟩
 unfold lastPid
 split
 ·rename_i h0
  have := h2 h0
  rw [List.getD_eq_getElem?_getD, List.getElem?_eq_getElem (by omega)]
  show ¬ d.pr[k].pid ≤ (d.pr[k - 1]'(by omega)).pid
  omega
 ·have := h1.pid.1; omega
set_option maxHeartbeats 4000000 in
set_option maxRecDepth 100000 in
theorem procs_ok (m : Mac) (d : MacD) (w : World) (hi : MacIn w m d) (hn : m.pr.n ≤ 8) (hpi : m.pi.n ≤ 4000) (hp : ProcsK m d d.pr.length) (hfn : m.fr.n ≤ 64) :
  Calls Tryz.prog 46 #[.agg m.cells] w fun e w' => e = .returned (.int .i64 0) ∧ Ext w w' := by
 have HFi := Lib.hid (fun y w h => fields_ok m d y w h)
 have HPa := Lib.hid (fun y w hi h => parent_ok m d y w hi (by omega) h)
 have HFl := Lib.hid (fun k n p w hi h h0 => file_ok m d k n p w hi (by omega) h h0)
 have x0 := (Ext.refl w).alloc (.cells m.cells 38)
 have bm := Box.new w 38 m.cells
 have HM := Lib.hid (hi.ext x0)
 obtain ⟨hv1, hv2⟩ := hi.pr
 have HV2 := Lib.hid hv2
 have HV1 := Lib.hid hv1
 clear hv2 hv1
 have f1 : decide (8 < (m.pr.n : Int)) = false := by simp; omega
 have HP := Lib.hid (fun k hk => lastPid_lt (k := k) hp hk)
 clear hp
 have hmk := fun w => run_makeMap (P := Tryz.prog) 125 w
 go_enter Tryz.func46, Tryz.ntmps46
 go_upto_region 1 with fail
 generalize w.alloc (.cells m.cells 38) = w1 at *
 have k5 : w1.cell? ⟨w.heap.size, 5, none⟩ = some (.slice m.pr.A m.pr.n m.pr.c) := bm.cell 5
 go_upto_region 4 with fail
 clear hmk f1 k5
 have xm := x0.alloc (.map #[] 0)
 have bm2 := bm.ext ((Ext.refl w1).alloc (.map #[] 0))
 have HM2 := Lib.hid (HM.out.ext ((Ext.refl w1).alloc (.map #[] 0)))
 have hmap : (w1.alloc (.map #[] 0)).ownsMap Tryz.prog 3 (plainElem (H := Unit) Tryz.prog 4) w1.heap.size 0 (.map []) := World.ownsMap_made w1 Tryz.prog 3 _
 have hMB : (w1.alloc (.map #[] 0)).heap[w1.heap.size]? = some (.map #[] 0) := World.alloc_heap_new w1 _
 have hlm : w.heap.size < w1.heap.size := bm.lt
 generalize w1.alloc (.map #[] 0) = w2 at *
 generalize hBm : w1.heap.size = Bm at *
 generalize hG : w.heap.size = G at *
 have k5 : w2.cell? ⟨G, 5, none⟩ = some (.slice m.pr.A m.pr.n m.pr.c) := bm2.cell 5
 clear bm
 go_upto_region 6 with fail
 clear k5
 have hln : m.pr.n = d.pr.length := HV1.out
 have hv3 := HV2.out
 clear HV2
 generalize hrA : m.pr.A = A at hv3 ⊢
 generalize hrn : m.pr.n = pn at hv3 ⊢
 have HRA := Lib.hid hrA
 obtain rfl : d.pr.length = pn := by omega
 have hn8 : d.pr.length ≤ 8 := by omega
 clear hrA hrn hln hn
 go_loopw [4, 19] (fun s i wx => ∃ k : Nat, k ≤ d.pr.length ∧ i = .int .i64 k ∧ s = .int .i64 (lastPid d.pr k) ∧ (∃ D, wx.ownsMap Tryz.prog 3 (plainElem (H := Unit) Tryz.prog 4) Bm (16 * k) D ∧ MetD d.pr k 0 D) ∧ w2.grownBy wx (some Bm)) (fun _ i _ => d.pr.length - (intOf i).toNat)
 case atStart => exact ⟨0, by omega, rfl, rfl, ⟨.map [], hmap, MetD.zero _⟩, grown_refl _ _⟩
 case round =>
  obtain ⟨k, hk, rfl, rfl, ⟨D, hown, hmet⟩, hg⟩ := hrel
  have xk : Ext w wr := xm.grown hg (fun j e => by cases e; omega)
  have bmk := bm2.grown hg (by intro e; injection e with e; omega)
  have HMk := Lib.hid (hi.ext xk)
  have HG := Lib.hid hg
  clear hg
  by_cases hlt : k < d.pr.length
  ·obtain ⟨b, o, rfl, hcell⟩ := hv3 (by omega)
   have r1 := range_ext (pr_ranged hcell hlt) xk
   obtain ⟨hpo, hlast⟩ := HP.out k hlt
   have hki : (k : Int) < (d.pr.length : Int) := by omega
   have HLN := Lib.hid (show lastPid d.pr (k + 1) = (d.pr.getD k default).pid by unfold lastPid; rw [if_pos (by omega), Nat.add_sub_cancel])
   have hpo2 := hpo.pid
   have hnx : decide (m.next ≤ (d.pr.getD k default).pid) = false := decide_eq_false (by omega)
   have HPO := Lib.hid hpo
   have HMT := Lib.hid hmet
   have HMTs := Lib.hid (fun (j : Nat) (fr : Int) h1 h2 h3 => met_one (l := d.pr) (k := k) (j := j) (fr := fr) hlt h1 h2 h3)
   have HMsk := Lib.hid (fun (j : Nat) (D : DataW Unit) (h : MetD d.pr k j D) hi => h.skip hi)
   have HMput := Lib.hid (fun (j f : Nat) (D : DataW Unit) (h : MetD d.pr k j D) hD hi hf hk => h.put (f := f) hD hi hf hk)
   have HMpr := Lib.hid (fun (D : DataW Unit) (h : MetD d.pr k 16 D) => h.proc)
   clear hcell hpo hpo2 hmet
   generalize lastPid d.pr k = last at *
   generalize d.pr.getD k default = y at *
   go_upto_region 8 with (first
    | (refine wp_ld_pr (.tmp 21) rfl rfl b (o + k * 96) y rfl r1 ?_)
    | (refine wp_st_pr (.tmp 6) (.tmp 22) rfl rfl wr.heap.size y _ 57 rfl rfl (Box.new _ _ _) rfl ?_; intro w3 b3 g3))
   have x3 : Ext wr w3 := ((Ext.refl wr).alloc _).grown g3 (fun j e => by cases e; exact Nat.le_refl _)
   have xx3 := xk.trans x3
   have bm3 := bmk.ext x3
   have own3 := ownsMap_ext hown x3
   have HG3 := Lib.hid (grown_later HG.out x3)
   have hMk : Bm < wr.heap.size := hown.lt
   clear g3 r1 hown x3 bmk xk HMk
   generalize wr.heap.size = P3 at *
   have c0 : w3.cell? ⟨P3, 0, none⟩ = some (.int .i64 y.pid) := b3.cell 0
   have q6 : w3.cell? ⟨G, 6, none⟩ = some (.int .i64 m.next) := bm3.cell 6
   go_upto_region 10 with (first
    | (refine wp_ld_pr_g (.tmp 6) rfl rfl P3 y 57 rfl b3 ?_)
    | (go_at_call 90; refine (HFi.out _ _ HPO.out).mono ?_; rintro e w4 ⟨rfl, x4⟩; have b4 := b3.ext x4; have bm4 := bm3.ext x4)
    | (refine wp_ld_mac_g (.tmp 1) rfl rfl G m 38 rfl bm4 ?_)
    | (refine wp_ld_pr_g (.tmp 6) rfl rfl P3 y 57 rfl b4 ?_)
    | (go_at_call 91; refine (HPa.out _ _ (hi.ext (xx3.trans x4)) HPO.out).mono ?_; rintro e w5 ⟨rfl, x5⟩))
   have b5 := b4.ext x5
   have bm5 := bm4.ext x5
   have x45 := x4.trans x5
   have own5 := ownsMap_ext own3 x45
   have HG5 := Lib.hid (grown_later HG3.out x45)
   have xx5 := xx3.trans x45
   have hP5 := b5.lt
   have hPm : P3 ≠ Bm := by omega
   have e0 : w5.cell? ⟨P3, 0, none⟩ = some (.int .i64 y.pid) := b5.cell 0
   have HPG := Lib.hid HPO.out.page
   have HFD := Lib.hid HPO.out.fd
   clear x4 x5 x45 b3 b4 bm3 bm4 c0 q6 own3 xx3 hlast hnx HG HG3 HPO HFi HPa
   go_upto_region 12 with (first
    | (refine wp_ld_space (.tmp 47) rfl rfl P3 57 y rfl b5 ?_))
   clear e0
   go_loopw [49] (fun i wx => ∃ j : Nat, j ≤ 16 ∧ i = .int .i64 j ∧ (∃ D, wx.ownsMap Tryz.prog 3 (plainElem (H := Unit) Tryz.prog 4) Bm (16 * k + j) D ∧ MetD d.pr k j D) ∧ w5.grownBy wx (some Bm)) (fun i _ => 16 - (intOf i).toNat)
   case atStart => exact ⟨0, by omega, rfl, ⟨D, own5, HMT.out⟩, grown_refl _ _⟩
   case round =>
    clear own5
    obtain ⟨j, hj, rfl, ⟨D2, own6, hmet2⟩, hg6⟩ := hrel
    have HMT2 := Lib.hid hmet2
    have HG6 := Lib.hid hg6
    have b6 := b5.grown hg6 (by intro e; injection e with e; omega)
    have bm6 := bm5.grown hg6 (by intro e; injection e with e; omega)
    have xx6 : Ext w wr := xx5.grown hg6 (fun j e => by cases e; omega)
    clear hmet2 hg6
    by_cases hj2 : j < 16
    ·have hji : (j : Int) < 16 := by omega
     have hpg := HPG.out j hj2
     have hms := fun fr => HMTs.out j fr hj2
     have hmp := fun f => HMput.out j f D2 HMT2.out own6.isMap
     have hsk := HMsk.out j D2 HMT2.out
     clear HMTs
     go_upto_region 14 with (refine wp_idx_pte (.tmp 48) (.tmp 49) rfl rfl y j rfl rfl hj2 ?_)
     unfold PageP at hpg
     generalize hia : y.pis j = ia at *
     generalize hiw : y.pwr j = iw at *
     generalize hif : y.pfr j = ifr at *
     have xq : Ext wr (wr.alloc (.cells #[.bool ia, .bool iw, .int .i64 ifr] 50)) := (Ext.refl _).alloc _
     have bq := Box.new wr 50 #[.bool ia, .bool iw, .int .i64 ifr]
     have own7 := own6.alloc (.cells #[.bool ia, .bool iw, .int .i64 ifr] 50)
     have b7 := b6.ext xq
     have bm7 := bm6.ext xq
     have hQm : wr.heap.size ≠ Bm := by have := own6.lt; omega
     generalize wr.alloc (.cells #[.bool ia, .bool iw, .int .i64 ifr] 50) = wq at *
     have q0 := bq.cell 0
     have q1 := bq.cell 1
     have q2 := bq.cell 2
     rcases hpg with ⟨rfl, rfl, rfl⟩ | ⟨rfl, hs3, hf0, hf1, hus⟩
     ·clear hmp hms
      go_wp2_with fail
      go_roundw
      case rel => exact ⟨j + 1, by omega, by go_num, ⟨D2, own7.mono (by omega), hsk rfl⟩, grown_later HG6.out xq⟩
      case measure => simp [intOf]; omega
     ·obtain ⟨f, rfl⟩ : ∃ f : Nat, ifr = (f : Int) := ⟨ifr.toNat, by omega⟩
      have hat := (HMT2.out f).2 (hms _ rfl rfl hus)
      have hfb : f ≤ 100000 := by omega
      have HMp := Lib.hid (hmp f rfl rfl (intKeyed.key (key_i64 f hfb)))
      have d2 : y.state = 3 → False := hs3
      have s3 : (y.state == 3) = false := by simpa using hs3
      have s4 : decide ((f : Int) < 0) = false := decide_eq_false (by omega)
      have s5 : decide ((m.fr.n : Int) ≤ (f : Int)) = false := decide_eq_false (by omega)
      have s6 : decide (m.fr.n ≤ f) = false := decide_eq_false (by omega)
      have c2 : wq.cell? ⟨P3, 2, none⟩ = some (.int .i64 y.state) := b7.cell 2
      have c4 : wq.cell? ⟨G, 4, none⟩ = some (.slice m.fr.A m.fr.n m.fr.c) := bm7.cell 4
      have hlk := look_bool Bm (16 * k + j) f D2 false own7 hfb hat
      clear hmp hms hsk hs3 d2 hus hf0 hf1 hat
      go_wp2_with (first
       | (at_mapUpdate; refine wpList_mapUpdate_own _ rfl _ _ _ 125 rfl 3 4 intKeyed Tryz.underlying125 (plainElem (H := Unit) Tryz.prog 4) Bm (16 * k + j) _ rfl own7 (by unfold maxLen; omega) _ _ (.int .i64 (f : Int)) rfl rfl (key_i64 f hfb) (.lit (.bool true)) [] (plainElem_bool Tryz.underlying4 true) ?_; intro w8 own8 hg8))
      go_roundw
      case rel => exact ⟨j + 1, by omega, by go_num, ⟨_, own8, HMp.out⟩, grown_then (grown_later HG6.out xq) hg8 (fun j e => .inr e)⟩
      case measure => simp [intOf]; omega
    ·have hjn16 : ¬ (j : Int) < 16 := by omega
     have HJ16 := Lib.hid (show j = 16 by omega)
     have HMT3 := Lib.hid (show MetD d.pr k 16 D2 by rw [← HJ16.out]; exact HMT2.out)
     clear HMput HMsk HMTs HPG HMT2
     have HG7 := Lib.hid (grown_then HG5.out HG6.out (fun j e => .inr e))
     go_upto_region 22 with (first
      | (refine wp_ld_fds (.tmp 84) rfl rfl P3 57 y rfl b6 ?_))
     generalize hwz : wr = wz at *
     clear hwz
     go_loopw [86] (fun i wx => ∃ j : Nat, j ≤ 8 ∧ i = .int .i64 j ∧ Ext wz wx) (fun i _ => 8 - (intOf i).toNat)
     case atStart => exact ⟨0, by omega, rfl, Ext.refl _⟩
     case round =>
      obtain ⟨j, hj, rfl, xj⟩ := hrel
      by_cases hj2 : j < 8
      ·have hji : (j : Int) < 8 := by omega
       obtain ⟨hfd, hdead⟩ := HFD.out j hj2
       go_upto_region 24 with (refine wp_idx_fd (.tmp 85) (.tmp 86) rfl rfl y j rfl rfl hj2 ?_)
       generalize y.fk j = ik at *
       generalize y.fn j = ifn at *
       generalize y.fp j = ifp at *
       have xq : Ext wr (wr.alloc (.cells #[.int .i64 ik, .int .i64 ifn, .int .i64 ifp] 54)) := (Ext.refl _).alloc _
       have bq := Box.new wr 54 #[.int .i64 ik, .int .i64 ifn, .int .i64 ifp]
       have xz := xj.trans xq
       generalize wr.alloc (.cells #[.int .i64 ik, .int .i64 ifn, .int .i64 ifp] 54) = wq at *
       have q0 : wq.cell? ⟨wr.heap.size, 0, none⟩ = some (.int .i64 ik) := bq.cell 0
       have q1 := bq.cell 1
       have q2 := bq.cell 2
       have c2 : wq.cell? ⟨P3, 2, none⟩ = some (.int .i64 y.state) := (b6.ext xz).cell 2
       have bm7 := bm6.ext xz
       have HMq := Lib.hid (hi.ext (xx6.trans xz))
       clear bq xq
       by_cases hk0 : ik = 0
       ·have hz : ifn = 0 ∧ ifp = 0 := by
         rcases hfd with ⟨_, h1, h2⟩ | ⟨h, _⟩ | ⟨h, _⟩
         ·exact ⟨h1, h2⟩
         ·omega
         ·omega
        obtain ⟨rfl, rfl⟩ := hz
        subst hk0
        clear hfd hdead
        go_wp2_with fail
        go_roundw
        case rel => exact ⟨j + 1, by omega, by go_num, xz⟩
        case measure => simp [intOf]; omega
       ·have hs3 : (y.state == 3) = false := by
         have : y.state ≠ 3 := fun h => hk0 (hdead h)
         simpa using this
        have hk1 : (ik == 0) = false := by simpa using hk0
        have HFD2 := Lib.hid hfd
        have HK0 := Lib.hid hk0
        clear hfd hdead hk0
        go_wp2_with (first
         | (refine wp_ld_mac_g (.tmp 1) rfl rfl G m 38 rfl bm7 ?_)
         | (go_at_call 92; refine (HFl.out _ _ _ _ HMq.out HFD2.out HK0.out).mono ?_; rintro e w9 ⟨rfl, x9⟩))
        go_roundw
        case rel => exact ⟨j + 1, by omega, by go_num, xz.trans x9⟩
        case measure => simp [intOf]; omega
      ·have hjn8 : ¬ (j : Int) < 8 := by omega
       go_wp2_with fail
       go_roundw
       case rel => exact ⟨k + 1, by omega, by go_num, by rw [HLN.out], ⟨D2, (ownsMap_ext own6 xj).mono (by omega), HMpr.out _ HMT3.out⟩, grown_later HG7.out xj⟩
       case measure => simp [intOf]; omega
  ·obtain rfl : k = d.pr.length := by omega
   go_wp2_with fail
   go_ret
   exact ⟨rfl, xk⟩
end Go.Proofs.YtfaplefkakpgcaaGreatDoor
/- state.Check of any machine: its processes. -/
namespace Go.Proofs.YtfaplefkakpgcaaGreatDoor
set_option linter.unusedVariables false
set_option linter.unusedSimpArgs false
open Go.RowKit
theorem fdW_zero {d : MacD} {y : PrT} {j : Nat} (h1 : y.fk j = 0) (h2 : y.fn j = 0) (h3 : y.fp j = 0) : FdW d y j := ⟨.inl ⟨.inl h1, h2, h3⟩, fun _ => h1⟩
set_option maxHeartbeats 8000000 in
set_option maxRecDepth 100000 in
theorem procs_no (m : Mac) (d : MacD) (w : World) (hi : MacIn w m d) (hn : m.pr.n ≤ 8) (hpi : m.pi.n ≤ 4000) (hno : ¬ ProcsK m d d.pr.length) (hfn : m.fr.n ≤ 64) :
  Calls Tryz.prog 46 #[.agg m.cells] w fun e w' => e = .returned (.int .i64 3) ∧ Ext w w' := by
 have HFi := Lib.hid (fun y w => sfields_any y w)
 have HPa := Lib.hid (fun y w hi h => stparent_any m d y w hi (by omega) h)
 have HFl := Lib.hid (fun k n p w hi h h0 => file_ok m d k n p w hi (by omega) h h0)
 have HFn := Lib.hid (fun k n p w hi h => file_no m d k n p w hi (by omega) h)
 have x0 := (Ext.refl w).alloc (.cells m.cells 38)
 have bm := Box.new w 38 m.cells
 have HM := Lib.hid (hi.ext x0)
 obtain ⟨hv1, hv2⟩ := hi.pr
 have HV2 := Lib.hid hv2
 have HV1 := Lib.hid hv1
 clear hv2 hv1
 have f1 : decide (8 < (m.pr.n : Int)) = false := by simp; omega
 have HNO := Lib.hid (fun h : RowsW m d d.pr.length => hno h.all)
 clear hno
 have hmk := fun w => run_makeMap (P := Tryz.prog) 125 w
 go_enter Tryz.func46, Tryz.ntmps46
 go_upto_region 1 with fail
 generalize w.alloc (.cells m.cells 38) = w1 at *
 have k5 : w1.cell? ⟨w.heap.size, 5, none⟩ = some (.slice m.pr.A m.pr.n m.pr.c) := bm.cell 5
 go_upto_region 4 with fail
 clear hmk f1 k5
 have xm := x0.alloc (.map #[] 0)
 have bm2 := bm.ext ((Ext.refl w1).alloc (.map #[] 0))
 have HM2 := Lib.hid (HM.out.ext ((Ext.refl w1).alloc (.map #[] 0)))
 have hmap : (w1.alloc (.map #[] 0)).ownsMap Tryz.prog 3 (plainElem (H := Unit) Tryz.prog 4) w1.heap.size 0 (.map []) := World.ownsMap_made w1 Tryz.prog 3 _
 have hMB : (w1.alloc (.map #[] 0)).heap[w1.heap.size]? = some (.map #[] 0) := World.alloc_heap_new w1 _
 have hlm : w.heap.size < w1.heap.size := bm.lt
 generalize w1.alloc (.map #[] 0) = w2 at *
 generalize hBm : w1.heap.size = Bm at *
 generalize hG : w.heap.size = G at *
 have k5 : w2.cell? ⟨G, 5, none⟩ = some (.slice m.pr.A m.pr.n m.pr.c) := bm2.cell 5
 clear bm
 go_upto_region 6 with fail
 clear k5
 have hln : m.pr.n = d.pr.length := HV1.out
 have hv3 := HV2.out
 clear HV2
 generalize hrA : m.pr.A = A at hv3 ⊢
 generalize hrn : m.pr.n = pn at hv3 ⊢
 have HRA := Lib.hid hrA
 obtain rfl : d.pr.length = pn := by omega
 have hn8 : d.pr.length ≤ 8 := by omega
 clear hrA hrn hln hn
 go_loopw [4, 19] (fun s i wx => ∃ k : Nat, k ≤ d.pr.length ∧ i = .int .i64 k ∧ s = .int .i64 (lastPid d.pr k) ∧ (∃ D, wx.ownsMap Tryz.prog 3 (plainElem (H := Unit) Tryz.prog 4) Bm (16 * k) D ∧ MetD d.pr k 0 D) ∧ w2.grownBy wx (some Bm) ∧ RowsW m d k) (fun _ i _ => d.pr.length - (intOf i).toNat)
 case atStart => exact ⟨0, by omega, rfl, rfl, ⟨.map [], hmap, MetD.zero _⟩, grown_refl _ _, RowsW.zero m d⟩
 case round =>
  obtain ⟨k, hk, rfl, rfl, ⟨D, hown, hmet⟩, hg, hrw⟩ := hrel
  have xk : Ext w wr := xm.grown hg (fun j e => by cases e; omega)
  have bmk := bm2.grown hg (by intro e; injection e with e; omega)
  have HMk := Lib.hid (hi.ext xk)
  have HG := Lib.hid hg
  have HRW := Lib.hid hrw
  clear hg hrw
  by_cases hlt : k < d.pr.length
  ·obtain ⟨b, o, rfl, hcell⟩ := hv3 (by omega)
   have r1 := range_ext (pr_ranged hcell hlt) xk
   have hki : (k : Int) < (d.pr.length : Int) := by omega
   have HLN := Lib.hid (show lastPid d.pr (k + 1) = (d.pr.getD k default).pid by unfold lastPid; rw [if_pos (by omega), Nat.add_sub_cancel])
   have HMT := Lib.hid hmet
   have HMsk := Lib.hid (fun (j : Nat) (D : DataW Unit) (h : MetD d.pr k j D) hi => h.skip hi)
   have HMput := Lib.hid (fun (j f : Nat) (D : DataW Unit) (h : MetD d.pr k j D) hD hi hf hk => h.put (f := f) hD hi hf hk)
   have HMpr := Lib.hid (fun (D : DataW Unit) (h : MetD d.pr k 16 D) => h.proc)
   have HPZ := Lib.hid (PagesW.zero HRW.out)
   have HPN := Lib.hid (fun (j : Nat) (h : PagesW m d.pr k j) hp hm => h.next hp hm)
   have HRN := Lib.hid (fun hp hl hu => HRW.out.next hp hl hu)
   have HL0 := Lib.hid (show 0 ≤ lastPid d.pr k from by
    unfold lastPid
    split
    ·rename_i h0
     have := (HRW.out.1 (k - 1) (by omega) (by omega)).1.pid.1
     omega
    ·omega)
   have HPP := Lib.hid (show pidB d.pr k = lastPid d.pr k from rfl)
   clear hcell hmet HRW
   generalize hpw : PagesW m d.pr k = PW at *
   generalize lastPid d.pr k = last at *
   have hpu : ∀ j, PW j → (∀ i, i < j → PageW m (d.pr.getD k default) i) ∧ ∀ fr, usersK d.pr fr k + cntFr (d.pr.getD k default) fr j ≤ 1 := fun j h => by rw [← hpw] at h; exact h
   have HPU := Lib.hid hpu
   have HMT0 := Lib.hid (fun (j : Nat) (fr : Int) => show Met d.pr k j fr ∨ ¬ Met d.pr k j fr from Classical.em _)
   clear hpu hpw
   generalize d.pr.getD k default = y at *
   go_upto_region 8 with (first
    | (refine wp_ld_pr (.tmp 21) rfl rfl b (o + k * 96) y rfl r1 ?_)
    | (refine wp_st_pr (.tmp 6) (.tmp 22) rfl rfl wr.heap.size y _ 57 rfl rfl (Box.new _ _ _) rfl ?_; intro w3 b3 g3))
   have x3 : Ext wr w3 := ((Ext.refl wr).alloc _).grown g3 (fun j e => by cases e; exact Nat.le_refl _)
   have xx3 := xk.trans x3
   have bm3 := bmk.ext x3
   have own3 := ownsMap_ext hown x3
   have HG3 := Lib.hid (grown_later HG.out x3)
   have hMk : Bm < wr.heap.size := hown.lt
   clear g3 r1 hown x3 bmk xk HMk
   generalize wr.heap.size = P3 at *
   have c0 : w3.cell? ⟨P3, 0, none⟩ = some (.int .i64 y.pid) := b3.cell 0
   have q6 : w3.cell? ⟨G, 6, none⟩ = some (.int .i64 m.next) := bm3.cell 6
   by_cases hp1 : y.pid ≤ last
   ·have hp1' : decide (y.pid ≤ last) = true := decide_eq_true hp1
    go_wp2_with fail
    go_ret
    exact ⟨rfl, xx3⟩
   have hp1' : decide (y.pid ≤ last) = false := decide_eq_false hp1
   by_cases hp2 : m.next ≤ y.pid
   ·have hp2' : decide (m.next ≤ y.pid) = true := decide_eq_true hp2
    clear hp1
    go_wp2_with fail
    go_ret
    exact ⟨rfl, xx3⟩
   have hp2' : decide (m.next ≤ y.pid) = false := decide_eq_false hp2
   have HPid := Lib.hid (show (1 ≤ y.pid ∧ y.pid < m.next) ∧ last < y.pid from by have := HL0.out; omega)
   clear hp1 hp2
   by_cases hF : FieldsP y
   case neg =>
    have HFn := Lib.hid hF
    clear hF
    go_wp2_with (first
     | (refine wp_ld_pr_g (.tmp 6) rfl rfl P3 y 57 rfl b3 ?_)
     | (go_at_call 90; refine (HFi.out _ _).mono ?_; rintro e w4 ⟨hB, x4⟩; obtain rfl := hB.out_no HFn.out; clear hB))
    go_ret
    exact ⟨rfl, xx3.trans x4⟩
   have HFP := Lib.hid hF
   clear hF
   by_cases hP : ParP d y
   case neg =>
    have HPn := Lib.hid hP
    clear hP
    go_wp2_with (first
     | (refine wp_ld_pr_g (.tmp 6) rfl rfl P3 y 57 rfl b3 ?_)
     | (go_at_call 90; refine (HFi.out _ _).mono ?_; rintro e w4 ⟨hB, x4⟩; obtain rfl := hB.out_yes HFP.out; clear hB; have b4 := b3.ext x4; have bm4 := bm3.ext x4)
     | (refine wp_ld_mac_g (.tmp 1) rfl rfl G m 38 rfl bm4 ?_)
     | (refine wp_ld_pr_g (.tmp 6) rfl rfl P3 y 57 rfl b4 ?_)
     | (go_at_call 91; refine (HPa.out _ _ (hi.ext (xx3.trans x4)) HFP.out.1).mono ?_; rintro e w5 ⟨hB, x5⟩; obtain rfl := hB.out_no HPn.out; clear hB))
    go_ret
    exact ⟨rfl, (xx3.trans x4).trans x5⟩
   have HPR := Lib.hid hP
   clear hP
   go_upto_region 10 with (first
    | (refine wp_ld_pr_g (.tmp 6) rfl rfl P3 y 57 rfl b3 ?_)
    | (go_at_call 90; refine (HFi.out _ _).mono ?_; rintro e w4 ⟨hB, x4⟩; obtain rfl := hB.out_yes HFP.out; clear hB; have b4 := b3.ext x4; have bm4 := bm3.ext x4)
    | (refine wp_ld_mac_g (.tmp 1) rfl rfl G m 38 rfl bm4 ?_)
    | (refine wp_ld_pr_g (.tmp 6) rfl rfl P3 y 57 rfl b4 ?_)
    | (go_at_call 91; refine (HPa.out _ _ (hi.ext (xx3.trans x4)) HFP.out.1).mono ?_; rintro e w5 ⟨hB, x5⟩; obtain rfl := hB.out_yes HPR.out; clear hB))
   have b5 := b4.ext x5
   have bm5 := bm4.ext x5
   have x45 := x4.trans x5
   have own5 := ownsMap_ext own3 x45
   have HG5 := Lib.hid (grown_later HG3.out x45)
   have xx5 := xx3.trans x45
   have hP5 := b5.lt
   have hPm : P3 ≠ Bm := by omega
   have e0 : w5.cell? ⟨P3, 0, none⟩ = some (.int .i64 y.pid) := b5.cell 0
   clear x4 x5 x45 b3 b4 bm3 bm4 c0 q6 own3 xx3 hp1' hp2' HG HG3 HFi HPa
   go_upto_region 12 with (first
    | (refine wp_ld_space (.tmp 47) rfl rfl P3 57 y rfl b5 ?_))
   clear e0
   go_loopw [49] (fun i wx => ∃ j : Nat, j ≤ 16 ∧ i = .int .i64 j ∧ (∃ D, wx.ownsMap Tryz.prog 3 (plainElem (H := Unit) Tryz.prog 4) Bm (16 * k + j) D ∧ MetD d.pr k j D) ∧ w5.grownBy wx (some Bm) ∧ PW j) (fun i _ => 16 - (intOf i).toNat)
   case atStart => exact ⟨0, by omega, rfl, ⟨D, own5, HMT.out⟩, grown_refl _ _, HPZ.out⟩
   case round =>
    clear own5
    obtain ⟨j, hj, rfl, ⟨D2, own6, hmet2⟩, hg6, hpwj⟩ := hrel
    have HMT2 := Lib.hid hmet2
    have HG6 := Lib.hid hg6
    have HPW := Lib.hid hpwj
    have b6 := b5.grown hg6 (by intro e; injection e with e; omega)
    have bm6 := bm5.grown hg6 (by intro e; injection e with e; omega)
    have xx6 : Ext w wr := xx5.grown hg6 (fun j e => by cases e; omega)
    clear hmet2 hg6 hpwj
    by_cases hj2 : j < 16
    ·have hji : (j : Int) < 16 := by omega
     have HMp0 := Lib.hid (fun f => HMput.out j f D2 HMT2.out own6.isMap)
     have HSk := Lib.hid (HMsk.out j D2 HMT2.out)
     have HNx := Lib.hid (HPN.out j HPW.out)
     have hcase : (y.pis j = false ∧ ((y.pwr j = false ∧ y.pfr j = 0 ∧ PageW m y j) ∨ (y.pwr j = true ∨ (y.pfr j == 0) = false))) ∨ (y.pis j = true ∧ ((y.state == 3) = true ∨ ((y.state == 3) = false ∧ (decide (y.pfr j < 0) = true ∨ (decide (y.pfr j < 0) = false ∧ (decide ((m.fr.n : Int) ≤ y.pfr j) = true ∨ (decide ((m.fr.n : Int) ≤ y.pfr j) = false ∧ PageW m y j ∧ (Met d.pr k j (y.pfr j) ∨ ¬ Met d.pr k j (y.pfr j)))))))) ) := by
      cases hc : y.pis j
      ·left
       refine ⟨rfl, ?_⟩
       cases hc2 : y.pwr j
       ·by_cases h0 : y.pfr j = 0
        ·exact .inl ⟨rfl, h0, .inl ⟨hc, hc2, h0⟩⟩
        ·exact .inr (.inr (by simpa using h0))
       ·exact .inr (.inl rfl)
      ·right
       refine ⟨rfl, ?_⟩
       by_cases h3 : y.state = 3
       ·exact .inl (by simpa using h3)
       ·refine .inr ⟨by simpa using h3, ?_⟩
        by_cases h4 : y.pfr j < 0
        ·exact .inl (decide_eq_true h4)
        ·refine .inr ⟨decide_eq_false h4, ?_⟩
         by_cases h5 : (m.fr.n : Int) ≤ y.pfr j
         ·exact .inl (decide_eq_true h5)
         ·exact .inr ⟨decide_eq_false h5, .inr ⟨hc, h3, by omega, by omega⟩, HMT0.out _ _⟩
     go_upto_region 14 with (refine wp_idx_pte (.tmp 48) (.tmp 49) rfl rfl y j rfl rfl hj2 ?_)
     have HMtt := Lib.hid (fun f : Nat => HMT2.out f)
     have HCase := Lib.hid hcase
     clear hcase HMT2
     have hcase := HCase.out
     clear HCase
     generalize hpp : PageW m y j = PP at *
     generalize hia : y.pis j = ia at *
     generalize hiw : y.pwr j = iw at *
     generalize hif : y.pfr j = ifr at *
     clear hpp hia hiw hif
     have xq : Ext wr (wr.alloc (.cells #[.bool ia, .bool iw, .int .i64 ifr] 50)) := (Ext.refl _).alloc _
     have bq := Box.new wr 50 #[.bool ia, .bool iw, .int .i64 ifr]
     have own7 := own6.alloc (.cells #[.bool ia, .bool iw, .int .i64 ifr] 50)
     have b7 := b6.ext xq
     have bm7 := bm6.ext xq
     have hQm : wr.heap.size ≠ Bm := by have := own6.lt; omega
     generalize wr.alloc (.cells #[.bool ia, .bool iw, .int .i64 ifr] 50) = wq at *
     have q0 := bq.cell 0
     have q1 := bq.cell 1
     have q2 := bq.cell 2
     rcases hcase with ⟨rfl, ⟨rfl, rfl, hpg⟩ | hbad⟩ | ⟨rfl, hs3 | ⟨hs3, h4 | ⟨h4, h5 | ⟨h5, hpg, hmt⟩⟩⟩⟩
     ·have HPG := Lib.hid hpg
      clear hpg
      go_wp2_with fail
      go_roundw
      case rel => exact ⟨j + 1, by omega, by go_num, ⟨D2, own7.mono (by omega), HSk.out rfl⟩, grown_later HG6.out xq, HNx.out HPG.out (fun h => by cases h)⟩
      case measure => simp [intOf]; omega
     ·rcases hbad with rfl | hb
      ·go_wp2_with fail
       go_ret
       exact ⟨rfl, xx6.trans xq⟩
      ·cases iw <;> go_wp2_with fail
       all_goals
        go_ret
        exact ⟨rfl, xx6.trans xq⟩
     ·have c2 : wq.cell? ⟨P3, 2, none⟩ = some (.int .i64 y.state) := b7.cell 2
      go_wp2_with fail
      go_ret
      exact ⟨rfl, xx6.trans xq⟩
     ·have c2 : wq.cell? ⟨P3, 2, none⟩ = some (.int .i64 y.state) := b7.cell 2
      go_wp2_with fail
      go_ret
      exact ⟨rfl, xx6.trans xq⟩
     ·have c2 : wq.cell? ⟨P3, 2, none⟩ = some (.int .i64 y.state) := b7.cell 2
      have c4 : wq.cell? ⟨G, 4, none⟩ = some (.slice m.fr.A m.fr.n m.fr.c) := bm7.cell 4
      go_wp2_with fail
      go_ret
      exact ⟨rfl, xx6.trans xq⟩
     ·have hf0 : 0 ≤ ifr := by have := of_decide_eq_false h4; omega
      obtain ⟨f, rfl⟩ : ∃ f : Nat, ifr = (f : Int) := ⟨ifr.toNat, by omega⟩
      have hf1 : (f : Int) < (m.fr.n : Int) := by have := of_decide_eq_false h5; omega
      have hfb : f ≤ 100000 := by omega
      have c2 : wq.cell? ⟨P3, 2, none⟩ = some (.int .i64 y.state) := b7.cell 2
      have c4 : wq.cell? ⟨G, 4, none⟩ = some (.slice m.fr.A m.fr.n m.fr.c) := bm7.cell 4
      have s4 : decide ((f : Int) < 0) = false := h4
      have s6 : decide (m.fr.n ≤ f) = false := decide_eq_false (by omega)
      have HPG := Lib.hid hpg
      rcases hmt with hmt | hmt
      ·have hlk := look_bool Bm (16 * k + j) f D2 true own7 hfb ((HMtt.out f).1 hmt)
       clear hmt hpg hf0 hf1
       go_wp2_with fail
       go_ret
       exact ⟨rfl, xx6.trans xq⟩
      ·have hlk := look_bool Bm (16 * k + j) f D2 false own7 hfb ((HMtt.out f).2 hmt)
       have HNM := Lib.hid hmt
       have HMp := Lib.hid (HMp0.out f rfl rfl (intKeyed.key (key_i64 f hfb)))
       clear hmt hpg hf0 hf1
       go_wp2_with (first
        | (at_mapUpdate; refine wpList_mapUpdate_own _ rfl _ _ _ 125 rfl 3 4 intKeyed Tryz.underlying125 (plainElem (H := Unit) Tryz.prog 4) Bm (16 * k + j) _ rfl own7 (by unfold maxLen; omega) _ _ (.int .i64 (f : Int)) rfl rfl (key_i64 f hfb) (.lit (.bool true)) [] (plainElem_bool Tryz.underlying4 true) ?_; intro w8 own8 hg8))
       go_roundw
       case rel => exact ⟨j + 1, by omega, by go_num, ⟨_, own8, HMp.out⟩, grown_then (grown_later HG6.out xq) hg8 (fun j e => .inr e), HNx.out HPG.out (fun _ => HNM.out)⟩
       case measure => simp [intOf]; omega
    ·have hjn16 : ¬ (j : Int) < 16 := by omega
     have HJ16 := Lib.hid (show j = 16 by omega)
     have HMT3 := Lib.hid (show MetD d.pr k 16 D2 by rw [← HJ16.out]; exact HMT2.out)
     have HPU2 := Lib.hid (HPU.out 16 (by rw [← HJ16.out]; exact HPW.out))
     clear HMput HMsk HMT2 HMT0 HPW HPU HPN HPZ
     have HG7 := Lib.hid (grown_then HG5.out HG6.out (fun j e => .inr e))
     have HRN2 := Lib.hid (fun (hf : FdsW d y 8) => HRN.out ⟨HPid.out.1, HFP.out, HPR.out, fun i hi => HPU2.out.1 i hi, hf⟩ (by rw [HPP.out]; exact HPid.out.2) HPU2.out.2)
     clear HRN HPU2
     go_upto_region 22 with (first
      | (refine wp_ld_fds (.tmp 84) rfl rfl P3 57 y rfl b6 ?_))
     generalize hwz : wr = wz at *
     clear hwz
     go_loopw [86] (fun i wx => ∃ j : Nat, j ≤ 8 ∧ i = .int .i64 j ∧ Ext wz wx ∧ FdsW d y j) (fun i _ => 8 - (intOf i).toNat)
     case atStart => exact ⟨0, by omega, rfl, Ext.refl _, fun i hi => absurd hi (Nat.not_lt_zero _)⟩
     case round =>
      obtain ⟨j, hj, rfl, xj, hfj⟩ := hrel
      have HFJ := Lib.hid hfj
      clear hfj
      by_cases hj2 : j < 8
      ·have hji : (j : Int) < 8 := by omega
       have HFx := Lib.hid (fun h => HFJ.out.next (j := j) h)
       have hcase : (y.fk j = 0 ∧ y.fn j = 0 ∧ y.fp j = 0 ∧ FdW d y j) ∨ ((y.fk j ≠ 0 ∨ y.fn j ≠ 0 ∨ y.fp j ≠ 0) ∧ ((y.state == 3) = true ∨ ((y.state == 3) = false ∧ ((FdP d.pi (y.fk j) (y.fn j) (y.fp j) ∧ y.fk j ≠ 0 ∧ FdW d y j) ∨ ¬ FdP d.pi (y.fk j) (y.fn j) (y.fp j))))) := by
        by_cases hz : y.fk j = 0 ∧ y.fn j = 0 ∧ y.fp j = 0
        ·exact .inl ⟨hz.1, hz.2.1, hz.2.2, fdW_zero hz.1 hz.2.1 hz.2.2⟩
        ·refine .inr ⟨by omega, ?_⟩
         by_cases h3 : y.state = 3
         ·exact .inl (by simpa using h3)
         ·refine .inr ⟨by simpa using h3, ?_⟩
          by_cases hp : FdP d.pi (y.fk j) (y.fn j) (y.fp j)
          ·refine .inl ⟨hp, fun h0 => ?_, hp, fun h => absurd h h3⟩
           rcases hp with ⟨_, h4, h5⟩ | ⟨h4, _⟩ | ⟨h4, _⟩ <;> omega
          ·exact .inr hp
       have HCase := Lib.hid hcase
       clear hcase
       go_upto_region 24 with (refine wp_idx_fd (.tmp 85) (.tmp 86) rfl rfl y j rfl rfl hj2 ?_)
       have hcase := HCase.out
       clear HCase
       generalize FdW d y j = FW at *
       generalize y.fk j = ik at *
       generalize y.fn j = ifn at *
       generalize y.fp j = ifp at *
       have xq : Ext wr (wr.alloc (.cells #[.int .i64 ik, .int .i64 ifn, .int .i64 ifp] 54)) := (Ext.refl _).alloc _
       have bq := Box.new wr 54 #[.int .i64 ik, .int .i64 ifn, .int .i64 ifp]
       have xz := xj.trans xq
       generalize wr.alloc (.cells #[.int .i64 ik, .int .i64 ifn, .int .i64 ifp] 54) = wq at *
       have q0 : wq.cell? ⟨wr.heap.size, 0, none⟩ = some (.int .i64 ik) := bq.cell 0
       have q1 := bq.cell 1
       have q2 := bq.cell 2
       have c2 : wq.cell? ⟨P3, 2, none⟩ = some (.int .i64 y.state) := (b6.ext xz).cell 2
       have bm7 := bm6.ext xz
       have HMq := Lib.hid (hi.ext (xx6.trans xz))
       clear bq xq
       rcases hcase with ⟨rfl, rfl, rfl, hw⟩ | ⟨hnz, hcase⟩
       ·have HW := Lib.hid hw
        clear hw
        go_wp2_with fail
        go_roundw
        case rel => exact ⟨j + 1, by omega, by go_num, xz, HFx.out HW.out⟩
        case measure => simp [intOf]; omega
       ·have hnz2 : ((ik == 0) = false) ∨ (ik = 0 ∧ (ifn == 0) = false) ∨ (ik = 0 ∧ ifn = 0 ∧ (ifp == 0) = false) := by
         by_cases e1 : ik = 0
         ·by_cases e2 : ifn = 0
          ·have e3 : ifp ≠ 0 := by omega
           exact .inr (.inr ⟨e1, e2, by simpa using e3⟩)
          ·exact .inr (.inl ⟨e1, by simpa using e2⟩)
         ·exact .inl (by simpa using e1)
        clear hnz
        rcases hcase with hs3 | ⟨hs3, ⟨hp, hk0, hw⟩ | hp⟩
        ·rcases hnz2 with hz | ⟨rfl, hz⟩ | ⟨rfl, rfl, hz⟩ <;> go_wp2_with fail
         all_goals
          go_ret
          exact ⟨rfl, xx6.trans xz⟩
        ·have HFD2 := Lib.hid hp
         have HK0 := Lib.hid hk0
         have HW := Lib.hid hw
         have hz : (ik == 0) = false := by simpa using hk0
         clear hp hk0 hw hnz2
         go_wp2_with (first
          | (refine wp_ld_mac_g (.tmp 1) rfl rfl G m 38 rfl bm7 ?_)
          | (go_at_call 92; refine (HFl.out _ _ _ _ HMq.out HFD2.out HK0.out).mono ?_; rintro e w9 ⟨rfl, x9⟩))
         go_roundw
         case rel => exact ⟨j + 1, by omega, by go_num, xz.trans x9, HFx.out HW.out⟩
         case measure => simp [intOf]; omega
        ·have HFD2 := Lib.hid hp
         clear hp
         rcases hnz2 with hz | ⟨rfl, hz⟩ | ⟨rfl, rfl, hz⟩ <;> go_wp2_with (first
          | (refine wp_ld_mac_g (.tmp 1) rfl rfl G m 38 rfl bm7 ?_)
          | (go_at_call 92; refine (HFn.out _ _ _ _ HMq.out HFD2.out).mono ?_; rintro e w9 ⟨rfl, x9⟩))
         all_goals
          go_ret
          exact ⟨rfl, (xx6.trans xz).trans x9⟩
      ·have hjn8 : ¬ (j : Int) < 8 := by omega
       have HJ8 := Lib.hid (show j = 8 by omega)
       have HRW2 := Lib.hid (HRN2.out (by rw [← HJ8.out]; exact HFJ.out))
       clear HRN2 HFJ
       go_wp2_with fail
       go_roundw
       case rel => exact ⟨k + 1, by omega, by go_num, by rw [HLN.out], ⟨D2, (ownsMap_ext own6 xj).mono (by omega), HMpr.out _ HMT3.out⟩, grown_later HG7.out xj, HRW2.out⟩
       case measure => simp [intOf]; omega
  ·exfalso
   obtain rfl : k = d.pr.length := by omega
   exact HNO.out HRW.out
set_option maxHeartbeats 1000000 in
set_option maxRecDepth 100000 in
theorem stprocs_any (m : Mac) (d : MacD) (w : World) (hi : MacIn w m d) (hpi : m.pi.n ≤ 4000) (hfn : m.fr.n ≤ 64) :
  Calls Tryz.prog 46 #[.agg m.cells] w fun e w' => e = .returned (.int .i64 (prE m d)) ∧ Ext w w' := by
 unfold prE
 by_cases h : m.pr.n ≤ 8
 case neg =>
  rw [errB_no h, orE_l (by omega)]
  have x0 := (Ext.refl w).alloc (.cells m.cells 38)
  have bm := Box.new w 38 m.cells
  clear hi
  have f2 : decide (8 < (m.pr.n : Int)) = true := by simp; omega
  clear h
  go_enter Tryz.func46, Tryz.ntmps46
  go_upto_region 1 with fail
  generalize w.alloc (.cells m.cells 38) = w1 at *
  have k8 : w1.cell? ⟨w.heap.size, 5, none⟩ = some (.slice m.pr.A m.pr.n m.pr.c) := bm.cell 5
  go_wp2_with fail
  go_ret
  exact ⟨rfl, x0⟩
 rw [errB_yes h, orE_r]
 by_cases hp : ProcsK m d d.pr.length
 ·rw [errB_yes hp]
  exact procs_ok m d w hi h hpi hp hfn
 ·rw [errB_no hp]
  exact procs_no m d w hi h hpi hp hfn
end Go.Proofs.YtfaplefkakpgcaaGreatDoor
/- state.Check on a machine that may be: its volume; all points. -/
namespace Go.Proofs.YtfaplefkakpgcaaGreatDoor
set_option linter.unusedVariables false
set_option linter.unusedSimpArgs false
open Go.RowKit
set_option maxHeartbeats 4000000 in
set_option maxRecDepth 100000 in
theorem volume_ok (m : Mac) (d : MacD) (w : World) (hi : MacIn w m d) (h : DiskOk d) :
  Calls Tryz.prog 49 #[.agg m.cells] w fun e w' => e = .returned (.int .i64 0) ∧ Ext w w' := by
 obtain ⟨hj, hdl, hdi, I, hgood⟩ := h
 have hdrv : drvE d.bl d.pe = 0 := by
  unfold jrnE at hj
  split at hj
  ·rename_i h; exact absurd hj h
  ·rename_i h; exact Decidable.of_not_not h
 have hlen := homeP_len hj
 have hok := drvOk_of hj
 have hleast := hok.least
 have HC := Lib.hid (fun w h1 h2 => dcheck_any m.bl.A m.pe.A m.bl.n m.bl.c m.pe.n m.pe.c m.dleft d.bl d.pe w h1 h2 (maxLen_le hi.pek.2.1))
 have HH := Lib.hid (fun w h1 h2 => home_any m.bl.A m.pe.A m.bl.n m.bl.c m.pe.n m.pe.c m.dleft d.bl d.pe w h1 h2 (maxLen_le hi.pek.2.1) hi.blk.2.2)
 rw [hdrv] at HC
 have HO := Lib.hid (fun A n c w h => of_yes A n c (viewP d.bl d.pe d.di) I w h hgood)
 have x0 := (Ext.refl w).alloc (.cells m.cells 38)
 have bm := Box.new w 38 m.cells
 have HM := Lib.hid (hi.ext x0)
 obtain ⟨hd1, hd2⟩ := hi.di.wrs
 have HD1 := Lib.hid hd1
 have HDI := Lib.hid hdi
 have HV := Lib.hid (show viewP d.bl d.pe d.di = d.di.foldl layP (homeP d.bl d.pe) from rfl)
 have hH33 : 0 < (homeP d.bl d.pe).length := by omega
 have HHL := Lib.hid hlen
 have hmost : (homeP d.bl d.pe).length ≤ 1000 := by have := hok.most; omega
 clear hi hj hdrv hgood hok hdi hlen hleast hd1
 go_enter Tryz.func49, Tryz.ntmps49
 go_upto_region 1 with fail
 generalize w.alloc (.cells m.cells 38) = w1 at *
 go_upto_region 4 with (first
  | (refine wp_ld_drvM (.tmp 10) rfl rfl w.heap.size m 38 rfl bm ?_)
  | (go_at_call 93; refine (HC.out _ HM.out.bl.strs HM.out.pe.wrs).mono ?_; rintro e w2 ⟨rfl, x2⟩))
 have bm2 := bm.ext x2
 have xx2 := x0.trans x2
 go_upto_region 5 with (first
  | (refine wp_ld_drvM (.tmp 16) rfl rfl w.heap.size m 38 rfl bm2 ?_)
  | (go_at_call 50; refine (HH.out _ (HM.out.ext x2).bl.strs (HM.out.ext x2).pe.wrs).mono ?_; rintro e w3 ⟨A1, c1, rfl, x3, own1⟩))
 have bm3 := bm2.ext x3
 have xx3 := xx2.trans x3
 have hGw : w.heap.size < w2.heap.size := bm2.lt
 have c16 : w3.cell? ⟨w.heap.size, 16, none⟩ = some (.slice m.di.A m.di.n m.di.c) := bm3.cell 16
 have own1' := own_base own1 (base' := w.heap.size) (by omega)
 have d32 : decide (32 < (m.di.n : Int)) = false := by have := HD1.out; simp; omega
 clear bm bm2 x2 x3 xx2 own1 HC HH x0
 generalize homeP d.bl d.pe = H at *
 have hH0 : ((H.length : Int) == 0) = false := by rw [beq_eq_false_iff_ne]; omega
 have hln : m.di.n = d.di.length := HD1.out
 go_upto_region 11 with fail
 clear d32 hH0 c16
 have HOv := Lib.hid HO.out
 have HVl := Lib.hid HV.out
 have HDL := Lib.hid (fun k => foldl_lay_len (d.di.take k) H)
 have HTk := Lib.hid (fun k (h : k < d.di.length) => foldl_lay_take h H)
 have HLK := Lib.hid (show ∀ (k : Nat) (h : k < d.di.length), 0 ≤ (d.di.getD k default).1 ∧ (d.di.getD k default).1 < (H.length : Int) ∧ (d.di.getD k default).2.length = 128 ∧ d.di[k] = d.di.getD k default ∧ decide ((d.di.getD k default).1 ≤ (if 0 < k then (d.di.getD (k - 1) default).1 else -1)) = false from fun k h => by
  have e : d.di.getD k default = d.di[k] := by rw [List.getD_eq_getElem?_getD, List.getElem?_eq_getElem h]; rfl
  obtain ⟨h1, h2, h3, h4⟩ := HDI.out k h
  rw [e]
  refine ⟨h1, by rw [HHL.out]; exact h2, h3, rfl, decide_eq_false ?_⟩
  split
  ·rename_i h0
   have := h4 h0
   rw [List.getD_eq_getElem?_getD, List.getElem?_eq_getElem (by omega)]
   show ¬ d.di[k].1 ≤ (d.di[k - 1]'(by omega)).1
   omega
  ·omega)
 clear HV HO HDI HHL
 generalize viewP d.bl d.pe d.di = V at *
 generalize d.di = l at *
 generalize hdA : m.di.A = dA at hd2 ⊢
 generalize hdn : m.di.n = dn at hd2 hln ⊢
 clear hdA hdn HD1
 subst hln
 go_loopw [5, 29] (fun s i wx => ∃ k : Nat, k ≤ l.length ∧ i = .int .i64 k ∧ s = .int .i64 (if 0 < k then (l.getD (k - 1) default).1 else -1) ∧ Ext w wx ∧ wx.ownsRow w.heap.size 9 1 (.slice A1 H.length c1) H.length (strL ((l.take k).foldl layP H))) (fun _ i _ => l.length - (intOf i).toNat)
 case atStart => exact ⟨0, by omega, rfl, rfl, xx3, own1'⟩
 case round =>
  obtain ⟨k, hk, rfl, rfl, xk, ok⟩ := hrel
  by_cases hlt : k < l.length
  ·obtain ⟨b2, o2, rfl, hcell⟩ := hd2 (by omega)
   have e1 := xk.keep (hcell k hlt).1
   have e2 := xk.keep (hcell k hlt).2
   obtain ⟨h0, h1, h128, hge, hlast⟩ := HLK.out k hlt
   have HT := Lib.hid (HTk.out k hlt)
   have HVl := Lib.hid (HDL.out k)
   have HN := Lib.hid (show (if 0 < k + 1 then (l.getD (k + 1 - 1) default).1 else -1) = (l.getD k default).1 by rw [if_pos (by omega), Nat.add_sub_cancel])
   have hki : (k : Int) < (l.length : Int) := by omega
   have hz := str_size
   rw [hge] at e1 e2 HT
   clear hcell hge
   generalize (if 0 < k then (l.getD (k - 1) default).1 else (-1 : Int)) = last at *
   generalize l.getD k default = y at *
   generalize (l.take k).foldl layP H = W at *
   have d1 : decide ((H.length : Int) ≤ y.1) = false := decide_eq_false (by omega)
   have d2 : ((y.2.length : Int) != 128) = false := by rw [h128]; rfl
   obtain ⟨y1, y2⟩ := y
   simp only at h0 h1 h128 d1 d2 e1 e2 hlast HN
   obtain ⟨q, rfl⟩ : ∃ q : Nat, y1 = q := ⟨y1.toNat, by omega⟩
   have hqN : q < H.length := by omega
   have hqI : (q : Int) < (H.length : Int) := h1
   have okA := own_ext ok ((Ext.refl wr).alloc (.cells #[.int .i64 (q : Int), .string (str y2)] 92))
   have HY := Lib.hid (show layP W ((q : Int), y2) = W.set q y2 by unfold layP; simp only; rw [if_pos (by have := HVl.out; omega)]; rfl)
   obtain ⟨g, cap, hgc, hg, _⟩ := Strs.own' ok (by omega)
   injection hgc with hgA _ hgc
   subst hgA; subst hgc
   have kc : (wr.alloc (.cells #[.int .i64 (q : Int), .string (str y2)] 92)).cell? ⟨g, q, none⟩ = some (.string (str (W.getD q []))) := (okA.cellAt q (by omega)).trans (by have := HVl.out; simp [strL, this, hqN, List.getD_eq_getElem?_getD])
   have kf := okA.frozenAt q
   clear h0 h1 h128
   go_wp2_with fail
   go_roundw
   case rel => exact ⟨k + 1, by omega, by go_num, by rw [HN.out], (xk.alloc _).setCell hg _, by rw [HT.out, HY.out]; exact own_set okA _⟩
   case measure => simp [intOf]; omega
  ·have hlt2 : ¬ (k : Int) < (l.length : Int) := by omega
   obtain rfl : k = l.length := by omega
   rw [List.take_length, ← HVl.out] at ok
   have hVl : V.length = H.length := by rw [HVl.out]; exact foldl_lay_len _ _
   rw [← hVl] at ok ⊢
   have hs := Strs.own ok
   clear hVl HVl HTk HDL HLK ok
   go_wp2_with (first
    | (go_at_call 94; refine (HOv.out _ _ _ _ hs).mono ?_; rintro e w6 ⟨rfl, x6⟩)
    | (rw [geomV_eq]; refine wp_st_geom (.tmp 8) (.tmp 62) rfl rfl w6.heap.size _ [0, 0, 0, 0, 0, 0] 144 rfl rfl (Box.new _ _ _) rfl rfl ?_; intro w7 b7 g7))
   all_goals
    go_ret
    exact ⟨rfl, ((xk.trans x6).alloc _).grown g7 (fun j e => by cases e; exact (xk.trans x6).size)⟩
end Go.Proofs.YtfaplefkakpgcaaGreatDoor
/- state.Check of any machine: its volume. -/
namespace Go.Proofs.YtfaplefkakpgcaaGreatDoor
set_option linter.unusedVariables false
set_option linter.unusedSimpArgs false
open Go.RowKit
theorem jrn_of {d : MacD} (h : drvE d.bl d.pe = 0) (hl : 33 < d.bl.length) : jrnE d.bl d.pe = 0 := by
 unfold jrnE
 rw [if_neg (by omega), if_neg (by omega)]
theorem of_none (A : Option Addr) (n c : Nat) (v : List (List UInt8)) (w : World) (hv : Strs w A n v) (hnk : n ≤ 9223372036854775807) (hg : ¬ ∃ I, Good v I) :
  Calls Tryz.prog 94 #[.slice A n c] w fun e w' => e = .returned (.tuple #[noGeom, .int .i64 3]) ∧ Ext w w' :=
 (gof_any A n c v w hv hnk).mono fun e w' ⟨h, x⟩ => ⟨by
  rcases h with ⟨I, hI, _⟩ | h
  ·exact absurd ⟨I, hI⟩ hg
  ·exact h, x⟩
set_option maxHeartbeats 4000000 in
set_option maxRecDepth 100000 in
theorem volume_drv (m : Mac) (d : MacD) (w : World) (hi : MacIn w m d) (h : drvE d.bl d.pe ≠ 0) :
  Calls Tryz.prog 49 #[.agg m.cells] w fun e w' => e = .returned (.int .i64 (drvE d.bl d.pe)) ∧ Ext w w' := by
 have HC := Lib.hid (fun w h1 h2 => dcheck_any m.bl.A m.pe.A m.bl.n m.bl.c m.pe.n m.pe.c m.dleft d.bl d.pe w h1 h2 (maxLen_le hi.pek.2.1))
 have x0 := (Ext.refl w).alloc (.cells m.cells 38)
 have bm := Box.new w 38 m.cells
 have HM := Lib.hid (hi.ext x0)
 clear hi
 generalize drvE d.bl d.pe = n at *
 have hn : (n != 0) = true := by simpa using h
 clear h
 go_enter Tryz.func49, Tryz.ntmps49
 go_upto_region 1 with fail
 generalize w.alloc (.cells m.cells 38) = w1 at *
 go_wp2_with (first
  | (refine wp_ld_drvM (.tmp 10) rfl rfl w.heap.size m 38 rfl bm ?_)
  | (go_at_call 93; refine (HC.out _ HM.out.bl.strs HM.out.pe.wrs).mono ?_; rintro e w2 ⟨rfl, x2⟩))
 go_ret
 exact ⟨rfl, x0.trans x2⟩
set_option maxHeartbeats 4000000 in
set_option maxRecDepth 100000 in
theorem volume_home (m : Mac) (d : MacD) (w : World) (hi : MacIn w m d) (h : drvE d.bl d.pe = 0) (hl : ¬ 33 < d.bl.length) :
  Calls Tryz.prog 49 #[.agg m.cells] w fun e w' => e = .returned (.int .i64 3) ∧ Ext w w' := by
 have HC := Lib.hid (fun w h1 h2 => dcheck_any m.bl.A m.pe.A m.bl.n m.bl.c m.pe.n m.pe.c m.dleft d.bl d.pe w h1 h2 (maxLen_le hi.pek.2.1))
 have HH := Lib.hid (fun w h1 h2 => home_any m.bl.A m.pe.A m.bl.n m.bl.c m.pe.n m.pe.c m.dleft d.bl d.pe w h1 h2 (maxLen_le hi.pek.2.1) hi.blk.2.2)
 have hh : homeP d.bl d.pe = [] := by
  have hj : jrnE d.bl d.pe = 2 := by
   unfold jrnE
   rw [if_neg (by omega), if_pos (by omega)]
  unfold homeP
  rw [if_pos (by rw [hj]; decide)]
 rw [h] at HC
 rw [hh] at HH
 have x0 := (Ext.refl w).alloc (.cells m.cells 38)
 have bm := Box.new w 38 m.cells
 have HM := Lib.hid (hi.ext x0)
 clear hi h hl hh
 go_enter Tryz.func49, Tryz.ntmps49
 go_upto_region 1 with fail
 generalize w.alloc (.cells m.cells 38) = w1 at *
 go_wp2_with (first
  | (refine wp_ld_drvM (.tmp 10) rfl rfl w.heap.size m 38 rfl bm ?_)
  | (go_at_call 93; refine (HC.out _ HM.out.bl.strs HM.out.pe.wrs).mono ?_; rintro e w2 ⟨rfl, x2⟩)
  | (refine wp_ld_drvM (.tmp 16) rfl rfl w.heap.size m 38 rfl (bm.ext x2) ?_)
  | (go_at_call 50; refine (HH.out _ (HM.out.ext x2).bl.strs (HM.out.ext x2).pe.wrs).mono ?_; rintro e w3 ⟨A1, c1, rfl, x3, own1⟩))
 go_ret
 exact ⟨rfl, (x0.trans x2).trans x3⟩
set_option maxHeartbeats 4000000 in
set_option maxRecDepth 100000 in
theorem volume_no (m : Mac) (d : MacD) (w : World) (hi : MacIn w m d) (hd : drvE d.bl d.pe = 0) (hl33 : 33 < d.bl.length) (c : Int) (h : (32 < d.di.length ∧ c = 6) ∨ (d.di.length ≤ 32 ∧ c = 3 ∧ ¬ (DirtyK (d.bl.length - 33) d.di d.di.length ∧ ∃ I, Good (viewP d.bl d.pe d.di) I))) :
  Calls Tryz.prog 49 #[.agg m.cells] w fun e w' => e = .returned (.int .i64 c) ∧ Ext w w' := by
 have hj := jrn_of hd hl33
 have hlen := homeP_len hj
 have hok := drvOk_of hj
 have hleast := hok.least
 have HC := Lib.hid (fun w h1 h2 => dcheck_any m.bl.A m.pe.A m.bl.n m.bl.c m.pe.n m.pe.c m.dleft d.bl d.pe w h1 h2 (maxLen_le hi.pek.2.1))
 have HH := Lib.hid (fun w h1 h2 => home_any m.bl.A m.pe.A m.bl.n m.bl.c m.pe.n m.pe.c m.dleft d.bl d.pe w h1 h2 (maxLen_le hi.pek.2.1) hi.blk.2.2)
 rw [hd] at HC
 have x0 := (Ext.refl w).alloc (.cells m.cells 38)
 have bm := Box.new w 38 m.cells
 have HM := Lib.hid (hi.ext x0)
 obtain ⟨hd1, hd2⟩ := hi.di.wrs
 have HD1 := Lib.hid hd1
 have HV := Lib.hid (show viewP d.bl d.pe d.di = d.di.foldl layP (homeP d.bl d.pe) from rfl)
 have hH33 : 0 < (homeP d.bl d.pe).length := by omega
 have HHL := Lib.hid hlen
 have hmost : (homeP d.bl d.pe).length ≤ 1000 := by have := hok.most; omega
 rw [← hlen] at h
 have HCs := Lib.hid h
 clear h hi hj hok hlen hleast hd1 hd hl33
 go_enter Tryz.func49, Tryz.ntmps49
 go_upto_region 1 with fail
 generalize w.alloc (.cells m.cells 38) = w1 at *
 go_upto_region 4 with (first
  | (refine wp_ld_drvM (.tmp 10) rfl rfl w.heap.size m 38 rfl bm ?_)
  | (go_at_call 93; refine (HC.out _ HM.out.bl.strs HM.out.pe.wrs).mono ?_; rintro e w2 ⟨rfl, x2⟩))
 have bm2 := bm.ext x2
 have xx2 := x0.trans x2
 go_upto_region 5 with (first
  | (refine wp_ld_drvM (.tmp 16) rfl rfl w.heap.size m 38 rfl bm2 ?_)
  | (go_at_call 50; refine (HH.out _ (HM.out.ext x2).bl.strs (HM.out.ext x2).pe.wrs).mono ?_; rintro e w3 ⟨A1, c1, rfl, x3, own1⟩))
 have bm3 := bm2.ext x3
 have xx3 := xx2.trans x3
 have hGw : w.heap.size < w2.heap.size := bm2.lt
 have c16 : w3.cell? ⟨w.heap.size, 16, none⟩ = some (.slice m.di.A m.di.n m.di.c) := bm3.cell 16
 have own1' := own_base own1 (base' := w.heap.size) (by omega)
 clear bm bm2 x2 x3 xx2 own1 HC HH x0
 generalize homeP d.bl d.pe = H at *
 have hH0 : ((H.length : Int) == 0) = false := by rw [beq_eq_false_iff_ne]; omega
 have hln : m.di.n = d.di.length := HD1.out
 rcases HCs.out with ⟨h32, rfl⟩ | ⟨h32, rfl, hno⟩
 ·have d32 : decide (32 < (m.di.n : Int)) = true := by simp; omega
  clear hln
  go_wp2_with fail
  go_ret
  exact ⟨rfl, xx3⟩
 have d32 : decide (32 < (m.di.n : Int)) = false := by simp; omega
 have HNo := Lib.hid hno
 clear hno HCs
 go_upto_region 11 with fail
 clear d32 hH0 c16
 have HDL := Lib.hid (fun k => foldl_lay_len (d.di.take k) H)
 have HTk := Lib.hid (fun k (h : k < d.di.length) => foldl_lay_take h H)
 have HDN := Lib.hid (show ∀ k, DirtyK H.length d.di k → (h : k < d.di.length) → 0 ≤ d.di[k].1 → d.di[k].1 < (H.length : Int) → d.di[k].2.length = 128 → (0 < k → (d.di.getD (k - 1) default).1 < d.di[k].1) → DirtyK H.length d.di (k + 1) from fun k h hk h1 h2 h3 h4 i hi hik => by
  by_cases e : i < k
  ·exact h i hi e
  ·obtain rfl : i = k := by omega
   refine ⟨h1, h2, h3, fun h0 => ?_⟩
   have := h4 h0
   rw [List.getD_eq_getElem?_getD, List.getElem?_eq_getElem (by omega)] at this
   exact this)
 have HD0 := Lib.hid (show ∀ k, DirtyK H.length d.di k → 0 < k → (h : k - 1 < d.di.length) → 0 ≤ (d.di.getD (k - 1) default).1 from fun k h h0 hk => by
  rw [List.getD_eq_getElem?_getD, List.getElem?_eq_getElem hk]
  exact (h (k - 1) hk (by omega)).1)
 generalize hDK : DirtyK H.length d.di = DK at *
 have HDz := Lib.hid (show DK 0 by rw [← hDK]; exact fun i h hk => by omega)
 clear hDK HHL
 have HNo2 := Lib.hid (show DK d.di.length → ¬ ∃ I, Good (d.di.foldl layP H) I from fun h1 h2 => HNo.out ⟨h1, by rw [HV.out]; exact h2⟩)
 clear HNo HV
 generalize d.di = l at *
 generalize hdA : m.di.A = dA at hd2 ⊢
 generalize hdn : m.di.n = dn at hd2 hln ⊢
 clear hdA hdn HD1
 subst hln
 go_loopw [5, 29] (fun s i wx => ∃ k : Nat, k ≤ l.length ∧ i = .int .i64 k ∧ s = .int .i64 (if 0 < k then (l.getD (k - 1) default).1 else -1) ∧ Ext w wx ∧ wx.ownsRow w.heap.size 9 1 (.slice A1 H.length c1) H.length (strL ((l.take k).foldl layP H)) ∧ DK k) (fun _ i _ => l.length - (intOf i).toNat)
 case atStart => exact ⟨0, by omega, rfl, rfl, xx3, own1', HDz.out⟩
 case round =>
  obtain ⟨k, hk, rfl, rfl, xk, ok, hdk⟩ := hrel
  have HDK := Lib.hid hdk
  clear hdk
  by_cases hlt : k < l.length
  ·obtain ⟨b2, o2, rfl, hcell⟩ := hd2 (by omega)
   have e1 := xk.keep (hcell k hlt).1
   have e2 := xk.keep (hcell k hlt).2
   have HT := Lib.hid (HTk.out k hlt)
   have HVl := Lib.hid (HDL.out k)
   have HN := Lib.hid (show (if 0 < k + 1 then (l.getD (k + 1 - 1) default).1 else -1) = l[k].1 by
    rw [if_pos (by omega), Nat.add_sub_cancel, List.getD_eq_getElem?_getD, List.getElem?_eq_getElem hlt]; rfl)
   have hki : (k : Int) < (l.length : Int) := by omega
   have hz := str_size
   have HL0 := Lib.hid (show -1 ≤ (if 0 < k then (l.getD (k - 1) default).1 else (-1 : Int)) from by
    split
    ·rename_i h0
     have := HD0.out k HDK.out h0 (by omega)
     omega
    ·omega)
   have HNx := Lib.hid (show 0 ≤ l[k].1 → l[k].1 < (H.length : Int) → l[k].2.length = 128 → (if 0 < k then (l.getD (k - 1) default).1 else (-1 : Int)) < l[k].1 → DK (k + 1) from fun h1 h2 h3 h4 => HDN.out k HDK.out hlt h1 h2 h3 (fun h0 => by rw [if_pos h0] at h4; exact h4))
   clear hcell
   generalize (if 0 < k then (l.getD (k - 1) default).1 else (-1 : Int)) = last at *
   generalize l[k] = y at *
   generalize (l.take k).foldl layP H = W at *
   have xz := xk.alloc (.cells #[.int .i64 y.1, .string (str y.2)] 92)
   by_cases g1 : y.1 ≤ last
   ·have g1' : decide (y.1 ≤ last) = true := decide_eq_true g1
    clear g1
    go_wp2_with fail
    go_ret
    exact ⟨rfl, xz⟩
   have g1' : decide (y.1 ≤ last) = false := decide_eq_false g1
   by_cases g2 : (H.length : Int) ≤ y.1
   ·have g2' : decide ((H.length : Int) ≤ y.1) = true := decide_eq_true g2
    clear g1 g2
    go_wp2_with fail
    go_ret
    exact ⟨rfl, xz⟩
   have g2' : decide ((H.length : Int) ≤ y.1) = false := decide_eq_false g2
   by_cases g3 : y.2.length = 128
   case neg =>
    have g3' : ((y.2.length : Int) != 128) = true := by simp; omega
    clear g1 g2 g3
    go_wp2_with fail
    go_ret
    exact ⟨rfl, xz⟩
   have g3' : ((y.2.length : Int) != 128) = false := by rw [g3]; rfl
   have h0 : 0 ≤ y.1 := by have := HL0.out; omega
   have HNy := Lib.hid (HNx.out h0 (by omega) g3 (by omega))
   clear HNx g3 g1
   obtain ⟨y1, y2⟩ := y
   simp only at h0 g2 g1' g2' g3' e1 e2 HN HNy
   obtain ⟨q, rfl⟩ : ∃ q : Nat, y1 = q := ⟨y1.toNat, by omega⟩
   have hqN : q < H.length := by omega
   have hqI : (q : Int) < (H.length : Int) := by omega
   have okA := own_ext ok ((Ext.refl wr).alloc (.cells #[.int .i64 (q : Int), .string (str y2)] 92))
   have HY := Lib.hid (show layP W ((q : Int), y2) = W.set q y2 by unfold layP; simp only; rw [if_pos (by have := HVl.out; omega)]; rfl)
   obtain ⟨g, cap, hgc, hg, _⟩ := Strs.own' ok (by omega)
   injection hgc with hgA _ hgc
   subst hgA; subst hgc
   have kc : (wr.alloc (.cells #[.int .i64 (q : Int), .string (str y2)] 92)).cell? ⟨g, q, none⟩ = some (.string (str (W.getD q []))) := (okA.cellAt q (by omega)).trans (by have := HVl.out; simp [strL, this, hqN, List.getD_eq_getElem?_getD])
   have kf := okA.frozenAt q
   clear h0 g2
   go_wp2_with fail
   go_roundw
   case rel => exact ⟨k + 1, by omega, by go_num, by rw [HN.out], (xk.alloc _).setCell hg _, by rw [HT.out, HY.out]; exact own_set okA _, HNy.out⟩
   case measure => simp [intOf]; omega
  ·have hlt2 : ¬ (k : Int) < (l.length : Int) := by omega
   obtain rfl : k = l.length := by omega
   rw [List.take_length] at ok
   have hVl : (l.foldl layP H).length = H.length := foldl_lay_len _ _
   have HNN := Lib.hid (HNo2.out HDK.out)
   generalize l.foldl layP H = V at *
   rw [← hVl] at ok ⊢
   have hs := Strs.own ok
   have hVk : V.length ≤ 9223372036854775807 := by omega
   clear hVl HTk HDL ok
   go_wp2_with (first
    | (go_at_call 94; refine (of_none _ _ _ _ _ hs hVk HNN.out).mono ?_; rintro e w6 ⟨rfl, x6⟩)
    | (rw [noGeom_eq]; refine wp_st_geom (.tmp 8) (.tmp 62) rfl rfl w6.heap.size _ [0, 0, 0, 0, 0, 0] 144 rfl rfl (Box.new _ _ _) rfl rfl ?_; intro w7 b7 g7))
   all_goals
    go_ret
    exact ⟨rfl, ((xk.trans x6).alloc _).grown g7 (fun j e => by cases e; exact (xk.trans x6).size)⟩
theorem stvolume_any (m : Mac) (d : MacD) (w : World) (hi : MacIn w m d) :
  Calls Tryz.prog 49 #[.agg m.cells] w fun e w' => e = .returned (.int .i64 (voE d)) ∧ Ext w w' := by
 by_cases hok : DiskOk d
 ·rw [voE_zero.2 hok]; exact volume_ok m d w hi hok
 have hok2 : voE d ≠ 0 := fun h => hok (voE_zero.1 h)
 unfold voE at hok2 ⊢
 by_cases h1 : drvE d.bl d.pe = 0
 case neg => rw [orE_l h1]; exact volume_drv m d w hi h1
 rw [h1, orE_r] at hok2 ⊢
 by_cases h2 : 33 < d.bl.length
 case neg => rw [errB_no h2, orE_l (by omega)]; exact volume_home m d w hi h1 h2
 rw [errB_yes h2, orE_r] at hok2 ⊢
 by_cases h3 : d.di.length ≤ 32
 case neg => rw [errB_no h3, orE_l (by omega)]; exact volume_no m d w hi h1 h2 6 (.inl ⟨by omega, rfl⟩)
 rw [errB_yes h3, orE_r] at hok2 ⊢
 by_cases h4 : DirtyK (d.bl.length - 33) d.di d.di.length
 case neg => rw [errB_no h4, orE_l (by omega)]; exact volume_no m d w hi h1 h2 3 (.inr ⟨h3, rfl, fun h => h4 h.1⟩)
 rw [errB_yes h4, orE_r] at hok2 ⊢
 by_cases h5 : ∃ I, Good (viewP d.bl d.pe d.di) I
 ·rw [errB_yes h5] at hok2; exact absurd rfl hok2
 ·rw [errB_no h5]; exact volume_no m d w hi h1 h2 3 (.inr ⟨h3, rfl, fun h => h5 h.2⟩)
end Go.Proofs.YtfaplefkakpgcaaGreatDoor
/- state.Check of any machine: numbers, frames, pipes, texts. -/
namespace Go.Proofs.YtfaplefkakpgcaaGreatDoor
set_option linter.unusedVariables false
set_option linter.unusedSimpArgs false
open Go.RowKit
set_option maxHeartbeats 1000000 in
set_option maxRecDepth 100000 in
theorem stnumbers_any (m : Mac) (w : World) :
  Calls Tryz.prog 44 #[.agg m.cells] w fun e w' => e = .returned (.int .i64 (numE m)) ∧ Ext w w' := by
 by_cases h : NumsOk m
 ·unfold numE
  rw [errB_yes h]
  exact numbers_ok m w h
 unfold numE
 rw [errB_no h]
 have x0 := (Ext.refl w).alloc (.cells m.cells 38)
 have bm := Box.new w 38 m.cells
 have HN := Lib.hid h
 clear h
 go_enter Tryz.func44, Tryz.ntmps44
 go_upto_region 1 with fail
 generalize w.alloc (.cells m.cells 38) = w1 at *
 obtain ⟨k0, k1, k2, k3, k4, k5, k6, k7, k8, k9, k10, k11, k12, k13, k14, k15, k16⟩ := mac_cells bm
 clear k0 k4 k5 k7 k8 k10 k11 k12 k13 k14 k15 k16 bm
 go_wp2_with fail
 all_goals
  go_ret
  first
   | exact ⟨rfl, x0⟩
   | (exfalso
      refine HN.out ⟨⟨?_, ?_⟩, ⟨?_, ?_⟩, ?_, ⟨?_, ?_⟩, ⟨?_, ?_⟩⟩ <;> omega)
set_option maxHeartbeats 1000000 in
set_option maxRecDepth 100000 in
theorem sttexts_any (m : Mac) (w : World) :
  Calls Tryz.prog 48 #[.agg m.cells] w fun e w' => e = .returned (.int .i64 (teE m)) ∧ Ext w w' := by
 by_cases h : m.inn.length ≤ 65536 ∧ m.init.length ≤ 128
 ·unfold teE
  rw [errB_yes h]
  exact texts_ok m w h
 unfold teE
 rw [errB_no h]
 have x0 := (Ext.refl w).alloc (.cells m.cells 38)
 have bm := Box.new w 38 m.cells
 have hz := str_size
 by_cases h1 : m.inn.length ≤ 65536
 ·have f1 : decide (65536 < (m.inn.length : Int)) = false := by simp; omega
  have f2 : decide (128 < (m.init.length : Int)) = true := by simp; omega
  clear h h1
  go_enter Tryz.func48, Tryz.ntmps48
  go_upto_region 1 with fail
  generalize w.alloc (.cells m.cells 38) = w1 at *
  obtain ⟨k0, k1, k2, k3, k4, k5, k6, k7, k8, k9, k10, k11, k12, k13, k14, k15, k16⟩ := mac_cells bm
  clear k0 k1 k2 k3 k4 k5 k6 k8 k9 k11 k12 k13 k14 k15 k16 bm
  go_wp2_with fail
  go_ret
  exact ⟨rfl, x0⟩
 ·have f1 : decide (65536 < (m.inn.length : Int)) = true := by simp; omega
  clear h h1
  go_enter Tryz.func48, Tryz.ntmps48
  go_upto_region 1 with fail
  generalize w.alloc (.cells m.cells 38) = w1 at *
  obtain ⟨k0, k1, k2, k3, k4, k5, k6, k7, k8, k9, k10, k11, k12, k13, k14, k15, k16⟩ := mac_cells bm
  clear k0 k1 k2 k3 k4 k5 k6 k8 k9 k11 k12 k13 k14 k15 k16 bm
  go_wp2_with fail
  go_ret
  exact ⟨rfl, x0⟩
set_option maxHeartbeats 1000000 in
set_option maxRecDepth 100000 in
theorem stframes_any (m : Mac) (d : MacD) (w : World) (hi : MacIn w m d) :
  Calls Tryz.prog 45 #[.agg m.cells] w fun e w' => e = .returned (.int .i64 (frE m d)) ∧ Ext w w' := by
 unfold frE
 by_cases h : 1 ≤ m.fr.n ∧ m.fr.n ≤ 64
 case neg =>
  rw [errB_no h, orE_l (by omega)]
  have x0 := (Ext.refl w).alloc (.cells m.cells 38)
  have bm := Box.new w 38 m.cells
  clear hi
  by_cases h1 : 1 ≤ m.fr.n
  ·have f1 : decide ((m.fr.n : Int) < 1) = false := by simp; omega
   have f2 : decide (64 < (m.fr.n : Int)) = true := by simp; omega
   clear h h1
   go_enter Tryz.func45, Tryz.ntmps45
   go_upto_region 1 with fail
   generalize w.alloc (.cells m.cells 38) = w1 at *
   obtain ⟨k0, k1, k2, k3, k4, k5, k6, k7, k8, k9, k10, k11, k12, k13, k14, k15, k16⟩ := mac_cells bm
   clear k0 k1 k2 k3 k5 k6 k7 k8 k9 k10 k11 k12 k13 k14 k15 k16 bm
   go_wp2_with fail
   go_ret
   exact ⟨rfl, x0⟩
  ·have f1 : decide ((m.fr.n : Int) < 1) = true := by simp; omega
   clear h h1
   go_enter Tryz.func45, Tryz.ntmps45
   go_upto_region 1 with fail
   generalize w.alloc (.cells m.cells 38) = w1 at *
   obtain ⟨k0, k1, k2, k3, k4, k5, k6, k7, k8, k9, k10, k11, k12, k13, k14, k15, k16⟩ := mac_cells bm
   clear k0 k1 k2 k3 k5 k6 k7 k8 k9 k10 k11 k12 k13 k14 k15 k16 bm
   go_wp2_with fail
   go_ret
   exact ⟨rfl, x0⟩
 rw [errB_yes h, orE_r]
 by_cases hf : ∀ b ∈ d.fr, b.length = 128
 case pos =>
  rw [errB_yes hf]
  exact frames_ok m d w hi h hf
 rw [errB_no hf]
 have x0 := (Ext.refl w).alloc (.cells m.cells 38)
 have bm := Box.new w 38 m.cells
 obtain ⟨hv1, hv2⟩ := hi.fr.strs
 clear hi
 obtain ⟨a1, a2⟩ := h
 have hz := str_size
 have f1 : decide ((m.fr.n : Int) < 1) = false := by simp; omega
 have f2 : decide (64 < (m.fr.n : Int)) = false := by simp; omega
 have HF := Lib.hid hf
 have HV1 := Lib.hid hv1
 clear hf hv1
 go_enter Tryz.func45, Tryz.ntmps45
 go_upto_region 1 with fail
 generalize w.alloc (.cells m.cells 38) = w1 at *
 obtain ⟨k0, k1, k2, k3, k4, k5, k6, k7, k8, k9, k10, k11, k12, k13, k14, k15, k16⟩ := mac_cells bm
 clear k0 k1 k2 k3 k5 k6 k7 k8 k9 k10 k11 k12 k13 k14 k15 k16 bm
 go_wp2_with fail
 clear f1 f2 k4
 generalize d.fr = l at *
 generalize m.fr.A = A at *
 generalize m.fr.n = n at *
 obtain rfl : n = l.length := HV1.out
 go_loop [18] (fun i => ∃ k : Nat, k ≤ l.length ∧ i = .int .i64 k ∧ ∀ (j : Nat) (h : j < l.length), j < k → l[j].length = 128) (fun i => l.length - (intOf i).toNat)
 case atStart => exact ⟨0, by omega, rfl, fun j h h2 => by omega⟩
 case round =>
  obtain ⟨k, hk, rfl, hall⟩ := hrel
  have HA := Lib.hid hall
  clear hall
  by_cases hlt : k < l.length
  ·obtain ⟨b, o, rfl, hcell⟩ := hv2 (by omega)
   have e1 := x0.keep (hcell k hlt)
   have hki : (k : Int) < (l.length : Int) := by omega
   by_cases hl : l[k].length = 128
   ·have hl' : ((l[k].length : Int) != 128) = false := by rw [hl]; rfl
    have HN := Lib.hid (show ∀ (j : Nat) (h : j < l.length), j < k + 1 → l[j].length = 128 from fun j hj h2 => by
     by_cases e : j < k
     ·exact HA.out j hj e
     ·obtain rfl : j = k := by omega
      exact hl)
    clear hcell hl
    generalize l[k] = y at *
    go_wp2_with fail
    go_round
    case rel => exact ⟨k + 1, by omega, by go_num, HN.out⟩
    case measure => simp [intOf]; omega
   ·have hl' : ((l[k].length : Int) != 128) = true := by simp; omega
    clear hcell hl
    generalize l[k] = y at *
    go_wp2_with fail
    go_ret
    exact ⟨rfl, x0⟩
  ·exfalso
   refine HF.out (fun b hb => ?_)
   obtain ⟨j, hj, rfl⟩ := List.getElem_of_mem hb
   exact HA.out j hj (by omega)
set_option maxHeartbeats 1000000 in
set_option maxRecDepth 100000 in
theorem stpipes_any (m : Mac) (d : MacD) (w : World) (hi : MacIn w m d) :
  Calls Tryz.prog 47 #[.agg m.cells] w fun e w' => e = .returned (.int .i64 (piE m d)) ∧ Ext w w' := by
 unfold piE
 by_cases h : m.pi.n ≤ 64
 case neg =>
  rw [errB_no h, orE_l (by omega)]
  have x0 := (Ext.refl w).alloc (.cells m.cells 38)
  have bm := Box.new w 38 m.cells
  clear hi
  have f2 : decide (64 < (m.pi.n : Int)) = true := by simp; omega
  clear h
  go_enter Tryz.func47, Tryz.ntmps47
  go_upto_region 1 with fail
  generalize w.alloc (.cells m.cells 38) = w1 at *
  have k8 : w1.cell? ⟨w.heap.size, 8, none⟩ = some (.slice m.pi.A m.pi.n m.pi.c) := bm.cell 8
  go_wp2_with fail
  go_ret
  exact ⟨rfl, x0⟩
 rw [errB_yes h, orE_r]
 by_cases hp : PipesK m d.pi d.pi.length
 case pos =>
  rw [errB_yes hp]
  exact pipes_ok m d w hi h hp
 rw [errB_no hp]
 have x0 := (Ext.refl w).alloc (.cells m.cells 38)
 have bm := Box.new w 38 m.cells
 obtain ⟨hv1, hv2⟩ := hi.pi.wrs
 clear hi
 have hz := str_size
 have f2 : decide (64 < (m.pi.n : Int)) = false := by simp; omega
 have HP := Lib.hid hp
 have HV1 := Lib.hid hv1
 clear hp hv1
 go_enter Tryz.func47, Tryz.ntmps47
 go_upto_region 1 with fail
 generalize w.alloc (.cells m.cells 38) = w1 at *
 have k8 : w1.cell? ⟨w.heap.size, 8, none⟩ = some (.slice m.pi.A m.pi.n m.pi.c) := bm.cell 8
 have k9 : ∀ wx, Ext w1 wx → wx.cell? ⟨w.heap.size, 9, none⟩ = some (.int .i64 m.newPipe) := fun wx x => (bm.ext x).cell 9
 have K9 := Lib.hid k9
 clear k9 bm
 go_wp2_with fail
 clear f2 k8
 have HPN := Lib.hid (show ∀ k, PipesK m d.pi k → (h : k < d.pi.length) → 1 ≤ d.pi[k].1 → d.pi[k].1 < m.newPipe → d.pi[k].2.length ≤ 64 → (0 < k → (d.pi.getD (k - 1) default).1 < d.pi[k].1) → PipesK m d.pi (k + 1) from fun k h hk h1 h2 h3 h4 i hi hik => by
  by_cases e : i < k
  ·exact h i hi e
  ·obtain rfl : i = k := by omega
   refine ⟨h1, h2, h3, fun h0 => ?_⟩
   have := h4 h0
   rw [List.getD_eq_getElem?_getD, List.getElem?_eq_getElem (by omega)] at this
   exact this)
 have HP0 := Lib.hid (show ∀ k, PipesK m d.pi k → 0 < k → (h : k - 1 < d.pi.length) → 1 ≤ (d.pi.getD (k - 1) default).1 from fun k h h0 hk => by
  rw [List.getD_eq_getElem?_getD, List.getElem?_eq_getElem hk]
  exact (h (k - 1) hk (by omega)).1)
 generalize hPK : PipesK m d.pi = PK at *
 have HPz := Lib.hid (show PK 0 by rw [← hPK]; exact fun i h hk => by omega)
 clear hPK
 generalize hl : d.pi = l at *
 clear hl
 generalize m.pi.A = A at *
 generalize m.pi.n = n at *
 obtain rfl : n = l.length := HV1.out
 go_loopw [3, 13] (fun s i wx => ∃ k : Nat, k ≤ l.length ∧ i = .int .i64 k ∧ s = .int .i64 (if 0 < k then (l.getD (k - 1) default).1 else 0) ∧ Ext w1 wx ∧ PK k) (fun _ i _ => l.length - (intOf i).toNat)
 case atStart => exact ⟨0, by omega, rfl, rfl, Ext.refl _, HPz.out⟩
 case round =>
  obtain ⟨k, hk, rfl, rfl, xk, hpk⟩ := hrel
  have HPK := Lib.hid hpk
  clear hpk
  by_cases hlt : k < l.length
  ·obtain ⟨b, o, rfl, hcell⟩ := hv2 (by omega)
   have e1 := (x0.trans xk).keep (hcell k hlt).1
   have e2 := (x0.trans xk).keep (hcell k hlt).2
   have hki : (k : Int) < (l.length : Int) := by omega
   have g4 : l[k] = l.getD k default := by rw [List.getD_eq_getElem?_getD, List.getElem?_eq_getElem hlt]; rfl
   have G4 := Lib.hid g4
   have HL0 := Lib.hid (show 0 ≤ (if 0 < k then (l.getD (k - 1) default).1 else (0 : Int)) from by
    split
    ·rename_i h0
     have := HP0.out k HPK.out h0 (by omega)
     omega
    ·omega)
   have HNx := Lib.hid (show 1 ≤ l[k].1 → l[k].1 < m.newPipe → l[k].2.length ≤ 64 → (if 0 < k then (l.getD (k - 1) default).1 else (0 : Int)) < l[k].1 → PK (k + 1) from fun h1 h2 h3 h4 => HPN.out k HPK.out hlt h1 h2 h3 (fun h0 => by rw [if_pos h0] at h4; exact h4))
   generalize (if 0 < k then (l.getD (k - 1) default).1 else (0 : Int)) = last at *
   have xz := xk.alloc (.cells #[.int .i64 l[k].1, .string (str l[k].2)] 95)
   have k9 := K9.out _ xz
   clear hcell g4
   generalize l[k] = y at *
   by_cases g1 : y.1 ≤ last
   ·have g1' : decide (y.1 ≤ last) = true := decide_eq_true g1
    clear g1
    go_wp2_with fail
    go_ret
    exact ⟨rfl, x0.trans xz⟩
   have g1' : decide (y.1 ≤ last) = false := decide_eq_false g1
   by_cases g2 : m.newPipe ≤ y.1
   ·have g2' : decide (m.newPipe ≤ y.1) = true := decide_eq_true g2
    clear g1 g2
    go_wp2_with fail
    go_ret
    exact ⟨rfl, x0.trans xz⟩
   have g2' : decide (m.newPipe ≤ y.1) = false := decide_eq_false g2
   by_cases g3 : 64 < y.2.length
   ·have g3' : decide (64 < (y.2.length : Int)) = true := by simp; omega
    clear g1 g2 g3
    go_wp2_with fail
    go_ret
    exact ⟨rfl, x0.trans xz⟩
   have g3' : decide (64 < (y.2.length : Int)) = false := by simp; omega
   have HNy := Lib.hid (HNx.out (by have := HL0.out; omega) (by omega) (by omega) (by omega))
   clear g1 g2 g3 HNx
   go_wp2_with fail
   go_roundw
   case rel => exact ⟨k + 1, by omega, by go_num, by rw [if_pos (by omega), Nat.add_sub_cancel, ← G4.out], xz, HNy.out⟩
   case measure => simp [intOf]; omega
  ·exfalso
   obtain rfl : k = l.length := by omega
   exact HP.out HPK.out
end Go.Proofs.YtfaplefkakpgcaaGreatDoor
/- state.Check of any machine: all points. -/
namespace Go.Proofs.YtfaplefkakpgcaaGreatDoor
set_option linter.unusedVariables false
set_option linter.unusedSimpArgs false
open Go.RowKit
noncomputable def stepE (m : Mac) (d : MacD) : Nat → Int
 | 0 => numE m
 | 1 => frE m d
 | 2 => prE m d
 | 3 => piE m d
 | 4 => teE m
 | _ => voE d
theorem chkE_step {m : Mac} {d : MacD} {k : Nat} (hk : k < 6) (h : ∀ j, j < k → stepE m d j = 0) (h0 : stepE m d k ≠ 0) : chkE m d = stepE m d k := by
 unfold chkE
 rcases (by omega : k = 0 ∨ k = 1 ∨ k = 2 ∨ k = 3 ∨ k = 4 ∨ k = 5) with rfl | rfl | rfl | rfl | rfl | rfl
 ·exact orE_l h0 _
 ·rw [show numE m = 0 from h 0 (by omega), orE_r]; exact orE_l h0 _
 ·rw [show numE m = 0 from h 0 (by omega), orE_r, show frE m d = 0 from h 1 (by omega), orE_r]; exact orE_l h0 _
 ·rw [show numE m = 0 from h 0 (by omega), orE_r, show frE m d = 0 from h 1 (by omega), orE_r, show prE m d = 0 from h 2 (by omega), orE_r]; exact orE_l h0 _
 ·rw [show numE m = 0 from h 0 (by omega), orE_r, show frE m d = 0 from h 1 (by omega), orE_r, show prE m d = 0 from h 2 (by omega), orE_r, show piE m d = 0 from h 3 (by omega), orE_r]; exact orE_l h0 _
 ·rw [show numE m = 0 from h 0 (by omega), orE_r, show frE m d = 0 from h 1 (by omega), orE_r, show prE m d = 0 from h 2 (by omega), orE_r, show piE m d = 0 from h 3 (by omega), orE_r, show teE m = 0 from h 4 (by omega), orE_r]
  rfl
theorem chkE_all {m : Mac} {d : MacD} (h : ∀ j, j < 6 → stepE m d j = 0) : chkE m d = 0 := by
 unfold chkE
 rw [show numE m = 0 from h 0 (by omega), orE_r, show frE m d = 0 from h 1 (by omega), orE_r, show prE m d = 0 from h 2 (by omega), orE_r, show piE m d = 0 from h 3 (by omega), orE_r, show teE m = 0 from h 4 (by omega), orE_r]
 exact h 5 (by omega)
theorem frn_of {m : Mac} {d : MacD} (h : frE m d = 0) : m.fr.n ≤ 64 := by
 unfold frE at h
 exact ((errB_zero (show (6 : Int) ≠ 0 by omega)).1 (orE_zero.1 h).1).2
set_option maxHeartbeats 4000000 in
set_option maxRecDepth 100000 in
theorem scheck_any (m : Mac) (d : MacD) (w : World) (hi : MacIn w m d) (hpi : m.pi.n ≤ 4000) :
  Calls Tryz.prog 17 #[.agg m.cells] w fun e w' => e = .returned (.int .i64 (chkE m d)) ∧ Ext w w' := by
 have H1 := Lib.hid (fun w => stnumbers_any m w)
 have H2 := Lib.hid (fun w hi => stframes_any m d w hi)
 have H3 := Lib.hid (fun w hi h => stprocs_any m d w hi hpi h)
 have H4 := Lib.hid (fun w hi => stpipes_any m d w hi)
 have H5 := Lib.hid (fun w => sttexts_any m w)
 have H6 := Lib.hid (fun w hi => stvolume_any m d w hi)
 have HS := Lib.hid (fun k hk => chkE_step (m := m) (d := d) (k := k) hk)
 have HA := Lib.hid (chkE_all (m := m) (d := d))
 have HN := Lib.hid (show ∀ k, (∀ j, j < k → stepE m d j = 0) → stepE m d k = 0 → ∀ j, j < k + 1 → stepE m d j = 0 from fun k h h0 j hj => by
  by_cases e : j < k
  ·exact h j e
  ·obtain rfl : j = k := by omega
   exact h0)
 have x0 := (Ext.refl w).alloc (.cells m.cells 38)
 have bm := Box.new w 38 m.cells
 have HM := Lib.hid (hi.ext x0)
 clear hi
 go_enter Tryz.func17, Tryz.ntmps17
 go_upto_region 1 with fail
 generalize w.alloc (.cells m.cells 38) = w1 at *
 generalize w.heap.size = G at *
 go_upto_region 2 with fail
 have xm : Ext w1 (w1.alloc (.cells #[.func (.func 44) #[] #[], .func (.func 45) #[] #[], .func (.func 46) #[] #[], .func (.func 47) #[] #[], .func (.func 48) #[] #[], .func (.func 49) #[] #[]] 44)) := (Ext.refl _).alloc _
 have bf := Box.new w1 44 #[.func (.func 44) #[] #[], .func (.func 45) #[] #[], .func (.func 46) #[] #[], .func (.func 47) #[] #[], .func (.func 48) #[] #[], .func (.func 49) #[] #[]]
 have bm2 := bm.ext xm
 have HM2 := Lib.hid (HM.out.ext xm)
 have xx := x0.trans xm
 generalize hw2 : w1.alloc _ = w2 at *
 generalize w1.heap.size = G1 at *
 clear hw2 bm HM x0 xm
 generalize hce : chkE m d = cE at *
 have HCE := Lib.hid hce
 clear hce
 go_loopw [8] (fun i wx => ∃ k : Nat, k ≤ 6 ∧ i = .int .i64 k ∧ Ext w2 wx ∧ ∀ j, j < k → stepE m d j = 0) (fun i _ => 6 - (intOf i).toNat)
 case atStart => exact ⟨0, by omega, rfl, Ext.refl _, fun j h => by omega⟩
 case round =>
  obtain ⟨k, hk, rfl, xk, hst⟩ := hrel
  have HST := Lib.hid hst
  clear hst
  have bmk := bm2.ext xk
  have bfk := bf.ext xk
  have HMk := Lib.hid (HM2.out.ext xk)
  by_cases hlt : k < 6
  ·have hki : (k : Int) < 6 := by omega
   have HX := Lib.hid xk
   clear xk bm2 bf HM2
   rcases (by omega : k = 0 ∨ k = 1 ∨ k = 2 ∨ k = 3 ∨ k = 4 ∨ k = 5) with h0 | h0 | h0 | h0 | h0 | h0
   ·have hf : wr.cell? ⟨G1, k, none⟩ = some (.func (.func 44) #[] #[]) := by rw [h0]; exact bfk.cell 0
    have HE := Lib.hid (show numE m = stepE m d k by rw [h0]; rfl)
    have HSk := Lib.hid (fun h => (HS.out k hlt HST.out h).symm)
    have HNk := Lib.hid (HN.out k HST.out)
    have HCl := Lib.hid (H1.out wr)
    clear h0 bfk
    generalize stepE m d k = sE at *
    generalize numE m = nE at *
    by_cases hz : nE = 0
    ·have HNz := Lib.hid (HNk.out (HE.out.symm.trans hz))
     subst hz
     go_wp2_with (first
      | (refine wp_ld_mac (.tmp 1) rfl rfl G _ _ rfl bmk rfl ?_)
      | (go_at_call 44; refine (HCl.out).mono ?_; rintro e w3 ⟨rfl, x3⟩))
     go_roundw
     case rel => exact ⟨k + 1, by omega, by go_num, HX.out.trans x3, HNz.out⟩
     case measure => simp [intOf]; omega
    ·have hz2 : (nE != 0) = true := by simpa using hz
     have HNz := Lib.hid (show nE = cE from HE.out.trans (HSk.out (fun h => hz (HE.out.trans h))))
     clear hz
     go_wp2_with (first
      | (refine wp_ld_mac (.tmp 1) rfl rfl G _ _ rfl bmk rfl ?_)
      | (go_at_call 44; refine (HCl.out).mono ?_; rintro e w3 ⟨rfl, x3⟩))
     go_ret
     exact ⟨congrArg (fun x => Ending.returned (Value.int .i64 x)) (HNz.out.trans HCE.out.symm), (xx.trans HX.out).trans x3⟩
   ·have hf : wr.cell? ⟨G1, k, none⟩ = some (.func (.func 45) #[] #[]) := by rw [h0]; exact bfk.cell 1
    have HE := Lib.hid (show frE m d = stepE m d k by rw [h0]; rfl)
    have HSk := Lib.hid (fun h => (HS.out k hlt HST.out h).symm)
    have HNk := Lib.hid (HN.out k HST.out)
    have HCl := Lib.hid (H2.out wr HMk.out)
    clear h0 bfk
    generalize stepE m d k = sE at *
    generalize frE m d = nE at *
    by_cases hz : nE = 0
    ·have HNz := Lib.hid (HNk.out (HE.out.symm.trans hz))
     subst hz
     go_wp2_with (first
      | (refine wp_ld_mac (.tmp 1) rfl rfl G _ _ rfl bmk rfl ?_)
      | (go_at_call 45; refine (HCl.out).mono ?_; rintro e w3 ⟨rfl, x3⟩))
     go_roundw
     case rel => exact ⟨k + 1, by omega, by go_num, HX.out.trans x3, HNz.out⟩
     case measure => simp [intOf]; omega
    ·have hz2 : (nE != 0) = true := by simpa using hz
     have HNz := Lib.hid (show nE = cE from HE.out.trans (HSk.out (fun h => hz (HE.out.trans h))))
     clear hz
     go_wp2_with (first
      | (refine wp_ld_mac (.tmp 1) rfl rfl G _ _ rfl bmk rfl ?_)
      | (go_at_call 45; refine (HCl.out).mono ?_; rintro e w3 ⟨rfl, x3⟩))
     go_ret
     exact ⟨congrArg (fun x => Ending.returned (Value.int .i64 x)) (HNz.out.trans HCE.out.symm), (xx.trans HX.out).trans x3⟩
   ·have hf : wr.cell? ⟨G1, k, none⟩ = some (.func (.func 46) #[] #[]) := by rw [h0]; exact bfk.cell 2
    have HE := Lib.hid (show prE m d = stepE m d k by rw [h0]; rfl)
    have HSk := Lib.hid (fun h => (HS.out k hlt HST.out h).symm)
    have HNk := Lib.hid (HN.out k HST.out)
    have HCl := Lib.hid (H3.out wr HMk.out (frn_of (HST.out 1 (by omega))))
    clear h0 bfk
    generalize stepE m d k = sE at *
    generalize prE m d = nE at *
    by_cases hz : nE = 0
    ·have HNz := Lib.hid (HNk.out (HE.out.symm.trans hz))
     subst hz
     go_wp2_with (first
      | (refine wp_ld_mac (.tmp 1) rfl rfl G _ _ rfl bmk rfl ?_)
      | (go_at_call 46; refine (HCl.out).mono ?_; rintro e w3 ⟨rfl, x3⟩))
     go_roundw
     case rel => exact ⟨k + 1, by omega, by go_num, HX.out.trans x3, HNz.out⟩
     case measure => simp [intOf]; omega
    ·have hz2 : (nE != 0) = true := by simpa using hz
     have HNz := Lib.hid (show nE = cE from HE.out.trans (HSk.out (fun h => hz (HE.out.trans h))))
     clear hz
     go_wp2_with (first
      | (refine wp_ld_mac (.tmp 1) rfl rfl G _ _ rfl bmk rfl ?_)
      | (go_at_call 46; refine (HCl.out).mono ?_; rintro e w3 ⟨rfl, x3⟩))
     go_ret
     exact ⟨congrArg (fun x => Ending.returned (Value.int .i64 x)) (HNz.out.trans HCE.out.symm), (xx.trans HX.out).trans x3⟩
   ·have hf : wr.cell? ⟨G1, k, none⟩ = some (.func (.func 47) #[] #[]) := by rw [h0]; exact bfk.cell 3
    have HE := Lib.hid (show piE m d = stepE m d k by rw [h0]; rfl)
    have HSk := Lib.hid (fun h => (HS.out k hlt HST.out h).symm)
    have HNk := Lib.hid (HN.out k HST.out)
    have HCl := Lib.hid (H4.out wr HMk.out)
    clear h0 bfk
    generalize stepE m d k = sE at *
    generalize piE m d = nE at *
    by_cases hz : nE = 0
    ·have HNz := Lib.hid (HNk.out (HE.out.symm.trans hz))
     subst hz
     go_wp2_with (first
      | (refine wp_ld_mac (.tmp 1) rfl rfl G _ _ rfl bmk rfl ?_)
      | (go_at_call 47; refine (HCl.out).mono ?_; rintro e w3 ⟨rfl, x3⟩))
     go_roundw
     case rel => exact ⟨k + 1, by omega, by go_num, HX.out.trans x3, HNz.out⟩
     case measure => simp [intOf]; omega
    ·have hz2 : (nE != 0) = true := by simpa using hz
     have HNz := Lib.hid (show nE = cE from HE.out.trans (HSk.out (fun h => hz (HE.out.trans h))))
     clear hz
     go_wp2_with (first
      | (refine wp_ld_mac (.tmp 1) rfl rfl G _ _ rfl bmk rfl ?_)
      | (go_at_call 47; refine (HCl.out).mono ?_; rintro e w3 ⟨rfl, x3⟩))
     go_ret
     exact ⟨congrArg (fun x => Ending.returned (Value.int .i64 x)) (HNz.out.trans HCE.out.symm), (xx.trans HX.out).trans x3⟩
   ·have hf : wr.cell? ⟨G1, k, none⟩ = some (.func (.func 48) #[] #[]) := by rw [h0]; exact bfk.cell 4
    have HE := Lib.hid (show teE m = stepE m d k by rw [h0]; rfl)
    have HSk := Lib.hid (fun h => (HS.out k hlt HST.out h).symm)
    have HNk := Lib.hid (HN.out k HST.out)
    have HCl := Lib.hid (H5.out wr)
    clear h0 bfk
    generalize stepE m d k = sE at *
    generalize teE m = nE at *
    by_cases hz : nE = 0
    ·have HNz := Lib.hid (HNk.out (HE.out.symm.trans hz))
     subst hz
     go_wp2_with (first
      | (refine wp_ld_mac (.tmp 1) rfl rfl G _ _ rfl bmk rfl ?_)
      | (go_at_call 48; refine (HCl.out).mono ?_; rintro e w3 ⟨rfl, x3⟩))
     go_roundw
     case rel => exact ⟨k + 1, by omega, by go_num, HX.out.trans x3, HNz.out⟩
     case measure => simp [intOf]; omega
    ·have hz2 : (nE != 0) = true := by simpa using hz
     have HNz := Lib.hid (show nE = cE from HE.out.trans (HSk.out (fun h => hz (HE.out.trans h))))
     clear hz
     go_wp2_with (first
      | (refine wp_ld_mac (.tmp 1) rfl rfl G _ _ rfl bmk rfl ?_)
      | (go_at_call 48; refine (HCl.out).mono ?_; rintro e w3 ⟨rfl, x3⟩))
     go_ret
     exact ⟨congrArg (fun x => Ending.returned (Value.int .i64 x)) (HNz.out.trans HCE.out.symm), (xx.trans HX.out).trans x3⟩
   ·have hf : wr.cell? ⟨G1, k, none⟩ = some (.func (.func 49) #[] #[]) := by rw [h0]; exact bfk.cell 5
    have HE := Lib.hid (show voE d = stepE m d k by rw [h0]; rfl)
    have HSk := Lib.hid (fun h => (HS.out k hlt HST.out h).symm)
    have HNk := Lib.hid (HN.out k HST.out)
    have HCl := Lib.hid (H6.out wr HMk.out)
    clear h0 bfk
    generalize stepE m d k = sE at *
    generalize voE d = nE at *
    by_cases hz : nE = 0
    ·have HNz := Lib.hid (HNk.out (HE.out.symm.trans hz))
     subst hz
     go_wp2_with (first
      | (refine wp_ld_mac (.tmp 1) rfl rfl G _ _ rfl bmk rfl ?_)
      | (go_at_call 49; refine (HCl.out).mono ?_; rintro e w3 ⟨rfl, x3⟩))
     go_roundw
     case rel => exact ⟨k + 1, by omega, by go_num, HX.out.trans x3, HNz.out⟩
     case measure => simp [intOf]; omega
    ·have hz2 : (nE != 0) = true := by simpa using hz
     have HNz := Lib.hid (show nE = cE from HE.out.trans (HSk.out (fun h => hz (HE.out.trans h))))
     clear hz
     go_wp2_with (first
      | (refine wp_ld_mac (.tmp 1) rfl rfl G _ _ rfl bmk rfl ?_)
      | (go_at_call 49; refine (HCl.out).mono ?_; rintro e w3 ⟨rfl, x3⟩))
     go_ret
     exact ⟨congrArg (fun x => Ending.returned (Value.int .i64 x)) (HNz.out.trans HCE.out.symm), (xx.trans HX.out).trans x3⟩
  ·have hlt2 : ¬ (k : Int) < 6 := by omega
   have hc0 : cE = 0 := HA.out (fun j hj => HST.out j (by omega))
   have HC0 := Lib.hid hc0
   clear hc0
   go_wp2_with fail
   go_ret
   exact ⟨congrArg (fun x => Ending.returned (Value.int .i64 x)) (HC0.out.symm.trans HCE.out.symm), xx.trans xk⟩
end Go.Proofs.YtfaplefkakpgcaaGreatDoor
/- single.living, single.pages. -/
namespace Go.Proofs.YtfaplefkakpgcaaGreatDoor
set_option linter.unusedVariables false
set_option linter.unusedSimpArgs false
open Go.RowKit
theorem find_at {α : Type} {l : List α} {p : α → Bool} {k : Nat} (hk : k < l.length) (hp : p l[k] = true) (hno : ∀ (j : Nat) (h : j < l.length), j < k → p l[j] = false) : l.find? p = some l[k] :=
 List.find?_eq_some_iff_getElem.2 ⟨hp, k, hk, rfl, fun j hj => by rw [hno j (by omega) hj]; rfl⟩
theorem prSz {y : PrT} : (Tryz.prog.info? 57).map (·.size) = some (prL y).toArray.size := by kernel_rfl
set_option maxHeartbeats 1000000 in
set_option maxRecDepth 100000 in
theorem pages_any (y : PrT) (w : World) :
  Calls Tryz.prog 35 #[.agg (spaceL y).toArray] w fun e w' => e = .returned (.int .i64 (cntIs y 16)) ∧ Ext w w' := by
 have x0 := (Ext.refl w).alloc (.cells (spaceL y).toArray 52)
 have b0 := Box.new w 52 (spaceL y).toArray
 go_enter Tryz.func35, Tryz.ntmps35
 go_upto_region 1 with fail
 change Code.wp _ _ _ _ (w.alloc (.cells (spaceL y).toArray 52))
 generalize w.alloc (.cells (spaceL y).toArray 52) = w1 at *
 go_upto_region 3 with (refine wp_ld _ _ rfl rfl w.heap.size (spaceL y).toArray 52 _ rfl b0 Tryz.underlying52 rfl (by exact spaceSize) ?_)
 clear b0
 go_loopw [3, 7] (fun s i wx => ∃ j : Nat, j ≤ 16 ∧ i = .int .i64 j ∧ s = .int .i64 (cntIs y j) ∧ Ext w1 wx) (fun _ i _ => 16 - (intOf i).toNat)
 case atStart => exact ⟨0, by omega, rfl, rfl, Ext.refl _⟩
 case round =>
  obtain ⟨j, hj, rfl, rfl, xj⟩ := hrel
  by_cases hlt : j < 16
  ·have hji : (j : Int) < 16 := by omega
   have HC := Lib.hid (show cntIs y (j + 1) = cntIs y j + (if y.pis j = true then 1 else 0) from rfl)
   have HB := Lib.hid (show cntIs y j ≤ j from by
    clear HC hji hlt hj xj
    induction j with
    | zero => exact Nat.le_refl _
    | succ j ih => rw [cntIs]; split <;> omega)
   go_upto_region 5 with (refine wp_idx_pte (.tmp 6) (.tmp 7) rfl rfl y j rfl rfl hlt ?_)
   have xz := xj.alloc (.cells #[.bool (y.pis j), .bool (y.pwr j), .int .i64 (y.pfr j)] 50)
   have bq := Box.new wr 50 #[.bool (y.pis j), .bool (y.pwr j), .int .i64 (y.pfr j)]
   have hcb : cntIs y j ≤ 16 := by have := HB.out; omega
   generalize cntIs y j = cj at *
   generalize y.pis j = ia at *
   generalize y.pwr j = iw at *
   generalize y.pfr j = ifr at *
   generalize wr.alloc (.cells #[.bool ia, .bool iw, .int .i64 ifr] 50) = wq at *
   have q0 : wq.cell? ⟨wr.heap.size, 0, none⟩ = some (.bool ia) := bq.cell 0
   cases ia
   ·go_wp2_with fail
    go_roundw
    case rel => exact ⟨j + 1, by omega, by go_num, by rw [HC.out]; rfl, xz⟩
    case measure => simp [intOf]; omega
   ·go_wp2_with fail
    go_roundw
    case rel => exact ⟨j + 1, by omega, by go_num, by rw [HC.out]; go_num, xz⟩
    case measure => simp [intOf]; omega
  ·obtain rfl : j = 16 := by omega
   go_wp2_with fail
   go_ret
   exact ⟨rfl, x0.trans xj⟩
set_option maxHeartbeats 4000000 in
set_option maxRecDepth 100000 in
theorem living_any (m : Mac) (d : MacD) (pid : Int) (w : World) (hi : MacIn w m d) (hrn : m.pr.n ≤ 1000) :
  Calls Tryz.prog 33 #[.agg m.cells, .int .i64 pid] w fun e w' => e = .returned (.tuple #[.agg (prL ((livingP d.pr pid).getD zeroPr)).toArray, .bool (livingP d.pr pid).isSome]) ∧ Ext w w' := by
 have x0 := ((Ext.refl w).alloc (.cells m.cells 38)).alloc (.cells (prL zeroPr).toArray 57)
 have bm := (Box.new w 38 m.cells).ext ((Ext.refl _).alloc (.cells (prL zeroPr).toArray 57))
 have bp := Box.new (w.alloc (.cells m.cells 38)) 57 (prL zeroPr).toArray
 rw [World.size_alloc] at bp
 obtain ⟨hv1, hv2⟩ := hi.pr
 have HV1 := Lib.hid hv1
 clear hi hv1
 obtain ⟨LP, hLP⟩ : ∃ LP, LP = livingP d.pr pid := ⟨_, rfl⟩
 rw [← hLP]
 have HLP := Lib.hid hLP
 clear hLP
 go_enter Tryz.func33, Tryz.ntmps33
 go_upto_region 1 with fail
 change Code.wp _ _ _ _ ((w.alloc (.cells m.cells 38)).alloc (.cells (prL zeroPr).toArray 57))
 generalize (w.alloc (.cells m.cells 38)).alloc (.cells (prL zeroPr).toArray 57) = w1 at *
 obtain ⟨G, hG⟩ : ∃ G, G = w.heap.size := ⟨_, rfl⟩
 rw [← hG] at bm bp ⊢
 have HG := Lib.hid hG
 clear hG
 have k5 : w1.cell? ⟨G, 5, none⟩ = some (.slice m.pr.A m.pr.n m.pr.c) := bm.cell 5
 go_upto_region 2 with fail
 clear k5 bm
 have hln : m.pr.n = d.pr.length := HV1.out
 generalize m.pr.A = A at *
 generalize m.pr.n = pn at *
 subst hln
 have HF := Lib.hid (fun k (hk : k < d.pr.length) => find_at (l := d.pr) (p := fun p => p.pid == pid && (p.state == 1 || p.state == 2)) hk)
 have HNf := Lib.hid (fun (h : ∀ (j : Nat) (hj : j < d.pr.length), j < d.pr.length → (d.pr[j].pid == pid && (d.pr[j].state == 1 || d.pr[j].state == 2)) = false) => show livingP d.pr pid = none from List.find?_eq_none.2 (fun p hp => by
  obtain ⟨j, hj, rfl⟩ := List.getElem_of_mem hp
  rw [h j hj hj]; decide))
 have HLD := Lib.hid (show livingP d.pr pid = d.pr.find? (fun p => p.pid == pid && (p.state == 1 || p.state == 2)) from rfl)
 generalize d.pr = l at *
 go_loopw [11] (fun i wx => ∃ k : Nat, k ≤ l.length ∧ i = .int .i64 k ∧ Ext w1 wx ∧ ∀ (j : Nat) (h : j < l.length), j < k → (l[j].pid == pid && (l[j].state == 1 || l[j].state == 2)) = false) (fun i _ => l.length - (intOf i).toNat)
 case atStart => exact ⟨0, by omega, rfl, Ext.refl _, fun j h h2 => by omega⟩
 case round =>
  obtain ⟨k, hk, rfl, xk, hno⟩ := hrel
  have HNO := Lib.hid hno
  clear hno
  have bpk := bp.ext xk
  by_cases hlt : k < l.length
  ·obtain ⟨b, o, rfl, hcell⟩ := hv2 (by omega)
   have r1 := range_ext (pr_range hcell hlt) (x0.trans xk)
   have hki : (k : Int) < (l.length : Int) := by omega
   have HNN := Lib.hid (show (l[k].pid == pid && (l[k].state == 1 || l[k].state == 2)) = false → ∀ (j : Nat) (h : j < l.length), j < k + 1 → (l[j].pid == pid && (l[j].state == 1 || l[j].state == 2)) = false from fun h j hj hjk => by
    by_cases e : j < k
    ·exact HNO.out j hj e
    ·obtain rfl : j = k := by omega
     exact h)
   have HFk := Lib.hid (show (l[k].pid == pid && (l[k].state == 1 || l[k].state == 2)) = true → LP = some l[k] from fun h => by rw [HLP.out, HLD.out]; exact HF.out k hlt h HNO.out)
   clear hcell HNO HF HNf
   generalize l[k] = y at *
   go_upto_region 4 with (first
    | (refine wp_ld_pr (.tmp 13) rfl rfl b (o + k * 96) y rfl r1 ?_)
    | (refine wp_st_pr (.tmp 7) (.tmp 14) rfl rfl wr.heap.size y _ 57 rfl rfl (Box.new _ _ _) rfl ?_; intro w3 b3 g3))
   have x3 : Ext wr w3 := ((Ext.refl wr).alloc _).grown g3 (fun j e => by cases e; exact Nat.le_refl _)
   have bp3 := bpk.ext x3
   have c0 : w3.cell? ⟨wr.heap.size, 0, none⟩ = some (.int .i64 y.pid) := b3.cell 0
   have c2 : w3.cell? ⟨wr.heap.size, 2, none⟩ = some (.int .i64 y.state) := b3.cell 2
   clear g3 r1 bpk bp
   rcases Bool.eq_false_or_eq_true (y.pid == pid) with h1 | h1
   ·rcases Bool.eq_false_or_eq_true (y.state == 1) with h2 | h2
    ·have HL := Lib.hid (HFk.out (by rw [h1, h2]; rfl))
     go_wp2_with (first
      | (refine wp_ld_pr (.tmp 7) rfl rfl wr.heap.size 0 y rfl (pr_range1 b3) ?_)
      | (refine wp_st_pr (.tmp 4) (.tmp 29) rfl rfl (G + 1) y _ 57 rfl rfl bp3 rfl ?_; intro w4 b4 g4))
     refine bodyPost_ret (results_cell2 rfl _ _ (G + 1) _ _ _ _ rfl rfl b4 Tryz.underlying57 rfl prSz) rfl ⟨by rw [HL.out]; rfl, ((x0.trans xk).trans x3).grown g4 (fun j e => by cases e; rw [← HG.out]; exact Nat.le_succ _)⟩
    ·rcases Bool.eq_false_or_eq_true (y.state == 2) with h3 | h3
     ·have HL := Lib.hid (HFk.out (by rw [h1, h2, h3]; rfl))
      go_wp2_with (first
       | (refine wp_ld_pr (.tmp 7) rfl rfl wr.heap.size 0 y rfl (pr_range1 b3) ?_)
       | (refine wp_st_pr (.tmp 4) (.tmp 29) rfl rfl (G + 1) y _ 57 rfl rfl bp3 rfl ?_; intro w4 b4 g4))
      refine bodyPost_ret (results_cell2 rfl _ _ (G + 1) _ _ _ _ rfl rfl b4 Tryz.underlying57 rfl prSz) rfl ⟨by rw [HL.out]; rfl, ((x0.trans xk).trans x3).grown g4 (fun j e => by cases e; rw [← HG.out]; exact Nat.le_succ _)⟩
     ·have HL := Lib.hid (HNN.out (by rw [h1, h2, h3]; rfl))
      go_wp2_with fail
      go_roundw
      case rel => exact ⟨k + 1, by omega, by go_num, xk.trans x3, HL.out⟩
      case measure => simp [intOf]; omega
   ·have HL := Lib.hid (HNN.out (by rw [h1]; rfl))
    go_wp2_with fail
    go_roundw
    case rel => exact ⟨k + 1, by omega, by go_num, xk.trans x3, HL.out⟩
    case measure => simp [intOf]; omega
  ·obtain rfl : k = l.length := by omega
   have HL := Lib.hid (show LP = none from HLP.out.trans (HNf.out (fun j h _ => HNO.out j h h)))
   clear HNO HF HNf
   go_wp2_with (refine wp_st_pr (.tmp 4) (.tmp 31) rfl rfl (G + 1) zeroPr _ 57 rfl rfl bpk rfl ?_; intro w4 b4 g4)
   refine bodyPost_ret (results_cell2 rfl _ _ (G + 1) _ _ _ _ rfl rfl b4 Tryz.underlying57 rfl prSz) rfl ⟨by rw [HL.out]; rfl, (x0.trans xk).grown g4 (fun j e => by cases e; rw [← HG.out]; exact Nat.le_succ _)⟩
end Go.Proofs.YtfaplefkakpgcaaGreatDoor
