/- The document's machines: disk. -/
import Derived.Test.YtfaplefkakpgcaaGreatDoorWc14
import Derived.Test.YtfaplefkakpgcaaGreatDoorWc13
import Derived.Test.YtfaplefkakpgcaaGreatDoorWc16
namespace Go.Proofs.YtfaplefkakpgcaaGreatDoor
set_option linter.unusedVariables false
set_option linter.unusedSimpArgs false
open Go.RowKit
theorem OfR.some {v : List (List UInt8)} {e : Ending} (h : OfR v e) : ∃ (g : Value) (n : Int), e = .returned (.tuple #[g, .int .i64 n]) ∧ (n = 0 → ∃ I, Good v I) := by
 rcases h with ⟨I, hI, rfl⟩ | rfl
 ·exact ⟨_, 0, rfl, fun _ => ⟨I, hI⟩⟩
 ·exact ⟨_, 3, rfl, fun h => by omega⟩
def DiskOk (d : MacD) : Prop := jrnE d.bl d.pe = 0 ∧ d.di.length ≤ 32 ∧ (∀ (i : Nat) (h : i < d.di.length), 0 ≤ d.di[i].1 ∧ d.di[i].1 < ((d.bl.length - 33 : Nat) : Int) ∧ d.di[i].2.length = 128 ∧ (0 < i → (d.di[i - 1]'(by omega)).1 < d.di[i].1)) ∧ ∃ I, Good (viewP d.bl d.pe d.di) I
inductive DiskC (d : MacD) : Int → Prop
 | drv : drvE d.bl d.pe ≠ 0 → DiskC d (drvE d.bl d.pe)
 | home : drvE d.bl d.pe = 0 → jrnE d.bl d.pe ≠ 0 → DiskC d 3
 | many : jrnE d.bl d.pe = 0 → 32 < d.di.length → DiskC d 6
 | form : jrnE d.bl d.pe = 0 → d.di.length ≤ 32 → ¬ DiskOk d → DiskC d 3
 | ok : DiskOk d → DiskC d 0
def DiskX (d : MacD) (e : Ending) : Prop := ∃ n : Int, e = .returned (.int .i64 n) ∧ DiskC d n
theorem DiskC.zero {d : MacD} {n : Int} (h : DiskC d n) (h0 : n = 0) : DiskOk d := by
 cases h with
 | drv h => exact absurd h0 h
 | home _ _ => omega
 | many _ _ => omega
 | form _ _ _ => omega
 | ok h => exact h
theorem rof_none (A : Option Addr) (n c : Nat) (v : List (List UInt8)) (w : World) (hv : Strs w A n v) (hnk : n ≤ 9223372036854775807) (hg : ¬ ∃ I, Good v I) :
  Calls Tryz.prog 99 #[.slice A n c] w fun e w' => (∃ g n, e = .returned (.tuple #[g, .int .i64 n]) ∧ n = 3) ∧ Ext w w' :=
 (rof_any A n c v w hv hnk).mono fun e w' ⟨h, x⟩ => ⟨by
  rcases h with ⟨I, hI, _⟩ | h
  ·exact absurd ⟨I, hI⟩ hg
  ·exact ⟨_, _, h, rfl⟩, x⟩
theorem rof_some (A : Option Addr) (n c : Nat) (v : List (List UInt8)) (w : World) (hv : Strs w A n v) (hg : ∃ I, Good v I) :
  Calls Tryz.prog 99 #[.slice A n c] w fun e w' => (∃ g n, e = .returned (.tuple #[g, .int .i64 n]) ∧ n = 0) ∧ Ext w w' := by
 obtain ⟨I, hI⟩ := hg
 exact (rof_yes A n c v I w hv hI).mono fun e w' ⟨h, x⟩ => ⟨⟨_, _, h, rfl⟩, x⟩
set_option maxHeartbeats 4000000 in
set_option maxRecDepth 100000 in
theorem rdisk_ex (m : Mac) (d : MacD) (w : World) (h : MacIn w m d) :
  Calls Tryz.prog 52 #[.agg m.cells] w fun e w' => DiskX d e ∧ Ext w w' := by
 obtain ⟨hb, hp, hd, hpn, hdn, hbc⟩ := h.drv
 have HC := Lib.hid (fun w h1 h2 => rdcheck_any m.bl.A m.pe.A m.bl.n m.bl.c m.pe.n m.pe.c m.dleft d.bl d.pe w h1 h2 hpn)
 have HH := Lib.hid (fun w h1 h2 => rhome_any m.bl.A m.pe.A m.bl.n m.bl.c m.pe.n m.pe.c m.dleft d.bl d.pe w h1 h2 hpn)
 have HV := Lib.hid (fun w h1 h2 => rvolume_any m d w h1 h2)
 go_enter Tryz.func52, Tryz.ntmps52
 go_upto_region 1 with fail
 have xa : Ext w (w.alloc (.cells m.cells 38)) := (Ext.refl _).alloc _
 have bm := Box.new w 38 m.cells
 generalize w.alloc (.cells m.cells 38) = w1 at *
 have q13 : w1.cell? ⟨w.heap.size, 13, none⟩ = some (.slice m.bl.A m.bl.n m.bl.c) := bm.cell 13
 have q14 : w1.cell? ⟨w.heap.size, 14, none⟩ = some (.slice m.pe.A m.pe.n m.pe.c) := bm.cell 14
 have q15 : w1.cell? ⟨w.heap.size, 15, none⟩ = some (.int .i64 m.dleft) := bm.cell 15
 have hs := hb.ext xa
 have hw := hp.ext xa
 have hdE : drvE d.bl d.pe ≠ 0 → jrnE d.bl d.pe ≠ 0 := fun h => by unfold jrnE; rw [if_pos h]; exact h
 by_cases h0 : drvE d.bl d.pe = 0
 ·rw [h0] at HC
  go_upto_region 4 with (go_at_call 98; refine (HC.out _ hs hw).mono ?_; rintro e w2 ⟨rfl, x2⟩)
  have bm2 := bm.ext x2
  have x2a := xa.trans x2
  clear q13 q14 q15
  have q13 : w2.cell? ⟨w.heap.size, 13, none⟩ = some (.slice m.bl.A m.bl.n m.bl.c) := bm2.cell 13
  have q14 : w2.cell? ⟨w.heap.size, 14, none⟩ = some (.slice m.pe.A m.pe.n m.pe.c) := bm2.cell 14
  have q15 : w2.cell? ⟨w.heap.size, 15, none⟩ = some (.int .i64 m.dleft) := bm2.cell 15
  by_cases hj : jrnE d.bl d.pe = 0
  ·have hl := homeP_len hj
   have hlst := (drvOk_of hj).least
   have HJ := Lib.hid hj
   clear hj hdE h0 HC
   rw [hl] at HH
   go_upto_region 5 with (go_at_call 72; refine (HH.out _ (hb.ext x2a) (hp.ext x2a)).mono ?_; rintro e w3 ⟨A1, c1, rfl, x3, own1⟩)
   have bm3 := bm2.ext x3
   have x3a := x2a.trans x3
   clear q13 q14 q15 own1 HH hs hw
   obtain ⟨N, hN⟩ : ∃ N : Nat, N = d.bl.length - 33 := ⟨_, rfl⟩
   have hN0 : 0 < N := by omega
   rw [← hN]
   have HN := Lib.hid hN
   have q16 : w3.cell? ⟨w.heap.size, 16, none⟩ = some (.slice m.di.A m.di.n m.di.c) := bm3.cell 16
   have hNe : ((N : Int) == 0) = false := by simp; omega
   clear hN hl hlst
   obtain ⟨hd1, hd2⟩ := hd
   have HD1 := Lib.hid hd1
   clear hd1
   by_cases h32 : 32 < m.di.n
   ·go_wp2_with fail
    go_ret
    exact ⟨⟨6, rfl, .many HJ.out (by rw [← HD1.out]; exact h32)⟩, x3a⟩
   ·go_wp2_with fail
    have HM := Lib.hid (show MacIn w m d from h)
    have HF3 := Lib.hid (fun (h : ¬ DiskOk d) => show DiskC d 3 from .form HJ.out (by rw [← HD1.out]; omega) h)
    have HDO := Lib.hid (show DiskOk d → ∀ (i : Nat) (h : i < d.di.length), 0 ≤ d.di[i].1 ∧ d.di[i].1 < (N : Int) ∧ d.di[i].2.length = 128 ∧ (0 < i → (d.di[i - 1]'(by omega)).1 < d.di[i].1) from fun h => by rw [HN.out]; exact h.2.2.1)
    have HDK := Lib.hid (show (∀ (i : Nat) (h : i < d.di.length), 0 ≤ d.di[i].1 ∧ d.di[i].1 < (N : Int) ∧ d.di[i].2.length = 128 ∧ (0 < i → (d.di[i - 1]'(by omega)).1 < d.di[i].1)) → (∃ I, Good (viewP d.bl d.pe d.di) I) → DiskOk d from fun h1 h2 => ⟨HJ.out, by rw [← HD1.out]; omega, by rw [← HN.out]; exact h1, h2⟩)
    clear h q16
    go_loopw [5, 6, 26] (fun _ _ i wx => ∃ k : Nat, k ≤ m.di.n ∧ i = .int .i64 k ∧ Ext w3 wx ∧ ∀ (i : Nat) (h : i < d.di.length), i < k → 0 ≤ d.di[i].1 ∧ d.di[i].1 < (N : Int) ∧ d.di[i].2.length = 128 ∧ (0 < i → (d.di[i - 1]'(by omega)).1 < d.di[i].1)) (fun _ _ i _ => m.di.n - (intOf i).toNat)
    case atStart => exact ⟨0, by omega, rfl, Ext.refl _, fun i _ h => by omega⟩
    case round =>
     obtain ⟨k, hk, rfl, xk, hall⟩ := hrel
     have HA := Lib.hid hall
     clear hall
     have r16 : wr.cell? ⟨w.heap.size, 16, none⟩ = some (.slice m.di.A m.di.n m.di.c) := (bm3.ext xk).cell 16
     by_cases hlt : k < m.di.n
     ·obtain ⟨b, o, hA, hcell⟩ := hd2 (by omega)
      have hlk : k < d.di.length := by rw [← HD1.out]; exact hlt
      have e1 := (x3a.trans xk).keep (hcell k hlk).1
      have e2 := (x3a.trans xk).keep (hcell k hlk).2
      have e0 : 0 < k → wr.cell? ⟨b, o + (k - 1) * 2, none⟩ = some (.int .i64 (d.di[k - 1]'(by omega)).1) := fun h => (x3a.trans xk).keep (hcell (k - 1) (by omega)).1
      have HS := Lib.hid (show (0 ≤ d.di[k].1 ∧ d.di[k].1 < (N : Int) ∧ d.di[k].2.length = 128 ∧ (0 < k → (d.di[k - 1]'(by omega)).1 < d.di[k].1)) → ∀ (i : Nat) (h : i < d.di.length), i < k + 1 → 0 ≤ d.di[i].1 ∧ d.di[i].1 < (N : Int) ∧ d.di[i].2.length = 128 ∧ (0 < i → (d.di[i - 1]'(by omega)).1 < d.di[i].1) from fun h i hi hik => by
       by_cases e : i < k
       ·exact HA.out i hi e
       ·obtain rfl : i = k := by omega
        exact h)
      have HDN := Lib.hid (show DiskOk d → (0 ≤ d.di[k].1 ∧ d.di[k].1 < (N : Int) ∧ d.di[k].2.length = 128 ∧ (0 < k → (d.di[k - 1]'(by omega)).1 < d.di[k].1)) from fun h => HDO.out h k hlk)
      clear HA hcell
      have hz := str_size
      have hkn : (k : Int) < (m.di.n : Int) := by omega
      generalize d.di[k] = y at *
      generalize hprv : d.di[k - 1]'(by omega) = prv at *
      clear hprv
      rw [hA] at r16
      go_upto_region 12 with fail
      have E1 : (wr.alloc (.cells #[.int .i64 y.1, .string (str y.2)] 92)).cell? ⟨w.heap.size, 16, none⟩ = some (.slice (some ⟨b, o, none⟩) m.di.n m.di.c) := ((Ext.refl wr).alloc _).keep r16
      have E0 : 0 < k → (wr.alloc (.cells #[.int .i64 y.1, .string (str y.2)] 92)).cell? ⟨b, o + (k - 1) * 2, none⟩ = some (.int .i64 prv.1) := fun h => ((Ext.refl wr).alloc _).keep (e0 h)
      clear e0 e1 e2 r16
      by_cases n0 : y.1 < 0
      ·have d0 : decide (y.1 < 0) = true := decide_eq_true n0
       have HX := Lib.hid n0
       clear E0
       go_quiet (fail)
       go_wp2_with fail
       go_ret
       exact ⟨⟨3, rfl, HF3.out (fun h => by have := (HDN.out h).1; have := HX.out; omega)⟩, x3a.trans ((xk.alloc _).drewN _)⟩
      ·have d0 : decide (y.1 < 0) = false := decide_eq_false n0
       by_cases n1 : (N : Int) ≤ y.1
       ·have d1 : decide ((N : Int) ≤ y.1) = true := decide_eq_true n1
        have HX := Lib.hid n1
        clear E0
        go_quiet (fail)
        go_wp2_with fail
        go_ret
        exact ⟨⟨3, rfl, HF3.out (fun h => by have := (HDN.out h).2.1; have := HX.out; omega)⟩, x3a.trans ((xk.alloc _).drewN _)⟩
       ·have d1 : decide ((N : Int) ≤ y.1) = false := decide_eq_false n1
        by_cases n2 : y.2.length = 128
        ·have d2 : ((y.2.length : Int) != 128) = false := by rw [n2]; rfl
         by_cases n3 : 0 < k
         ·have d3 : decide ((0 : Int) < (k : Int)) = true := by simp; omega
          have E0' := E0 n3
          have k1 : (k : Int) - 1 = ((k - 1 : Nat) : Int) := by omega
          have k2 : IntKind.i64.wrap ((k : Int) - 1) = ((k - 1 : Nat) : Int) := by rw [IntKind.wrap_i64]; omega
          have k3 : ((k - 1 : Nat) : Int) < (m.di.n : Int) := by omega
          clear E0
          by_cases n4 : y.1 ≤ prv.1
          ·have d4 : decide (y.1 ≤ prv.1) = true := decide_eq_true n4
           have HX := Lib.hid n4
           have HX3 := Lib.hid n3
           go_quiet (fail)
           go_wp2_with fail
           go_ret
           exact ⟨⟨3, rfl, HF3.out (fun h => by have := (HDN.out h).2.2.2 HX3.out; have := HX.out; omega)⟩, x3a.trans ((xk.alloc _).drewN _)⟩
          ·have d4 : decide (y.1 ≤ prv.1) = false := decide_eq_false n4
           go_quiet (fail)
           go_wp2_with fail
           go_roundw
           case rel => exact ⟨k + 1, by omega, by go_num, (xk.alloc _).drewN _, HS.out ⟨by omega, by omega, n2, fun _ => by omega⟩⟩
           case measure => simp [intOf]; omega
         ·have d3 : decide ((0 : Int) < (k : Int)) = false := by simp; omega
          clear E0
          go_quiet (fail)
          go_wp2_with fail
          go_roundw
          case rel => exact ⟨k + 1, by omega, by go_num, (xk.alloc _).drewN _, HS.out ⟨by omega, by omega, n2, fun h => absurd h n3⟩⟩
          case measure => simp [intOf]; omega
        ·have d2 : ((y.2.length : Int) != 128) = true := by simp; omega
         have HX := Lib.hid n2
         clear E0
         go_quiet (fail)
         go_wp2_with fail
         go_ret
         exact ⟨⟨3, rfl, HF3.out (fun h => HX.out (HDN.out h).2.2.1)⟩, x3a.trans ((xk.alloc _).drewN _)⟩
     ·obtain rfl : k = m.di.n := by omega
      have HAll := Lib.hid (fun (i : Nat) (h : i < d.di.length) => HA.out i h (by rw [HD1.out]; exact h))
      clear HA r16
      have bmk := bm3.ext xk
      have hmk := HM.out.ext (x3a.trans xk)
      have hvk : (viewP d.bl d.pe d.di).length ≤ 9223372036854775807 := by have := viewP_len (d := d.di) HJ.out; have := (drvOk_of HJ.out).most; omega
      have HVK := Lib.hid hvk
      clear hvk
      by_cases hg : ∃ I, Good (viewP d.bl d.pe d.di) I
      ·have HG := Lib.hid hg
       clear hg
       go_wp2_with (first
        | (refine wp_ld_mac (.tmp 1) rfl rfl w.heap.size _ 38 rfl bmk rfl ?_)
        | (go_at_call 100; refine (HV.out _ hmk HJ.out).mono ?_; rintro e w4 ⟨A4, c4, rfl, x4, own4⟩; have s4 := Strs.own own4)
        | (go_at_call 99; refine (rof_some _ _ _ _ _ s4 HG.out).mono ?_; rintro e w5 ⟨⟨g5, n5, rfl, hn5⟩, x5⟩; have HN5 := Lib.hid hn5; clear hn5))
       go_ret
       exact ⟨⟨n5, rfl, by rw [HN5.out]; exact .ok (HDK.out HAll.out HG.out)⟩, (x3a.trans xk).trans (x4.trans x5)⟩
      ·have HG := Lib.hid hg
       clear hg
       go_wp2_with (first
        | (refine wp_ld_mac (.tmp 1) rfl rfl w.heap.size _ 38 rfl bmk rfl ?_)
        | (go_at_call 100; refine (HV.out _ hmk HJ.out).mono ?_; rintro e w4 ⟨A4, c4, rfl, x4, own4⟩; have s4 := Strs.own own4)
        | (go_at_call 99; refine (rof_none _ _ _ _ _ s4 (by rw [s4.1]; exact HVK.out) HG.out).mono ?_; rintro e w5 ⟨⟨g5, n5, rfl, hn5⟩, x5⟩; have HN5 := Lib.hid hn5; clear hn5))
       go_ret
       exact ⟨⟨n5, rfl, by rw [HN5.out]; exact HF3.out (fun h => HG.out h.2.2.2)⟩, (x3a.trans xk).trans (x4.trans x5)⟩
  ·have HF3 := Lib.hid (show DiskC d 3 from .home h0 hj)
   have HE := Lib.hid (show homeP d.bl d.pe = [] by unfold homeP; rw [if_pos hj])
   rw [HE.out] at HH
   clear hdE hj HC
   go_wp2_with (go_at_call 72; refine (HH.out _ (hb.ext x2a) (hp.ext x2a)).mono ?_; rintro e w3 ⟨A1, c1, rfl, x3, own1⟩)
   go_ret
   exact ⟨⟨3, rfl, HF3.out⟩, x2a.trans x3⟩
 ·have d1 : (drvE d.bl d.pe != 0) = true := by simpa using h0
  have HZ := Lib.hid (show DiskC d (drvE d.bl d.pe) from .drv h0)
  clear h0
  obtain ⟨dd, hdd⟩ : ∃ dd, dd = drvE d.bl d.pe := ⟨_, rfl⟩
  rw [← hdd] at HC d1 HZ
  clear hdd
  go_wp2_with (go_at_call 98; refine (HC.out _ hs hw).mono ?_; rintro e w2 ⟨rfl, x2⟩)
  go_ret
  exact ⟨⟨dd, rfl, HZ.out⟩, xa.trans x2⟩
end Go.Proofs.YtfaplefkakpgcaaGreatDoor
/- Plain: when a machine may be, point by point. -/
namespace Go.Proofs.YtfaplefkakpgcaaGreatDoor
set_option linter.unusedVariables false
set_option linter.unusedSimpArgs false
def LivesP (l : List PrT) (pid : Int) : Prop := ∃ y ∈ l, y.pid = pid ∧ (y.state = 1 ∨ y.state = 2)
def cntFr (y : PrT) (fr : Int) : Nat → Nat
 | 0 => 0
 | j + 1 => cntFr y fr j + (if y.pis j = true ∧ y.pfr j = fr then 1 else 0)
def usersK (l : List PrT) (fr : Int) : Nat → Nat
 | 0 => 0
 | k + 1 => usersK l fr k + cntFr (l.getD k default) fr 16
def FdP (pi : List WrT) (k n p : Int) : Prop :=
 ((k = 0 ∨ k = 1 ∨ k = 2) ∧ n = 0 ∧ p = 0) ∨ (k = 3 ∧ 1 ≤ n ∧ n ≤ 64 ∧ 0 ≤ p ∧ p ≤ 8960) ∨ ((k = 4 ∨ k = 5) ∧ p = 0 ∧ ∃ y ∈ pi, y.1 = n)
def PageP (m : Mac) (d : MacD) (y : PrT) (j : Nat) : Prop :=
 (y.pis j = false ∧ y.pwr j = false ∧ y.pfr j = 0) ∨ (y.pis j = true ∧ y.state ≠ 3 ∧ 0 ≤ y.pfr j ∧ y.pfr j < (m.fr.n : Int) ∧ usersK d.pr (y.pfr j) d.pr.length = 1)
structure ProcOk (m : Mac) (d : MacD) (y : PrT) : Prop where
 pid : 1 ≤ y.pid ∧ y.pid < m.next
 state : y.state = 1 ∨ y.state = 2 ∨ y.state = 3
 reg : y.reg 0 = 0
 par : LivesP d.pr y.parent ∨ (y.state ≠ 3 ∧ y.parent = 0)
 why : (y.state = 2 ∧ 1 ≤ y.why ∧ y.why ≤ 5) ∨ (y.state ≠ 2 ∧ y.why = 0 ∧ y.num = 0)
 code : y.state = 3 ∨ y.code = 0
 page : ∀ j < 16, PageP m d y j
 fd : ∀ j < 8, FdP d.pi (y.fk j) (y.fn j) (y.fp j) ∧ (y.state = 3 → y.fk j = 0)
structure NumsOk (m : Mac) : Prop where
 quantum : 1 ≤ m.quantum ∧ m.quantum ≤ 1000
 left : 0 ≤ m.left ∧ m.left ≤ m.quantum
 cur : 0 ≤ m.cur
 next : 1 ≤ m.next ∧ m.next ≤ 1000000000
 newPipe : 1 ≤ m.newPipe ∧ m.newPipe ≤ 1000000000
def PipesK (m : Mac) (l : List WrT) (k : Nat) : Prop := ∀ (i : Nat) (h : i < l.length), i < k → 1 ≤ l[i].1 ∧ l[i].1 < m.newPipe ∧ l[i].2.length ≤ 64 ∧ (0 < i → (l[i - 1]'(by omega)).1 < l[i].1)
def ProcsK (m : Mac) (d : MacD) (k : Nat) : Prop := ∀ (i : Nat) (h : i < d.pr.length), i < k → ProcOk m d d.pr[i] ∧ (0 < i → (d.pr[i - 1]'(by omega)).pid < d.pr[i].pid)
structure RestOk (m : Mac) (d : MacD) : Prop where
 nums : NumsOk m
 frn : 1 ≤ m.fr.n ∧ m.fr.n ≤ 64
 fr : ∀ b ∈ d.fr, b.length = 128
 prn : m.pr.n ≤ 8
 pr : ProcsK m d d.pr.length
 pin : m.pi.n ≤ 64
 pi : PipesK m d.pi d.pi.length
 texts : m.inn.length ≤ 65536 ∧ m.init.length ≤ 128
structure StateOk (m : Mac) (d : MacD) : Prop where
 rest : RestOk m d
 disk : DiskOk d
theorem cnt_mono (y : PrT) (fr : Int) : ∀ {i j : Nat}, i ≤ j → cntFr y fr i ≤ cntFr y fr j := by
 intro i j h
 induction h with
 | refl => exact Nat.le_refl _
 | step _ ih => exact Nat.le_trans ih (Nat.le_add_right _ _)
theorem users_mono (l : List PrT) (fr : Int) : ∀ {i j : Nat}, i ≤ j → usersK l fr i ≤ usersK l fr j := by
 intro i j h
 induction h with
 | refl => exact Nat.le_refl _
 | step _ ih => exact Nat.le_trans ih (Nat.le_add_right _ _)
def Met (l : List PrT) (k j : Nat) (fr : Int) : Prop := 0 < usersK l fr k + cntFr (l.getD k default) fr j
theorem met_one {l : List PrT} {k j : Nat} {fr : Int} (hk : k < l.length) (hj : j < 16) (h : (l.getD k default).pis j = true) (hf : (l.getD k default).pfr j = fr) (hu : usersK l fr l.length = 1) : ¬ Met l k j fr := by
 intro hm
 unfold Met at hm
 have h1 : usersK l fr (k + 1) ≤ usersK l fr l.length := users_mono l fr hk
 have h2 : cntFr (l.getD k default) fr (j + 1) ≤ cntFr (l.getD k default) fr 16 := cnt_mono _ _ hj
 rw [usersK] at h1
 rw [cntFr, if_pos ⟨h, hf⟩] at h2
 omega
theorem met_next {l : List PrT} {k j : Nat} {fr : Int} (h : (l.getD k default).pis j = true) : Met l k (j + 1) fr ↔ Met l k j fr ∨ fr = (l.getD k default).pfr j := by
 unfold Met
 rw [cntFr]
 by_cases e : (l.getD k default).pfr j = fr
 ·rw [if_pos ⟨h, e⟩]; exact ⟨fun _ => .inr e.symm, fun _ => by omega⟩
 ·rw [if_neg (fun h => e h.2)]
  exact ⟨fun h => .inl (by omega), fun h => h.elim (fun h => by omega) (fun h => absurd h.symm e)⟩
theorem met_skip {l : List PrT} {k j : Nat} {fr : Int} (h : (l.getD k default).pis j = false) : Met l k (j + 1) fr ↔ Met l k j fr := by
 unfold Met
 rw [cntFr, if_neg (fun h2 => by rw [h] at h2; cases h2.1)]; omega
theorem met_proc {l : List PrT} {k : Nat} {fr : Int} : Met l (k + 1) 0 fr ↔ Met l k 16 fr := by
 unfold Met
 rw [usersK, cntFr]; omega
theorem met_zero {l : List PrT} {fr : Int} : ¬ Met l 0 0 fr := by unfold Met; rw [usersK, cntFr]; omega
end Go.Proofs.YtfaplefkakpgcaaGreatDoor
