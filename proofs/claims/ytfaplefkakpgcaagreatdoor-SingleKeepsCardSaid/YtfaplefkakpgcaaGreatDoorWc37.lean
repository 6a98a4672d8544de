/- single.paths, single.opened. -/
import Derived.Test.YtfaplefkakpgcaaGreatDoorWc35
import Derived.Test.YtfaplefkakpgcaaGreatDoorWc36
import Derived.Test.YtfaplefkakpgcaaGreatDoorWc14
import Derived.Test.YtfaplefkakpgcaaGreatDoorWc27
import Derived.Test.YtfaplefkakpgcaaGreatDoorWc28
import Derived.Test.YtfaplefkakpgcaaGreatDoorWc29
import Derived.Deep.RegionWith
import Derived.Test.YtfaplefkakpgcaaGreatDoorWc3
import Derived.BigRegion
import Derived.Test.YtfaplefkakpgcaaGreatDoorWc30
import Derived.Test.YtfaplefkakpgcaaGreatDoorWc32
namespace Go.Proofs.YtfaplefkakpgcaaGreatDoor
set_option linter.unusedVariables false
set_option linter.unusedSimpArgs false
open Go.RowKit
def pathAt (v : List (List UInt8)) (I : Option Int) (k : Int) : List UInt8 := ((walkX v I).find? fun p => (findX v I p).2 == 0 && (findX v I p).1 == k).getD []
theorem pathAt_short (v : List (List UInt8)) (I : Option Int) (k : Int) : (pathAt v I k).length ≤ 200 := by
 unfold pathAt
 cases h : (walkX v I).find? fun p => (findX v I p).2 == 0 && (findX v I p).1 == k with
 | none => exact Nat.zero_le _
 | some p => exact walkX_short v I p (List.mem_of_find?_eq_some h)
theorem pathAt_yes {v : List (List UInt8)} {I : Option Int} {k : Int} {j : Nat} (hj : j < (walkX v I).length) (h : ((findX v I (walkX v I)[j]).2 == 0 && (findX v I (walkX v I)[j]).1 == k) = true) (hno : ∀ (i : Nat) (hi : i < (walkX v I).length), i < j → ((findX v I (walkX v I)[i]).2 == 0 && (findX v I (walkX v I)[i]).1 == k) = false) : pathAt v I k = (walkX v I)[j] := by
 unfold pathAt
 rw [find_at (p := fun p => (findX v I p).2 == 0 && (findX v I p).1 == k) hj h hno]; rfl
theorem pathAt_no {v : List (List UInt8)} {I : Option Int} {k : Int} (hno : ∀ (i : Nat) (hi : i < (walkX v I).length), ((findX v I (walkX v I)[i]).2 == 0 && (findX v I (walkX v I)[i]).1 == k) = false) : pathAt v I k = [] := by
 unfold pathAt
 rw [List.find?_eq_none.2 (fun p hp => by
  obtain ⟨i, hi, rfl⟩ := List.getElem_of_mem hp
  rw [hno i hi]; decide)]
 rfl
set_option maxHeartbeats 2000000 in
set_option maxRecDepth 100000 in
theorem paths1_any (A B : Option Addr) (n c nl cl : Nat) (v : List (List UInt8)) (I : Option Int) (k : Int) (gl gv : Nat) (w : World) (hv : Strs w A n v) (hn : n ≤ 9223372036854775807) (hg : GoodX v I) (hl : Strs w B nl (walkX v I)) (bl : Box w gl 22 #[.slice B nl cl]) (bv : Box w gv 22 #[.slice A n c]) (hnl : nl ≤ maxLen) :
  Calls Tryz.prog 151 #[.int .i64 k, .pointer (some ⟨gl, 0, none⟩), .pointer (some ⟨gv, 0, none⟩)] w fun e w' => e = .returned (.string (str (pathAt v I k))) ∧ Ext w w' := by
 have HF := Lib.hid (fun p (hp : p.length ≤ 200) w h => findX_any A n c v I p w h hn hg (Nat.le_trans hp (by decide)))
 have HS := Lib.hid (walkX_short v I)
 have HY := Lib.hid (fun j hj => @pathAt_yes v I k j hj)
 have HN := Lib.hid (@pathAt_no v I k)
 have HV := Lib.hid hv
 obtain ⟨hl1, hl2⟩ := hl
 have HL1 := Lib.hid hl1
 unfold maxLen at hnl
 clear hv hg hl1
 generalize pathAt v I k = P at *
 generalize walkX v I = L at *
 generalize findX v I = F at *
 have hln : nl = L.length := HL1.out
 have q1 : w.cell? ⟨gl, 0, none⟩ = some (.slice B nl cl) := bl.cell 0
 go_enter Tryz.func151, Tryz.ntmps151
 go_upto_region 2 with fail
 clear q1
 subst hln
 go_loopw [11] (fun i wx => ∃ j : Nat, j ≤ L.length ∧ i = .int .i64 j ∧ Ext w wx ∧ ∀ (i : Nat) (hi : i < L.length), i < j → ((F L[i]).2 == 0 && (F L[i]).1 == k) = false) (fun i _ => L.length - (intOf i).toNat)
 case atStart => exact ⟨0, by omega, rfl, Ext.refl _, fun i hi h => by omega⟩
 case round =>
  obtain ⟨j, hj, rfl, xj, hno⟩ := hrel
  have HNO := Lib.hid hno
  clear hno
  by_cases hlt : j < L.length
  ·obtain ⟨b, o, rfl, hcell⟩ := hl2 (by omega)
   have e1 := xj.keep (hcell j hlt)
   have hji : (j : Int) < (L.length : Int) := by omega
   have q2 : wr.cell? ⟨gv, 0, none⟩ = some (.slice A n c) := (bv.ext xj).cell 0
   have HNN := Lib.hid (show ((F L[j]).2 == 0 && (F L[j]).1 == k) = false → ∀ (i : Nat) (hi : i < L.length), i < j + 1 → ((F L[i]).2 == 0 && (F L[i]).1 == k) = false from fun h i hi hij => by
    by_cases e : i < j
    ·exact HNO.out i hi e
    ·obtain rfl : i = j := by omega
     exact h)
   have HYY := Lib.hid (fun h => HY.out j hlt h HNO.out)
   have HFp := Lib.hid (fun w h => HF.out L[j] (HS.out _ (List.getElem_mem hlt)) w h)
   clear hcell HNO HY HN HF HS
   generalize L[j] = p at *
   generalize F p = fp at *
   obtain ⟨z, e⟩ := fp
   simp only at HNN HYY HFp
   rcases Bool.eq_false_or_eq_true (e == 0) with h1 | h1
   ·rcases Bool.eq_false_or_eq_true (z == k) with h2 | h2
    ·have HP := Lib.hid (HYY.out (by rw [h1, h2]; rfl))
     go_wp2_with (go_at_call 23; refine (HFp.out _ (HV.out.ext xj)).mono ?_; rintro e w2 ⟨rfl, x2⟩)
     go_ret
     exact ⟨by rw [HP.out]; rfl, xj.trans x2⟩
    ·have HP := Lib.hid (HNN.out (by rw [h1, h2]; rfl))
     go_wp2_with (go_at_call 23; refine (HFp.out _ (HV.out.ext xj)).mono ?_; rintro e w2 ⟨rfl, x2⟩)
     go_roundw
     case rel => exact ⟨j + 1, by omega, by go_num, xj.trans x2, HP.out⟩
     case measure => simp [intOf]; omega
   ·have HP := Lib.hid (HNN.out (by rw [h1]; rfl))
    go_wp2_with (go_at_call 23; refine (HFp.out _ (HV.out.ext xj)).mono ?_; rintro e w2 ⟨rfl, x2⟩)
    go_roundw
    case rel => exact ⟨j + 1, by omega, by go_num, xj.trans x2, HP.out⟩
    case measure => simp [intOf]; omega
  ·have HP := Lib.hid (HN.out (fun i hi => HNO.out i hi (by omega)))
   clear HNO HY HN HF HS
   go_wp2_with fail
   go_ret
   exact ⟨by rw [HP.out]; rfl, xj⟩
theorem own_max {w : World} {base z n : Nat} {e : TypeId} {v : Value} {xs : List Value} (h : w.ownsRow base e z v n xs) : n ≤ maxLen := by
 rcases h.2 with ⟨_, rfl⟩ | ⟨g, cap, cur, _, _, _, h1, h2, _⟩
 ·exact Nat.zero_le _
 ·exact Nat.le_trans h1 h2
set_option maxHeartbeats 2000000 in
set_option maxRecDepth 100000 in
theorem spaths_any (A : Option Addr) (n c : Nat) (v : List (List UInt8)) (I : Option Int) (w : World) (hv : Strs w A n v) (hn : n ≤ 9223372036854775807) (hg : GoodX v I) :
  Calls Tryz.prog 80 #[.slice A n c] w fun e w' => ∃ gl gv, e = .returned (.func (.func 151) #[] #[.pointer (some ⟨gl, 0, none⟩), .pointer (some ⟨gv, 0, none⟩)]) ∧ Ext w w' ∧
   ∀ k wx, Ext w' wx → Calls Tryz.prog 151 #[.int .i64 k, .pointer (some ⟨gl, 0, none⟩), .pointer (some ⟨gv, 0, none⟩)] wx fun e w'' => e = .returned (.string (str (pathAt v I k))) ∧ Ext wx w'' := by
 have HW := Lib.hid (fun w h => walk_any A n c v I w h hn hg)
 have HP := Lib.hid (fun B nl cl k gl gv w h1 h2 h3 h4 h5 => paths1_any A B n c nl cl v I k gl gv w h1 hn hg h2 h3 h4 h5)
 have hmf : ∀ (fn : Fn) (first cap : Array Value) (w : World), (Instr.makeFunc fn first cap).run Tryz.prog w = .ok (.func fn first cap) w := fun _ _ _ _ => rfl
 have x0 := (Ext.refl w).alloc (.cells #[.slice A n c] 22)
 have bv := Box.new w 22 #[.slice A n c]
 have HV := Lib.hid (hv.ext x0)
 clear hv hg
 go_enter Tryz.func80, Tryz.ntmps80
 go_upto_region 1 with fail
 generalize w.alloc (.cells #[.slice A n c] 22) = w1 at *
 have q0 : w1.cell? ⟨w.heap.size, 0, none⟩ = some (.slice A n c) := bv.cell 0
 go_upto_region 2 with (go_at_call 22; refine (HW.out _ HV.out).mono ?_; rintro e w2 ⟨u, rfl, x2, own2⟩; obtain ⟨B, cl, hu, _⟩ := own_slice own2; subst hu; have HO := Lib.hid own2; clear own2)
 have hsz : w2.heap.size ≤ w2.heap.size := Nat.le_refl _
 have x3 := (Ext.refl w2).alloc (.cells #[.slice B (walkX v I).length cl] 22)
 have b3 := Box.new w2 22 #[.slice B (walkX v I).length cl]
 have bv3 := (bv.ext x2).ext x3
 have HV3 := Lib.hid ((HV.out.ext x2).ext x3)
 have HL3 := Lib.hid ((Strs.own HO.out).ext x3)
 have HL := Lib.hid (own_max HO.out)
 generalize hLn : (walkX v I).length = Ln at *
 clear q0 hLn
 go_wp2_with fail
 go_ret
 refine ⟨w2.heap.size, w.heap.size, rfl, (x0.trans x2).trans x3, fun k wx xx => ?_⟩
 exact HP.out B Ln cl k w2.heap.size w.heap.size wx (HV3.out.ext xx) (HL3.out.ext xx) (b3.ext xx) (bv3.ext xx) HL.out
def openF (pa : Int → List UInt8) (fi : List UInt8 → Int × Int) (k n p : Int) : Int × Int × Int :=
 if k = 1 ∨ k = 2 then (k, n, p) else if k = 3 ∧ pa n ≠ [] ∧ (fi (pa n)).2 = 0 then (3, (fi (pa n)).1, p) else (0, 0, 0)
def PrT.setFd (q : PrT) (i : Nat) (f : Int × Int × Int) : PrT := { q with fk := fun j => if j = i then f.1 else q.fk j, fn := fun j => if j = i then f.2.1 else q.fn j, fp := fun j => if j = i then f.2.2 else q.fp j }
set_option maxRecDepth 100000 in
theorem putR_fd (q : PrT) (i : Nat) (hi : i < 8) (f : Int × Int × Int) : putR (fdsL q).toArray (i * 3) [.int .i64 f.1, .int .i64 f.2.1, .int .i64 f.2.2] = (fdsL (q.setFd i f)).toArray := by
 rcases (by omega : i = 0 ∨ i = 1 ∨ i = 2 ∨ i = 3 ∨ i = 4 ∨ i = 5 ∨ i = 6 ∨ i = 7) with rfl | rfl | rfl | rfl | rfl | rfl | rfl | rfl <;> rfl
def fdQ (F : Nat → Int × Int × Int) (j : Nat) : PrT := { zeroPr with fk := fun i => if i < j then (F i).1 else 0, fn := fun i => if i < j then (F i).2.1 else 0, fp := fun i => if i < j then (F i).2.2 else 0 }
theorem fdL_eq {a b : PrT} (h : ∀ i < 8, a.fk i = b.fk i ∧ a.fn i = b.fn i ∧ a.fp i = b.fp i) : fdsL a = fdsL b := by
 unfold fdsL
 rw [List.flatMap_def, List.flatMap_def]
 congr 1
 apply List.map_congr_left
 intro i hi
 obtain ⟨h1, h2, h3⟩ := h i (List.mem_range.1 hi)
 unfold fdL
 rw [h1, h2, h3]
theorem fdQ_next (F : Nat → Int × Int × Int) (j : Nat) : fdsL ((fdQ F j).setFd j (F j)) = fdsL (fdQ F (j + 1)) := by
 refine fdL_eq fun i _ => ?_
 unfold fdQ PrT.setFd
 simp only
 by_cases e : i = j
 ·subst e
  rw [if_pos rfl, if_pos rfl, if_pos rfl, if_pos (Nat.lt_succ_self _), if_pos (Nat.lt_succ_self _), if_pos (Nat.lt_succ_self _)]
  exact ⟨rfl, rfl, rfl⟩
 ·rw [if_neg e, if_neg e, if_neg e]
  by_cases h : i < j
  ·rw [if_pos h, if_pos h, if_pos h, if_pos (by omega), if_pos (by omega), if_pos (by omega)]; exact ⟨rfl, rfl, rfl⟩
  ·rw [if_neg h, if_neg h, if_neg h, if_neg (by omega), if_neg (by omega), if_neg (by omega)]; exact ⟨rfl, rfl, rfl⟩
theorem fdQ_skip {F : Nat → Int × Int × Int} {j : Nat} (h : F j = (0, 0, 0)) : fdsL (fdQ F j) = fdsL (fdQ F (j + 1)) := by
 refine fdL_eq fun i _ => ?_
 unfold fdQ
 simp only
 by_cases e : i = j
 ·subst e
  rw [if_neg (Nat.lt_irrefl _), if_neg (Nat.lt_irrefl _), if_neg (Nat.lt_irrefl _), if_pos (Nat.lt_succ_self _), if_pos (Nat.lt_succ_self _), if_pos (Nat.lt_succ_self _), h]
  exact ⟨rfl, rfl, rfl⟩
 ·by_cases h : i < j
  ·rw [if_pos h, if_pos h, if_pos h, if_pos (by omega), if_pos (by omega), if_pos (by omega)]; exact ⟨rfl, rfl, rfl⟩
  ·rw [if_neg h, if_neg h, if_neg h, if_neg (by omega), if_neg (by omega), if_neg (by omega)]; exact ⟨rfl, rfl, rfl⟩
theorem fdsL_size (q : PrT) : (fdsL q).toArray.size = 24 := rfl
theorem fd3_one (a b c : Int) : ∀ v ∈ [Value.int .i64 a, .int .i64 b, .int .i64 c], v.oneCell' = true := fun v hv => by
 simp only [List.mem_cons, List.not_mem_nil, or_false] at hv
 rcases hv with rfl | rfl | rfl <;> rfl
theorem fds_one (q : PrT) : (fdsL q).toArray.all (·.oneCell') = true := all_oneCell_toArray (cs := fdsL q) (fun v hv => by
 simp only [fdsL, fdL, List.mem_flatMap, List.mem_cons, List.not_mem_nil, or_false] at hv
 obtain ⟨i, _, h | h | h⟩ := hv <;> (subst h; rfl))
theorem fdsSz {q : PrT} : (Tryz.prog.info? 55).map (·.size) = some (fdsL q).toArray.size := fdsSize
set_option maxHeartbeats 8000000 in
set_option maxRecDepth 100000 in
theorem opened_any (m1 m2 : Mac) (d1 d2 : MacD) (y : PrT) (I1 I2 : Option Int) (w : World) (h1 : MacIn w m1 d1) (h2 : MacIn w m2 d2) (hg1 : GoodX (viewP d1.bl d1.pe d1.di) I1) (hg2 : GoodX (viewP d2.bl d2.pe d2.di) I2)
  (hn1 : (viewP d1.bl d1.pe d1.di).length ≤ 100000) (hn2 : (viewP d2.bl d2.pe d2.di).length ≤ 100000) :
  Calls Tryz.prog 37 #[.agg m1.cells, .agg m2.cells, .agg (fdsL y).toArray] w fun e w' =>
   e = .returned (.agg (fdsL (fdQ (fun i => openF (pathAt (viewP d1.bl d1.pe d1.di) I1) (fileX (viewP d2.bl d2.pe d2.di) I2) (y.fk i) (y.fn i) (y.fp i)) 8)).toArray) ∧ Ext w w' := by
 obtain ⟨F, hF⟩ : ∃ F : Nat → Int × Int × Int, F = fun i => openF (pathAt (viewP d1.bl d1.pe d1.di) I1) (fileX (viewP d2.bl d2.pe d2.di) I2) (y.fk i) (y.fn i) (y.fp i) := ⟨_, rfl⟩
 rw [← hF]
 have HF := Lib.hid (fun i => show F i = openF (pathAt (viewP d1.bl d1.pe d1.di) I1) (fileX (viewP d2.bl d2.pe d2.di) I2) (y.fk i) (y.fn i) (y.fp i) by rw [hF])
 clear hF
 have HV1 := Lib.hid (fun w h => view_any m1 d1 w h)
 have HV2 := Lib.hid (fun w h => view_any m2 d2 w h)
 have HPa := Lib.hid (fun A c w h => spaths_any A (viewP d1.bl d1.pe d1.di).length c (viewP d1.bl d1.pe d1.di) I1 w h (Nat.le_trans hn1 (by decide)) hg1)
 have HFi := Lib.hid (fun A c p (hp : p.length ≤ 200) w h => sgfile_any A (viewP d2.bl d2.pe d2.di).length c (viewP d2.bl d2.pe d2.di) I2 p w h (Nat.le_trans hn2 (by decide)) hg2 (Nat.le_trans hp (by decide)))
 have HSh := Lib.hid (pathAt_short (viewP d1.bl d1.pe d1.di) I1)
 have x0 := ((((Ext.refl w).alloc (.cells m1.cells 38)).alloc (.cells m2.cells 38)).alloc (.cells (fdsL y).toArray 55)).alloc (.cells (fdsL zeroPr).toArray 55)
 have b1 := (((Box.new w 38 m1.cells).ext ((Ext.refl _).alloc (.cells m2.cells 38))).ext ((Ext.refl _).alloc (.cells (fdsL y).toArray 55))).ext ((Ext.refl _).alloc (.cells (fdsL zeroPr).toArray 55))
 have b2 := ((Box.new (w.alloc (.cells m1.cells 38)) 38 m2.cells).ext ((Ext.refl _).alloc (.cells (fdsL y).toArray 55))).ext ((Ext.refl _).alloc (.cells (fdsL zeroPr).toArray 55))
 have b3 := (Box.new ((w.alloc (.cells m1.cells 38)).alloc (.cells m2.cells 38)) 55 (fdsL y).toArray).ext ((Ext.refl _).alloc (.cells (fdsL zeroPr).toArray 55))
 have b4 := Box.new (((w.alloc (.cells m1.cells 38)).alloc (.cells m2.cells 38)).alloc (.cells (fdsL y).toArray 55)) 55 (fdsL zeroPr).toArray
 rw [World.size_alloc] at b2
 rw [World.size_alloc, World.size_alloc] at b3
 rw [World.size_alloc, World.size_alloc, World.size_alloc] at b4
 have H1 := Lib.hid (h1.ext x0)
 have H2 := Lib.hid (h2.ext x0)
 clear h1 h2 hg1 hg2 hn1 hn2
 go_enter Tryz.func37, Tryz.ntmps37
 go_upto_region 1 with fail
 change Code.wp _ _ _ _ ((((w.alloc (.cells m1.cells 38)).alloc (.cells m2.cells 38)).alloc (.cells (fdsL y).toArray 55)).alloc (.cells (fdsL zeroPr).toArray 55))
 generalize (((w.alloc (.cells m1.cells 38)).alloc (.cells m2.cells 38)).alloc (.cells (fdsL y).toArray 55)).alloc (.cells (fdsL zeroPr).toArray 55) = w1 at *
 obtain ⟨G, hG⟩ : ∃ G, G = w.heap.size := ⟨_, rfl⟩
 rw [← hG] at b1 b2 b3 b4 ⊢
 have HG := Lib.hid hG
 clear hG
 go_upto_region 2 with (first
  | (refine wp_ld_mac _ rfl rfl G _ _ rfl b1 rfl ?_)
  | (go_at_call 18; refine (HV1.out _ H1.out).mono ?_; rintro e w2 ⟨A1, c1, rfl, x2, o2⟩; have HSt := Lib.hid (Strs.own o2); clear o2)
  | (go_at_call 80; refine (HPa.out _ _ _ HSt.out).mono ?_; rintro e w3 ⟨gl, gv, rfl, x3, hpc⟩))
 have HPC := Lib.hid hpc
 have X3 := x2.trans x3
 have H2' := Lib.hid (H2.out.ext X3)
 have b2' := b2.ext X3
 clear hpc x2 x3 HSt b2 b1
 go_upto_region 3 with (first
  | (refine wp_ld_mac _ rfl rfl (G + 1) _ _ rfl b2' rfl ?_)
  | (go_at_call 18; refine (HV2.out _ H2'.out).mono ?_; rintro e w4 ⟨A2, c2, rfl, x4, o4⟩; have HS2 := Lib.hid (Strs.own o4); clear o4))
 have X4 := X3.trans x4
 have HPC4 := Lib.hid (fun k wx xx => HPC.out k wx (x4.trans xx))
 have b34 := b3.ext X4
 have b44 := b4.ext X4
 clear b3 b4 b2' X3 x4 HPC
 have HFi2 := Lib.hid (fun p hp (wx : World) (x : Ext w4 wx) => HFi.out A2 c2 p hp wx (HS2.out.ext x))
 clear HFi HS2 HPa HV1 HV2 H1 H2 H2'
 generalize pathAt (viewP d1.bl d1.pe d1.di) I1 = pa at *
 generalize fileX (viewP d2.bl d2.pe d2.di) I2 = fi at *
 generalize (viewP d2.bl d2.pe d2.di).length = n2 at *
 go_upto_region 4 with fail
 change Code.wp _ _ _ _ (w4.alloc (.cells (fdsL (fdQ F 0)).toArray 55))
 have b9 := Box.new w4 55 (fdsL (fdQ F 0)).toArray
 have x5 := (Ext.refl w4).alloc (.cells (fdsL (fdQ F 0)).toArray 55)
 generalize w4.alloc (.cells (fdsL (fdQ F 0)).toArray 55) = w5 at *
 have b35 := b34.ext x5
 go_upto_region 5 with (refine wp_ld _ _ rfl rfl (G + 1 + 1) (fdsL y).toArray 55 _ rfl b35 Tryz.underlying55 rfl fdsSz ?_)
 clear b34 b35
 go_loopw [21] (fun i wx => ∃ j : Nat, j ≤ 8 ∧ i = .int .i64 j ∧ Ext w4 wx ∧ Box wx w4.heap.size 55 (fdsL (fdQ F j)).toArray) (fun i _ => 8 - (intOf i).toNat)
 case atStart => exact ⟨0, by omega, rfl, x5, b9⟩
 case round =>
  clear b9 x5
  obtain ⟨j, hj, rfl, xj, b9⟩ := hrel
  by_cases hlt : j < 8
  ·have hji : (j : Int) < 8 := by omega
   have HSK := Lib.hid (show F j = (0, 0, 0) → (fdsL (fdQ F j)).toArray = (fdsL (fdQ F (j + 1))).toArray from fun h => by rw [fdQ_skip h])
   have HNX := Lib.hid (show ∀ f, F j = f → putR (fdsL (fdQ F j)).toArray (j * 3) [.int .i64 f.1, .int .i64 f.2.1, .int .i64 f.2.2] = (fdsL (fdQ F (j + 1))).toArray from fun f h => by rw [putR_fd _ j hlt f, ← h, fdQ_next])
   have HFj := Lib.hid (HF.out j)
   have hsz : j * 3 + 3 ≤ (fdsL (fdQ F j)).toArray.size := by rw [fdsL_size]; omega
   go_upto_region 7 with (refine wp_idx_fd (.tmp 20) (.tmp 21) rfl rfl y j rfl rfl hlt ?_)
   generalize y.fk j = ik at *
   generalize y.fn j = ifn at *
   generalize y.fp j = ifp at *
   generalize (fdsL (fdQ F j)).toArray = C0 at *
   generalize hC1 : (fdsL (fdQ F (j + 1))).toArray = C1 at *
   have HC1 := Lib.hid hC1
   clear hC1
   have xq : Ext wr (wr.alloc (.cells #[.int .i64 ik, .int .i64 ifn, .int .i64 ifp] 54)) := (Ext.refl _).alloc _
   have bq := Box.new wr 54 #[.int .i64 ik, .int .i64 ifn, .int .i64 ifp]
   have xz := xj.trans xq
   have b9q := b9.ext xq
   generalize wr.alloc (.cells #[.int .i64 ik, .int .i64 ifn, .int .i64 ifp] 54) = wq at *
   have q0 : wq.cell? ⟨wr.heap.size, 0, none⟩ = some (.int .i64 ik) := bq.cell 0
   clear b9 xq xj
   by_cases hk1 : ik = 1 ∨ ik = 2
   ·have HFv := Lib.hid (show F j = (ik, ifn, ifp) by rw [HFj.out, openF, if_pos hk1])
    rcases hk1 with rfl | rfl
    ·go_wp2_with (first
      | (refine wp_ld _ _ rfl rfl wr.heap.size #[.int .i64 1, .int .i64 ifn, .int .i64 ifp] 54 _ rfl bq Tryz.underlying54 rfl fdSize ?_)
      | (refine wp_st_range 54 (.tmp 32) (.tmp 31) rfl rfl w4.heap.size (j * 3) [.int .i64 1, .int .i64 ifn, .int .i64 ifp] _ C1 55 rfl rfl (fd3_one _ _ _) fdSize b9q hsz (HNX.out _ HFv.out) ?_; intro w8 b8 d8))
     go_roundw
     case rel => exact ⟨j + 1, by omega, by go_num, d8.past xz (Nat.le_refl _), by rw [HC1.out]; exact b8⟩
     case measure => simp [intOf]; omega
    ·go_wp2_with (first
      | (refine wp_ld _ _ rfl rfl wr.heap.size #[.int .i64 2, .int .i64 ifn, .int .i64 ifp] 54 _ rfl bq Tryz.underlying54 rfl fdSize ?_)
      | (refine wp_st_range 54 (.tmp 32) (.tmp 31) rfl rfl w4.heap.size (j * 3) [.int .i64 2, .int .i64 ifn, .int .i64 ifp] _ C1 55 rfl rfl (fd3_one _ _ _) fdSize b9q hsz (HNX.out _ HFv.out) ?_; intro w8 b8 d8))
     go_roundw
     case rel => exact ⟨j + 1, by omega, by go_num, d8.past xz (Nat.le_refl _), by rw [HC1.out]; exact b8⟩
     case measure => simp [intOf]; omega
   ·by_cases hk3 : ik = 3
    ·subst hk3
     have q1 : wq.cell? ⟨wr.heap.size, 1, none⟩ = some (.int .i64 ifn) := bq.cell 1
     have HP := Lib.hid (fun wx x => HPC4.out ifn wx x)
     have hsh := HSh.out ifn
     have HFv := Lib.hid (show F j = if pa ifn ≠ [] ∧ (fi (pa ifn)).2 = 0 then (3, (fi (pa ifn)).1, ifp) else (0, 0, 0) by
      rw [HFj.out, openF, if_neg (by decide)]
      by_cases c : pa ifn ≠ [] ∧ (fi (pa ifn)).2 = 0
      ·rw [if_pos ⟨rfl, c⟩, if_pos c]
      ·rw [if_neg (fun h => c h.2), if_neg c])
     generalize pa ifn = s at *
     have HFx := Lib.hid (HFi2.out s hsh)
     go_upto_region 13 with (go_at_call 151; refine (HP.out _ xz).mono ?_; rintro e w6 ⟨rfl, x6⟩)
     have x46 := xz.trans x6
     have b9w := b9q.ext x6
     clear q0 q1 b9q
     by_cases hs0 : s = []
     ·have HFz := Lib.hid (show F j = (0, 0, 0) by rw [HFv.out, if_neg (fun h => h.1 hs0)])
      subst hs0
      have d1 : (str []).toList.isEmpty = true := by rw [str_toList]; rfl
      go_wp2_with fail
      go_roundw
      case rel => exact ⟨j + 1, by omega, by go_num, x46, by rw [HC1.out, ← HSK.out HFz.out]; exact b9w⟩
      case measure => simp [intOf]; omega
     ·have d1 : (str s).toList.isEmpty = false := by rw [str_toList]; simpa using hs0
      generalize hfs : fi s = fs at *
      obtain ⟨z, e⟩ := fs
      simp only at HFx HFv
      by_cases he : e = 0
      ·have HFz := Lib.hid (show F j = (3, z, ifp) by rw [HFv.out, if_pos ⟨hs0, he⟩])
       subst he
       clear hs0 hfs
       have bq6 := bq.ext x6
       go_wp2_with (first
        | (go_at_call 28; refine (HFx.out _ x46).mono ?_; rintro e w7 ⟨rfl, x7⟩; have q2 : w7.cell? ⟨wr.heap.size, 2, none⟩ = some (.int .i64 ifp) := (bq6.ext x7).cell 2; have b9y := b9w.ext x7)
        | (refine wp_st_range 54 (.tmp 54) (.tmp 53) rfl rfl w4.heap.size (j * 3) [.int .i64 3, .int .i64 z, .int .i64 ifp] _ C1 55 rfl rfl (fd3_one _ _ _) fdSize b9y hsz (HNX.out _ HFz.out) ?_; intro w8 b8 d8))
       go_roundw
       case rel => exact ⟨j + 1, by omega, by go_num, d8.past (x46.trans x7) (Nat.le_refl _), by rw [HC1.out]; exact b8⟩
       case measure => simp [intOf]; omega
      ·have HFz := Lib.hid (show F j = (0, 0, 0) by rw [HFv.out, if_neg (fun h => he h.2)])
       have he2 : (e == 0) = false := by simpa using he
       clear hs0 hfs he
       go_wp2_with (go_at_call 28; refine (HFx.out _ x46).mono ?_; rintro e w7 ⟨rfl, x7⟩)
       go_roundw
       case rel => exact ⟨j + 1, by omega, by go_num, x46.trans x7, by rw [HC1.out, ← HSK.out HFz.out]; exact b9w.ext x7⟩
       case measure => simp [intOf]; omega
    ·have e1 : (ik == 1) = false := by have : ik ≠ 1 := fun h => hk1 (.inl h); simpa using this
     have e2 : (ik == 2) = false := by have : ik ≠ 2 := fun h => hk1 (.inr h); simpa using this
     have e3 : (ik == 3) = false := by simpa using hk3
     have HFv := Lib.hid (show F j = (0, 0, 0) by rw [HFj.out, openF, if_neg hk1, if_neg (fun h => hk3 h.1)])
     clear hk1 hk3
     go_wp2_with fail
     go_roundw
     case rel => exact ⟨j + 1, by omega, by go_num, xz, by rw [HC1.out, ← HSK.out HFv.out]; exact b9q⟩
     case measure => simp [intOf]; omega
  ·obtain rfl : j = 8 := by omega
   have b4f := b44.ext xj
   go_wp2_with (first
    | (refine wp_ld _ _ rfl rfl w4.heap.size (fdsL (fdQ F 8)).toArray 55 _ rfl b9 Tryz.underlying55 rfl fdsSz ?_)
    | (refine wp_st 55 _ _ rfl rfl (G + 1 + 1 + 1) (fdsL (fdQ F 8)).toArray _ 55 rfl rfl b4f fdsSz rfl (fds_one _) ?_; intro w8 b8 g8))
   refine bodyPost_ret (results_cell1 rfl _ _ (G + 1 + 1 + 1) _ _ _ rfl b8 Tryz.underlying55 rfl fdsSz) rfl ⟨rfl, ((x0.trans X4).trans xj).grown g8 (fun j e => by cases e; rw [← HG.out]; omega)⟩
end Go.Proofs.YtfaplefkakpgcaaGreatDoor
/- single.Proc, where the image's machine is known. (Written by gen_proc.py.) -/
namespace Go.Proofs.YtfaplefkakpgcaaGreatDoor
set_option linter.unusedVariables false
set_option linter.unusedSimpArgs false
open Go.RowKit
noncomputable def procE (m2 : Mac) (d2 : MacD) (l : List PrT) (pid : Int) : Int := orE (chkE m2 d2) (match livingP l pid with
 | none => 9
 | some y => if 8 ≤ d2.pr.length then 6 else if (freeP m2.fr.n d2.pr).length < cntIs y 16 then 10 else 0)
def fdsOf (d1 d2 : MacD) (I1 I2 : Option Int) (y : PrT) : Nat → Int × Int × Int := fun i => openF (pathAt (viewP d1.bl d1.pe d1.di) I1) (fileX (viewP d2.bl d2.pe d2.di) I2) (y.fk i) (y.fn i) (y.fp i)
def ProcOut (m2 : Mac) (d1 d2 : MacD) (I1 I2 : Option Int) (pid : Int) (w' : World) (e : Ending) : Prop :=
 (procE m2 d2 d1.pr pid ≠ 0 ∧ e = .returned (.tuple #[.agg mac0.cells, .int .i64 0, .int .i64 (procE m2 d2 d1.pr pid)])) ∨
 (∃ y, StateOk m2 d2 ∧ livingP d1.pr pid = some y ∧ d2.pr.length < 8 ∧ cntIs y 16 ≤ (freeP m2.fr.n d2.pr).length ∧
  ∃ z : Mac, e = .returned (.tuple #[.agg z.cells, .int .i64 m2.next, .int .i64 0]) ∧ MacOwn w' 0 z (bringD d1.fr y m2.next m2.fr.n d2 (fdsOf d1 d2 I1 I2 y)) ∧ SameSc { z with next := m2.next } m2 ∧ z.next = m2.next + 1)
theorem own_butN {w w' : World} {b base z n : Nat} {u : Value} {xs : List Value} {t : TypeId} (o : w.ownsRow base t z u n xs) (hk : But b w w') (hu : u.ownBlock ≠ some b) : w'.ownsRow base t z u n xs := by
 refine ⟨o.1, ?_⟩
 rcases o.2 with h | ⟨g, cap, cur, h1, h2, h3, h4⟩
 ·exact .inl h
 ·refine .inr ⟨g, cap, cur, h1, h2, ?_, h4⟩
  have hlt : g < w.heap.size := (Array.getElem?_eq_some_iff.1 h3).1
  refine (hk.block g hlt ?_).trans h3
  intro e
  subst e
  exact hu (by rw [h1]; rfl)
def MacLow (N : Nat) (m : Mac) : Prop := ∀ k, N ≤ k → (Value.slice m.fr.A m.fr.n m.fr.c).ownBlock ≠ some k ∧ (Value.slice m.pr.A m.pr.n m.pr.c).ownBlock ≠ some k ∧ (Value.slice m.pi.A m.pi.n m.pi.c).ownBlock ≠ some k ∧ (Value.slice m.bl.A m.bl.n m.bl.c).ownBlock ≠ some k ∧ (Value.slice m.pe.A m.pe.n m.pe.c).ownBlock ≠ some k ∧ (Value.slice m.di.A m.di.n m.di.c).ownBlock ≠ some k
theorem MacOwn.low {w : World} {B : Nat} {m : Mac} {d : MacD} (h : MacOwn w B m d) : MacLow w.heap.size m := fun k hk =>
 ⟨fun e => by have := own_blk_lt h.fr e; omega, fun e => by have := own_blk_lt h.pr e; omega, fun e => by have := own_blk_lt h.pi e; omega, fun e => by have := own_blk_lt h.bl e; omega, fun e => by have := own_blk_lt h.pe e; omega, fun e => by have := own_blk_lt h.di e; omega⟩
theorem MacOwn.but {w w' : World} {B N b : Nat} {m : Mac} {d : MacD} (h : MacOwn w B m d) (hl : MacLow N m) (hb : N ≤ b) (k : But b w w') : MacOwn w' B m d := by
 obtain ⟨h1, h2, h3, h4, h5, h6⟩ := hl b hb
 exact ⟨own_butN h.fr k h1, own_butN h.pr k h2, own_butN h.pi k h3, own_butN h.bl k h4, own_butN h.pe k h5, own_butN h.di k h6, h.frn, h.prn, h.pin, h.bln, h.pen, h.din, h.apart⟩
set_option maxRecDepth 100000 in
theorem built_proc (y : PrT) (next : Int) (free : List Nat) (F : Nat → Int × Int × Int) : Tryz.prog.built 57 [(0, .int .i64 next), (2, .int .i64 1), (3, .agg (cpuL y).toArray), (6, .bool y.mask), (5, .agg (fdsL (fdQ F 8)).toArray)] = some (prL (newPr y next free F 0)).toArray := by kernel_rfl
theorem wp_new_proc {ops : Array Oper} {rest : List Oper} {o : Oper} {a : Act} {w : World} {Q : Exit → Act → World → Prop} (x0 x3 x6 x5 : Operand) (y : PrT) (next : Int) (free : List Nat) (F : Nat → Int × Int × Int) (hgd : o.guard = none)
  (ho : o.op = .build 57 #[(0, x0), (2, .const (.int .i64 1)), (3, x3), (6, x6), (5, x5)]) (h0 : a.eval x0 = .int .i64 next) (h3 : a.eval x3 = .agg (cpuL y).toArray) (h6 : a.eval x6 = .bool y.mask) (h5 : a.eval x5 = .agg (fdsL (fdQ F 8)).toArray)
  (hK : wpList Tryz.prog ops Q rest (a.put o.dst (.agg (prL (newPr y next free F 0)).toArray)) w) : wpList Tryz.prog ops Q (o :: rest) a w := by
 refine wpList_buildTo hgd _ _ ho _ rfl (prL (newPr y next free F 0)).toArray ?_ hK
 have hc : a.eval (.const (.int .i64 1)) = .int .i64 1 := rfl
 have e : ((#[(0, x0), (2, .const (.int .i64 1)), (3, x3), (6, x6), (5, x5)] : Array (Nat × Operand)).map fun (i, x) => (i, a.eval x)).toList = [(0, .int .i64 next), (2, .int .i64 1), (3, .agg (cpuL y).toArray), (6, .bool y.mask), (5, .agg (fdsL (fdQ F 8)).toArray)] := by simp only [List.map_toArray, List.map_cons, List.map_nil, h0, h3, h6, h5, hc]
 rw [e]
 exact built_proc y next free F
theorem free_cells {w : World} {B L c : Nat} {A : Option Addr} {l : List Nat} (h : w.ownsRow B 3 1 (.slice A L c) L (numsL (l.map fun f : Nat => (f : Int)))) (hl : L = l.length) : (L ≤ c ∧ c ≤ maxLen) ∧ ∃ gb, 0 < L → A = some ⟨gb, 0, none⟩ ∧ ∀ i, i < L → w.cell? ⟨gb, i, none⟩ = some (.int .i64 ((l.getD i 0 : Nat) : Int)) := by
 rcases h.2 with ⟨h1, h2⟩ | ⟨g, cap, cur, h1, _, _, h3, h4, _⟩
 ·injection h1 with _ _ h1
  exact ⟨⟨by omega, by unfold maxLen; omega⟩, 0, fun h0 => by omega⟩
 ·injection h1 with h1 _ h5
  subst h1 h5
  refine ⟨⟨h3, h4⟩, g, fun _ => ⟨rfl, fun i hi => ?_⟩⟩
  have hx : i < (numsL (l.map fun f : Nat => (f : Int))).length := by unfold numsL; rw [List.length_map, List.length_map]; omega
  rw [h.cellAt i (by omega)]
  unfold numsL
  rw [List.map_map, List.getElem?_map, List.getD_eq_getElem?_getD, List.getElem?_eq_getElem (by omega)]
  rfl
theorem grown_but {w w' : World} {g : Nat} (k : w.grownBy w' (some g)) : But g w w' := ⟨k.os, k.tape, k.output, k.size, fun i hi hne => k.block i hi (fun e => hne (Option.some.inj e))⟩
theorem pte_one (a b : Bool) (c : Int) : ∀ v ∈ [Value.bool a, .bool b, .int .i64 c], v.oneCell' = true := fun v hv => by
 simp only [List.mem_cons, List.not_mem_nil, or_false] at hv
 rcases hv with rfl | rfl | rfl <;> rfl
theorem MacOwn.base0 {w : World} {B : Nat} {m : Mac} {d : MacD} (h : MacOwn w B m d) : MacOwn w 0 m d :=
 ⟨own_base h.fr (Nat.zero_le _), own_base h.pr (Nat.zero_le _), own_base h.pi (Nat.zero_le _), own_base h.bl (Nat.zero_le _), own_base h.pe (Nat.zero_le _), own_base h.di (Nat.zero_le _), h.frn, h.prn, h.pin, h.bln, h.pen, h.din, h.apart⟩
theorem prL_mask (y : PrT) : (prL y).toArray[92]? = some (.bool y.mask) := by kernel_rfl
set_option maxHeartbeats 16000000 in
set_option maxRecDepth 100000 in
theorem proc_any (FA BA : Option Addr) (fn fc bn bc : Nat) (s : ByteArray) (pid : Int) (m2 : Mac) (d1 d2 : MacD) (I1 I2 : Option Int) (w : World)
  (hM : ∀ w', Ext w w' → Calls Tryz.prog 27 #[.agg #[.slice FA fn fc, .slice BA bn bc, .string s]] w' fun e w'' => ∃ z : Mac, e = .returned (.tuple #[.agg z.cells, .int .i64 0]) ∧ Ext w' w'' ∧ MacIn w'' z d1 ∧ StateOk z d1)
  (h2 : MacIn w m2 d2) (hs2 : MacSmall m2) (hpi : m2.pi.n ≤ 4000) (hg1 : GoodX (viewP d1.bl d1.pe d1.di) I1) (hg2 : GoodX (viewP d2.bl d2.pe d2.di) I2) (hn1 : (viewP d1.bl d1.pe d1.di).length ≤ 100000) (hn2 : (viewP d2.bl d2.pe d2.di).length ≤ 100000) :
  Calls Tryz.prog 14 #[.agg #[.slice FA fn fc, .slice BA bn bc, .string s], .int .i64 pid, .agg m2.cells] w fun e w' => ProcOut m2 d1 d2 I1 I2 pid w' e ∧ Ext w w' := by
 obtain ⟨OUT, hOUT⟩ : ∃ OUT, OUT = ProcOut m2 d1 d2 I1 I2 pid := ⟨_, rfl⟩
 rw [← hOUT]
 have HO := Lib.hid hOUT
 clear hOUT
 have HM := Lib.hid hM
 have HCk := Lib.hid (fun w h => scheck_any m2 d2 w h hpi)
 have HCp := Lib.hid (fun w h => copm_any m2 d2 w h hs2)
 have HFr := Lib.hid (fun w h k => free_any m2 d2 w h k)
 have HLv := Lib.hid (fun z w h k => living_any z d1 pid w h k)
 have HPg := Lib.hid (fun y w => pages_any y w)
 have HOp := Lib.hid (fun z y w h1 h2 => opened_any z m2 d1 d2 y I1 I2 w h1 h2 hg1 hg2 hn1 hn2)
 have x0 := (((Ext.refl w).alloc (.cells #[.slice FA fn fc, .slice BA bn bc, .string s] 24)).alloc (.cells m2.cells 38)).alloc (.cells mac0.cells 38)
 have bi := ((Box.new w 24 #[.slice FA fn fc, .slice BA bn bc, .string s]).ext ((Ext.refl _).alloc (.cells m2.cells 38))).ext ((Ext.refl _).alloc (.cells mac0.cells 38))
 have b5 := (Box.new (w.alloc (.cells #[.slice FA fn fc, .slice BA bn bc, .string s] 24)) 38 m2.cells).ext ((Ext.refl _).alloc (.cells mac0.cells 38))
 have b6 := Box.new ((w.alloc (.cells #[.slice FA fn fc, .slice BA bn bc, .string s] 24)).alloc (.cells m2.cells 38)) 38 mac0.cells
 rw [World.size_alloc] at b5
 rw [World.size_alloc, World.size_alloc] at b6
 have H2 := Lib.hid h2
 clear hM h2 hs2 hpi hg1 hg2 hn1 hn2
 go_enter Tryz.func14, Tryz.ntmps14
 go_upto_region 1 with fail
 change Code.wp _ _ _ _ (((w.alloc (.cells #[.slice FA fn fc, .slice BA bn bc, .string s] 24)).alloc (.cells m2.cells 38)).alloc (.cells mac0.cells 38))
 generalize ((w.alloc (.cells #[.slice FA fn fc, .slice BA bn bc, .string s] 24)).alloc (.cells m2.cells 38)).alloc (.cells mac0.cells 38) = w1 at *
 obtain ⟨G, hG⟩ : ∃ G, G = w.heap.size := ⟨_, rfl⟩
 rw [← hG] at bi b5 b6 ⊢
 have HG := Lib.hid hG
 clear hG
 go_upto_region 2 with (first
  | (refine wp_ld _ _ rfl rfl G #[.slice FA fn fc, .slice BA bn bc, .string s] 24 _ rfl bi Tryz.underlying24 rfl imgSz ?_)
  | (go_at_call 27; refine (HM.out _ x0).mono ?_; rintro e w2 ⟨z, rfl, x2, hi, hst⟩)
  | (refine wp_st_mac _ _ rfl rfl w2.heap.size z _ _ rfl rfl (Box.new _ _ _) rfl ?_; intro w3 b9 g3))
 have y3 : Ext w2 w3 := ((Ext.refl w2).alloc _).grown g3 (fun j e => by cases e; exact Nat.le_refl _)
 have HZ := Lib.hid (hi.ext y3)
 have HZS := Lib.hid hst
 have X3 := Lib.hid (x0.trans (x2.trans y3))
 replace b5 := b5.ext (x2.trans y3)
 replace b6 := b6.ext (x2.trans y3)
 clear hi hst y3 g3 x2 bi x0 HM
 generalize w2.heap.size = g9 at *
 clear w2
 go_upto_region 5 with (first
  | (refine wp_ld_mac _ rfl rfl (G + 1) _ _ rfl b5 rfl ?_)
  | (go_at_call 17; refine (HCk.out _ (H2.out.ext X3.out)).mono ?_; rintro e w4 ⟨rfl, x4⟩))
 replace b5 := b5.ext x4
 replace b6 := b6.ext x4
 replace b9 := b9.ext x4
 have HZ4 := Lib.hid (HZ.out.ext x4)
 have X4 := Lib.hid (X3.out.trans x4)
 clear HZ X3 x4 HCk
 clear w3
 by_cases hck : chkE m2 d2 = 0
 case neg =>
  have HE := Lib.hid (show procE m2 d2 d1.pr pid = chkE m2 d2 from by unfold procE; exact orE_l hck _)
  have HNZ := Lib.hid hck
  generalize chkE m2 d2 = cE at *
  have hcE : (cE != 0) = true := by simpa using hck
  clear hck HOp HPg HLv HFr HCp
  go_wp2_with (refine wp_st_mac _ _ rfl rfl (G + 1 + 1) mac0 _ _ rfl rfl b6 rfl ?_; intro w9 bb9 g9)
  refine bodyPost_ret (results_cell3 rfl _ _ (G + 1 + 1) _ _ _ _ _ rfl rfl rfl bb9 Tryz.underlying38 rfl macSz) rfl ⟨?_, X4.out.grown g9 (fun j e => by cases e; rw [← HG.out]; omega)⟩
  rw [HO.out]
  exact .inl ⟨by rw [HE.out]; exact HNZ.out, by rw [HE.out]; rfl⟩
 have HS2 := Lib.hid (chkE_zero.1 hck)
 have HE := Lib.hid (show procE m2 d2 d1.pr pid = match livingP d1.pr pid with
  | none => 9
  | some y => if 8 ≤ d2.pr.length then 6 else if (freeP m2.fr.n d2.pr).length < cntIs y 16 then 10 else 0 from by unfold procE; rw [hck]; exact orE_r _)
 rw [hck]
 clear hck
 have hrn : z.pr.n ≤ 1000 := by have := HZS.out.rest.prn; omega
 go_upto_region 8 with (first
  | (refine wp_ld_mac _ rfl rfl g9 _ _ rfl b9 rfl ?_)
  | (go_at_call 33; refine (HLv.out z _ HZ4.out hrn).mono ?_; rintro e w5 ⟨rfl, x5⟩)
  | (refine wp_st_pr _ _ rfl rfl w5.heap.size ((livingP d1.pr pid).getD zeroPr) _ 57 rfl rfl (Box.new _ _ _) rfl ?_; intro w6 b12 g6))
 have y6 : Ext w5 w6 := ((Ext.refl w5).alloc _).grown g6 (fun j e => by cases e; exact Nat.le_refl _)
 have X6 := Lib.hid (X4.out.trans (x5.trans y6))
 have HZ6 := Lib.hid (HZ4.out.ext (x5.trans y6))
 replace b5 := b5.ext (x5.trans y6)
 replace b6 := b6.ext (x5.trans y6)
 replace b9 := b9.ext (x5.trans y6)
 clear x5 y6 g6 X4 HZ4 HLv hrn
 generalize w5.heap.size = g12 at *
 clear w4 w5
 go_upto_region 9 with (first
  | (refine wp_ld_mac _ rfl rfl (G + 1) _ _ rfl b5 rfl ?_)
  | (go_at_call 34; refine (HFr.out _ (H2.out.ext X6.out) HS2.out).mono ?_; rintro e w7 ⟨u, rfl, x7, ow7⟩))
 obtain ⟨AF, cF, hu⟩ : ∃ A c, u = .slice A (freeP m2.fr.n d2.pr).length c := by
  rcases ow7.2 with ⟨h1, h2⟩ | ⟨g, cap, cur, h1, _⟩
  ·exact ⟨none, 0, by rw [h1, h2]⟩
  ·exact ⟨_, _, h1⟩
 subst hu
 have HFO := Lib.hid ow7
 have X7 := Lib.hid (X6.out.trans x7)
 have HZ7 := Lib.hid (HZ6.out.ext x7)
 replace b5 := b5.ext x7
 replace b6 := b6.ext x7
 replace b9 := b9.ext x7
 replace b12 := b12.ext x7
 clear ow7 x7 X6 HZ6 HFr
 cases hlv : livingP d1.pr pid with
 | none =>
  have HE2 := Lib.hid (HE.out.trans (by rw [hlv]))
  rw [hlv] at b12
  clear HOp HPg HCp hlv HE
  go_wp2_with (refine wp_st_mac _ _ rfl rfl (G + 1 + 1) mac0 _ _ rfl rfl b6 rfl ?_; intro w9 bb9 g9)
  refine bodyPost_ret (results_cell3 rfl _ _ (G + 1 + 1) _ _ _ _ _ rfl rfl rfl bb9 Tryz.underlying38 rfl macSz) rfl ⟨?_, X7.out.grown g9 (fun j e => by cases e; rw [← HG.out]; omega)⟩
  rw [HO.out]
  exact .inl ⟨by rw [HE2.out]; decide, by rw [HE2.out]; rfl⟩
 | some y =>
 have HLV := Lib.hid hlv
 have HE2 := Lib.hid (HE.out.trans (by rw [hlv]))
 rw [hlv] at b12
 replace b12 : Box w7 g12 57 (prL y).toArray := b12
 clear hlv HE
 have hln : m2.pr.n = d2.pr.length := H2.out.pr.1
 have k5 : w7.cell? ⟨G + 1, 5, none⟩ = some (.slice m2.pr.A m2.pr.n m2.pr.c) := b5.cell 5
 by_cases h8 : 8 ≤ d2.pr.length
 ·have HE3 := Lib.hid (HE2.out.trans (if_pos h8))
  have h8' : decide ((8 : Int) ≤ (m2.pr.n : Int)) = true := by simp; omega
  have hli : (some y).isSome = true := rfl
  clear HOp HPg HCp HE2 hln h8
  go_wp2_with (refine wp_st_mac _ _ rfl rfl (G + 1 + 1) mac0 _ _ rfl rfl b6 rfl ?_; intro w9 bb9 g9)
  refine bodyPost_ret (results_cell3 rfl _ _ (G + 1 + 1) _ _ _ _ _ rfl rfl rfl bb9 Tryz.underlying38 rfl macSz) rfl ⟨?_, X7.out.grown g9 (fun j e => by cases e; rw [← HG.out]; omega)⟩
  rw [HO.out]
  exact .inl ⟨by rw [HE3.out]; decide, by rw [HE3.out]; rfl⟩
 have h8' : decide ((8 : Int) ≤ (m2.pr.n : Int)) = false := by simp; omega
 have H8 := Lib.hid (show d2.pr.length < 8 by omega)
 have HE3 := Lib.hid (HE2.out.trans (if_neg h8))
 clear hln h8 HE2
 by_cases hfp : (freeP m2.fr.n d2.pr).length < cntIs y 16
 ·have HE4 := Lib.hid (HE3.out.trans (if_pos hfp))
  have hfp' : decide (((freeP m2.fr.n d2.pr).length : Int) < (cntIs y 16 : Int)) = true := by simp; omega
  clear HOp HCp HE3
  go_wp2_with (first
   | (refine wp_ld_space _ rfl rfl g12 57 y rfl b12 ?_)
   | (go_at_call 35; refine (HPg.out y _).mono ?_; rintro e w8 ⟨rfl, x8⟩; replace b6 := b6.ext x8)
   | (refine wp_st_mac _ _ rfl rfl (G + 1 + 1) mac0 _ _ rfl rfl b6 rfl ?_; intro w9 bb9 g9))
  refine bodyPost_ret (results_cell3 rfl _ _ (G + 1 + 1) _ _ _ _ _ rfl rfl rfl bb9 Tryz.underlying38 rfl macSz) rfl ⟨?_, (X7.out.trans x8).grown g9 (fun j e => by cases e; rw [← HG.out]; omega)⟩
  rw [HO.out]
  exact .inl ⟨by rw [HE4.out]; decide, by rw [HE4.out]; rfl⟩
 have hfp' : decide (((freeP m2.fr.n d2.pr).length : Int) < (cntIs y 16 : Int)) = false := by simp; omega
 have hfp2 : decide ((freeP m2.fr.n d2.pr).length < cntIs y 16) = false := by simp; omega
 have HFP := Lib.hid (show cntIs y 16 ≤ (freeP m2.fr.n d2.pr).length by omega)
 clear hfp HE3
 go_upto_region 15 with (first
  | (refine wp_ld_space _ rfl rfl g12 57 y rfl b12 ?_)
  | (go_at_call 35; refine (HPg.out y _).mono ?_; rintro e w8 ⟨rfl, x8⟩))
 have X8 := Lib.hid (X7.out.trans x8)
 have HZ8 := Lib.hid (HZ7.out.ext x8)
 have HFO8 := Lib.hid (own_ext HFO.out x8)
 replace b5 := b5.ext x8
 replace b6 := b6.ext x8
 replace b9 := b9.ext x8
 replace b12 := b12.ext x8
 clear x8 HPg HZ7 X7 HFO k5 h8' hfp' hfp2
 go_upto_region 16 with (first
  | (refine wp_ld_mac _ rfl rfl (G + 1) _ _ rfl b5 rfl ?_)
  | (go_at_call 36; refine (HCp.out _ (H2.out.ext X8.out)).mono ?_; rintro e w9 ⟨fr, pr, pi, bl, pe, di, rfl, x9, ho9⟩)
  | (refine wp_st_mac _ _ rfl rfl w9.heap.size (m2.with fr pr pi bl pe di) _ _ rfl rfl (Box.new _ _ _) rfl ?_; intro w10 b15 g15))
 have x10 : Ext w8 w10 := (x9.alloc _).grown g15 (fun j e => by cases e; exact x9.size)
 have HO9 := Lib.hid ((ho9.ext ((Ext.refl w9).alloc _)).grown (by decide) (Box.new _ _ _) g15)
 have HLow := Lib.hid ho9.low
 have hg15 : w8.heap.size ≤ w9.heap.size := x9.size
 have b5A := b5.ext x10
 have b9A := b9.ext x10
 have b12A := b12.ext x10
 have HZ10 := Lib.hid (HZ8.out.ext x10)
 have HX10 := Lib.hid x10
 have H210 := Lib.hid ((H2.out.ext X8.out).ext x10)
 have HFRN := Lib.hid (show m2.fr.n = d2.fr.length from H2.out.fr.1)
 clear ho9 x9 g15 x10 HCp H2
 generalize w9.heap.size = g15 at *
 clear w9
 obtain ⟨F, hF⟩ : ∃ F, F = fdsOf d1 d2 I1 I2 y := ⟨_, rfl⟩
 have HOp2 := Lib.hid (fun w h1 h2 => show Calls Tryz.prog 37 #[.agg z.cells, .agg m2.cells, .agg (fdsL y).toArray] w fun e w' => e = .returned (.agg (fdsL (fdQ F 8)).toArray) ∧ Ext w w' from by rw [hF]; exact HOp.out z y w h1 h2)
 have HFF := Lib.hid hF
 clear HOp hF
 obtain ⟨free, hfree⟩ : ∃ free, free = freeP m2.fr.n d2.pr := ⟨_, rfl⟩
 have HFree := Lib.hid hfree
 clear hfree
 simp only [Act.put]
 refine wp_region_web' 13 [[], [0], [], [2], [], [4], [], [], [], [8], [6, 7, 9], [1, 3, 5, 10], []] (listV [isV (.pointer (some ⟨g15, 6, none⟩)), isV (.int .i64 m2.next), isV (.pointer (some ⟨g12, 3, none⟩)), isV (.agg (cpuL y).toArray), isV (.pointer (some ⟨g12, 92, none⟩)), isV (.bool y.mask), isV (.agg z.cells), isV (.agg m2.cells), isV (.pointer (some ⟨g12, 68, none⟩)), isV (.agg (fdsL y).toArray), isV (.agg (fdsL (fdQ F 8)).toArray), isV (.agg (prL (newPr y m2.next free F 0)).toArray), newV w10.heap.size 57 (prL zeroPr).toArray]) (by kernel_rfl) (by kernel_rfl) (listV_ext (fun p hp => by simp only [List.mem_cons, List.not_mem_nil, or_false] at hp; rcases hp with rfl | rfl | rfl | rfl | rfl | rfl | rfl | rfl | rfl | rfl | rfl | rfl | rfl <;> first | exact lasts_is _ | exact lasts_new _ _ _)) (fun us => ?_)
 simp only [List.take_succ_cons, List.take_zero, List.drop_succ_cons, List.drop_zero]
 rw [webWalk]
 refine And.intro (fun w' hx hd => ?_) ?_
 ·clear hd
  refine web_of_list 62 rfl (by simp) rfl ?_
  go_wp2_with fail
  exact ⟨Ext.refl _, rfl⟩
 simp only [Act.put, List.setIfInBounds_toArray, List.set_cons_zero, List.set_cons_succ]
 rw [webWalk]
 refine And.intro (fun w' hx hd => ?_) ?_
 ·have h0 := hd 0 (by simp)
  clear hd
  generalize us 0 = u0 at *
  obtain rfl : u0 = .pointer (some ⟨g15, 6, none⟩) := h0
  have q6 : w'.cell? ⟨g15, 6, none⟩ = some (.int .i64 m2.next) := (b15.ext hx).cell 6
  refine web_of_list 63 rfl (by simp [Act.put]) rfl ?_
  go_wp2_with fail
  exact ⟨Ext.refl _, rfl⟩
 simp only [Act.put, List.setIfInBounds_toArray, List.set_cons_zero, List.set_cons_succ]
 rw [webWalk]
 refine And.intro (fun w' hx hd => ?_) ?_
 ·clear hd
  refine web_of_list 64 rfl (by simp [Act.put]) rfl ?_
  go_wp2_with fail
  exact ⟨Ext.refl _, rfl⟩
 simp only [Act.put, List.setIfInBounds_toArray, List.set_cons_zero, List.set_cons_succ]
 rw [webWalk]
 refine And.intro (fun w' hx hd => ?_) ?_
 ·have h2 := hd 2 (by simp)
  clear hd
  generalize us 2 = u2 at *
  obtain rfl : u2 = .pointer (some ⟨g12, 3, none⟩) := h2
  refine web_of_list 65 rfl (by simp [Act.put]) rfl ?_
  go_wp2_with (refine wp_ld_cpu _ rfl rfl g12 57 y rfl (b12A.ext hx) ?_)
  exact ⟨Ext.refl _, rfl⟩
 simp only [Act.put, List.setIfInBounds_toArray, List.set_cons_zero, List.set_cons_succ]
 rw [webWalk]
 refine And.intro (fun w' hx hd => ?_) ?_
 ·clear hd
  refine web_of_list 66 rfl (by simp [Act.put]) rfl ?_
  go_wp2_with fail
  exact ⟨Ext.refl _, rfl⟩
 simp only [Act.put, List.setIfInBounds_toArray, List.set_cons_zero, List.set_cons_succ]
 rw [webWalk]
 refine And.intro (fun w' hx hd => ?_) ?_
 ·have h4 := hd 4 (by simp)
  clear hd
  generalize us 4 = u4 at *
  obtain rfl : u4 = .pointer (some ⟨g12, 92, none⟩) := h4
  have q92 : w'.cell? ⟨g12, 92, none⟩ = some (.bool y.mask) := ((b12A.ext hx).cell 92).trans (prL_mask y)
  refine web_of_list 67 rfl (by simp [Act.put]) rfl ?_
  go_wp2_with fail
  exact ⟨Ext.refl _, rfl⟩
 simp only [Act.put, List.setIfInBounds_toArray, List.set_cons_zero, List.set_cons_succ]
 rw [webWalk]
 refine And.intro (fun w' hx hd => ?_) ?_
 ·clear hd
  refine web_of_list 68 rfl (by simp [Act.put]) rfl ?_
  go_wp2_with (refine wp_ld_mac _ rfl rfl g9 _ _ rfl (b9A.ext hx) rfl ?_)
  exact ⟨Ext.refl _, rfl⟩
 simp only [Act.put, List.setIfInBounds_toArray, List.set_cons_zero, List.set_cons_succ]
 rw [webWalk]
 refine And.intro (fun w' hx hd => ?_) ?_
 ·clear hd
  refine web_of_list 69 rfl (by simp [Act.put]) rfl ?_
  go_wp2_with (refine wp_ld_mac _ rfl rfl (G + 1) _ _ rfl (b5A.ext hx) rfl ?_)
  exact ⟨Ext.refl _, rfl⟩
 simp only [Act.put, List.setIfInBounds_toArray, List.set_cons_zero, List.set_cons_succ]
 rw [webWalk]
 refine And.intro (fun w' hx hd => ?_) ?_
 ·clear hd
  refine web_of_list 70 rfl (by simp [Act.put]) rfl ?_
  go_wp2_with fail
  exact ⟨Ext.refl _, rfl⟩
 simp only [Act.put, List.setIfInBounds_toArray, List.set_cons_zero, List.set_cons_succ]
 rw [webWalk]
 refine And.intro (fun w' hx hd => ?_) ?_
 ·have h8 := hd 8 (by simp)
  clear hd
  generalize us 8 = u8 at *
  obtain rfl : u8 = .pointer (some ⟨g12, 68, none⟩) := h8
  refine web_of_list 71 rfl (by simp [Act.put]) rfl ?_
  go_wp2_with (refine wp_ld_fds _ rfl rfl g12 57 y rfl (b12A.ext hx) ?_)
  exact ⟨Ext.refl _, rfl⟩
 simp only [Act.put, List.setIfInBounds_toArray, List.set_cons_zero, List.set_cons_succ]
 rw [webWalk]
 refine And.intro (fun w' hx hd => ?_) ?_
 ·have h6 := hd 6 (by simp)
  have h7 := hd 7 (by simp)
  have h9 := hd 9 (by simp)
  clear hd
  generalize us 6 = u6 at *
  generalize us 7 = u7 at *
  generalize us 9 = u9 at *
  obtain rfl : u6 = .agg z.cells := h6
  obtain rfl : u7 = .agg m2.cells := h7
  obtain rfl : u9 = .agg (fdsL y).toArray := h9
  refine web_of_list 72 rfl (by simp [Act.put]) rfl ?_
  go_wp2_with (go_at_call 37; refine (HOp2.out _ (HZ10.out.ext hx) (H210.out.ext hx)).mono ?_; rintro e w2 ⟨rfl, x2⟩)
  first | exact ⟨x2, rfl⟩ | exact rfl
 simp only [Act.put, List.setIfInBounds_toArray, List.set_cons_zero, List.set_cons_succ]
 rw [webWalk]
 refine And.intro (fun w' hx hd => ?_) ?_
 ·have h1 := hd 1 (by simp)
  have h3 := hd 3 (by simp)
  have h5 := hd 5 (by simp)
  have h10 := hd 10 (by simp)
  clear hd
  generalize us 1 = u1 at *
  generalize us 3 = u3 at *
  generalize us 5 = u5 at *
  generalize us 10 = u10 at *
  obtain rfl : u1 = .int .i64 m2.next := h1
  obtain rfl : u3 = .agg (cpuL y).toArray := h3
  obtain rfl : u5 = .bool y.mask := h5
  obtain rfl : u10 = .agg (fdsL (fdQ F 8)).toArray := h10
  refine web_of_list 73 rfl (by simp [Act.put]) rfl ?_
  go_wp2_with (refine wp_new_proc (.tmp 63) (.tmp 65) (.tmp 67) (.tmp 72) y m2.next free F rfl rfl rfl rfl rfl rfl ?_)
  exact ⟨Ext.refl _, rfl⟩
 simp only [Act.put, List.setIfInBounds_toArray, List.set_cons_zero, List.set_cons_succ]
 rw [webWalk]
 refine And.intro (fun w' hx hd => ?_) ?_
 ·clear hd
  refine web_of_list 16 rfl (by simp [Act.put]) rfl ?_
  go_wp2_with fail
  exact ⟨(Ext.refl w').alloc _, _, rfl, hx.size, Box.new _ _ _⟩
 simp only [Act.put, List.setIfInBounds_toArray, List.set_cons_zero, List.set_cons_succ]
 rw [webWalk]
 intro w' hx hv
 have h11 := hv 11 (by omega)
 have h12 := hv 12 (by omega)
 clear hv
 generalize us 0 = u0 at *
 generalize us 1 = u1 at *
 generalize us 2 = u2 at *
 generalize us 3 = u3 at *
 generalize us 4 = u4 at *
 generalize us 5 = u5 at *
 generalize us 6 = u6 at *
 generalize us 7 = u7 at *
 generalize us 8 = u8 at *
 generalize us 9 = u9 at *
 generalize us 10 = u10 at *
 generalize us 11 = u11 at *
 generalize us 12 = u12 at *
 obtain rfl : u11 = .agg (prL (newPr y m2.next free F 0)).toArray := h11
 obtain ⟨g16, rfl, hg16, b16⟩ := h12
 go_upto_region 17 with (refine wp_st_pr _ _ rfl rfl g16 (newPr y m2.next free F 0) _ 57 rfl rfl b16 rfl ?_; intro w11 b16n k16)
 have d16 := grown_but k16
 have hlt15 : g15 < w10.heap.size := b15.lt
 have hxz := hx.size
 have y11 : Ext w10 w11 := d16.past hx hg16
 have b15L := d16.box (b15.ext hx) (show g15 ≠ g16 by omega)
 have HOL := Lib.hid ((HO9.out.ext hx).but HLow.out (show g15 ≤ g16 by omega) d16)
 have b12L := b12A.ext y11
 have b9w := b9
 have HZL := Lib.hid (HZ10.out.ext y11)
 have HXL := Lib.hid (HX10.out.trans y11)
 have b6L := b6.ext HXL.out
 have h1516 : g15 < g16 := by omega
 clear d16 k16 b16 hx y11 b5 b5A b9A b12A b12 hxz hlt15 hg16 b15 HO9 HZ10 H210 HOp2
 obtain ⟨hLc, gb, hgb⟩ := free_cells HFO8.out rfl
 have HGB := Lib.hid hgb
 have HFP2 := Lib.hid (show cntIs y 16 ≤ (freeP m2.fr.n d2.pr).length from HFP.out)
 have hmx := hLc.2
 have hL64 : (freeP m2.fr.n d2.pr).length ≤ 64 := Nat.le_trans (freeP_le _ _) HS2.out.rest.frn.2
 have HFA := Lib.hid (fun c (hc : c < (freeP m2.fr.n d2.pr).length) => freeP_at (n := m2.fr.n) (l := d2.pr) hc)
 rw [← HFree.out] at hLc hL64 ⊢
 have HGB2 := Lib.hid (show 0 < free.length → AF = some ⟨gb, 0, none⟩ ∧ ∀ i, i < free.length → w8.cell? ⟨gb, i, none⟩ = some (.int .i64 ((free.getD i 0 : Nat) : Int)) from fun h => by have hq := HGB.out; rw [← HFree.out] at hq; exact hq h)
 have HFA2 := Lib.hid (show ∀ c, c < free.length → free.getD c 0 < m2.fr.n from fun c hc => by have hq := HFA.out; rw [← HFree.out] at hq; exact (hq c hc).1)
 have HC16 := Lib.hid (show cntIs y 16 ≤ free.length from by rw [HFree.out]; exact HFP.out)
 clear hgb HGB HFA HFP2
 unfold maxLen at hmx
 have HPGE := Lib.hid (fun j hj => ((HZS.out.proc (livingP_some HLV.out).1).page j hj))
 obtain ⟨mr, hmr⟩ : ∃ mr, mr = m2.with fr pr pi bl pe di := ⟨_, rfl⟩
 rw [← hmr] at b15L HOL HLow
 have HMR := Lib.hid hmr
 clear hmr
 go_upto_region 18 with (refine wp_ld_space _ rfl rfl g12 57 y rfl b12L ?_)
 go_loopw [14, 76] (fun u i wx => ∃ j : Nat, j ≤ 16 ∧ i = .int .i64 j ∧ (∃ A', u = .slice A' (free.length - cntIs y j) (cF - cntIs y j) ∧ (cntIs y j < free.length → A' = some ⟨gb, cntIs y j, none⟩)) ∧ Ext w8 wx ∧ MacOwn wx w8.heap.size mr { d2 with fr := frK d1.fr y free d2.fr j } ∧ Box wx g16 57 (prL (newPr y m2.next free F j)).toArray ∧ Box wx g15 38 mr.cells) (fun _ i _ => 16 - (intOf i).toNat)
 case atStart => exact ⟨0, by omega, rfl, ⟨AF, rfl, fun h => (HGB2.out h).1⟩, HXL.out, HOL.out, b16n, b15L⟩
 case round =>
  clear b16n b15L HOL HXL
  obtain ⟨j, hj, rfl, ⟨A', rfl, hA'⟩, xj, hown, b16, b15⟩ := hrel
  have HOW := Lib.hid hown
  have HA' := Lib.hid hA'
  clear hown hA'
  by_cases hlt : j < 16
  ·have hji : (j : Int) < 16 := by omega
   have hpg := HPGE.out j hlt
   go_upto_region 20 with (refine wp_idx_pte (.tmp 75) (.tmp 76) rfl rfl y j rfl rfl hlt ?_)
   have hcase : y.pis j = false ∨ (y.pis j = true ∧ ∃ pf : Nat, y.pfr j = (pf : Int) ∧ pf < z.fr.n) := by
    rcases hpg with ⟨h1, _⟩ | ⟨h1, _, h3, h4, _⟩
    ·exact .inl h1
    ·exact .inr ⟨h1, (y.pfr j).toNat, by omega, by omega⟩
   clear hpg
   rcases hcase with hp | ⟨hp, pf, hpf, hpl⟩
   ·have HS1 := Lib.hid (newPr_skip (next := m2.next) (free := free) (F := F) hp)
    have HS3 := Lib.hid (show frK d1.fr y free d2.fr (j + 1) = frK d1.fr y free d2.fr j from by rw [frK, if_neg (by rw [hp]; decide)])
    have HS4 := Lib.hid (show cntIs y (j + 1) = cntIs y j from by rw [cntIs, if_neg (by rw [hp]; decide)]; rfl)
    rw [hp]
    have xq := (Ext.refl wr).alloc (.cells #[.bool false, .bool (y.pwr j), .int .i64 (y.pfr j)] 50)
    have bq := Box.new wr 50 #[.bool false, .bool (y.pwr j), .int .i64 (y.pfr j)]
    generalize wr.alloc (.cells #[.bool false, .bool (y.pwr j), .int .i64 (y.pfr j)] 50) = wq at *
    have q0 : wq.cell? ⟨wr.heap.size, 0, none⟩ = some (.bool false) := bq.cell 0
    clear hp
    go_wp2_with fail
    go_roundw
    case rel => exact ⟨j + 1, by omega, by go_num, ⟨A', by rw [HS4.out], by rw [HS4.out]; exact HA'.out⟩, xj.trans xq, by rw [HS3.out]; exact HOW.out.ext xq, by rw [← HS1.out]; exact b16.ext xq, b15.ext xq⟩
    case measure => simp [intOf]; omega
   ·have hc : cntIs y j < free.length := Nat.lt_of_lt_of_le (cntIs_lt hlt hp) HC16.out
    have HN1 := Lib.hid (show putR (prL (newPr y m2.next free F j)).toArray (20 + j * 3) [.bool true, .bool (y.pwr j), .int .i64 ((free.getD (cntIs y j) 0 : Nat) : Int)] = (prL (newPr y m2.next free F (j + 1))).toArray from by rw [putR_pte _ j hlt, newPr_next hp])
    have HN3 := Lib.hid (show frK d1.fr y free d2.fr (j + 1) = (frK d1.fr y free d2.fr j).set (free.getD (cntIs y j) 0) (d1.fr.getD pf []) from by rw [frK, if_pos hp, hpf, Int.toNat_natCast])
    have HN4 := Lib.hid (show cntIs y (j + 1) = cntIs y j + 1 from by rw [cntIs, if_pos hp])
    obtain ⟨hAF, hfc⟩ := HGB2.out (by omega)
    have hA2 := HA'.out hc
    subst hA2
    have kf := hfc _ hc
    have hff := HFA2.out _ hc
    obtain ⟨hz1, hz2⟩ := HZ8.out.fr.strs
    obtain ⟨bz, oz, hzA, hzc⟩ := hz2 (by omega)
    have kz : w8.cell? ⟨bz, oz + pf, none⟩ = some (.string (str (d1.fr.getD pf []))) := by
     rw [List.getD_eq_getElem?_getD, List.getElem?_eq_getElem (by omega)]; exact hzc pf (by omega)
    have hmn : mr.fr.n = m2.fr.n := by have h1 := HOW.out.frn; rw [frK_len] at h1; rw [h1, HFRN.out]
    obtain ⟨gfr, capf, hgfr, hgfb⟩ := own_form HOW.out.fr (show 0 < mr.fr.n by omega)
    injection hgfr with hgA _ hgc
    have hgl : gfr < g15 := by
     rcases Nat.lt_or_ge gfr g15 with h | h
     ·exact h
     ·exact absurd (show (Value.slice mr.fr.A mr.fr.n mr.fr.c).ownBlock = some gfr by rw [hgA]; rfl) (HLow.out gfr h).1
    have HGA := Lib.hid hgA
    have HZA := Lib.hid hzA
    clear hAF hfc hz1 hz2 hzc hgc
    rw [hp, hpf]
    generalize hsr : d1.fr.getD pf [] = sr at *
    generalize hfe : free.getD (cntIs y j) 0 = f at *
    generalize hce : cntIs y j = c at *
    generalize y.pwr j = iw at *
    clear hsr hp hpf hgA hzA
    have HFE := Lib.hid hfe
    have HCE := Lib.hid hce
    clear hfe hce
    have xq := (Ext.refl wr).alloc (.cells #[.bool true, .bool iw, .int .i64 (pf : Int)] 50)
    have bq := Box.new wr 50 #[.bool true, .bool iw, .int .i64 (pf : Int)]
    generalize wr.alloc (.cells #[.bool true, .bool iw, .int .i64 (pf : Int)] 50) = wq at *
    have q0 : wq.cell? ⟨wr.heap.size, 0, none⟩ = some (.bool true) := bq.cell 0
    have xjq := xj.trans xq
    have b15q := b15.ext xq
    have b16q := b16.ext xq
    have b9q : Box wq g9 38 z.cells := b9w.ext xjq
    have L4 : ∀ v : Later wq, v.now.cell? ⟨g15, 4, none⟩ = some (.slice (some ⟨gfr, 0, none⟩) mr.fr.n mr.fr.c) := fun v => by rw [← HGA.out]; exact (b15q.ext v.ext).cell 4
    have Lg : ∀ v : Later wq, v.now.cell? ⟨gb, c, none⟩ = some (.int .i64 (f : Int)) := fun v => (xjq.trans v.ext).keep kf
    have L9 : ∀ v : Later wq, v.now.cell? ⟨g9, 4, none⟩ = some (.slice (some ⟨bz, oz, none⟩) z.fr.n z.fr.c) := fun v => by rw [← HZA.out]; exact (b9q.ext v.ext).cell 4
    have L18 : ∀ v : Later wq, v.now.cell? ⟨wr.heap.size, 2, none⟩ = some (.int .i64 (pf : Int)) := fun v => (bq.ext v.ext).cell 2
    have Lz : ∀ v : Later wq, v.now.cell? ⟨bz, oz + pf, none⟩ = some (.string (str sr)) := fun v => (xjq.trans v.ext).keep kz
    have n1 : (pf : Int) < (z.fr.n : Int) := by omega
    have n2 : (0 : Int) < ((free.length - c : Nat) : Int) := by omega
    have n3 : (f : Int) < (mr.fr.n : Int) := by omega
    go_upto_region 21 with fail
    try simp only [Act.put]
    refine wp_region_later_tail 12 (by kernel_rfl) (by kernel_rfl) ?_
    simp only [List.take_succ_cons, List.take_zero, List.drop_succ_cons, List.drop_zero]
    repeat (go_big_quiet_step (fail))
    refine wpQuiet_nil ?_
    rintro wv' ⟨v, rfl⟩
    have HOWv := Lib.hid (HOW.out.ext (xq.trans v.ext))
    have owf := HOWv.out.fr
    rw [flat_stL, HGA.out] at owf
    have hfl := frK_len d1.fr y free d2.fr j
    have hfd : f < (frK d1.fr y free d2.fr j).length := by rw [hfl, ← HFRN.out]; omega
    have kc : v.now.cell? ⟨gfr, f, none⟩ = some (.string (str ((frK d1.fr y free d2.fr j).getD f []))) := (owf.cellAt f (by omega)).trans (by
     show (strL (frK d1.fr y free d2.fr j))[f]? = _
     simp [strL, hfd, List.getD_eq_getElem?_getD])
    have kfz := owf.frozenAt f
    have xv := Lib.hid (xjq.trans v.ext)
    have bqv := bq.ext v.ext
    have b15v := b15q.ext v.ext
    have b16v := b16q.ext v.ext
    have h18 : g16 < wr.heap.size := b16.lt
    clear owf hfl hfd L4 Lg L9 L18 Lz n1 n3 bq b15q b16q b9q xjq q0 b15 b16 HOW
    generalize v.now = wv at *
    go_upto_region 22 with fail
    have HOS := Lib.hid (HOWv.out.setFr (i := f) HGA.out sr)
    have dS := (But.refl gfr wv).setCell f (.string (str sr))
    have b15s := dS.box b15v (show g15 ≠ gfr by omega)
    have b16s := dS.box b16v (show g16 ≠ gfr by omega)
    have bqs := dS.box bqv (show wr.heap.size ≠ gfr by omega)
    have xs : Ext w8 (wv.setCell ⟨gfr, f, none⟩ (.string (str sr))) := xv.out.setCell hgfb _
    generalize wv.setCell ⟨gfr, f, none⟩ (.string (str sr)) = ws at *
    clear dS kc kfz xv bqv b15v b16v HOWv
    have Lg : ∀ v : Later ws, v.now.cell? ⟨gb, c, none⟩ = some (.int .i64 (f : Int)) := fun v => (xs.trans v.ext).keep kf
    have L18 : ∀ v : Later ws, v.now.cell? ⟨wr.heap.size, 1, none⟩ = some (.bool iw) := fun v => (bqs.ext v.ext).cell 1
    try simp only [Act.put]
    refine wp_region_later_tail 9 (by kernel_rfl) (by kernel_rfl) ?_
    simp only [List.take_succ_cons, List.take_zero, List.drop_succ_cons, List.drop_zero]
    repeat (go_big_quiet_step (fail))
    refine wpQuiet_nil ?_
    rintro wv' ⟨v, rfl⟩
    have b16y := b16s.ext v.ext
    have b15y := b15s.ext v.ext
    have HOY := Lib.hid (HOS.out.ext v.ext)
    have xy := Lib.hid (xs.trans v.ext)
    clear Lg L18 bqs b15s b16s HOS xs
    generalize v.now = wy at *
    go_upto_region 24 with (refine wp_st_range 50 (.tmp 103) (.tmp 101) rfl rfl g16 (20 + j * 3) [.bool true, .bool iw, .int .i64 (f : Int)] _ (prL (newPr y m2.next free F (j + 1))).toArray 57 rfl rfl (pte_one _ _ _) pteSize b16y (by show 20 + j * 3 + 3 ≤ 96; omega) HN1.out ?_; intro wn b16n dn)
    have b15n := dn.box b15y (show g15 ≠ g16 by omega)
    have HON := Lib.hid (HOY.out.but HLow.out (show g15 ≤ g16 by omega) dn)
    have xn := dn.past xy.out (show w8.heap.size ≤ g16 by omega)
    have hcF : free.length ≤ cF := hLc.1
    clear HOY xy dn b15y b16y
    go_wp2_with fail
    go_roundw
    case rel => exact ⟨j + 1, by omega, by go_num, ⟨_, by rw [HN4.out, Nat.sub_add_eq, Nat.sub_add_eq], fun h => by rw [HN4.out] at h ⊢; rw [if_neg (by omega)]⟩, xn, by rw [HN3.out]; exact HON.out, b16n, b15n⟩
    case measure => simp [intOf]; omega
  ·obtain rfl : j = 16 := by omega
   have q5 : wr.cell? ⟨g15, 5, none⟩ = some (.slice mr.pr.A mr.pr.n mr.pr.c) := b15.cell 5
   obtain ⟨q, hq⟩ : ∃ q, q = newPr y m2.next free F 16 := ⟨_, rfl⟩
   rw [← hq] at b16
   have HQ := Lib.hid hq
   clear hq
   have xA := (Ext.refl wr).alloc (.cells (prL q).toArray 57)
   have owA := own_ext HOW.out.pr xA
   have hszA : w8.heap.size ≤ (wr.alloc (.cells (prL q).toArray 57)).heap.size := (xj.trans xA).size
   have hpn : mr.pr.n ≤ 1000000000 := by have h1 : mr.pr.n = d2.pr.length := HOW.out.prn; have := H8.out; omega
   have b15A := b15.ext xA
   go_upto_region 26 with (first
    | (refine wp_ld_pr (.tmp 16) rfl rfl g16 0 q rfl (pr_range1 b16) ?_; simp only [Act.put, List.setIfInBounds_toArray, List.set_cons_zero, List.set_cons_succ])
    | (refine wp_build_proc (.tmp 109) rfl rfl q rfl ?_; simp only [Act.put, List.setIfInBounds_toArray, List.set_cons_zero, List.set_cons_succ])
    | (at_builtin; refine wp_app_one (u := .slice mr.pr.A mr.pr.n mr.pr.c) (prL q) Tryz.underlying32 prInfo (by decide) ?_ (prL_len q) (prL_one q) (by decide) ?_ (.tmp 108) (.tmp 110) ?_ ?_ ?_ owA (Box.new _ _ _) hpn hszA ?_; (· rfl); (· rfl); (· rfl); (· rfl); (· rfl); intro u9 w9 o9 k9; obtain ⟨s9, hu9, hn9, _⟩ := own_sl o9; subst hu9; have HN9 := Lib.hid hn9; clear hn9; have b15n := b15A.grown k9 (fun e => (HLow.out g15 (Nat.le_refl _)).2.1 e.symm))
    | (refine wp_st_cell 32 (.tmp 112) (.tmp 111) rfl rfl g15 5 (.slice s9.A s9.n s9.c) _ ({ mr with pr := s9 } : Mac).cells 38 rfl rfl rfl szPrs b15n (show 5 < 17 by decide) rfl ?_; intro wA bA dA))
   have b16A := dA.box ((b16.ext xA).grown k9 (fun e => (HLow.out g16 (by omega)).2.1 e.symm)) (show g16 ≠ g15 by omega)
   have xB := dA.past ((xj.trans xA).grown k9 (fun k e => own_low owA e)) hg15
   have HOA := Lib.hid (show MacOwn wA w8.heap.size ({ mr with pr := s9 } : Mac) { d2 with fr := frK d1.fr y free d2.fr 16, pr := d2.pr ++ [q] } from
    ⟨own_but (own_twoR (own_ext HOW.out.fr xA) owA (by decide) k9) dA b15n (by decide),
     by
      have h1 := own_but o9 dA b15n (by decide)
      rw [List.flatMap_append, show [q].flatMap prL = prL q by simp]
      show wA.ownsRow _ _ _ (.slice s9.A s9.n s9.c) s9.n _
      have hn := HN9.out
      rw [hn] at h1 ⊢
      exact h1,
     own_but (own_twoR (own_ext HOW.out.pi xA) owA (by decide) k9) dA b15n (by decide), own_but (own_twoR (own_ext HOW.out.bl xA) owA (by decide) k9) dA b15n (by decide), own_but (own_twoR (own_ext HOW.out.pe xA) owA (by decide) k9) dA b15n (by decide), own_but (own_twoR (own_ext HOW.out.di xA) owA (by decide) k9) dA b15n (by decide),
     HOW.out.frn, by show s9.n = (d2.pr ++ [q]).length; rw [HN9.out, List.length_append, show mr.pr.n = d2.pr.length from HOW.out.prn]; rfl, HOW.out.pin, HOW.out.bln, HOW.out.pen, HOW.out.din, HOW.out.apart⟩)
   clear b15 b16 b15A b15n owA hszA hpn o9 k9 dA xA xj q5 HOW
   have hmnx : mr.next = m2.next := by rw [HMR.out]; rfl
   have hnx := HS2.out.rest.nums.next
   have hwr : IntKind.i64.wrap (mr.next + 1) = mr.next + 1 := by rw [IntKind.wrap_i64]; omega
   have q6 : wA.cell? ⟨g15, 6, none⟩ = some (.int .i64 mr.next) := bA.cell 6
   have HNX := Lib.hid hmnx
   clear hmnx hnx
   go_upto_region 27 with (refine wp_st_cell 3 (.tmp 116) (.tmp 115) rfl rfl g15 6 (.int .i64 (mr.next + 1)) _ ({ mr with pr := s9, next := mr.next + 1 } : Mac).cells 38 rfl rfl rfl szInt bA (show 6 < 17 by decide) rfl ?_; intro wB bB dB)
   have b16B := dB.box b16A (show g16 ≠ g15 by omega)
   have xC := dB.past xB hg15
   have HOB := Lib.hid (show MacOwn wB w8.heap.size ({ mr with pr := s9, next := mr.next + 1 } : Mac) { d2 with fr := frK d1.fr y free d2.fr 16, pr := d2.pr ++ [q] } from
    ⟨own_but HOA.out.fr dB bA (by decide), own_but HOA.out.pr dB bA (by decide), own_but HOA.out.pi dB bA (by decide), own_but HOA.out.bl dB bA (by decide), own_but HOA.out.pe dB bA (by decide), own_but HOA.out.di dB bA (by decide), HOA.out.frn, HOA.out.prn, HOA.out.pin, HOA.out.bln, HOA.out.pen, HOA.out.din, HOA.out.apart⟩)
   have b6B := b6.ext xC
   clear bA b16A xB HOA dB q6 hwr
   have hm3 : SameSc { ({ mr with pr := s9, next := mr.next + 1 } : Mac) with next := m2.next } m2 := by rw [HMR.out]; exact ⟨rfl, rfl, rfl, rfl, rfl, rfl, rfl, rfl, rfl, rfl, rfl⟩
   have hm4 : ({ mr with pr := s9, next := mr.next + 1 } : Mac).next = m2.next + 1 := by show mr.next + 1 = _; rw [HNX.out]
   have HM3 := Lib.hid hm3
   have HM4 := Lib.hid hm4
   clear hm3 hm4
   generalize ({ mr with pr := s9, next := mr.next + 1 } : Mac) = m3 at *
   have xd : Ext wB wB.drew := (Ext.refl wB).drew
   have bBd := bB.ext xd
   have b6d := b6B.ext xd
   have b16d := b16B.ext xd
   have q0d : wB.drew.cell? ⟨g16, 0, none⟩ = some (.int .i64 q.pid) := b16d.cell 0
   have hGg : G + 1 + 1 < w8.heap.size := b6.lt
   have HOd := Lib.hid (HOB.out.ext xd)
   have xf := Lib.hid ((X8.out.trans xC).trans xd)
   clear xC bB b6B b16B HOB xd
   refine wp_region_any (by kernel_rfl) ?_
   change wpAny _ _ _ _ _ _ _ (World.drew _)
   refine wpAny_take (i := 1) (v := .pointer (some ⟨g16, 0, none⟩)) rfl (by kernel_rfl) (by kernel_rfl) (by kernel_rfl) (fun _ _ _ h => h) (Or.inl ⟨by rfl, ?_⟩) ?_
   ·intro w; go_simp
   refine wpAny_ready (rs := [0, 2]) (by kernel_rfl) (by simp) ?_
   refine AllReady.cons rfl (fun K hK => ?_) (AllReady.cons rfl (fun K hK => ?_) AllReady.nil)
   ·refine wp_load_row 38 (.tmp 15) rfl g15 rfl 38 m3.cells (0, 0) _ bBd Tryz.underlying38 rfl macSize (hK _ _ ?_)
    clear hK K
    refine wpAny_ready (rs := [2, 3]) (by kernel_rfl) (by simp) ?_
    refine AllReady.cons rfl (fun K hK => ?_) (AllReady.cons rfl (fun K hK => ?_) AllReady.nil)
    ·go_simp
     refine hK _ _ ?_
     clear hK K
     refine wpAny_ready (rs := [3]) (by kernel_rfl) (by simp) ?_
     refine AllReady.cons rfl (fun K hK => ?_) AllReady.nil
     refine wp_store_row 38 (.tmp 6) (.tmp 117) rfl (G + 1 + 1) m3.cells rfl rfl 38 _ b6d macSize rfl (macC_one m3) (hK _ _ ?_)
     clear hK K
     have bz : Box (wB.drew.setRow (G + 1 + 1) m3.cells) (G + 1 + 1) 38 m3.cells := setRow_box b6d
     have gz := setRow_grown wB.drew (G + 1 + 1) m3.cells
     have q0z : (wB.drew.setRow (G + 1 + 1) m3.cells).cell? ⟨g16, 0, none⟩ = some (.int .i64 q.pid) := (b16d.grown gz (fun e => by injection e with e; omega)).cell 0
     generalize wB.drew.setRow (G + 1 + 1) m3.cells = wz at *
     refine wpAny_ready (rs := [4]) (by kernel_rfl) (by simp) ?_
     refine AllReady.cons rfl (fun K hK => ?_) AllReady.nil
     go_simp
     refine hK _ _ ?_
     clear hK K
     refine wpAny_ready (rs := [5]) (by kernel_rfl) (by simp) ?_
     refine AllReady.cons rfl (fun K hK => ?_) AllReady.nil
     go_simp
     refine hK _ _ ?_
     clear hK K
     refine wpAny_done (by kernel_rfl) ?_ _
     go_wp2_with fail
     refine bodyPost_ret (results_cell3 rfl _ _ (G + 1 + 1) _ _ _ _ _ rfl rfl rfl bz Tryz.underlying38 rfl macSz) rfl ⟨?_, xf.out.grown gz (fun j e => by cases e; rw [← HG.out]; omega)⟩
     rw [HO.out]
     refine .inr ⟨y, HS2.out, HLV.out, H8.out, HFP.out, m3, by rw [HQ.out]; rfl, ?_, HM3.out, HM4.out⟩
     have hfin := (HOd.out.grown (by decide) b6d gz).base0
     rw [bringD, ← HFree.out, ← HFF.out, ← HQ.out]
     exact hfin
    ·refine wp_store_row 38 (.tmp 6) (.tmp 117) rfl (G + 1 + 1) m3.cells rfl rfl 38 _ b6d macSize rfl (macC_one m3) (hK _ _ ?_)
     clear hK K
     have bz : Box (wB.drew.setRow (G + 1 + 1) m3.cells) (G + 1 + 1) 38 m3.cells := setRow_box b6d
     have gz := setRow_grown wB.drew (G + 1 + 1) m3.cells
     have q0z : (wB.drew.setRow (G + 1 + 1) m3.cells).cell? ⟨g16, 0, none⟩ = some (.int .i64 q.pid) := (b16d.grown gz (fun e => by injection e with e; omega)).cell 0
     generalize wB.drew.setRow (G + 1 + 1) m3.cells = wz at *
     refine wpAny_ready (rs := [2]) (by kernel_rfl) (by simp) ?_
     refine AllReady.cons rfl (fun K hK => ?_) AllReady.nil
     go_simp
     refine hK _ _ ?_
     clear hK K
     refine wpAny_ready (rs := [4]) (by kernel_rfl) (by simp) ?_
     refine AllReady.cons rfl (fun K hK => ?_) AllReady.nil
     go_simp
     refine hK _ _ ?_
     clear hK K
     refine wpAny_ready (rs := [5]) (by kernel_rfl) (by simp) ?_
     refine AllReady.cons rfl (fun K hK => ?_) AllReady.nil
     go_simp
     refine hK _ _ ?_
     clear hK K
     refine wpAny_done (by kernel_rfl) ?_ _
     go_wp2_with fail
     refine bodyPost_ret (results_cell3 rfl _ _ (G + 1 + 1) _ _ _ _ _ rfl rfl rfl bz Tryz.underlying38 rfl macSz) rfl ⟨?_, xf.out.grown gz (fun j e => by cases e; rw [← HG.out]; omega)⟩
     rw [HO.out]
     refine .inr ⟨y, HS2.out, HLV.out, H8.out, HFP.out, m3, by rw [HQ.out]; rfl, ?_, HM3.out, HM4.out⟩
     have hfin := (HOd.out.grown (by decide) b6d gz).base0
     rw [bringD, ← HFree.out, ← HFF.out, ← HQ.out]
     exact hfin
   ·go_simp
    refine hK _ _ ?_
    clear hK K
    refine wpAny_ready (rs := [0]) (by kernel_rfl) (by simp) ?_
    refine AllReady.cons rfl (fun K hK => ?_) AllReady.nil
    refine wp_load_row 38 (.tmp 15) rfl g15 rfl 38 m3.cells (0, 0) _ bBd Tryz.underlying38 rfl macSize (hK _ _ ?_)
    clear hK K
    refine wpAny_ready (rs := [3]) (by kernel_rfl) (by simp) ?_
    refine AllReady.cons rfl (fun K hK => ?_) AllReady.nil
    refine wp_store_row 38 (.tmp 6) (.tmp 117) rfl (G + 1 + 1) m3.cells rfl rfl 38 _ b6d macSize rfl (macC_one m3) (hK _ _ ?_)
    clear hK K
    have bz : Box (wB.drew.setRow (G + 1 + 1) m3.cells) (G + 1 + 1) 38 m3.cells := setRow_box b6d
    have gz := setRow_grown wB.drew (G + 1 + 1) m3.cells
    have q0z : (wB.drew.setRow (G + 1 + 1) m3.cells).cell? ⟨g16, 0, none⟩ = some (.int .i64 q.pid) := (b16d.grown gz (fun e => by injection e with e; omega)).cell 0
    generalize wB.drew.setRow (G + 1 + 1) m3.cells = wz at *
    refine wpAny_ready (rs := [4]) (by kernel_rfl) (by simp) ?_
    refine AllReady.cons rfl (fun K hK => ?_) AllReady.nil
    go_simp
    refine hK _ _ ?_
    clear hK K
    refine wpAny_ready (rs := [5]) (by kernel_rfl) (by simp) ?_
    refine AllReady.cons rfl (fun K hK => ?_) AllReady.nil
    go_simp
    refine hK _ _ ?_
    clear hK K
    refine wpAny_done (by kernel_rfl) ?_ _
    go_wp2_with fail
    refine bodyPost_ret (results_cell3 rfl _ _ (G + 1 + 1) _ _ _ _ _ rfl rfl rfl bz Tryz.underlying38 rfl macSz) rfl ⟨?_, xf.out.grown gz (fun j e => by cases e; rw [← HG.out]; omega)⟩
    rw [HO.out]
    refine .inr ⟨y, HS2.out, HLV.out, H8.out, HFP.out, m3, by rw [HQ.out]; rfl, ?_, HM3.out, HM4.out⟩
    have hfin := (HOd.out.grown (by decide) b6d gz).base0
    rw [bringD, ← HFree.out, ← HFF.out, ← HQ.out]
    exact hfin
end Go.Proofs.YtfaplefkakpgcaaGreatDoor
/- hibernaclelaw56.alike: two processes with the same registers and pages. -/
namespace Go.Proofs.YtfaplefkakpgcaaGreatDoor
set_option linter.unusedVariables false
set_option linter.unusedSimpArgs false
open Go.RowKit
def cpuKs : List (Option IntKind) := List.replicate 17 (some .u32)
theorem cpuL_zip (p : PrT) : cpuL p = List.zipWith reto cpuKs (cpuL p) := by kernel_rfl
theorem cpuLeafy : LeafyK Tryz.prog 10 48 cpuKs = true := by kernel_rfl
theorem cpuKeyT : Tryz.prog.keyTypeAt 10 48 = true := by kernel_rfl
theorem cpu_self (p : PrT) (w : World) : (Op.equalIn 10000 48 (.agg (cpuL p).toArray) (.agg (cpuL p).toArray)).run Tryz.prog w = .ok true w := by
 have h := self_eq (P := Tryz.prog) w 10 48 cpuKs (cpuL p) 9990 cpuKeyT cpuLeafy rfl
 have e : valOf Tryz.prog 48 (List.zipWith reto cpuKs (cpuL p)) = .agg (cpuL p).toArray := by
  rw [← cpuL_zip]
  simp [valOf, Tryz.underlying48]
 rw [e] at h
 exact h
theorem run_neq_cpu (p : PrT) (w : World) : (binOp .neq 48 (.agg (cpuL p).toArray) (.agg (cpuL p).toArray)).run Tryz.prog w = .ok (.bool false) w := by
 rw [run_neq_struct, cpu_self]; rfl
structure AlikeP (f1 f2 : List (List UInt8)) (p q : PrT) : Prop where
 reg : ∀ i < 16, p.reg i = q.reg i
 pc : p.pc = q.pc
 mask : p.mask = q.mask
 is : ∀ k < 16, p.pis k = q.pis k
 wr : ∀ k < 16, p.pwr k = q.pwr k
 fr : ∀ k < 16, p.pis k = true → ∃ a b : Nat, p.pfr k = (a : Int) ∧ q.pfr k = (b : Int) ∧ a < f1.length ∧ b < f2.length ∧ f1.getD a [] = f2.getD b []
theorem pr_pte (p : PrT) {k : Nat} (hk : k < 16) : ∀ j v, (pteL p k)[j]? = some v → (prL p).toArray[20 + k * 3 + j]? = some v := fun j v hv => by
 have hj : j < 3 := by have := (List.getElem?_eq_some_iff.1 hv).1; exact this
 have h1 := flat_at (pteL p) 3 (List.range 16) (fun _ _ => rfl) k (by rw [List.length_range]; exact hk) j hj
 rw [List.getElem_range] at h1
 rw [Nat.add_assoc]
 exact pr_space p (k * 3 + j) v (by show ((List.range 16).flatMap (pteL p))[k * 3 + j]? = some v; rw [h1]; exact hv)
theorem two_new (w : World) (t : TypeId) (P Q : Array Value) : Box ((w.alloc (.cells P t)).alloc (.cells Q t)) w.heap.size t P ∧ Box ((w.alloc (.cells P t)).alloc (.cells Q t)) (w.heap.size + 1) t Q ∧ Ext w ((w.alloc (.cells P t)).alloc (.cells Q t)) := by
 have b := Box.new (w.alloc (.cells P t)) t Q
 rw [World.size_alloc] at b
 exact ⟨(Box.new w t P).ext ((Ext.refl _).alloc _), b, ((Ext.refl w).alloc _).alloc _⟩
set_option maxHeartbeats 8000000 in
set_option maxRecDepth 100000 in
theorem alike_any (m n : Mac) (d e : MacD) (p q : PrT) (w : World) (hm : MacIn w m d) (hn : MacIn w n e) (ha : AlikeP d.fr e.fr p q) :
  Calls Tryz.prog 21 #[.agg m.cells, .agg (prL p).toArray, .agg n.cells, .agg (prL q).toArray] w fun e w' => e = .returned (.bool true) ∧ Ext w w' := by
 have x0 := ((((Ext.refl w).alloc (.cells m.cells 38)).alloc (.cells (prL p).toArray 57)).alloc (.cells n.cells 38)).alloc (.cells (prL q).toArray 57)
 have b4 := (((Box.new w 38 m.cells).ext ((Ext.refl _).alloc (.cells (prL p).toArray 57))).ext ((Ext.refl _).alloc (.cells n.cells 38))).ext ((Ext.refl _).alloc (.cells (prL q).toArray 57))
 have b5 := ((Box.new (w.alloc (.cells m.cells 38)) 57 (prL p).toArray).ext ((Ext.refl _).alloc (.cells n.cells 38))).ext ((Ext.refl _).alloc (.cells (prL q).toArray 57))
 have b6 := (Box.new ((w.alloc (.cells m.cells 38)).alloc (.cells (prL p).toArray 57)) 38 n.cells).ext ((Ext.refl _).alloc (.cells (prL q).toArray 57))
 have b7 := Box.new (((w.alloc (.cells m.cells 38)).alloc (.cells (prL p).toArray 57)).alloc (.cells n.cells 38)) 57 (prL q).toArray
 rw [World.size_alloc] at b5
 rw [World.size_alloc, World.size_alloc] at b6
 rw [World.size_alloc, World.size_alloc, World.size_alloc] at b7
 have HM := Lib.hid (hm.ext x0)
 have HN := Lib.hid (hn.ext x0)
 have HA := Lib.hid ha
 have hce : cpuL q = cpuL p := by
  unfold cpuL
  rw [ha.pc]
  congr 1
  exact List.map_congr_left (fun i hi => by rw [ha.reg i (List.mem_range.1 hi)])
 have HCE := Lib.hid hce
 have hmk := ha.mask
 have hneq := run_neq_cpu p
 clear hm hn ha hce
 go_enter Tryz.func21, Tryz.ntmps21
 go_upto_region 1 with fail
 generalize (((w.alloc (.cells m.cells 38)).alloc (.cells (prL p).toArray 57)).alloc (.cells n.cells 38)).alloc (.cells (prL q).toArray 57) = w1 at *
 generalize w.heap.size = G at *
 have m5 : w1.cell? ⟨G + 1, 92, none⟩ = some (.bool p.mask) := (b5.cell 92).trans (prL_mask p)
 have m7 : w1.cell? ⟨G + 1 + 1 + 1, 92, none⟩ = some (.bool p.mask) := by rw [hmk]; exact (b7.cell 92).trans (prL_mask q)
 clear hmk
 go_upto_region 4 with (first
  | (refine wp_ld_cpu _ rfl rfl (G + 1) 57 p rfl b5 ?_)
  | (refine wp_ld_cpu _ rfl rfl (G + 1 + 1 + 1) 57 q rfl b7 ?_; rw [HCE.out]))
 clear m5 m7 hneq
 go_loopw [9] (fun i wx => ∃ k : Nat, k ≤ 16 ∧ i = .int .i64 k ∧ Ext w1 wx) (fun i _ => 16 - (intOf i).toNat)
 case atStart => exact ⟨0, by omega, rfl, Ext.refl _⟩
 case round =>
  obtain ⟨k, hk, rfl, xk⟩ := hrel
  by_cases hlt : k < 16
  ·have hki : (k : Int) < 16 := by omega
   have b5k := b5.ext xk
   have b7k := b7.ext xk
   go_upto_region 6 with fail
   have c0 : wr.cell? ⟨G + 1, 20 + k * 3, none⟩ = some (.bool (p.pis k)) := (b5k.cell _).trans (pr_pte p hlt 0 _ rfl)
   have c1 : wr.cell? ⟨G + 1, 20 + k * 3 + 1, none⟩ = some (.bool (p.pwr k)) := (b5k.cell _).trans (pr_pte p hlt 1 _ rfl)
   have c2 : wr.cell? ⟨G + 1, 20 + k * 3 + 2, none⟩ = some (.int .i64 (p.pfr k)) := (b5k.cell _).trans (pr_pte p hlt 2 _ rfl)
   have d0 : wr.cell? ⟨G + 1 + 1 + 1, 20 + k * 3, none⟩ = some (.bool (q.pis k)) := (b7k.cell _).trans (pr_pte q hlt 0 _ rfl)
   have d1 : wr.cell? ⟨G + 1 + 1 + 1, 20 + k * 3 + 1, none⟩ = some (.bool (q.pwr k)) := (b7k.cell _).trans (pr_pte q hlt 1 _ rfl)
   have d2 : wr.cell? ⟨G + 1 + 1 + 1, 20 + k * 3 + 2, none⟩ = some (.int .i64 (q.pfr k)) := (b7k.cell _).trans (pr_pte q hlt 2 _ rfl)
   go_cut [10, 11] from 24 to 66 (fun s t wx => ∃ ga gb, s = .pointer (some ⟨ga, 0, none⟩) ∧ t = .pointer (some ⟨gb, 0, none⟩) ∧ Box wx ga 50 #[.bool (p.pis k), .bool (p.pwr k), .int .i64 (p.pfr k)] ∧ Box wx gb 50 #[.bool (q.pis k), .bool (q.pwr k), .int .i64 (q.pfr k)] ∧ Ext wr wx)
   case first =>
    have l1 : G + 1 < wr.heap.size := b5k.lt
    have l2 : G + 1 + 1 + 1 < wr.heap.size := b7k.lt
    have l3 : ¬ (G + 1 = wr.heap.size) := by omega
    have l4 : ¬ (G + 1 + 1 + 1 = wr.heap.size) := by omega
    have l5 : ¬ (G + 1 = wr.heap.size + 1) := by omega
    have l6 : ¬ (G + 1 + 1 + 1 = wr.heap.size + 1) := by omega
    have c0a := fun o => ((Ext.refl wr).alloc o).keep c0
    have c0b := fun o o' => (((Ext.refl wr).alloc o).alloc o').keep c0
    have c1a := fun o => ((Ext.refl wr).alloc o).keep c1
    have c1b := fun o o' => (((Ext.refl wr).alloc o).alloc o').keep c1
    have c2a := fun o => ((Ext.refl wr).alloc o).keep c2
    have c2b := fun o o' => (((Ext.refl wr).alloc o).alloc o').keep c2
    have d0a := fun o => ((Ext.refl wr).alloc o).keep d0
    have d0b := fun o o' => (((Ext.refl wr).alloc o).alloc o').keep d0
    have d1a := fun o => ((Ext.refl wr).alloc o).keep d1
    have d1b := fun o o' => (((Ext.refl wr).alloc o).alloc o').keep d1
    have d2a := fun o => ((Ext.refl wr).alloc o).keep d2
    have d2b := fun o o' => (((Ext.refl wr).alloc o).alloc o').keep d2
    clear b5k b7k b4 b5 b6 b7 HA HCE HM HN x0 xk
    go_region
    all_goals
     go_wp2_with fail
     go_meet
     first
      | exact ⟨_, _, rfl, rfl, (two_new wr _ _ _).1, (two_new wr _ _ _).2.1, (two_new wr _ _ _).2.2⟩
      | exact ⟨_, _, rfl, rfl, (two_new wr _ _ _).2.1, (two_new wr _ _ _).1, (two_new wr _ _ _).2.2⟩
      | exact ⟨_, _, rfl, rfl, (two_new wr _ _ _).1, (two_new wr _ _ _).2.1, (two_new wr _ _ _).2.2.drew⟩
      | exact ⟨_, _, rfl, rfl, (two_new wr _ _ _).2.1, (two_new wr _ _ _).1, (two_new wr _ _ _).2.2.drew⟩
   case rest =>
   obtain ⟨ga, gb, rfl, rfl, ba, bb, xc⟩ := hcut
   have his := HA.out.is k hlt
   have hwr := HA.out.wr k hlt
   have hfr := HA.out.fr k hlt
   rw [← his, ← hwr] at bb
   have xk2 := xk.trans xc
   have HM2 := Lib.hid (HM.out.ext xk2)
   have HN2 := Lib.hid (HN.out.ext xk2)
   have b4c := b4.ext xk2
   have b6c := b6.ext xk2
   clear his hwr b5k b7k xc xk
   have a0 : wc.cell? ⟨ga, 0, none⟩ = some (.bool (p.pis k)) := ba.cell 0
   have a1 : wc.cell? ⟨ga, 1, none⟩ = some (.bool (p.pwr k)) := ba.cell 1
   have a2 : wc.cell? ⟨ga, 2, none⟩ = some (.int .i64 (p.pfr k)) := ba.cell 2
   have e0 : wc.cell? ⟨gb, 0, none⟩ = some (.bool (p.pis k)) := bb.cell 0
   have e1 : wc.cell? ⟨gb, 1, none⟩ = some (.bool (p.pwr k)) := bb.cell 1
   have e2 : wc.cell? ⟨gb, 2, none⟩ = some (.int .i64 (q.pfr k)) := bb.cell 2
   clear ba bb c0 c1 c2 d0 d1 d2
   generalize p.pis k = b0 at *
   generalize p.pwr k = b1 at *
   cases b0
   ·clear hfr
    cases b1
    all_goals
     go_upto_region 7 with fail
     go_quiet (fail)
     go_wp2_with fail
     go_roundw
     case rel => exact ⟨k + 1, by omega, by go_num, xk2.drewN _⟩
     case measure => simp [intOf]; omega
   ·obtain ⟨a, b, ha, hb, hla, hlb, hab⟩ := hfr rfl
    rw [ha] at a2
    rw [hb] at e2
    obtain ⟨hm1, hm2⟩ := HM2.out.fr.strs
    obtain ⟨hn1, hn2⟩ := HN2.out.fr.strs
    obtain ⟨bm, om, hmA, hmc⟩ := hm2 (by omega)
    obtain ⟨bn, on, hnA, hnc⟩ := hn2 (by omega)
    have f4 : wc.cell? ⟨G, 4, none⟩ = some (.slice (some ⟨bm, om, none⟩) m.fr.n m.fr.c) := by rw [← hmA]; exact b4c.cell 4
    have f6 : wc.cell? ⟨G + 1 + 1, 4, none⟩ = some (.slice (some ⟨bn, on, none⟩) n.fr.n n.fr.c) := by rw [← hnA]; exact b6c.cell 4
    have s1 : wc.cell? ⟨bm, om + a, none⟩ = some (.string (str (d.fr.getD a []))) := by
     rw [List.getD_eq_getElem?_getD, List.getElem?_eq_getElem hla]; exact hmc a hla
    have s2 : wc.cell? ⟨bn, on + b, none⟩ = some (.string (str (d.fr.getD a []))) := by
     rw [hab, List.getD_eq_getElem?_getD, List.getElem?_eq_getElem hlb]; exact hnc b hlb
    have l1 : (a : Int) < (m.fr.n : Int) := by omega
    have l2 : (b : Int) < (n.fr.n : Int) := by omega
    clear hm1 hm2 hn1 hn2 hmA hnA hmc hnc hla hlb hab hfr ha hb b4c b6c
    generalize d.fr.getD a [] = s at *
    have hq : ((str s).toList == (str s).toList) = true := by simp
    cases b1
    all_goals
     go_upto_region 7 with fail
     go_quiet (fail)
     go_wp2_with fail
     go_roundw
     case rel => exact ⟨k + 1, by omega, by go_num, xk2.drewN _⟩
     case measure => simp [intOf]; omega
  ·obtain rfl : k = 16 := by omega
   go_wp2_with fail
   go_ret
   exact ⟨rfl, x0.trans xk⟩
end Go.Proofs.YtfaplefkakpgcaaGreatDoor
/- Plain: what a process that is brought has of the one that it was. -/
namespace Go.Proofs.YtfaplefkakpgcaaGreatDoor
set_option linter.unusedVariables false
set_option linter.unusedSimpArgs false
theorem fileX_range {v : List (List UInt8)} {I : Option Int} {p : List UInt8} (hg : GoodX v I) (h : (fileX v I p).2 = 0) : 1 ≤ (fileX v I p).1 ∧ (fileX v I p).1 ≤ 64 := by
 unfold fileX at h ⊢
 split at h
 ·rename_i c; exact absurd h c
 ·rename_i c
  rw [if_neg c]
  split at h
  ·rename_i c2
   rw [if_pos c2]
   show 1 ≤ (findX v I p).1 ∧ (findX v I p).1 ≤ 64
   have h2 := c2.1
   unfold igX at h2
   cases I with
   | none =>
    have h3 : (3 : Int) = 0 := h2
    omega
   | some J =>
    simp only at h2
    split at h2
    ·rename_i hr
     have := plan_bd (show Good v J from hg).plan
     omega
    ·have h3 : (2 : Int) = 0 := h2
     omega
  ·have h3 : (11 : Int) = 0 := h
   omega
theorem openF_new {d : MacD} {v1 v2 : List (List UInt8)} {I1 I2 : Option Int} (hg : GoodX v2 I2) {k n p : Int} (h : FdP d.pi k n p) : FdNew (openF (pathAt v1 I1) (fileX v2 I2) k n p) := by
 unfold openF
 split
 ·rename_i c
  rcases h with ⟨_, h1, h2⟩ | ⟨h0, _⟩ | ⟨h0, _⟩
  ·exact .inr (.inl ⟨c, h1, h2⟩)
  ·omega
  ·omega
 ·rename_i c
  split
  ·rename_i c2
   have h3 := fileX_range hg c2.2.2
   rcases h with ⟨h0, _⟩ | ⟨_, _, _, h1, h2⟩ | ⟨h0, _⟩
   ·omega
   ·exact .inr (.inr ⟨rfl, h3.1, h3.2, h1, h2⟩)
   ·omega
  ·exact .inl ⟨rfl, rfl, rfl⟩
theorem fdsOf_new {m1 : Mac} {d1 d2 : MacD} {I1 I2 : Option Int} {y : PrT} (h : ProcOk m1 d1 y) (hg : GoodX (viewP d2.bl d2.pe d2.di) I2) : ∀ i < 8, FdNew (fdsOf d1 d2 I1 I2 y i) := fun i hi => openF_new hg (h.fd i hi).1
theorem bring_alike {m1 m2 : Mac} {d1 d2 : MacD} (h1 : StateOk m1 d1) (hf1 : m1.fr.n = d1.fr.length) (hf2 : m2.fr.n = d2.fr.length) {y : PrT} (hy : y ∈ d1.pr) (hc : cntIs y 16 ≤ (freeP m2.fr.n d2.pr).length) (fds : Nat → Int × Int × Int) :
  AlikeP d1.fr (bringD d1.fr y m2.next m2.fr.n d2 fds).fr y (newPr y m2.next (freeP m2.fr.n d2.pr) fds 16) := by
 have hp := h1.proc hy
 refine ⟨fun _ _ => rfl, rfl, rfl, fun k hk => ?_, fun k hk => ?_, fun k hk hpi => ?_⟩
 ·show y.pis k = (decide (k < 16) && y.pis k)
  rw [decide_eq_true hk]; rfl
 ·show y.pwr k = (decide (k < 16) && (y.pis k && y.pwr k))
  rw [decide_eq_true hk]
  rcases hp.page k hk with ⟨h, h2, _⟩ | ⟨h, _⟩
  ·rw [h2]; cases y.pis k <;> rfl
  ·rw [h]; rfl
 ·have hcl := Nat.lt_of_lt_of_le (cntIs_lt hk hpi) hc
  have hfa := freeP_at (n := m2.fr.n) (l := d2.pr) hcl
  rcases hp.page k hk with ⟨h, _⟩ | ⟨_, _, h3, h4, _⟩
  ·rw [hpi] at h; cases h
  ·refine ⟨(y.pfr k).toNat, (freeP m2.fr.n d2.pr).getD (cntIs y k) 0, by omega, ?_, by omega, ?_, ?_⟩
   ·show (if k < 16 ∧ y.pis k = true then (((freeP m2.fr.n d2.pr).getD (cntIs y k) 0 : Nat) : Int) else 0) = _
    rw [if_pos ⟨hk, hpi⟩]
   ·show _ < (frK d1.fr y (freeP m2.fr.n d2.pr) d2.fr 16).length
    rw [frK_len, ← hf2]; exact hfa.1
   ·show _ = (frK d1.fr y (freeP m2.fr.n d2.pr) d2.fr 16).getD _ []
    exact (frK_at (freeP_nodup _ _) hc (fun f hf => by rw [← hf2]; exact (freeP_mem.1 hf).1) hpi 16 hk (Nat.le_refl _)).symm
theorem AlikeP.trans {f1 f2 f3 : List (List UInt8)} {p q r : PrT} (h : AlikeP f1 f2 p q) (k : AlikeP f2 f3 q r) : AlikeP f1 f3 p r :=
 ⟨fun i hi => (h.reg i hi).trans (k.reg i hi), h.pc.trans k.pc, h.mask.trans k.mask, fun i hi => (h.is i hi).trans (k.is i hi), fun i hi => (h.wr i hi).trans (k.wr i hi), fun i hi hp => by
  obtain ⟨a, b, h1, h2, h3, h4, h5⟩ := h.fr i hi hp
  obtain ⟨b', c, k1, k2, k3, k4, k5⟩ := k.fr i hi ((h.is i hi).symm.trans hp)
  have e : b = b' := by omega
  subst e
  exact ⟨a, c, h1, k2, h3, k4, h5.trans k5⟩⟩
end Go.Proofs.YtfaplefkakpgcaaGreatDoor
/- single.Proc of the image of a machine that may be. -/
namespace Go.Proofs.YtfaplefkakpgcaaGreatDoor
set_option linter.unusedVariables false
set_option linter.unusedSimpArgs false
open Go.RowKit
theorem viewP_le (B : List (List UInt8)) (p l : List WrT) : (viewP B p l).length ≤ B.length := by
 unfold viewP
 rw [foldl_lay_len]
 unfold homeP
 split
 ·exact Nat.zero_le _
 ·rw [foldl_put_len, List.length_drop]; omega
theorem proc_img (m a : Mac) (d e : MacD) (fr bl : Sl) (pid : Int) (I1 I2 : Option Int) (w : World) (hst : StateOk m d) (hR : RestFit m d) (hfn : m.fr.n = d.fr.length) (hrn : m.pr.n = d.pr.length) (hpn : m.pi.n = d.pi.length) (hik : m.init.length ≤ maxLen) (hnk : m.inn.length ≤ maxLen) (hlk : (Lit.int .i64 m.dleft).wf = true) (hD : Dec10 w)
  (hF : RowOf stL w fr.A fr.n d.fr) (hfk : fr.ok) (hfs : fr.n ≤ 100000) (hB : RowOf stL w bl.A bl.n d.bl) (hbk : bl.ok) (hbs : bl.n ≤ 100000)
  (ha : MacIn w a e) (hsa : MacSmall a) (hpi : a.pi.n ≤ 4000) (hg1 : GoodX (viewP d.bl d.pe d.di) I1) (hg2 : GoodX (viewP e.bl e.pe e.di) I2) :
  Calls Tryz.prog 14 #[.agg #[.slice fr.A fr.n fr.c, .slice bl.A bl.n bl.c, .string (str (restT m d))], .int .i64 pid, .agg a.cells] w fun en w' => ProcOut a d e I1 I2 pid w' en ∧ Ext w w' := by
 refine proc_any fr.A bl.A fr.n fr.c bl.n bl.c (str (restT m d)) pid a d e I1 I2 w (fun w' x => ?_) ha hsa hpi hg1 hg2 ?_ ?_
 ·refine (imach_yes fr bl m d w' (hF.ext x) hfk hfs (hB.ext x) hbk hbs hR hst hfn hrn hpn hik hnk hlk (hD.ext x)).mono ?_
  rintro en w'' ⟨z, h1, h2, h3, h4⟩
  exact ⟨z, h1, h2, h4, stateOk_same hst h3 (h4.fr.1.trans hfn.symm) (h4.pr.1.trans hrn.symm) (h4.pi.1.trans hpn.symm)⟩
 ·have h1 := viewP_le d.bl d.pe d.di
  have h2 := hB.1
  omega
 ·have h1 := viewP_le e.bl e.pe e.di
  have h2 := ha.bl.1
  have h3 := hsa.bl
  omega
theorem out_next {m a z : Mac} {d e : MacD} {I1 I2 : Option Int} {y : PrT} {pid : Int} {w : World} (hst : StateOk m d) (hfit : MacFit m d) (hfn : m.fr.n = d.fr.length) (ha : StateOk a e) (hfa : MacFit a e) (han : a.fr.n = e.fr.length) (hnx : a.next ≤ 900000000) (hl : livingP d.pr pid = some y) (h8 : e.pr.length < 8) (hc : cntIs y 16 ≤ (freeP a.fr.n e.pr).length)
  (hg2 : GoodX (viewP e.bl e.pe e.di) I2) (ho : MacOwn w 0 z (bringD d.fr y a.next a.fr.n e (fdsOf d e I1 I2 y))) (hs : SameSc { z with next := a.next } a) (hn : z.next = a.next + 1) (hpn : a.pi.n = e.pi.length) :
  StateOk z (bringD d.fr y a.next a.fr.n e (fdsOf d e I1 I2 y)) ∧ MacFit z (bringD d.fr y a.next a.fr.n e (fdsOf d e I1 I2 y)) := by
 have hy := (livingP_some hl).1
 have h1 := ho.frn
 have h2 := ho.prn
 have h3 := ho.pin
 simp only [bringD, frK_len, List.length_append, List.length_singleton] at h1 h2 h3
 exact ⟨bring_ok hst ha hfn hy hnx han h8 hc (fdsOf_new (hst.proc hy) hg2) hs.quantum hs.left hs.cur hn hs.newPipe (h1.trans han.symm) h2 (h3.trans hpn.symm) hs.inn hs.init,
  bring_fit hfit hfa hy _ _ hs.clock hs.told hs.dleft hs.cur⟩
end Go.Proofs.YtfaplefkakpgcaaGreatDoor
/- layer 56: the document's example; a machine that is not too large. -/
namespace Go.Proofs.YtfaplefkakpgcaaGreatDoor
set_option linter.unusedVariables false
set_option linter.unusedSimpArgs false
open Go.RowKit
theorem results_cellP {fn : Func} {p s r : Tmp} {ty : TypeId} (h : fn.results = #[.cell p ty, .tmp s, .tmp r]) (tmps : Array Value) (w : World) (g : Nat) (t : TypeId) (cs : Array Value) (d : TypeDesc) (v u : Value)
  (hp : tmps.getD p undef = .pointer (some ⟨g, 0, none⟩)) (hs : tmps.getD s undef = v) (hr : tmps.getD r undef = u) (hg : Box w g t cs)
  (hu : Tryz.prog.underlying ty = some d) (hd : isAggD d = true) (hi : (Tryz.prog.info? ty).map (·.size) = some cs.size) :
  (results fn tmps).run Tryz.prog w = .ok (.tuple #[.agg cs, v, u]) w := by
 have hp' : tmps[p]?.getD undef = .pointer (some ⟨g, 0, none⟩) := by simpa using hp
 have hs' : tmps[s]?.getD undef = v := by simpa using hs
 have hr' : tmps[r]?.getD undef = u := by simpa using hr
 simp [results, h, hp', hs', hr', asAddr, run_loadVar_row w g t ty cs (0, 0) d hg hu (by cases d <;> first | rfl | cases hd) hi]
set_option maxHeartbeats 4000000 in
set_option maxRecDepth 100000 in
theorem sproc_none (w : World) : Calls Tryz.prog 14 #[.agg #[.slice none 0 0, .slice none 0 0, .string ⟨#[]⟩], .int .i64 1, .agg mac0.cells] w fun e w' => e = .returned (.tuple #[.agg mac0.cells, .int .i64 0, .int .i64 3]) ∧ Ext w w' := by
 have HM := Lib.hid imach_none
 have x0 := (((Ext.refl w).alloc (.cells #[.slice none 0 0, .slice none 0 0, .string ⟨#[]⟩] 24)).alloc (.cells mac0.cells 38)).alloc (.cells mac0.cells 38)
 have br := Box.new ((w.alloc (.cells #[.slice none 0 0, .slice none 0 0, .string ⟨#[]⟩] 24)).alloc (.cells mac0.cells 38)) 38 mac0.cells
 have bx := ((Box.new w 24 #[.slice none 0 0, .slice none 0 0, .string ⟨#[]⟩]).ext ((Ext.refl _).alloc (.cells mac0.cells 38))).ext ((Ext.refl _).alloc (.cells mac0.cells 38))
 rw [World.size_alloc, World.size_alloc] at br
 go_enter Tryz.func14, Tryz.ntmps14
 go_upto_region 1 with fail
 change Code.wp _ _ _ _ (((w.alloc (.cells #[.slice none 0 0, .slice none 0 0, .string ⟨#[]⟩] 24)).alloc (.cells mac0.cells 38)).alloc (.cells mac0.cells 38))
 generalize ((w.alloc (.cells #[.slice none 0 0, .slice none 0 0, .string ⟨#[]⟩] 24)).alloc (.cells mac0.cells 38)).alloc (.cells mac0.cells 38) = w0 at x0 br bx ⊢
 obtain ⟨G, hG⟩ : ∃ G, G = w.heap.size := ⟨_, rfl⟩
 rw [← hG] at br bx ⊢
 have HG := Lib.hid hG
 clear hG
 go_upto_region 2 with (first
  | (refine wp_ld _ _ rfl rfl G #[.slice none 0 0, .slice none 0 0, .string ⟨#[]⟩] _ _ rfl bx Tryz.underlying24 rfl imgSz ?_)
  | (go_at_call 27; refine (HM.out _).mono ?_; rintro e w1 ⟨rfl, x1⟩)
  | (refine wp_st_mac _ _ rfl rfl w1.heap.size mac0 _ _ rfl rfl (Box.new _ _ _) rfl ?_; intro w2 b2 g2))
 have y2 : Ext w1 w2 := ((Ext.refl w1).alloc _).grown g2 (fun j e => by cases e; exact Nat.le_refl _)
 have br2 := br.ext (x1.trans y2)
 go_wp2_with (refine wp_st_mac _ _ rfl rfl (G + 1 + 1) mac0 _ _ rfl rfl br2 rfl ?_; intro w9 b9 g9)
 exact bodyPost_ret (results_cellP rfl _ _ (G + 1 + 1) _ _ _ _ _ rfl rfl rfl b9 Tryz.underlying38 rfl macSz) rfl ⟨rfl, (x0.trans (x1.trans y2)).grown g9 (fun j e => by cases e; rw [← HG.out]; omega)⟩
set_option maxHeartbeats 4000000 in
set_option maxRecDepth 100000 in
theorem sawake_any (w : World) : Calls Tryz.prog 10 #[] w fun e w' => e = .returned (.bool true) ∧ Ext w w' := by
 have HM := Lib.hid imach_none
 have HF := Lib.hid (fun w => sfile_none [47, 97] w)
 have HP := Lib.hid sproc_none
 go_enter Tryz.func10, Tryz.ntmps10
 go_wp2_with (first
  | (go_at_call 11; refine (HF.out _).mono ?_; rintro e w1 ⟨rfl, x1⟩)
  | (go_at_call 14; refine (HP.out _).mono ?_; rintro e w2 ⟨rfl, x2⟩)
  | (go_at_call 27; refine (HM.out _).mono ?_; rintro e w5 ⟨rfl, x5⟩)
  | (refine wp_st_mac (.tmp 3) (.tmp 17) rfl rfl w2.heap.size mac0 _ _ rfl rfl (Box.new _ _ _) rfl ?_; intro w3 b3 g3)
  | (refine wp_st_mac (.tmp 6) (.tmp 23) rfl rfl w5.heap.size mac0 _ _ rfl rfl (Box.new _ _ _) rfl ?_; intro w6 b6 g6; have x3 : Ext w2 w3 := ((Ext.refl w2).alloc _).grown g3 (fun j e => by cases e; exact Nat.le_refl _); have x6 : Ext w5 w6 := ((Ext.refl w5).alloc _).grown g6 (fun j e => by cases e; exact Nat.le_refl _); have q0 : w6.cell? ⟨w2.heap.size, 4, none⟩ = some (.slice none 0 0) := ((b3.ext x5).ext x6).cell 4))
 go_ret
 exact ⟨rfl, (((x1.trans x2).trans x3).trans x5).trans x6⟩
end Go.Proofs.YtfaplefkakpgcaaGreatDoor
