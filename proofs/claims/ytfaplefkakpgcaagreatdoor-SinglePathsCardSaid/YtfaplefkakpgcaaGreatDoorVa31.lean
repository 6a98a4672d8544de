/- The walk of dir.search. -/
import Derived.Test.YtfaplefkakpgcaaGreatDoorVa30
import Derived.Test.YtfaplefkakpgcaaGreatDoorVa28
import Derived.Test.YtfaplefkakpgcaaGreatDoorVa27
import Derived.Test.YtfaplefkakpgcaaGreatDoorVa12
import Derived.Test.YtfaplefkakpgcaaGreatDoorVa13
import Derived.Test.YtfaplefkakpgcaaGreatDoorVa5
import Derived.Test.YtfaplefkakpgcaaGreatDoorVa29
namespace Go.Proofs.YtfaplefkakpgcaaGreatDoor
set_option linter.unusedVariables false
set_option linter.unusedSimpArgs false
open Go.RowKit Go.Lib Go.Sort Go.Shelf
theorem countP_lt (n m : Nat) (h : m ≤ n) : (List.range n).countP (fun i => decide (i < m)) = m := by
  induction n generalizing m with
  | zero => simp; omega
  | succ n ih =>
    rw [List.range_succ, List.countP_append]
    by_cases e : m = n + 1
    · subst e
      rw [List.countP_eq_length.2 (fun a ha => by rw [List.mem_range] at ha; simp; omega)]
      simp
    · rw [ih m (by omega)]; simp; omega
theorem posE_count {l : List Ent} (hl : l.Pairwise fun a b => ltB a.1 b.1 = true) (name : List UInt8) : (List.range l.length).countP (fun i => !(!ltB (l.getD i ([], 0)).1 name)) = posE l name := by
  rw [← countP_lt l.length (posE l name) (posE_le l name)]
  refine List.countP_congr fun i hi => ?_
  rw [List.mem_range] at hi
  rw [List.getD_eq_getElem?_getD, List.getElem?_eq_getElem hi]
  simp only [Option.getD_some, Bool.not_not, decide_eq_true_eq]
  by_cases h : i < posE l name
  · exact ⟨fun _ => h, fun _ => posE_lt h hi⟩
  · refine ⟨fun h2 => ?_, fun h2 => absurd h2 h⟩
    rw [posE_ge hl (by omega) hi] at h2; cases h2
set_option maxHeartbeats 2000000 in
theorem dclosure_any (ba bx b o c n : Nat) (y name : List UInt8) (i : Nat) (W : World) (hi : i < n)
    (ha : W.cell? ⟨ba, 0, none⟩ = some (.slice (some ⟨b, o, none⟩) n c)) (hx : W.cell? ⟨bx, 0, none⟩ = some (.string (str name))) (hc : W.cell? ⟨b, o + i * 2, none⟩ = some (.string (str y))) :
    Calls Tryz.prog 180 (#[.int .i64 i] ++ #[.pointer (some ⟨ba, 0, none⟩), .pointer (some ⟨bx, 0, none⟩)]) W fun e w' => e = .returned (.bool (!ltB y name)) ∧ ∃ q, w' = W.drewN q := by
  have hiz : (i : Int) < (n : Int) := by omega
  have hl : Op.bytesLess (str y).toList (str name).toList = ltB y name := by rw [str_toList, str_toList]
  generalize ltB y name = r at *
  go_enter Tryz.func180, Tryz.ntmps180
  go_wp2
  go_region
  all_goals go_wp2
  all_goals go_ret
  all_goals exact ⟨by first | rfl | simp, 1, rfl⟩
theorem grow_ext (w : World) (q : Nat) (os : Array Obj) : Ext w (grow (w.drewN q) os) := below_grown_sl w.heap.size w q os (Nat.le_refl _)
set_option maxHeartbeats 2000000 in
set_option maxRecDepth 100000 in
theorem dsearch_any (A : Option Addr) (n c : Nat) (l : List Ent) (name : List UInt8) (w : World) (hs : Ents w A n l) (hn : n ≤ 1000) (hl : l.Pairwise fun a b => ltB a.1 b.1 = true) (hA : ∀ b o, A = some ⟨b, o, none⟩ → 0 < n → b < w.heap.size) :
    Calls Tryz.prog 114 #[.slice A n c, .string (str name)] w fun e w' => e = .returned (.tuple #[.int .i64 (posE l name : Int), .bool (hasE l name)]) ∧ Ext w w' := by
  obtain ⟨W0, hW0⟩ : ∃ W0, W0 = (w.alloc (.cells #[.slice A n c] 150)).alloc (.cells #[.string (str name)] 9) := ⟨_, rfl⟩
  have x0 : Ext w W0 := by rw [hW0]; exact ((Ext.refl w).alloc _).alloc _
  have hsize : W0.heap.size = w.heap.size + 1 + 1 := by rw [hW0]; simp
  have ca : W0.cell? ⟨w.heap.size, 0, none⟩ = some (.slice A n c) := by rw [hW0]; exact cell_alloc_sl _ (cell_new_sl w _ _)
  have cx : W0.cell? ⟨w.heap.size + 1, 0, none⟩ = some (.string (str name)) := by rw [hW0]; have := cell_new_sl (w.alloc (.cells #[.slice A n c] 150)) (.string (str name)) 9; rwa [World.size_alloc] at this
  have eg : ∀ args w, (callFunc 180 args).run Tryz.prog w = .ok (.enter 180 args) w := enters_of Tryz.func180 (by kernel_rfl) rfl
  have h0 := hs.ext x0
  obtain rfl := hs.1
  have hS := Any.sort_Search Tryz.search 180 #[.pointer (some ⟨w.heap.size, 0, none⟩), .pointer (some ⟨w.heap.size + 1, 0, none⟩)] l.length (fun i => !ltB (l.getD i ([], 0)).1 name) W0 eg (by omega)
    (fun m os i hi => by
      obtain ⟨b, o, rfl, hcell⟩ := h0.2 (by omega)
      have hb := hA b o rfl (by omega)
      have hcc := (hcell i hi).1
      have hgd : l.getD i ([], 0) = l[i] := by rw [List.getD_eq_getElem?_getD, List.getElem?_eq_getElem hi]; rfl
      simp only [hgd]
      exact (dclosure_any w.heap.size (w.heap.size + 1) b o c l.length l[i].1 name i _ hi (cell_grown (by simp [hsize]; omega) ca m os) (cell_grown (by simp [hsize]) cx m os) (cell_grown (by simp [hsize]; omega) hcc m os)).mono
        fun _ _ ⟨he, q, hq⟩ => ⟨he, q, #[], by rw [hq, grow_empty]⟩)
    (fun a b hab hb h => by
      have ha : a < l.length := by omega
      simp only [List.getD_eq_getElem?_getD, List.getElem?_eq_getElem ha, List.getElem?_eq_getElem hb, Option.getD_some] at h ⊢
      rw [Bool.not_eq_true'] at h ⊢
      by_cases e : posE l name ≤ a
      · exact posE_ge hl (by omega) hb
      · rw [posE_lt (by omega) ha] at h; cases h)
  rw [posE_count hl] at hS
  change Calls Tryz.prog 179 _ _ _ at hS
  have hple := posE_le l name
  have HS := Lib.hid hS
  have HH : Hid (hasE l name = (decide (posE l name < l.length) && decide ((l.getD (posE l name) ([], 0)).1 = name))) := rfl
  have h1 := h0.2
  clear hS hs hA eg hl
  generalize posE l name = p at *
  go_enter Tryz.func114, Tryz.ntmps114
  go_upto_region 2 with (go_at_call 179; rw [← hW0]; refine HS.out.mono ?_; rintro e w1 ⟨rfl, q, os, hw1⟩; have xg : Ext W0 w1 := (by rw [hw1]; exact grow_ext W0 q os); clear hw1)
  have ka : ∀ y : Later w1, y.now.cell? ⟨w.heap.size, 0, none⟩ = some (.slice A l.length c) := fun y => (xg.trans y.ext).keep ca
  have kx : ∀ y : Later w1, y.now.cell? ⟨w.heap.size + 1, 0, none⟩ = some (.string (str name)) := fun y => (xg.trans y.ext).keep cx
  have X1 := Lib.hid (x0.trans xg)
  clear ca cx HS h0 hW0 hsize
  by_cases hp : p < l.length
  · obtain ⟨b, o, rfl, hcell⟩ := h1 (by omega)
    have hgd : l.getD p ([], 0) = l[p] := by rw [List.getD_eq_getElem?_getD, List.getElem?_eq_getElem hp]; rfl
    have k2 : ∀ y : Later w1, y.now.cell? ⟨b, o + p * 2, none⟩ = some (.string (str l[p].1)) := fun y => (xg.trans y.ext).keep (hcell p hp).1
    have HV := Lib.hid (show hasE l name = decide (l[p].1 = name) by rw [HH.out, hgd, decide_eq_true hp]; rfl)
    have hpi : (p : Int) < (l.length : Int) := by omega
    have hpd : decide ((p : Int) < (l.length : Int)) = true := decide_eq_true hpi
    have hbq : ((str l[p].1).toList == (str name).toList) = decide (l[p].1 = name) := by rw [str_toList, str_toList, Bool.eq_iff_iff]; simp
    clear hcell h1 xg hgd HH
    generalize l[p].1 = y at *
    refine wp_region_later (by kernel_rfl) (by kernel_rfl) ?_
    repeat (go_big_quiet_step (fail))
    refine wpQuiet_nil ?_
    rintro w5 ⟨y, rfl⟩
    go_wp2_with fail
    go_ret2
    exact ⟨by rw [HV.out]; rfl, X1.out.trans y.ext⟩
  · have HV := Lib.hid (show hasE l name = false by rw [HH.out, decide_eq_false hp]; rfl)
    have hpd : decide ((p : Int) < (l.length : Int)) = false := decide_eq_false (by omega)
    clear h1 xg HH
    refine wp_region_later (by kernel_rfl) (by kernel_rfl) ?_
    repeat (go_big_quiet_step (fail))
    refine wpQuiet_nil ?_
    rintro w5 ⟨y, rfl⟩
    go_wp2_with fail
    go_ret2
    exact ⟨by rw [HV.out]; rfl, X1.out.trans y.ext⟩
end Go.Proofs.YtfaplefkakpgcaaGreatDoor
/- dir.Find, dir.Add on a volume that is one; extent.Write of too many bytes. -/
namespace Go.Proofs.YtfaplefkakpgcaaGreatDoor
set_option linter.unusedVariables false
set_option linter.unusedSimpArgs false
open Go.RowKit
/-- the inode of a directory's name, and the error -/
def dfindP (v : List (List UInt8)) (I k : Int) (name : List UInt8) : Int × Int :=
  if mayD name = false then (0, 7) else if (dlistP v I k).2 ≠ 0 then (0, (dlistP v I k).2)
  else if hasE (dlistP v I k).1 name = true then (((dlistP v I k).1.getD (posE (dlistP v I k).1 name) ([], 0)).2, 0) else (0, 9)
theorem OwnE.old {w : World} {B : Nat} {u : Value} {l : List Ent} (h : OwnE w B u l) : ∀ b o n c, u = .slice (some ⟨b, o, none⟩) n c → b < w.heap.size := by
  rintro b o n c rfl
  rcases h.2 with ⟨e, _⟩ | ⟨g, cap, cur, e, _, hh, _⟩
  · cases e
  · injection e with e1 _ _
    injection e1 with e1
    injection e1 with e1 _ _
    subst e1
    exact (Array.getElem?_eq_some_iff.1 hh).1
set_option maxHeartbeats 2000000 in
set_option maxRecDepth 100000 in
theorem dfind_any (A : Option Addr) (n c : Nat) (v : List (List UInt8)) (I k : Int) (name : List UInt8) (w : World) (hv : Strs w A n v) (hg : Good v I) (hnl : name.length ≤ 1000000000) :
    Calls Tryz.prog 58 #[.slice A n c, .int .i64 k, .string (str name)] w fun e w' => e = .returned (.tuple #[.int .i64 (dfindP v I k name).1, .int .i64 (dfindP v I k name).2]) ∧ Ext w w' := by
  have HM := Lib.hid (fun w => dmay_any name w hnl)
  have HL := Lib.hid (fun w h => dlist_any A n c v I k w h hg)
  have hll := dlist_len v I k
  have hle := dlist_ents v I k
  cases hm : mayD name with
  | false =>
    have HP := Lib.hid (show dfindP v I k name = (0, 7) from by unfold dfindP; rw [if_pos hm])
    rw [hm] at HM
    go_enter Tryz.func58, Tryz.ntmps58
    go_wp2_with (go_at_call 110; refine (HM.out _).mono ?_; rintro e w1 ⟨rfl, x1⟩)
    go_ret2
    rw [HP.out]
    exact ⟨rfl, x1⟩
  | true =>
  by_cases he : (dlistP v I k).2 = 0
  case neg =>
    have HP := Lib.hid (show dfindP v I k name = (0, (dlistP v I k).2) from by unfold dfindP; rw [if_neg (by rw [hm]; simp), if_pos he])
    have de : ((dlistP v I k).2 != 0) = true := by simpa using he
    rw [hm] at HM
    clear he hm hle
    generalize dlistP v I k = R at *
    go_enter Tryz.func58, Tryz.ntmps58
    go_wp2_with (first
      | (go_at_call 110; refine (HM.out _).mono ?_; rintro e w1 ⟨rfl, x1⟩)
      | (go_at_call 107; refine (HL.out _ (hv.ext x1)).mono ?_; rintro e w2 ⟨u, rfl, x2, own2⟩))
    go_ret2
    rw [HP.out]
    exact ⟨rfl, x1.trans x2⟩
  have HP0 := Lib.hid (show dfindP v I k name = if hasE (dlistP v I k).1 name = true then (((dlistP v I k).1.getD (posE (dlistP v I k).1 name) ([], 0)).2, 0) else (0, 9) from by unfold dfindP; rw [if_neg (by rw [hm]; simp), if_neg (by rw [he]; simp)])
  rw [he] at HL
  generalize dfindP v I k name = D at *
  clear he
  generalize (dlistP v I k).1 = l at *
  have HSr := Lib.hid (fun A c w h hA => dsearch_any A l.length c l name w h (by omega) hle.2 hA)
  rw [hm] at HM
  have HH : Hid (hasE l name = true → posE l name < l.length) := fun h => by
    unfold hasE at h; simp only [Bool.and_eq_true, decide_eq_true_eq] at h; exact h.1
  clear hm hle
  cases hh : hasE l name with
  | false =>
    rw [hh] at HP0 HSr
    clear hh HH
    generalize posE l name = p at *
    go_enter Tryz.func58, Tryz.ntmps58
    go_wp2_with (first
      | (go_at_call 110; refine (HM.out _).mono ?_; rintro e w1 ⟨rfl, x1⟩)
      | (go_at_call 107; refine (HL.out _ (hv.ext x1)).mono ?_; rintro e w2 ⟨u, rfl, x2, own2⟩; obtain ⟨A2, cap2, rfl, st2⟩ := own2.form; have hA2 := fun b o (h : A2 = some ⟨b, o, none⟩) (_ : 0 < l.length) => own2.old b o l.length cap2 (by rw [h]))
      | (go_at_call 114; refine (HSr.out A2 cap2 _ st2 hA2).mono ?_; rintro e w3 ⟨rfl, x3⟩))
    go_ret2
    rw [HP0.out]
    exact ⟨rfl, x1.trans (x2.trans x3)⟩
  | true =>
    have hp := HH.out hh
    rw [hh] at HP0 HSr
    clear hh HH
    generalize posE l name = p at *
    have hgd : l.getD p ([], 0) = l[p] := by rw [List.getD_eq_getElem?_getD, List.getElem?_eq_getElem hp]; rfl
    have hpi : (p : Int) < (l.length : Int) := by omega
    have HP1 := Lib.hid (show D = (l[p].2, 0) from by rw [HP0.out, if_pos rfl, hgd])
    clear HP0
    have HLp := Lib.hid hgd
    have Hp := Lib.hid hp
    clear hgd
    go_enter Tryz.func58, Tryz.ntmps58
    go_wp2_with (first
      | (go_at_call 110; refine (HM.out _).mono ?_; rintro e w1 ⟨rfl, x1⟩)
      | (go_at_call 107; refine (HL.out _ (hv.ext x1)).mono ?_; rintro e w2 ⟨u, rfl, x2, own2⟩; obtain ⟨A2, cap2, rfl, st2⟩ := own2.form; have hA2 := fun b o (h : A2 = some ⟨b, o, none⟩) (_ : 0 < l.length) => own2.old b o l.length cap2 (by rw [h]); have st0 := st2; obtain ⟨b2, o2, rfl, hc2⟩ := st0.2 (by omega))
      | (go_at_call 114; refine (HSr.out _ cap2 _ st2 hA2).mono ?_; rintro e w3 ⟨rfl, x3⟩; have hc3 := x3.keep (hc2 p Hp.out).2))
    go_ret2
    rw [HP1.out]
    exact ⟨rfl, x1.trans (x2.trans x3)⟩
end Go.Proofs.YtfaplefkakpgcaaGreatDoor
/- Paths, what is made: plain. -/
namespace Go.Proofs.YtfaplefkakpgcaaGreatDoor
set_option linter.unusedVariables false
set_option linter.unusedSimpArgs false
/-- may this be a path? -/
def mayP (p : List UInt8) : Bool := decide (p.head? = some 47) && decide (p.length ≤ 200) && ((pathP p).all mayD && decide ((pathP p).length ≤ 8))
theorem mayP_head {p : List UInt8} (h : mayP p = true) : ∃ q, p = 47 :: q := by
  unfold mayP at h
  simp only [Bool.and_eq_true, decide_eq_true_eq] at h
  cases p with
  | nil => simp at h
  | cons c q => exact ⟨q, by have := h.1.1; simp at this; rw [this]⟩
end Go.Proofs.YtfaplefkakpgcaaGreatDoor
/- The walk of fs.may. -/
namespace Go.Proofs.YtfaplefkakpgcaaGreatDoor
set_option linter.unusedVariables false
set_option linter.unusedSimpArgs false
open Go.RowKit Go.Shelf
attribute [local go_sem] Oper.semAt_some
theorem take_all {l : List (List UInt8)} (k : Nat) : (∀ j, j < k → mayD (l.getD j []) = true) → l.length ≤ k → l.all mayD = true := fun h hk => by
  rw [List.all_eq_true]
  intro x hx
  obtain ⟨j, hj, rfl⟩ := List.getElem_of_mem hx
  have := h j (by omega)
  rwa [List.getD_eq_getElem?_getD, List.getElem?_eq_getElem hj] at this
theorem path_name (p : List UInt8) (x : Nat) : ((pathP p).getD x []).length ≤ p.length := by
  rw [List.getD_eq_getElem?_getD]
  cases h : (pathP p)[x]? with
  | none => simp
  | some y => exact (pathP_len p).2 y (List.mem_of_getElem? h)
set_option maxHeartbeats 4000000 in
set_option maxRecDepth 100000 in
theorem may_any (p : List UInt8) (w : World) (hp : p.length ≤ 100000000) :
    Calls Tryz.prog 56 #[.string (str p)] w fun e w' => e = .returned (.bool (mayP p)) ∧ Ext w w' := by
  have hz := str_size p
  have HH := Lib.hid (fun w => hasPrefix_any p w)
  have HN := Lib.hid (fun w => names_any (str p) w)
  have HMD := Lib.hid (fun x w => dmay_any ((pathP p).getD x []) w (by have := path_name p x; omega))
  have hpl := (pathP_len p).1
  have x0 : Ext w (w.alloc (.cells #[.bool false] 4)) := (Ext.refl w).alloc _
  have b2 := Box.new w 4 #[.bool false]
  have z0 : (w.alloc (.cells #[.bool false] 4)).heap.size = w.heap.size + 1 := World.size_alloc _ _
  by_cases h47 : p.head? = some 47
  case neg =>
    have d1 : decide (p.head? = some 47) = false := decide_eq_false h47
    rw [show mayP p = false by unfold mayP; rw [d1]; rfl]
    go_enter Tryz.func56, Tryz.ntmps56
    go_wp2_with (go_at_call 109; refine (HH.out _).mono ?_; rintro e w1 ⟨rfl, rfl⟩)
    refine bodyPost_ret (v := .bool false) ?_ rfl ⟨rfl, x0⟩
    have hc := b2.cell 0
    simp [results, Tryz.results56, go_sem, hc]
  case pos =>
    have d1 : decide (p.head? = some 47) = true := decide_eq_true h47
    by_cases hlen : 200 < p.length
    · have hli : (200 : Int) < (p.length : Int) := by omega
      rw [show mayP p = false by unfold mayP; rw [decide_eq_false (show ¬ p.length ≤ 200 by omega)]; simp]
      go_enter Tryz.func56, Tryz.ntmps56
      go_wp2_with (go_at_call 109; refine (HH.out _).mono ?_; rintro e w1 ⟨rfl, rfl⟩)
      refine bodyPost_ret (v := .bool false) ?_ rfl ⟨rfl, x0⟩
      have hc := b2.cell 0
      simp [results, Tryz.results56, go_sem, hc]
    · have hli : ¬ (200 : Int) < (p.length : Int) := by omega
      have b3 := Box.new (w.alloc (.cells #[.bool false] 4)) 3 #[.int .i64 0]
      have b4 := Box.new ((w.alloc (.cells #[.bool false] 4)).alloc (.cells #[.int .i64 0] 3)) 9 #[.string (str p)]
      have b2' := (b2.ext ((Ext.refl _).alloc (.cells #[.int .i64 0] 3))).ext ((Ext.refl _).alloc (.cells #[.string (str p)] 9))
      have b3' := b3.ext ((Ext.refl _).alloc (.cells #[.string (str p)] 9))
      have X := ((x0.alloc (.cells #[.int .i64 0] 3)).alloc (.cells #[.string (str p)] 9))
      clear b2 b3
      simp only [World.size_alloc] at b3' b4
      refine (callsIn_wide (n := 6)).1 ?_
      refine callsIn_of_wp_marks Tryz.func56 rfl trivial ?_ rfl
      simp only [Tryz.ntmps56, List.size_toArray, List.length_cons, List.length_nil, Nat.reduceAdd, Nat.reduceSub, Array.replicate_succ, Array.replicate_zero, List.push_toArray, List.append_toArray, List.nil_append, List.cons_append]
      refine wpIn_wide.2 ?_
      go_upto_region 4 with (go_at_call 109; refine (HH.out _).mono ?_; rintro e w1 ⟨rfl, rfl⟩)
      go_wp2_with (go_at_call 57; refine (HN.out _).mono ?_; rintro e w1 ⟨rfl, rfl⟩)
      refine (wpIn_wide (n := 6)).1 ?_
      gi_wp2_with fail
      generalize ((w.alloc (.cells #[.bool false] 4)).alloc (.cells #[.int .i64 0] 3)).alloc (.cells #[.string (str p)] 9) = w5 at *
      have hNS := names_stops 5 (by decide) (w.heap.size + 1 + 1) p w5 b4 h47
      have hMP := Lib.hid (show mayP p = ((pathP p).all mayD && decide ((pathP p).length ≤ 8)) by unfold mayP; rw [d1, decide_eq_true (show p.length ≤ 200 by omega)]; simp)
      have hAll := Lib.hid (fun h => take_all (l := pathP p) (pathP p).length h (Nat.le_refl _))
      have hNo : Hid (∀ y, y < (pathP p).length → mayD ((pathP p).getD y []) = false → (pathP p).all mayD = false) := fun y hy h => by
        rw [List.getD_eq_getElem?_getD, List.getElem?_eq_getElem hy] at h
        exact List.all_eq_false.2 ⟨_, List.getElem_mem hy, by simp only [Option.getD_some] at h; rw [h]; simp⟩
      clear x0 z0 HN HH
      have hN200 : (pathP p).length ≤ 200 := by omega
      have hlt5 : w.heap.size + 1 + 1 < w5.heap.size := b4.lt
      unfold nenc at hNS
      generalize (pathP p).all mayD = al at *
      generalize hf : (fun y => (pathP p).getD y []) = f at *
      have hf' : ∀ y, (pathP p).getD y [] = f y := fun y => by rw [← hf]
      simp only [hf'] at *
      generalize (pathP p).length = N at *
      clear hf hf'
      generalize hG : w.heap.size = G at *
      refine wpIn_rangeFunc_ownH rfl (by decide) (gf := 111) (lb := #[.pointer (some ⟨G + 1 + 1, 0, none⟩)]) rfl trivial (enters_of Tryz.func111 (by kernel_rfl) rfl)
        hNS KpB.trans KpB.book (Below.refl _ _) (fun _ => rfl)
        (fun pre W => Ext w W ∧ Box W G 4 #[.bool false] ∧ Box W (G + 1) 3 #[.int .i64 (pre.length : Int)] ∧ (∀ y ∈ pre, mayD (f y) = true) ∧ pre.length ≤ N)
        (fun c pre W => c = .ret ∧ Ext w W ∧ Box W G 4 #[.bool false] ∧ ∃ y ∈ pre, mayD (f y) = false)
        (OwnFrom.and (ext_own (by rw [hG]; omega)) (OwnFrom.and (Own.from (box_own _ _ _) _) (OwnFrom.and (Own.from (box_own _ _ _) _) (ownFrom_pure _ _))))
        (fun c => OwnFrom.and (ownFrom_pure _ _) (OwnFrom.and (ext_own (by rw [hG]; omega)) (OwnFrom.and (Own.from (box_own _ _ _) _) (ownFrom_pure _ _)))) ⟨X, b2', b3', by simp, Nat.zero_le _⟩
        (fun x a' W => a' = { tmps := #[.string (str p), undef, .pointer (some ⟨G, 0, none⟩), .pointer (some ⟨G + 1, 0, none⟩), .string (str (f x)), .string (str p), .bool true, .bool false, .bool false, .string (str p), .int .i64 (p.length : Int), .bool (decide ((200 : Int) < (p.length : Int))), .bool (decide ((200 : Int) < (p.length : Int))), .string (str p), .func (.func 111) #[] #[.pointer (some ⟨G + 1 + 1, 0, none⟩)], .string (str (f x)), undef, undef, undef, undef, undef, undef, undef], defers := [] })
        (fun x a' _ X Y row hs hg hr => hs) ?assign ?body ?done ?stop
      case assign =>
        rintro l pre x W K hi hK
        gi_wp2
        exact hK _ _ (keeps_ext (Ext.refl W)) (KpB.ext (Ext.refl W)) hi rfl
      case body =>
        rintro l pre x a' W hl0 ⟨r, hr⟩ ⟨i1, i2, i3, i4, i5⟩ rfl hltN
        have HD := Lib.hid (HMD.out x W)
        have hlen2 : pre.length ≤ 200 := by omega
        cases hm : mayD (f x) with
        | true =>
          rw [hm] at HD
          gi_wp2_with (first
            | (refine ⟨trivial, ?_⟩; gi_at_call 110; refine (CallsIn.inRound l (callsIn_wide.2 HD.out)).mono ?_; rintro e W2 ⟨rfl, x2⟩; have j3 := i3.ext x2; have c3 : W2.cell? ⟨G + 1, 0, none⟩ = some (.int .i64 (pre.length : Int)) := j3.cell 0; have c3f := j3.frozen 0))
          refine ⟨(keeps_ext x2).trans ((KeepsOthers.setCell _ _ _).from _), (KpB.ext x2).set ⟨G + 1, 0, none⟩ (by show G + 1 + 1 ≠ G + 1; omega) (by show G + 1 + 1 ≠ G + 1; omega) _, (i1.trans x2).setCell (p := ⟨G + 1, 0, none⟩) (by show w.heap.size ≤ G + 1; omega) _, (i2.ext x2).far (p := ⟨G + 1, 0, none⟩) (by show G ≠ G + 1; omega) _, ?_, ?_, by simp; omega⟩
          · rw [show ((pre ++ [x]).length : Int) = (pre.length : Int) + 1 by simp]
            exact j3.set 0 _
          · intro y hy
            rcases List.mem_append.1 hy with h | h
            · exact i4 y h
            · rw [List.mem_singleton.1 h]; exact hm
        | false =>
          rw [hm] at HD
          gi_wp2_with (first
            | (refine ⟨trivial, ?_⟩; gi_at_call 110; refine (CallsIn.inRound l (callsIn_wide.2 HD.out)).mono ?_; rintro e W2 ⟨rfl, x2⟩; have j2 := i2.ext x2; have c2 : W2.cell? ⟨G, 0, none⟩ = some (.bool false) := j2.cell 0; have c2f := j2.frozen 0))
          exact ⟨(keeps_ext x2).trans ((KeepsOthers.setCell _ _ _).from _), rfl, (i1.trans x2).setCell (p := ⟨G, 0, none⟩) (by show w.heap.size ≤ G; omega) _, j2.set 0 _, x, by simp, hm⟩
      case done =>
        rintro D ys W hD rfl ⟨i1, i2, i3, i4, i5⟩ hK
        rw [List.length_range] at i3
        have c3 : W.cell? ⟨G + 1, 0, none⟩ = some (.int .i64 (N : Int)) := i3.cell 0
        have c2 : W.cell? ⟨G, 0, none⟩ = some (.bool false) := i2.cell 0
        have c2f := i2.frozen 0
        gi_wp2_with fail
        have hle8 := Lib.hid (show decide ((N : Int) ≤ 8) = decide (N ≤ 8) from decide_eq_decide.2 (by omega))
        have hK' := (KeepsOthers.setCell W ⟨G, 0, none⟩ (.bool (decide ((N : Int) ≤ 8)))).same D _ hK rfl
        have k2 := (i2.set 0 (.bool (decide ((N : Int) ≤ 8)))).grown (grownBy_putObj' _ D (.deferred none)) (fun e => by injection e with e; omega)
        have hc5 := k2.cell 0
        go_wp2_with fail
        refine ⟨by simp, .inl ⟨_, _, rfl, run_takeDeferred hK', ?_⟩⟩
        refine ⟨.bool (decide ((N : Int) ≤ 8)), ?_, ?_, (i1.setCell (p := ⟨G, 0, none⟩) (by show w.heap.size ≤ G; omega) _).putObj (.deferred none) hK' (by omega)⟩
        · simp at hc5
          simp [results, Tryz.results56, go_sem, hc5]
        · rw [hMP.out, hAll.out (fun j hj => i4 j (List.mem_range.2 hj)), hle8.out]; rfl
      case stop =>
        rintro D c pre W hD ⟨k, hk, rfl⟩ ⟨rfl, h1, h2, y, hy, hm⟩ hK
        gi_wp2
        have k2 := h2.grown (grownBy_putObj' _ D (.deferred none)) (fun e => by injection e with e; omega)
        have hc5 := k2.cell 0
        refine ⟨by simp, .inl ⟨_, _, rfl, run_takeDeferred hK, ?_⟩⟩
        refine ⟨.bool false, ?_, ?_, h1.putObj (.deferred none) hK (by omega)⟩
        · simp at hc5
          simp [results, Tryz.results56, go_sem, hc5]
        · rw [hMP.out, hNo.out y (by have := List.mem_range.1 hy; omega) hm]; rfl
end Go.Proofs.YtfaplefkakpgcaaGreatDoor
/- The walk of fs.Find. -/
namespace Go.Proofs.YtfaplefkakpgcaaGreatDoor
set_option linter.unusedVariables false
set_option linter.unusedSimpArgs false
open Go.RowKit Go.Shelf
attribute [local go_sem] Oper.semAt_some
theorem box_ex {β γ : Type} (b : Nat) (t : TypeId) (g : γ → Array Value) (P : β → γ → Prop) : Own (fun (s : β) W => ∃ m, Box W b t (g m) ∧ P s m) := fun s X Y row hs hg hr => by
  obtain ⟨m, hb, hm⟩ := hs
  refine ⟨m, Box.grown hb hg (fun e => ?_), hm⟩
  obtain ⟨o, ho, hc⟩ := hr b e.symm
  rw [show X.heap[b]? = _ from hb] at ho
  cases ho; cases hc
theorem range_names (l : List (List UInt8)) (k : Nat) (h : k ≤ l.length) : (List.range k).map (fun y => l.getD y []) = l.take k := by
  apply List.ext_getElem
  · simp; omega
  · intro i h1 h2
    simp only [List.getElem_map, List.getElem_range, List.getElem_take]
    rw [List.getD_eq_getElem?_getD, List.getElem?_eq_getElem (by simp at h1; omega)]; rfl
end Go.Proofs.YtfaplefkakpgcaaGreatDoor
