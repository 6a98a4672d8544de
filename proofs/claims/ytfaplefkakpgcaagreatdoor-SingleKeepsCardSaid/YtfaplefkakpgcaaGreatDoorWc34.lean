/- The walks of fs.names and fs.split. -/
import Derived.Test.YtfaplefkakpgcaaGreatDoorWc31
import Derived.Test.YtfaplefkakpgcaaGreatDoorWc32
import Derived.Test.YtfaplefkakpgcaaGreatDoorWc5
import Derived.Test.YtfaplefkakpgcaaGreatDoorWc33
import Derived.Test.YtfaplefkakpgcaaGreatDoorWc14
import Derived.Test.YtfaplefkakpgcaaGreatDoorWc7
import Derived.Test.YtfaplefkakpgcaaGreatDoorWc13
namespace Go.Proofs.YtfaplefkakpgcaaGreatDoor
set_option linter.unusedVariables false
set_option linter.unusedSimpArgs false
open Go.RowKit Go.Shelf
attribute [local go_sem] Oper.semAt_some
theorem hasPrefix_any (s : List UInt8) (w : World) : Calls Tryz.prog 109 #[.string (str s), .string ⟨#[47]⟩] w fun e w' => e = .returned (.bool (decide (s.head? = some 47))) ∧ w' = w := by
 have h := Any.strings_HasPrefix Tryz.lays99 (str s) ⟨#[47]⟩ w
 rw [show Lib.hasPrefix (str s).data.toList (⟨#[47]⟩ : ByteArray).data.toList = decide (s.head? = some 47) from by
  rw [show (str s).data.toList = s from rfl]
  cases s with
  | nil => rfl
  | cons c s =>
   show (47 == c && true) = _
   rw [Bool.and_true]
   by_cases h : c = 47
   ·subst h; rfl
   ·exact (beq_eq_false_iff_ne.2 (Ne.symm h)).trans (decide_eq_false (fun e => h (Option.some.inj e))).symm] at h
 exact h
theorem trimPrefix_any (q : List UInt8) (w : World) : Calls Tryz.prog 112 #[.string (str (47 :: q)), .string ⟨#[47]⟩] w fun e w' => e = .returned (.string (str q)) ∧ w' = w := by
 have h := Any.strings_TrimPrefix Tryz.lays101 (str (47 :: q)) ⟨#[47]⟩ w
 rw [show (⟨(Lib.trimPrefix (str (47 :: q)).data.toList (⟨#[47]⟩ : ByteArray).data.toList).toArray⟩ : ByteArray) = str q from by
  rfl] at h
 exact h
theorem indexByte_any (q : List UInt8) (w : World) : Calls Tryz.prog 113 #[.string (str q), .int .u8 47] w fun e w' => e = .returned (.int .i64 (if restP q = [] then -1 else ((segP q).length : Int))) ∧ w' = w := by
 have h := Any.strings_IndexByte Tryz.lays137 (str q) 47 w
 rw [show Lib.indexByte (str q).data.toList (47 : Int).toNat.toUInt8 = (if restP q = [] then -1 else ((segP q).length : Int)) from by
  exact index_seg q] at h
 exact h
theorem seg_none {q : List UInt8} (h : restP q = []) : segP q = q := by have := seg_rest q; rwa [h, List.append_nil] at this
theorem seg_take (q : List UInt8) : q.take (segP q).length = segP q := by
 have := List.take_left (l₁ := segP q) (l₂ := restP q); rwa [seg_rest] at this
theorem rest_drop (q : List UInt8) : q.drop (segP q).length = restP q := by
 have := List.drop_left (l₁ := segP q) (l₂ := restP q); rwa [seg_rest] at this
set_option maxHeartbeats 1000000 in
theorem names_any (p : ByteArray) (w : World) :
  Calls Tryz.prog 57 #[.string p] w fun e w' => e = .returned (.func (.func 111) #[] #[.pointer (some ⟨w.heap.size, 0, none⟩)]) ∧ w' = w.alloc (.cells #[.string p] 9) := by
 have hmf : ∀ (fn : Fn) (first cap : Array Value) (w : World), (Instr.makeFunc fn first cap).run Tryz.prog w = .ok (.func fn first cap) w := fun _ _ _ _ => rfl
 go_enter Tryz.func57, Tryz.ntmps57
 go_wp2_with fail
 go_ret
 exact ⟨rfl, rfl⟩
def lenOf : Value → Nat
 | .string s => s.size
 | _ => 0
def nenc (p : List UInt8) (k : Nat) : Array Value := #[.string (str ((pathP p).getD k []))]
set_option maxRecDepth 100000 in
set_option maxHeartbeats 4000000 in
theorem names1_in (n : Nat) (hn : 1 ≤ n) (l b1 : Nat) (p : List UInt8) (J Jx : List Nat → World → Prop) (W : World) (hJ : AbidesFrom W.heap.size J)
  (hY : ∀ pre x W1, J pre W1 → pre.length < (pathP p).length → YieldAt Fence.wide (n - 1) Tryz.prog l (nenc p x) W1 fun e W' =>
   (e = .returned (.bool true) ∧ J (pre ++ [x]) W' ∧ KpB b1 b1 W1 W') ∨ (e = .returned (.bool false) ∧ Jx (pre ++ [x]) W'))
  (h1 : Box W b1 9 #[.string (str p)]) (h47 : p.head? = some 47) (h0 : J [] W) :
  CallsIn Fence.wide n Tryz.prog 111 #[.func (.yield l) #[] #[], .pointer (some ⟨b1, 0, none⟩)] W fun e W' => (∃ v, e = .returned v) ∧
   ((∃ ys, ys = List.range (pathP p).length ∧ J ys W') ∨ (∃ pre, (∃ k, k ≤ (pathP p).length ∧ pre = List.range k) ∧ Jx pre W')) := by
 have hs : (str p).toList = p := str_toList p
 have cb : W.cell? ⟨b1, 0, none⟩ = some (.string (str p)) := h1.cell 0
 refine callsIn_of_wp Tryz.func111 rfl trivial ?_ rfl
 simp only [Tryz.ntmps111, List.size_toArray, List.length_cons, List.length_nil, Nat.reduceAdd, Nat.reduceSub, Array.replicate_succ, Array.replicate_zero, List.push_toArray, List.append_toArray, List.nil_append, List.cons_append]
 by_cases hp : p = [47]
 ·subst hp
  have hs2 : ((str [47]).toList == (⟨#[47]⟩ : ByteArray).toList) = true := by rw [hs, show (⟨#[47]⟩ : ByteArray).toList = [47] from str_toList [47]]; rfl
  gi_wp2_with fail
  refine bodyPost_ret (results_none rfl _ _ _) rfl ?_
  exact ⟨⟨_, rfl⟩, .inl ⟨_, rfl, h0⟩⟩
 ·have hs2 : (p == [47]) = false := by simpa using hp
  have hpn : pathP p = partsP p := by unfold pathP; rw [if_neg hp]
  have hp0 : p = [] ∨ ∃ q, p = 47 :: q := by
   cases p with
   | nil => exact .inl rfl
   | cons c q => exact .inr ⟨q, by simp at h47; rw [h47]⟩
  gi_wp2_with fail
  gi_loopw [3, 4, 5] (fun r _ _ wx => ∃ (k : Nat) (rest : List UInt8), r = .string (str rest) ∧ (rest = [] ∨ ∃ q, rest = 47 :: q) ∧ (pathP p).drop k = partsP rest ∧ k + (partsP rest).length = (pathP p).length ∧ J (List.range k) wx ∧ Box wx b1 9 #[.string (str p)]) (fun r _ _ _ => lenOf r)
  case atStart => exact ⟨0, p, rfl, hp0, by rw [hpn]; rfl, by rw [hpn]; omega, h0, h1⟩
  case round =>
   obtain ⟨k, rest, rfl, hrest, hdr, hkl, hJs, hB1⟩ := hrel
   rcases hrest with rfl | ⟨q, rfl⟩
   ·have hr2 : (str []).toList = [] := str_toList []
    rw [partsP_nil] at hkl
    gi_wp2_with fail
    refine bodyPost_end (results_none rfl _ _ _) rfl ?_
    obtain rfl : k = (pathP p).length := by simpa using hkl
    exact ⟨⟨_, rfl⟩, .inl ⟨_, rfl, hJs⟩⟩
   ·have hr2 : ((47 :: q) == ([] : List UInt8)) = false := rfl
    have hrs := str_toList (47 :: q)
    rw [partsP_cons] at hdr hkl
    simp only [List.length_cons] at hkl
    have hk1 : k < (pathP p).length := by omega
    have hgk : (pathP p).getD k [] = segP q := by
     have e := congrArg List.head? hdr
     rw [List.head?_drop, List.head?_cons] at e
     rw [List.getD_eq_getElem?_getD, e]; rfl
    have hdr2 : (pathP p).drop (k + 1) = partsP (restP q) := by
     have e := congrArg (List.drop 1) hdr
     rw [List.drop_drop] at e
     exact e
    have hX : (str q).extract 0 (segP q).length = str (segP q) := by rw [str_ext, Nat.sub_zero, List.drop_zero, seg_take]
    have hX2 : (str q).extract (segP q).length q.length = str (restP q) := by rw [str_ext, List.take_of_length_le (by rw [List.length_drop]; omega), rest_drop]
    have hsl := seg_len q
    have hsz := str_size q
    obtain ⟨fn, tmps, assign, body, hy, hR⟩ := hY (List.range k) k _ hJs (by rw [List.length_range]; exact hk1)
    have hy' : (Instr.yield l #[.string (str (segP q))]).run Tryz.prog wr = .ok (.round l fn tmps assign body) wr := by
     have : nenc p k = #[.string (str (segP q))] := by unfold nenc; rw [hgk]
     rw [this] at hy; exact hy
    clear hy
    have hhd := restP_head q
    have HT := Lib.hid (fun w => trimPrefix_any q w)
    have HIx := Lib.hid (fun w => indexByte_any q w)
    by_cases hr : restP q = []
    ·rw [if_pos hr] at HIx
     have hse : (segP q).length = q.length := by rw [seg_none hr]
     have hi1 : ¬ ((0 : Int) ≤ -1) := by omega
     have hle : (segP q).length ≤ q.length := by omega
     rw [hse] at hX hX2
     gi_wp2_with (first
      | (refine ⟨trivial, ?_⟩; gi_at_call 112; refine (callsIn_wide.2 (HT.out _)).mono ?_; rintro e w2 ⟨rfl, rfl⟩)
      | (refine ⟨trivial, ?_⟩; gi_at_call 113; refine (callsIn_wide.2 (HIx.out _)).mono ?_; rintro e w2 ⟨rfl, rfl⟩))
     refine hR.mono ?_
     rintro e W3 (⟨rfl, hJ3, hk3⟩ | ⟨rfl, hJx3⟩)
     ·gi_wp2_with fail
      go_roundw
      case rel => exact ⟨k + 1, [], rfl, .inl rfl, by rw [hdr2, hr], by rw [← hr]; omega, by rw [List.range_succ]; exact hJ3, (hk3 _ _).1 hB1⟩
      case measure => show 0 < (str (47 :: q)).size; rw [str_size, List.length_cons]; omega
     ·gi_wp2_with fail
      refine bodyPost_ret (results_none rfl _ _ _) rfl ?_
      exact ⟨⟨_, rfl⟩, .inr ⟨_, ⟨k + 1, by omega, List.range_succ.symm⟩, hJx3⟩⟩
    ·rw [if_neg hr] at HIx
     have hle : (segP q).length ≤ q.length := by omega
     gi_wp2_with (first
      | (refine ⟨trivial, ?_⟩; gi_at_call 112; refine (callsIn_wide.2 (HT.out _)).mono ?_; rintro e w2 ⟨rfl, rfl⟩)
      | (refine ⟨trivial, ?_⟩; gi_at_call 113; refine (callsIn_wide.2 (HIx.out _)).mono ?_; rintro e w2 ⟨rfl, rfl⟩))
     refine hR.mono ?_
     rintro e W3 (⟨rfl, hJ3, hk3⟩ | ⟨rfl, hJx3⟩)
     ·gi_wp2_with fail
      go_roundw
      case rel => exact ⟨k + 1, restP q, rfl, hhd, hdr2, by omega, by rw [List.range_succ]; exact hJ3, (hk3 _ _).1 hB1⟩
      case measure => show (str (restP q)).size < (str (47 :: q)).size; rw [str_size, str_size, List.length_cons]; omega
     ·gi_wp2_with fail
      refine bodyPost_ret (results_none rfl _ _ _) rfl ?_
      exact ⟨⟨_, rfl⟩, .inr ⟨_, ⟨k + 1, by omega, List.range_succ.symm⟩, hJx3⟩⟩
theorem names_stops (n : Nat) (hn : 1 ≤ n) (b1 : Nat) (p : List UInt8) (w : World) (h1 : Box w b1 9 #[.string (str p)]) (h47 : p.head? = some 47) :
  SeqStopsK Fence.wide n Tryz.prog 111 #[.pointer (some ⟨b1, 0, none⟩)] (nenc p) (KpB b1 b1) (fun ys => ys = List.range (pathP p).length) (fun pre => ∃ k, k ≤ (pathP p).length ∧ pre = List.range k) (pathP p).length w := fun l J Jx W hW hJ _ hY h0 =>
 names1_in n hn l b1 p J Jx W hJ hY (h1.ext hW) h47 h0
end Go.Proofs.YtfaplefkakpgcaaGreatDoor
/- The walk of dir.search. -/
namespace Go.Proofs.YtfaplefkakpgcaaGreatDoor
set_option linter.unusedVariables false
set_option linter.unusedSimpArgs false
open Go.RowKit Go.Lib Go.Sort Go.Shelf
theorem countP_lt (n m : Nat) (h : m ≤ n) : (List.range n).countP (fun i => decide (i < m)) = m := by
 induction n generalizing m with
 | zero => simp; omega
 | succ n ih =>
  rw [List.range_succ, List.countP_append]
  by_cases e : m = n + 1
  ·subst e
   rw [List.countP_eq_length.2 (fun a ha => by rw [List.mem_range] at ha; simp; omega)]
   simp
  ·rw [ih m (by omega)]; simp; omega
theorem posE_count {l : List Ent} (hl : l.Pairwise fun a b => ltB a.1 b.1 = true) (name : List UInt8) : (List.range l.length).countP (fun i => !(!ltB (l.getD i ([], 0)).1 name)) = posE l name := by
 rw [← countP_lt l.length (posE l name) (posE_le l name)]
 refine List.countP_congr fun i hi => ?_
 rw [List.mem_range] at hi
 rw [List.getD_eq_getElem?_getD, List.getElem?_eq_getElem hi]
 simp only [Option.getD_some, Bool.not_not, decide_eq_true_eq]
 by_cases h : i < posE l name
 ·exact ⟨fun _ => h, fun _ => posE_lt h hi⟩
 ·refine ⟨fun h2 => ?_, fun h2 => absurd h2 h⟩
  rw [posE_ge hl (by omega) hi] at h2; cases h2
set_option maxHeartbeats 2000000 in
theorem dclosure_any (ba bx b o c n : Nat) (y name : List UInt8) (i : Nat) (W : World) (hi : i < n)
  (ha : W.cell? ⟨ba, 0, none⟩ = some (.slice (some ⟨b, o, none⟩) n c)) (hx : W.cell? ⟨bx, 0, none⟩ = some (.string (str name))) (hc : W.cell? ⟨b, o + i * 2, none⟩ = some (.string (str y))) :
  Calls Tryz.prog 180 (#[.int .i64 i] ++ #[.pointer (some ⟨ba, 0, none⟩), .pointer (some ⟨bx, 0, none⟩)]) W fun e w' => e = .returned (.bool (!ltB y name)) ∧ ∃ q, w' = W.drewN q := by
 have hiz : (i : Int) < (n : Int) := by omega
 have hl : Op.bytesLess (str y).toList (str name).toList = ltB y name := by rw [str_toList, str_toList]
 generalize ltB y name = r at *
 go_enter Tryz.func180, Tryz.ntmps180
 go_wp2
 go_region
 all_goals go_wp2
 all_goals go_ret
 all_goals exact ⟨by first | rfl | simp, 1, rfl⟩
theorem grow_ext (w : World) (q : Nat) (os : Array Obj) : Ext w (grow (w.drewN q) os) := below_grown_sl w.heap.size w q os (Nat.le_refl _)
set_option maxHeartbeats 2000000 in
set_option maxRecDepth 100000 in
theorem dsearch_any (A : Option Addr) (n c : Nat) (l : List Ent) (name : List UInt8) (w : World) (hs : Ents w A n l) (hn : n ≤ 1000) (hl : l.Pairwise fun a b => ltB a.1 b.1 = true) (hA : ∀ b o, A = some ⟨b, o, none⟩ → 0 < n → b < w.heap.size) :
  Calls Tryz.prog 114 #[.slice A n c, .string (str name)] w fun e w' => e = .returned (.tuple #[.int .i64 (posE l name : Int), .bool (hasE l name)]) ∧ Ext w w' := by
 obtain ⟨W0, hW0⟩ : ∃ W0, W0 = (w.alloc (.cells #[.slice A n c] 150)).alloc (.cells #[.string (str name)] 9) := ⟨_, rfl⟩
 have x0 : Ext w W0 := by rw [hW0]; exact ((Ext.refl w).alloc _).alloc _
 have hsize : W0.heap.size = w.heap.size + 1 + 1 := by rw [hW0]; simp
 have ca : W0.cell? ⟨w.heap.size, 0, none⟩ = some (.slice A n c) := by rw [hW0]; exact cell_alloc_sl _ (cell_new_sl w _ _)
 have cx : W0.cell? ⟨w.heap.size + 1, 0, none⟩ = some (.string (str name)) := by rw [hW0]; have := cell_new_sl (w.alloc (.cells #[.slice A n c] 150)) (.string (str name)) 9; rwa [World.size_alloc] at this
 have eg : ∀ args w, (callFunc 180 args).run Tryz.prog w = .ok (.enter 180 args) w := enters_of Tryz.func180 (by kernel_rfl) rfl
 have h0 := hs.ext x0
 obtain rfl := hs.1
 have hS := Any.sort_Search Tryz.search 180 #[.pointer (some ⟨w.heap.size, 0, none⟩), .pointer (some ⟨w.heap.size + 1, 0, none⟩)] l.length (fun i => !ltB (l.getD i ([], 0)).1 name) W0 eg (by omega)
  (fun m os i hi => by
   obtain ⟨b, o, rfl, hcell⟩ := h0.2 (by omega)
   have hb := hA b o rfl (by omega)
   have hcc := (hcell i hi).1
   have hgd : l.getD i ([], 0) = l[i] := by rw [List.getD_eq_getElem?_getD, List.getElem?_eq_getElem hi]; rfl
   simp only [hgd]
   exact (dclosure_any w.heap.size (w.heap.size + 1) b o c l.length l[i].1 name i _ hi (cell_grown (by simp [hsize]; omega) ca m os) (cell_grown (by simp [hsize]) cx m os) (cell_grown (by simp [hsize]; omega) hcc m os)).mono
    fun _ _ ⟨he, q, hq⟩ => ⟨he, q, #[], by rw [hq, grow_empty]⟩)
  (fun a b hab hb h => by
   have ha : a < l.length := by omega
   simp only [List.getD_eq_getElem?_getD, List.getElem?_eq_getElem ha, List.getElem?_eq_getElem hb, Option.getD_some] at h ⊢
   rw [Bool.not_eq_true'] at h ⊢
   by_cases e : posE l name ≤ a
   ·exact posE_ge hl (by omega) hb
   ·rw [posE_lt (by omega) ha] at h; cases h)
 rw [posE_count hl] at hS
 change Calls Tryz.prog 179 _ _ _ at hS
 have hple := posE_le l name
 have HS := Lib.hid hS
 have HH : Hid (hasE l name = (decide (posE l name < l.length) && decide ((l.getD (posE l name) ([], 0)).1 = name))) := rfl
 have h1 := h0.2
 clear hS hs hA eg hl
 generalize posE l name = p at *
 go_enter Tryz.func114, Tryz.ntmps114
 go_upto_region 2 with (go_at_call 179; rw [← hW0]; refine HS.out.mono ?_; rintro e w1 ⟨rfl, q, os, hw1⟩; have xg : Ext W0 w1 := (by rw [hw1]; exact grow_ext W0 q os); clear hw1)
 have ka : ∀ y : Later w1, y.now.cell? ⟨w.heap.size, 0, none⟩ = some (.slice A l.length c) := fun y => (xg.trans y.ext).keep ca
 have kx : ∀ y : Later w1, y.now.cell? ⟨w.heap.size + 1, 0, none⟩ = some (.string (str name)) := fun y => (xg.trans y.ext).keep cx
 have X1 := Lib.hid (x0.trans xg)
 clear ca cx HS h0 hW0 hsize
 by_cases hp : p < l.length
 ·obtain ⟨b, o, rfl, hcell⟩ := h1 (by omega)
  have hgd : l.getD p ([], 0) = l[p] := by rw [List.getD_eq_getElem?_getD, List.getElem?_eq_getElem hp]; rfl
  have k2 : ∀ y : Later w1, y.now.cell? ⟨b, o + p * 2, none⟩ = some (.string (str l[p].1)) := fun y => (xg.trans y.ext).keep (hcell p hp).1
  have HV := Lib.hid (show hasE l name = decide (l[p].1 = name) by rw [HH.out, hgd, decide_eq_true hp]; rfl)
  have hpi : (p : Int) < (l.length : Int) := by omega
  have hpd : decide ((p : Int) < (l.length : Int)) = true := decide_eq_true hpi
  have hbq : ((str l[p].1).toList == (str name).toList) = decide (l[p].1 = name) := by rw [str_toList, str_toList, Bool.eq_iff_iff]; simp
  clear hcell h1 xg hgd HH
  generalize l[p].1 = y at *
  refine wp_region_later (by kernel_rfl) (by kernel_rfl) ?_
  repeat (go_big_quiet_step (fail))
  refine wpQuiet_nil ?_
  rintro w5 ⟨y, rfl⟩
  go_wp2_with fail
  go_ret2
  exact ⟨by rw [HV.out]; rfl, X1.out.trans y.ext⟩
 ·have HV := Lib.hid (show hasE l name = false by rw [HH.out, decide_eq_false hp]; rfl)
  have hpd : decide ((p : Int) < (l.length : Int)) = false := decide_eq_false (by omega)
  clear h1 xg HH
  refine wp_region_later (by kernel_rfl) (by kernel_rfl) ?_
  repeat (go_big_quiet_step (fail))
  refine wpQuiet_nil ?_
  rintro w5 ⟨y, rfl⟩
  go_wp2_with fail
  go_ret2
  exact ⟨by rw [HV.out]; rfl, X1.out.trans y.ext⟩
end Go.Proofs.YtfaplefkakpgcaaGreatDoor
/- dir.Find, dir.Add on a volume that is one; extent.Write of too many bytes. -/
namespace Go.Proofs.YtfaplefkakpgcaaGreatDoor
set_option linter.unusedVariables false
set_option linter.unusedSimpArgs false
open Go.RowKit
def dfindP (v : List (List UInt8)) (I k : Int) (name : List UInt8) : Int × Int :=
 if mayD name = false then (0, 7) else if (dlistP v I k).2 ≠ 0 then (0, (dlistP v I k).2)
 else if hasE (dlistP v I k).1 name = true then (((dlistP v I k).1.getD (posE (dlistP v I k).1 name) ([], 0)).2, 0) else (0, 9)
theorem OwnE.old {w : World} {B : Nat} {u : Value} {l : List Ent} (h : OwnE w B u l) : ∀ b o n c, u = .slice (some ⟨b, o, none⟩) n c → b < w.heap.size := by
 rintro b o n c rfl
 rcases h.2 with ⟨e, _⟩ | ⟨g, cap, cur, e, _, hh, _⟩
 ·cases e
 ·injection e with e1 _ _
  injection e1 with e1
  injection e1 with e1 _ _
  subst e1
  exact (Array.getElem?_eq_some_iff.1 hh).1
set_option maxHeartbeats 2000000 in
set_option maxRecDepth 100000 in
theorem dfind_any (A : Option Addr) (n c : Nat) (v : List (List UInt8)) (I k : Int) (name : List UInt8) (w : World) (hv : Strs w A n v) (hg : Good v I) (hnl : name.length ≤ 1000000000) :
  Calls Tryz.prog 58 #[.slice A n c, .int .i64 k, .string (str name)] w fun e w' => e = .returned (.tuple #[.int .i64 (dfindP v I k name).1, .int .i64 (dfindP v I k name).2]) ∧ Ext w w' := by
 have HM := Lib.hid (fun w => dmay_any name w hnl)
 have HL := Lib.hid (fun w h => dlist_any A n c v I k w h hg)
 have hll := dlist_len v I k
 have hle := dlist_ents v I k
 cases hm : mayD name with
 | false =>
  have HP := Lib.hid (show dfindP v I k name = (0, 7) from by unfold dfindP; rw [if_pos hm])
  rw [hm] at HM
  go_enter Tryz.func58, Tryz.ntmps58
  go_wp2_with (go_at_call 110; refine (HM.out _).mono ?_; rintro e w1 ⟨rfl, x1⟩)
  go_ret2
  rw [HP.out]
  exact ⟨rfl, x1⟩
 | true =>
 by_cases he : (dlistP v I k).2 = 0
 case neg =>
  have HP := Lib.hid (show dfindP v I k name = (0, (dlistP v I k).2) from by unfold dfindP; rw [if_neg (by rw [hm]; simp), if_pos he])
  have de : ((dlistP v I k).2 != 0) = true := by simpa using he
  rw [hm] at HM
  clear he hm hle
  generalize dlistP v I k = R at *
  go_enter Tryz.func58, Tryz.ntmps58
  go_wp2_with (first
   | (go_at_call 110; refine (HM.out _).mono ?_; rintro e w1 ⟨rfl, x1⟩)
   | (go_at_call 107; refine (HL.out _ (hv.ext x1)).mono ?_; rintro e w2 ⟨u, rfl, x2, own2⟩))
  go_ret2
  rw [HP.out]
  exact ⟨rfl, x1.trans x2⟩
 have HP0 := Lib.hid (show dfindP v I k name = if hasE (dlistP v I k).1 name = true then (((dlistP v I k).1.getD (posE (dlistP v I k).1 name) ([], 0)).2, 0) else (0, 9) from by unfold dfindP; rw [if_neg (by rw [hm]; simp), if_neg (by rw [he]; simp)])
 rw [he] at HL
 generalize dfindP v I k name = D at *
 clear he
 generalize (dlistP v I k).1 = l at *
 have HSr := Lib.hid (fun A c w h hA => dsearch_any A l.length c l name w h (by omega) hle.2 hA)
 rw [hm] at HM
 have HH : Hid (hasE l name = true → posE l name < l.length) := fun h => by
  unfold hasE at h; simp only [Bool.and_eq_true, decide_eq_true_eq] at h; exact h.1
 clear hm hle
 cases hh : hasE l name with
 | false =>
  rw [hh] at HP0 HSr
  clear hh HH
  generalize posE l name = p at *
  go_enter Tryz.func58, Tryz.ntmps58
  go_wp2_with (first
   | (go_at_call 110; refine (HM.out _).mono ?_; rintro e w1 ⟨rfl, x1⟩)
   | (go_at_call 107; refine (HL.out _ (hv.ext x1)).mono ?_; rintro e w2 ⟨u, rfl, x2, own2⟩; obtain ⟨A2, cap2, rfl, st2⟩ := own2.form; have hA2 := fun b o (h : A2 = some ⟨b, o, none⟩) (_ : 0 < l.length) => own2.old b o l.length cap2 (by rw [h]))
   | (go_at_call 114; refine (HSr.out A2 cap2 _ st2 hA2).mono ?_; rintro e w3 ⟨rfl, x3⟩))
  go_ret2
  rw [HP0.out]
  exact ⟨rfl, x1.trans (x2.trans x3)⟩
 | true =>
  have hp := HH.out hh
  rw [hh] at HP0 HSr
  clear hh HH
  generalize posE l name = p at *
  have hgd : l.getD p ([], 0) = l[p] := by rw [List.getD_eq_getElem?_getD, List.getElem?_eq_getElem hp]; rfl
  have hpi : (p : Int) < (l.length : Int) := by omega
  have HP1 := Lib.hid (show D = (l[p].2, 0) from by rw [HP0.out, if_pos rfl, hgd])
  clear HP0
  have HLp := Lib.hid hgd
  have Hp := Lib.hid hp
  clear hgd
  go_enter Tryz.func58, Tryz.ntmps58
  go_wp2_with (first
   | (go_at_call 110; refine (HM.out _).mono ?_; rintro e w1 ⟨rfl, x1⟩)
   | (go_at_call 107; refine (HL.out _ (hv.ext x1)).mono ?_; rintro e w2 ⟨u, rfl, x2, own2⟩; obtain ⟨A2, cap2, rfl, st2⟩ := own2.form; have hA2 := fun b o (h : A2 = some ⟨b, o, none⟩) (_ : 0 < l.length) => own2.old b o l.length cap2 (by rw [h]); have st0 := st2; obtain ⟨b2, o2, rfl, hc2⟩ := st0.2 (by omega))
   | (go_at_call 114; refine (HSr.out _ cap2 _ st2 hA2).mono ?_; rintro e w3 ⟨rfl, x3⟩; have hc3 := x3.keep (hc2 p Hp.out).2))
  go_ret2
  rw [HP1.out]
  exact ⟨rfl, x1.trans (x2.trans x3)⟩
end Go.Proofs.YtfaplefkakpgcaaGreatDoor
/- Paths, what is made: plain. -/
namespace Go.Proofs.YtfaplefkakpgcaaGreatDoor
set_option linter.unusedVariables false
set_option linter.unusedSimpArgs false
def mayP (p : List UInt8) : Bool := decide (p.head? = some 47) && decide (p.length ≤ 200) && ((pathP p).all mayD && decide ((pathP p).length ≤ 8))
theorem mayP_head {p : List UInt8} (h : mayP p = true) : ∃ q, p = 47 :: q := by
 unfold mayP at h
 simp only [Bool.and_eq_true, decide_eq_true_eq] at h
 cases p with
 | nil => simp at h
 | cons c q => exact ⟨q, by have := h.1.1; simp at this; rw [this]⟩
end Go.Proofs.YtfaplefkakpgcaaGreatDoor
/- The walk of fs.may. -/
namespace Go.Proofs.YtfaplefkakpgcaaGreatDoor
set_option linter.unusedVariables false
set_option linter.unusedSimpArgs false
open Go.RowKit Go.Shelf
attribute [local go_sem] Oper.semAt_some
theorem take_all {l : List (List UInt8)} (k : Nat) : (∀ j, j < k → mayD (l.getD j []) = true) → l.length ≤ k → l.all mayD = true := fun h hk => by
 rw [List.all_eq_true]
 intro x hx
 obtain ⟨j, hj, rfl⟩ := List.getElem_of_mem hx
 have := h j (by omega)
 rwa [List.getD_eq_getElem?_getD, List.getElem?_eq_getElem hj] at this
theorem path_name (p : List UInt8) (x : Nat) : ((pathP p).getD x []).length ≤ p.length := by
 rw [List.getD_eq_getElem?_getD]
 cases h : (pathP p)[x]? with
 | none => simp
 | some y => exact (pathP_len p).2 y (List.mem_of_getElem? h)
set_option maxHeartbeats 4000000 in
set_option maxRecDepth 100000 in
theorem may_any (p : List UInt8) (w : World) (hp : p.length ≤ 100000000) :
  Calls Tryz.prog 56 #[.string (str p)] w fun e w' => e = .returned (.bool (mayP p)) ∧ Ext w w' := by
 have hz := str_size p
 have HH := Lib.hid (fun w => hasPrefix_any p w)
 have HN := Lib.hid (fun w => names_any (str p) w)
 have HMD := Lib.hid (fun x w => dmay_any ((pathP p).getD x []) w (by have := path_name p x; omega))
 have hpl := (pathP_len p).1
 have x0 : Ext w (w.alloc (.cells #[.bool false] 4)) := (Ext.refl w).alloc _
 have b2 := Box.new w 4 #[.bool false]
 have z0 : (w.alloc (.cells #[.bool false] 4)).heap.size = w.heap.size + 1 := World.size_alloc _ _
 by_cases h47 : p.head? = some 47
 case neg =>
  have d1 : decide (p.head? = some 47) = false := decide_eq_false h47
  rw [show mayP p = false by unfold mayP; rw [d1]; rfl]
  go_enter Tryz.func56, Tryz.ntmps56
  go_wp2_with (go_at_call 109; refine (HH.out _).mono ?_; rintro e w1 ⟨rfl, rfl⟩)
  refine bodyPost_ret (v := .bool false) ?_ rfl ⟨rfl, x0⟩
  have hc := b2.cell 0
  simp [results, Tryz.results56, go_sem, hc]
 case pos =>
  have d1 : decide (p.head? = some 47) = true := decide_eq_true h47
  by_cases hlen : 200 < p.length
  ·have hli : (200 : Int) < (p.length : Int) := by omega
   rw [show mayP p = false by unfold mayP; rw [decide_eq_false (show ¬ p.length ≤ 200 by omega)]; simp]
   go_enter Tryz.func56, Tryz.ntmps56
   go_wp2_with (go_at_call 109; refine (HH.out _).mono ?_; rintro e w1 ⟨rfl, rfl⟩)
   refine bodyPost_ret (v := .bool false) ?_ rfl ⟨rfl, x0⟩
   have hc := b2.cell 0
   simp [results, Tryz.results56, go_sem, hc]
  ·have hli : ¬ (200 : Int) < (p.length : Int) := by omega
   have b3 := Box.new (w.alloc (.cells #[.bool false] 4)) 3 #[.int .i64 0]
   have b4 := Box.new ((w.alloc (.cells #[.bool false] 4)).alloc (.cells #[.int .i64 0] 3)) 9 #[.string (str p)]
   have b2' := (b2.ext ((Ext.refl _).alloc (.cells #[.int .i64 0] 3))).ext ((Ext.refl _).alloc (.cells #[.string (str p)] 9))
   have b3' := b3.ext ((Ext.refl _).alloc (.cells #[.string (str p)] 9))
   have X := ((x0.alloc (.cells #[.int .i64 0] 3)).alloc (.cells #[.string (str p)] 9))
   clear b2 b3
   simp only [World.size_alloc] at b3' b4
   refine (callsIn_wide (n := 6)).1 ?_
   refine callsIn_of_wp_marks Tryz.func56 rfl trivial ?_ rfl
   simp only [Tryz.ntmps56, List.size_toArray, List.length_cons, List.length_nil, Nat.reduceAdd, Nat.reduceSub, Array.replicate_succ, Array.replicate_zero, List.push_toArray, List.append_toArray, List.nil_append, List.cons_append]
   refine wpIn_wide.2 ?_
   go_upto_region 4 with (go_at_call 109; refine (HH.out _).mono ?_; rintro e w1 ⟨rfl, rfl⟩)
   go_wp2_with (go_at_call 57; refine (HN.out _).mono ?_; rintro e w1 ⟨rfl, rfl⟩)
   refine (wpIn_wide (n := 6)).1 ?_
   gi_wp2_with fail
   generalize ((w.alloc (.cells #[.bool false] 4)).alloc (.cells #[.int .i64 0] 3)).alloc (.cells #[.string (str p)] 9) = w5 at *
   have hNS := names_stops 5 (by decide) (w.heap.size + 1 + 1) p w5 b4 h47
   have hMP := Lib.hid (show mayP p = ((pathP p).all mayD && decide ((pathP p).length ≤ 8)) by unfold mayP; rw [d1, decide_eq_true (show p.length ≤ 200 by omega)]; simp)
   have hAll := Lib.hid (fun h => take_all (l := pathP p) (pathP p).length h (Nat.le_refl _))
   have hNo : Hid (∀ y, y < (pathP p).length → mayD ((pathP p).getD y []) = false → (pathP p).all mayD = false) := fun y hy h => by
    rw [List.getD_eq_getElem?_getD, List.getElem?_eq_getElem hy] at h
    exact List.all_eq_false.2 ⟨_, List.getElem_mem hy, by simp only [Option.getD_some] at h; rw [h]; simp⟩
   clear x0 z0 HN HH
   have hN200 : (pathP p).length ≤ 200 := by omega
   have hlt5 : w.heap.size + 1 + 1 < w5.heap.size := b4.lt
   unfold nenc at hNS
   generalize (pathP p).all mayD = al at *
   generalize hf : (fun y => (pathP p).getD y []) = f at *
   have hf' : ∀ y, (pathP p).getD y [] = f y := fun y => by rw [← hf]
   simp only [hf'] at *
   generalize (pathP p).length = N at *
   clear hf hf'
   generalize hG : w.heap.size = G at *
   refine wpIn_rangeFunc_ownH rfl (by decide) (gf := 111) (lb := #[.pointer (some ⟨G + 1 + 1, 0, none⟩)]) rfl trivial (enters_of Tryz.func111 (by kernel_rfl) rfl)
    hNS KpB.trans KpB.book (Below.refl _ _) (fun _ => rfl)
    (fun pre W => Ext w W ∧ Box W G 4 #[.bool false] ∧ Box W (G + 1) 3 #[.int .i64 (pre.length : Int)] ∧ (∀ y ∈ pre, mayD (f y) = true) ∧ pre.length ≤ N)
    (fun c pre W => c = .ret ∧ Ext w W ∧ Box W G 4 #[.bool false] ∧ ∃ y ∈ pre, mayD (f y) = false)
    (OwnFrom.and (ext_own (by rw [hG]; omega)) (OwnFrom.and (Own.from (box_own _ _ _) _) (OwnFrom.and (Own.from (box_own _ _ _) _) (ownFrom_pure _ _))))
    (fun c => OwnFrom.and (ownFrom_pure _ _) (OwnFrom.and (ext_own (by rw [hG]; omega)) (OwnFrom.and (Own.from (box_own _ _ _) _) (ownFrom_pure _ _)))) ⟨X, b2', b3', by simp, Nat.zero_le _⟩
    (fun x a' W => a' = { tmps := #[.string (str p), undef, .pointer (some ⟨G, 0, none⟩), .pointer (some ⟨G + 1, 0, none⟩), .string (str (f x)), .string (str p), .bool true, .bool false, .bool false, .string (str p), .int .i64 (p.length : Int), .bool (decide ((200 : Int) < (p.length : Int))), .bool (decide ((200 : Int) < (p.length : Int))), .string (str p), .func (.func 111) #[] #[.pointer (some ⟨G + 1 + 1, 0, none⟩)], .string (str (f x)), undef, undef, undef, undef, undef, undef, undef], defers := [] })
    (fun x a' _ X Y row hs hg hr => hs) ?assign ?body ?done ?stop
   case assign =>
    rintro l pre x W K hi hK
    gi_wp2
    exact hK _ _ (keeps_ext (Ext.refl W)) (KpB.ext (Ext.refl W)) hi rfl
   case body =>
    rintro l pre x a' W hl0 ⟨r, hr⟩ ⟨i1, i2, i3, i4, i5⟩ rfl hltN
    have HD := Lib.hid (HMD.out x W)
    have hlen2 : pre.length ≤ 200 := by omega
    cases hm : mayD (f x) with
    | true =>
     rw [hm] at HD
     gi_wp2_with (first
      | (refine ⟨trivial, ?_⟩; gi_at_call 110; refine (CallsIn.inRound l (callsIn_wide.2 HD.out)).mono ?_; rintro e W2 ⟨rfl, x2⟩; have j3 := i3.ext x2; have c3 : W2.cell? ⟨G + 1, 0, none⟩ = some (.int .i64 (pre.length : Int)) := j3.cell 0; have c3f := j3.frozen 0))
     refine ⟨(keeps_ext x2).trans ((KeepsOthers.setCell _ _ _).from _), (KpB.ext x2).set ⟨G + 1, 0, none⟩ (by show G + 1 + 1 ≠ G + 1; omega) (by show G + 1 + 1 ≠ G + 1; omega) _, (i1.trans x2).setCell (p := ⟨G + 1, 0, none⟩) (by show w.heap.size ≤ G + 1; omega) _, (i2.ext x2).far (p := ⟨G + 1, 0, none⟩) (by show G ≠ G + 1; omega) _, ?_, ?_, by simp; omega⟩
     ·rw [show ((pre ++ [x]).length : Int) = (pre.length : Int) + 1 by simp]
      exact j3.set 0 _
     ·intro y hy
      rcases List.mem_append.1 hy with h | h
      ·exact i4 y h
      ·rw [List.mem_singleton.1 h]; exact hm
    | false =>
     rw [hm] at HD
     gi_wp2_with (first
      | (refine ⟨trivial, ?_⟩; gi_at_call 110; refine (CallsIn.inRound l (callsIn_wide.2 HD.out)).mono ?_; rintro e W2 ⟨rfl, x2⟩; have j2 := i2.ext x2; have c2 : W2.cell? ⟨G, 0, none⟩ = some (.bool false) := j2.cell 0; have c2f := j2.frozen 0))
     exact ⟨(keeps_ext x2).trans ((KeepsOthers.setCell _ _ _).from _), rfl, (i1.trans x2).setCell (p := ⟨G, 0, none⟩) (by show w.heap.size ≤ G; omega) _, j2.set 0 _, x, by simp, hm⟩
   case done =>
    rintro D ys W hD rfl ⟨i1, i2, i3, i4, i5⟩ hK
    rw [List.length_range] at i3
    have c3 : W.cell? ⟨G + 1, 0, none⟩ = some (.int .i64 (N : Int)) := i3.cell 0
    have c2 : W.cell? ⟨G, 0, none⟩ = some (.bool false) := i2.cell 0
    have c2f := i2.frozen 0
    gi_wp2_with fail
    have hle8 := Lib.hid (show decide ((N : Int) ≤ 8) = decide (N ≤ 8) from decide_eq_decide.2 (by omega))
    have hK' := (KeepsOthers.setCell W ⟨G, 0, none⟩ (.bool (decide ((N : Int) ≤ 8)))).same D _ hK rfl
    have k2 := (i2.set 0 (.bool (decide ((N : Int) ≤ 8)))).grown (grownBy_putObj' _ D (.deferred none)) (fun e => by injection e with e; omega)
    have hc5 := k2.cell 0
    go_wp2_with fail
    refine ⟨by simp, .inl ⟨_, _, rfl, run_takeDeferred hK', ?_⟩⟩
    refine ⟨.bool (decide ((N : Int) ≤ 8)), ?_, ?_, (i1.setCell (p := ⟨G, 0, none⟩) (by show w.heap.size ≤ G; omega) _).putObj (.deferred none) hK' (by omega)⟩
    ·simp at hc5
     simp [results, Tryz.results56, go_sem, hc5]
    ·rw [hMP.out, hAll.out (fun j hj => i4 j (List.mem_range.2 hj)), hle8.out]; rfl
   case stop =>
    rintro D c pre W hD ⟨k, hk, rfl⟩ ⟨rfl, h1, h2, y, hy, hm⟩ hK
    gi_wp2
    have k2 := h2.grown (grownBy_putObj' _ D (.deferred none)) (fun e => by injection e with e; omega)
    have hc5 := k2.cell 0
    refine ⟨by simp, .inl ⟨_, _, rfl, run_takeDeferred hK, ?_⟩⟩
    refine ⟨.bool false, ?_, ?_, h1.putObj (.deferred none) hK (by omega)⟩
    ·simp at hc5
     simp [results, Tryz.results56, go_sem, hc5]
    ·rw [hMP.out, hNo.out y (by have := List.mem_range.1 hy; omega) hm]; rfl
end Go.Proofs.YtfaplefkakpgcaaGreatDoor
/- The walk of fs.Find. -/
namespace Go.Proofs.YtfaplefkakpgcaaGreatDoor
set_option linter.unusedVariables false
set_option linter.unusedSimpArgs false
open Go.RowKit Go.Shelf
attribute [local go_sem] Oper.semAt_some
theorem box_ex {β γ : Type} (b : Nat) (t : TypeId) (g : γ → Array Value) (P : β → γ → Prop) : Own (fun (s : β) W => ∃ m, Box W b t (g m) ∧ P s m) := fun s X Y row hs hg hr => by
 obtain ⟨m, hb, hm⟩ := hs
 refine ⟨m, Box.grown hb hg (fun e => ?_), hm⟩
 obtain ⟨o, ho, hc⟩ := hr b e.symm
 rw [show X.heap[b]? = _ from hb] at ho
 cases ho; cases hc
theorem range_names (l : List (List UInt8)) (k : Nat) (h : k ≤ l.length) : (List.range k).map (fun y => l.getD y []) = l.take k := by
 apply List.ext_getElem
 ·simp; omega
 ·intro i h1 h2
  simp only [List.getElem_map, List.getElem_range, List.getElem_take]
  rw [List.getD_eq_getElem?_getD, List.getElem?_eq_getElem (by simp at h1; omega)]; rfl
end Go.Proofs.YtfaplefkakpgcaaGreatDoor
/- The walk of fs.Find, whatever dir.Find answers. -/
namespace Go.Proofs.YtfaplefkakpgcaaGreatDoor
set_option linter.unusedVariables false
set_option linter.unusedSimpArgs false
open Go.RowKit Go.Shelf
attribute [local go_sem] Oper.semAt_some
def stepsD (D : Int → List UInt8 → Int × Int) : Int → List (List UInt8) → Int × Int
 | n, [] => (n, 0)
 | n, x :: l => if (D n x).2 ≠ 0 then (0, (D n x).2) else stepsD D (D n x).1 l
def findD (D : Int → List UInt8 → Int × Int) (p : List UInt8) : Int × Int := if mayP p = false then (0, 7) else stepsD D 1 (pathP p)
def badD (_ : Int) (name : List UInt8) : Int × Int := if mayD name = false then (0, 7) else (0, 3)
theorem stepsD_snoc (dd : Int → List UInt8 → Int × Int) (l : List (List UInt8)) : ∀ (n m : Int) (x : List UInt8), stepsD dd n l = (m, 0) → stepsD dd n (l ++ [x]) = if (dd m x).2 ≠ 0 then (0, (dd m x).2) else ((dd m x).1, 0) := by
 induction l with
 | nil =>
  intro n m x h
  obtain rfl : n = m := by injection h
  simp only [List.nil_append, stepsD]
 | cons y l ih =>
  intro n m x h
  simp only [List.cons_append, stepsD] at h ⊢
  by_cases h0 : (dd n y).2 ≠ 0
  ·rw [if_pos h0] at h
   injection h with h1 h2
   exact absurd h2 h0
  ·rw [if_neg h0] at h ⊢
   exact ih _ _ _ h
theorem stepsD_stop (dd : Int → List UInt8 → Int × Int) (l b : List (List UInt8)) : ∀ (n : Int) (R : Int × Int), stepsD dd n l = R → R.2 ≠ 0 → stepsD dd n (l ++ b) = R := by
 induction l with
 | nil =>
  intro n R h hR
  exact absurd (by rw [← h]; rfl) hR
 | cons y l ih =>
  intro n R h hR
  simp only [List.cons_append, stepsD] at h ⊢
  by_cases h0 : (dd n y).2 ≠ 0
  ·rw [if_pos h0] at h ⊢; exact h
  ·rw [if_neg h0] at h ⊢
   exact ih _ _ h hR
set_option maxHeartbeats 4000000 in
set_option maxRecDepth 100000 in
theorem find_gen (dd : Int → List UInt8 → Int × Int) (A : Option Addr) (n c : Nat) (v : List (List UInt8)) (p : List UInt8) (w : World) (hv : Strs w A n v) (hd : ∀ k x w, Strs w A n v → x.length ≤ 1000000000 → Calls Tryz.prog 58 #[.slice A n c, .int .i64 k, .string (str x)] w fun e w' => e = .returned (.tuple #[.int .i64 (dd k x).1, .int .i64 (dd k x).2]) ∧ Ext w w') (hp : p.length ≤ 100000000) :
  Calls Tryz.prog 23 #[.slice A n c, .string (str p)] w fun e w' => e = .returned (.tuple #[.int .i64 (findD dd p).1, .int .i64 (findD dd p).2]) ∧ Ext w w' := by
 have HMy := Lib.hid (fun w => may_any p w hp)
 have HN := Lib.hid (fun w => names_any (str p) w)
 have HV := Lib.hid hv
 have HD := Lib.hid (fun k x w h => hd k ((pathP p).getD x []) w h (by have := path_name p x; omega))
 have hpl := (pathP_len p).1
 have b0 := Box.new w 22 #[.slice A n c]
 have b1 := Box.new (w.alloc (.cells #[.slice A n c] 22)) 3 #[.int .i64 0]
 have b2 := Box.new ((w.alloc (.cells #[.slice A n c] 22)).alloc (.cells #[.int .i64 0] 3)) 27 #[.int .i64 0]
 have b0' := (b0.ext ((Ext.refl _).alloc (.cells #[.int .i64 0] 3))).ext ((Ext.refl _).alloc (.cells #[.int .i64 0] 27))
 have b1' := b1.ext ((Ext.refl _).alloc (.cells #[.int .i64 0] 27))
 have X := ((((Ext.refl w).alloc (.cells #[.slice A n c] 22)).alloc (.cells #[.int .i64 0] 3)).alloc (.cells #[.int .i64 0] 27))
 clear b0 b1 hv hd
 simp only [World.size_alloc] at b1' b2
 cases hm : mayP p with
 | false =>
  rw [hm] at HMy
  have HP := Lib.hid (show findD dd p = (0, 7) by unfold findD; rw [hm]; rfl)
  go_enter Tryz.func23, Tryz.ntmps23
  go_upto_region 1 with fail
  generalize ((w.alloc (.cells #[.slice A n c] 22)).alloc (.cells #[.int .i64 0] 3)).alloc (.cells #[.int .i64 0] 27) = w3 at *
  go_wp2_with (go_at_call 56; refine (HMy.out _).mono ?_; rintro e w4 ⟨rfl, x4⟩; have d1 := b1'.ext x4; have d2 := b2.ext x4; have e1 : w4.cell? ⟨w.heap.size + 1, 0, none⟩ = some (.int .i64 0) := d1.cell 0; have e2 : w4.cell? ⟨w.heap.size + 1 + 1, 0, none⟩ = some (.int .i64 0) := d2.cell 0; have f1 := d1.frozen 0; have f2 := d2.frozen 0)
  have k1 := (d1.set 0 (.int .i64 0)).far (p := ⟨w.heap.size + 1 + 1, 0, none⟩) (by show w.heap.size + 1 ≠ w.heap.size + 1 + 1; omega) (.int .i64 7)
  have k2 := (d2.far (p := ⟨w.heap.size + 1, 0, none⟩) (by show w.heap.size + 1 + 1 ≠ w.heap.size + 1; omega) (.int .i64 0)).set 0 (.int .i64 7)
  have hc1 := k1.cell 0
  have hc2 := k2.cell 0
  refine bodyPost_ret (v := .tuple #[.int .i64 0, .int .i64 7]) ?_ rfl ⟨by rw [HP.out], ((X.trans x4).setCell (p := ⟨w.heap.size + 1, 0, none⟩) (by show w.heap.size ≤ w.heap.size + 1; omega) _).setCell (p := ⟨w.heap.size + 1 + 1, 0, none⟩) (by show w.heap.size ≤ w.heap.size + 1 + 1; omega) _⟩
  simp at hc1 hc2
  simp [results, Tryz.results23, go_sem, hc1, hc2]
 | true =>
  rw [hm] at HMy
  have h47 : p.head? = some 47 := by obtain ⟨q, rfl⟩ := mayP_head hm; rfl
  have HP := Lib.hid (show findD dd p = stepsD dd 1 (pathP p) by unfold findD; rw [hm]; rfl)
  refine (callsIn_wide (n := 6)).1 ?_
  refine callsIn_of_wp_marks Tryz.func23 rfl trivial ?_ rfl
  simp only [Tryz.ntmps23, List.size_toArray, List.length_cons, List.length_nil, Nat.reduceAdd, Nat.reduceSub, Array.replicate_succ, Array.replicate_zero, List.push_toArray, List.append_toArray, List.nil_append, List.cons_append]
  refine wpIn_wide.2 ?_
  go_upto_region 1 with fail
  generalize ((w.alloc (.cells #[.slice A n c] 22)).alloc (.cells #[.int .i64 0] 3)).alloc (.cells #[.int .i64 0] 27) = w3 at *
  go_upto_region 3 with (go_at_call 56; refine (HMy.out _).mono ?_; rintro e w4 ⟨rfl, x4⟩)
  have d0 := b0'.ext x4
  have d1 := b1'.ext x4
  have d2 := b2.ext x4
  have X4 := X.trans x4
  have b3 := Box.new w4 3 #[.int .i64 1]
  have b4 := Box.new (w4.alloc (.cells #[.int .i64 1] 3)) 9 #[.string (str p)]
  have b3' := b3.ext ((Ext.refl _).alloc (.cells #[.string (str p)] 9))
  have x5 : Ext w4 ((w4.alloc (.cells #[.int .i64 1] 3)).alloc (.cells #[.string (str p)] 9)) := ((Ext.refl w4).alloc _).alloc _
  have e0 := d0.ext x5
  have e1 := d1.ext x5
  have e2 := d2.ext x5
  have X5 := X4.trans x5
  have h24 := d2.lt
  clear b0' b1' b2 d0 d1 d2 b3 X X4 x4 HMy
  simp only [World.size_alloc] at b4
  go_upto_region 4 with fail
  go_wp2_with (go_at_call 57; refine (HN.out _).mono ?_; rintro e w1 ⟨rfl, rfl⟩)
  refine (wpIn_wide (n := 6)).1 ?_
  gi_wp2_with fail
  generalize hw5 : (w4.alloc (.cells #[.int .i64 1] 3)).alloc (.cells #[.string (str p)] 9) = w5 at *
  have hz5 : w5.heap.size = w4.heap.size + 1 + 1 := by rw [← hw5, World.size_alloc, World.size_alloc]
  clear hw5 x5 HN
  have hNS := names_stops 5 (by decide) (w4.heap.size + 1) p w5 b4 h47
  have hRN := Lib.hid (range_names (pathP p))
  have hTk := Lib.hid (fun k => List.take_append_drop k (pathP p))
  have hSt := Lib.hid (fun k (R : Int × Int) (h : stepsD dd 1 ((pathP p).take k) = R) (h0 : R.2 ≠ 0) => stepsD_stop dd ((pathP p).take k) ((pathP p).drop k) 1 R h h0)
  have hSn := Lib.hid (fun l m x => stepsD_snoc dd l 1 m x)
  unfold nenc at hNS
  generalize hf : (fun y => (pathP p).getD y []) = f at *
  have hf' : ∀ y, (pathP p).getD y [] = f y := fun y => by rw [← hf]
  simp only [hf'] at *
  generalize hLp : pathP p = L at *
  clear hf hf' hLp
  have hG4 : w.heap.size + 1 + 1 < w4.heap.size := h24
  have hGG : w.heap.size ≤ w5.heap.size := X5.size
  generalize hG : w.heap.size = G at *
  generalize w4.heap.size = E at *
  refine wpIn_rangeFunc_ownH rfl (by decide) (gf := 111) (lb := #[.pointer (some ⟨E + 1, 0, none⟩)]) rfl trivial (enters_of Tryz.func111 (by kernel_rfl) rfl)
   hNS KpB.trans KpB.book (Below.refl _ _) (fun _ => rfl)
   (fun pre W => Ext w W ∧ Box W G 22 #[.slice A n c] ∧ Box W (G + 1) 3 #[.int .i64 0] ∧ Box W (G + 1 + 1) 27 #[.int .i64 0] ∧ ∃ m, Box W E 3 #[.int .i64 m] ∧ stepsD dd 1 (pre.map f) = (m, 0))
   (fun cc pre W => cc = .ret ∧ Ext w W ∧ Box W (G + 1) 3 #[.int .i64 0] ∧ ∃ r, Box W (G + 1 + 1) 27 #[.int .i64 r] ∧ r ≠ 0 ∧ stepsD dd 1 (pre.map f) = (0, r))
   (OwnFrom.and (ext_own (by rw [hG]; omega)) (OwnFrom.and (Own.from (box_own _ _ _) _) (OwnFrom.and (Own.from (box_own _ _ _) _) (OwnFrom.and (Own.from (box_own _ _ _) _) (Own.from (box_ex _ _ (fun m => #[.int .i64 m]) (fun (pre : List Nat) (m : Int) => stepsD dd 1 (pre.map f) = (m, 0))) _)))))
   (fun cc => OwnFrom.and (ownFrom_pure _ _) (OwnFrom.and (ext_own (by rw [hG]; omega)) (OwnFrom.and (Own.from (box_own _ _ _) _) (Own.from (box_ex _ _ (fun r => #[.int .i64 r]) (fun (pre : List Nat) (r : Int) => r ≠ 0 ∧ stepsD dd 1 (pre.map f) = (0, r))) _)))) ⟨X5, e0, e1, e2, 1, b3', rfl⟩
   (fun x a' W => a' = { tmps := #[.slice A n c, .string (str p), .pointer (some ⟨G, 0, none⟩), undef, .pointer (some ⟨G + 1, 0, none⟩), .pointer (some ⟨G + 1 + 1, 0, none⟩), .pointer (some ⟨E, 0, none⟩), .string (str (f x)), undef, undef, .string (str p), .bool true, .bool false, .string (str p), .func (.func 111) #[] #[.pointer (some ⟨E + 1, 0, none⟩)], .string (str (f x)), undef, undef, undef, undef, undef, undef, undef, undef, undef, undef, undef, undef], defers := [] })
   (fun x a' _ X Y row hs hg hr => hs) ?assign ?body ?done ?stop
  case assign =>
   rintro l pre x W K hi hK
   gi_wp2
   exact hK _ _ (keeps_ext (Ext.refl W)) (KpB.ext (Ext.refl W)) hi rfl
  case body =>
   rintro l pre x a' W hl0 ⟨r, hr⟩ ⟨i1, i2, i3, i4, m, i5, hst⟩ rfl hltN
   have HDx := Lib.hid (HD.out m x W (HV.out.ext i1))
   have hsn := Lib.hid (hSn.out (pre.map f) m (f x) hst)
   have c0 : W.cell? ⟨G, 0, none⟩ = some (.slice A n c) := i2.cell 0
   have c6 : W.cell? ⟨E, 0, none⟩ = some (.int .i64 m) := i5.cell 0
   generalize dd m (f x) = R at *
   by_cases h0 : R.2 = 0
   ·rw [if_neg (fun h => h h0)] at hsn
    rw [h0] at HDx
    gi_wp2_with (first
     | (refine ⟨trivial, ?_⟩; gi_at_call 58; refine (CallsIn.inRound l (callsIn_wide.2 HDx.out)).mono ?_; rintro e W2 ⟨rfl, x2⟩; have j5 := i5.ext x2; have c5 : W2.cell? ⟨E, 0, none⟩ = some (.int .i64 m) := j5.cell 0; have c5f := j5.frozen 0))
    refine ⟨(keeps_ext x2).trans ((KeepsOthers.setCell _ _ _).from _), (KpB.ext x2).set ⟨E, 0, none⟩ (by show E + 1 ≠ E; omega) (by show E + 1 ≠ E; omega) _, (i1.trans x2).setCell (p := ⟨E, 0, none⟩) (by show w.heap.size ≤ E; omega) _, (i2.ext x2).far (p := ⟨E, 0, none⟩) (by show G ≠ E; omega) _, (i3.ext x2).far (p := ⟨E, 0, none⟩) (by show G + 1 ≠ E; omega) _, (i4.ext x2).far (p := ⟨E, 0, none⟩) (by show G + 1 + 1 ≠ E; omega) _, R.1, j5.set 0 _, ?_⟩
    rw [List.map_append]
    exact hsn.out
   ·have d0 : (R.2 != 0) = true := by simpa using h0
    rw [if_pos h0] at hsn
    gi_wp2_with (first
     | (refine ⟨trivial, ?_⟩; gi_at_call 58; refine (CallsIn.inRound l (callsIn_wide.2 HDx.out)).mono ?_; rintro e W2 ⟨rfl, x2⟩; have j3 := i3.ext x2; have j4 := i4.ext x2; have c3 : W2.cell? ⟨G + 1, 0, none⟩ = some (.int .i64 0) := j3.cell 0; have c3f := j3.frozen 0; have c4 : W2.cell? ⟨G + 1 + 1, 0, none⟩ = some (.int .i64 0) := j4.cell 0; have c4f := j4.frozen 0))
    refine ⟨((keeps_ext x2).trans ((KeepsOthers.setCell _ _ _).from _)).trans ((KeepsOthers.setCell _ _ _).from _), rfl, ((i1.trans x2).setCell (p := ⟨G + 1, 0, none⟩) (by show w.heap.size ≤ G + 1; omega) _).setCell (p := ⟨G + 1 + 1, 0, none⟩) (by show w.heap.size ≤ G + 1 + 1; omega) _, (j3.set 0 _).far (p := ⟨G + 1 + 1, 0, none⟩) (by show G + 1 ≠ G + 1 + 1; omega) _, R.2, (j4.far (p := ⟨G + 1, 0, none⟩) (by show G + 1 + 1 ≠ G + 1; omega) _).set 0 _, h0, ?_⟩
    rw [List.map_append]
    exact hsn.out
  case done =>
   rintro D ys W hD rfl ⟨i1, i2, i3, i4, m, i5, hst⟩ hK
   have c5 : W.cell? ⟨E, 0, none⟩ = some (.int .i64 m) := i5.cell 0
   have c3 : W.cell? ⟨G + 1, 0, none⟩ = some (.int .i64 0) := i3.cell 0
   have c3f := i3.frozen 0
   have c4 : W.cell? ⟨G + 1 + 1, 0, none⟩ = some (.int .i64 0) := i4.cell 0
   have c4f := i4.frozen 0
   gi_wp2_with fail
   go_wp2_with fail
   have hK1 := (KeepsOthers.setCell W ⟨G + 1, 0, none⟩ (.int .i64 m)).same D _ hK rfl
   have hK' := (KeepsOthers.setCell (W.setCell ⟨G + 1, 0, none⟩ (.int .i64 m)) ⟨G + 1 + 1, 0, none⟩ (.int .i64 0)).same D _ hK1 rfl
   have k1 := ((i3.set 0 (.int .i64 m)).far (p := ⟨G + 1 + 1, 0, none⟩) (by show G + 1 ≠ G + 1 + 1; omega) (.int .i64 0)).grown (grownBy_putObj' _ D (.deferred none)) (fun e => by injection e with e; omega)
   have k2 := ((i4.far (p := ⟨G + 1, 0, none⟩) (by show G + 1 + 1 ≠ G + 1; omega) (.int .i64 m)).set 0 (.int .i64 0)).grown (grownBy_putObj' _ D (.deferred none)) (fun e => by injection e with e; omega)
   have hc1 := k1.cell 0
   have hc2 := k2.cell 0
   refine ⟨by simp, .inl ⟨_, _, rfl, run_takeDeferred hK', ?_⟩⟩
   refine ⟨.tuple #[.int .i64 m, .int .i64 0], ?_, ?_, ((i1.setCell (p := ⟨G + 1, 0, none⟩) (by show w.heap.size ≤ G + 1; omega) _).setCell (p := ⟨G + 1 + 1, 0, none⟩) (by show w.heap.size ≤ G + 1 + 1; omega) _).putObj (.deferred none) hK' (by omega)⟩
   ·simp at hc1 hc2
    simp [results, Tryz.results23, go_sem, hc1, hc2]
   ·rw [hRN.out _ (Nat.le_refl _), List.take_length] at hst
    rw [HP.out, hst]
  case stop =>
   rintro D cc pre W hD ⟨k, hk, rfl⟩ ⟨rfl, h1, h2, r, h3, h4, h5⟩ hK
   gi_wp2
   have k1 := h2.grown (grownBy_putObj' _ D (.deferred none)) (fun e => by injection e with e; omega)
   have k2 := h3.grown (grownBy_putObj' _ D (.deferred none)) (fun e => by injection e with e; omega)
   have hc1 := k1.cell 0
   have hc2 := k2.cell 0
   refine ⟨by simp, .inl ⟨_, _, rfl, run_takeDeferred hK, ?_⟩⟩
   refine ⟨.tuple #[.int .i64 0, .int .i64 r], ?_, ?_, h1.putObj (.deferred none) hK (by omega)⟩
   ·simp at hc1 hc2
    simp [results, Tryz.results23, go_sem, hc1, hc2]
   ·rw [hRN.out _ hk] at h5
    have := hSt.out k _ h5 h4
    rw [hTk.out] at this
    rw [HP.out, this]
end Go.Proofs.YtfaplefkakpgcaaGreatDoor
/- Directories, files and paths where there is no volume; fs.Read at any place. -/
namespace Go.Proofs.YtfaplefkakpgcaaGreatDoor
set_option linter.unusedVariables false
set_option linter.unusedSimpArgs false
open Go.RowKit Go.Shelf
set_option maxHeartbeats 1000000 in
set_option maxRecDepth 100000 in
theorem dlist_none (A : Option Addr) (n c : Nat) (v : List (List UInt8)) (k : Int) (w : World) (hv : Strs w A n v) (hn : n ≤ 9223372036854775807) (hb : ∀ I, ¬ Good v I) :
  Calls Tryz.prog 107 #[.slice A n c, .int .i64 k] w fun e w' => e = .returned (.tuple #[.slice none 0 0, .int .i64 3]) ∧ Ext w w' := by
 have HG := Lib.hid (fun w h => iget_bad A n c v k w h hn hb)
 go_enter Tryz.func107, Tryz.ntmps107
 go_wp2_with (first
  | (go_at_call 69; refine (HG.out _ hv).mono ?_; rintro e w1 ⟨rfl, x1⟩)
  | (refine wp_st_ino (.tmp 6) (.tmp 15) rfl rfl w1.heap.size _ zero12 121 rfl rfl (Box.new _ _ _) rfl rfl ?_; intro w2 b2 g2))
 go_ret2
 exact ⟨rfl, (x1.alloc _).grown g2 (fun k e => by cases e; exact x1.size)⟩
set_option maxHeartbeats 1000000 in
set_option maxRecDepth 100000 in
theorem dfind_none (A : Option Addr) (n c : Nat) (v : List (List UInt8)) (k : Int) (name : List UInt8) (w : World) (hv : Strs w A n v) (hn : n ≤ 9223372036854775807) (hb : ∀ I, ¬ Good v I) (hnl : name.length ≤ 1000000000) :
  Calls Tryz.prog 58 #[.slice A n c, .int .i64 k, .string (str name)] w fun e w' => e = .returned (.tuple #[.int .i64 (badD k name).1, .int .i64 (badD k name).2]) ∧ Ext w w' := by
 have HM := Lib.hid (fun w => dmay_any name w hnl)
 have HL := Lib.hid (fun w h => dlist_none A n c v k w h hn hb)
 unfold badD
 cases hm : mayD name with
 | false =>
  rw [hm] at HM
  go_enter Tryz.func58, Tryz.ntmps58
  go_wp2_with (go_at_call 110; refine (HM.out _).mono ?_; rintro e w1 ⟨rfl, x1⟩)
  go_ret2
  exact ⟨rfl, x1⟩
 | true =>
  rw [hm] at HM
  go_enter Tryz.func58, Tryz.ntmps58
  go_wp2_with (first
   | (go_at_call 110; refine (HM.out _).mono ?_; rintro e w1 ⟨rfl, x1⟩)
   | (go_at_call 107; refine (HL.out _ (hv.ext x1)).mono ?_; rintro e w2 ⟨rfl, x2⟩))
  go_ret2
  exact ⟨rfl, x1.trans x2⟩
def findX (v : List (List UInt8)) (I : Option Int) (p : List UInt8) : Int × Int := match I with
 | some I => findD (dfindP v I) p
 | none => findD badD p
def GoodX (v : List (List UInt8)) : Option Int → Prop
 | some I => Good v I
 | none => ∀ I, ¬ Good v I
theorem goodX (v : List (List UInt8)) : ∃ I, GoodX v I := by
 by_cases h : ∃ I, Good v I
 ·obtain ⟨I, h⟩ := h; exact ⟨some I, h⟩
 ·exact ⟨none, fun I hI => h ⟨I, hI⟩⟩
theorem findX_any (A : Option Addr) (n c : Nat) (v : List (List UInt8)) (I : Option Int) (p : List UInt8) (w : World) (hv : Strs w A n v) (hn : n ≤ 9223372036854775807) (hg : GoodX v I) (hp : p.length ≤ 100000000) :
  Calls Tryz.prog 23 #[.slice A n c, .string (str p)] w fun e w' => e = .returned (.tuple #[.int .i64 (findX v I p).1, .int .i64 (findX v I p).2]) ∧ Ext w w' := by
 cases I with
 | some I => exact find_gen (dfindP v I) A n c v p w hv (fun k x w h hx => dfind_any A n c v I k x w h hg hx) hp
 | none => exact find_gen badD A n c v p w hv (fun k x w h hx => dfind_none A n c v k x w h hn hg hx) hp
end Go.Proofs.YtfaplefkakpgcaaGreatDoor
/- The walk through a volume's directories: plain. -/
namespace Go.Proofs.YtfaplefkakpgcaaGreatDoor
set_option linter.unusedVariables false
set_option linter.unusedSimpArgs false
structure WalkS where
 paths : List (List UInt8)
 gone : List Int
def isDirP (v : List (List UInt8)) (I n : Int) : Bool := decide (1 ≤ n ∧ n ≤ I) && decide ((inoAt v n).getD 0 0 = 2)
def stepW (v : List (List UInt8)) (I : Int) (path : List UInt8) (k : Option (WalkS → Int → List UInt8 → WalkS)) (s : WalkS) (x : Ent) : WalkS :=
 match k with
 | none => ⟨s.paths ++ [path ++ 47 :: x.1], s.gone⟩
 | some f => if isDirP v I x.2 && !s.gone.contains x.2 then f ⟨s.paths ++ [path ++ 47 :: x.1], s.gone⟩ x.2 (path ++ 47 :: x.1) else ⟨s.paths ++ [path ++ 47 :: x.1], s.gone⟩
def intoP (v : List (List UInt8)) (I : Int) : Nat → WalkS → Int → List UInt8 → WalkS
 | 0, s, n, path => (dlistP v I n).1.foldl (stepW v I path none) ⟨s.paths, s.gone ++ [n]⟩
 | r + 1, s, n, path => (dlistP v I n).1.foldl (stepW v I path (some (intoP v I r))) ⟨s.paths, s.gone ++ [n]⟩
def walkP (v : List (List UInt8)) (I : Int) : List (List UInt8) := (intoP v I 7 ⟨[], []⟩ 1 []).paths
def leftW (g : List Int) : Nat := (List.range 65).countP fun i : Nat => !g.contains (i : Int)
def potW (s : WalkS) : Nat := s.paths.length + 280 * leftW s.gone
theorem count_lt {α : Type} {p q : α → Bool} {l : List α} (h : ∀ x ∈ l, q x = true → p x = true) {a : α} (ha : a ∈ l) (h1 : p a = true) (h2 : q a = false) : l.countP q + 1 ≤ l.countP p := by
 induction l with
 | nil => exact absurd ha List.not_mem_nil
 | cons y l ih =>
  have hle : l.countP q ≤ l.countP p := List.countP_mono_left fun x hx => h x (List.mem_cons_of_mem _ hx)
  rcases List.mem_cons.1 ha with rfl | ha
  ·rw [List.countP_cons_of_pos h1, List.countP_cons_of_neg (by rw [h2]; simp)]; omega
  ·have ih := ih (fun x hx => h x (List.mem_cons_of_mem _ hx)) ha
   by_cases hq : q y = true
   ·rw [List.countP_cons_of_pos hq, List.countP_cons_of_pos (h y List.mem_cons_self hq)]; omega
   ·rw [List.countP_cons_of_neg hq, List.countP_cons]; omega
theorem left_in {g : List Int} {n : Int} (hn : n ∉ g) (h0 : 0 ≤ n) (h1 : n ≤ 64) : leftW (g ++ [n]) + 1 ≤ leftW g := by
 unfold leftW
 refine count_lt (a := n.toNat) (fun i _ hq => ?_) (List.mem_range.2 (by omega)) ?_ ?_
 ·simp at hq ⊢; exact hq.1
 ·rw [show ((n.toNat : Nat) : Int) = n by omega]; simpa using hn
 ·rw [show ((n.toNat : Nat) : Int) = n by omega]; simp
theorem pot_in {s : WalkS} {n : Int} (hn : n ∉ s.gone) (h0 : 0 ≤ n) (h1 : n ≤ 64) : potW ⟨s.paths, s.gone ++ [n]⟩ + 280 ≤ potW s := by
 have := left_in hn h0 h1
 unfold potW
 simp only
 omega
theorem pot_step {v : List (List UInt8)} {I : Int} {path : List UInt8} {k : Option (WalkS → Int → List UInt8 → WalkS)}
  (hk : ∀ f, k = some f → ∀ s n p, n ∉ s.gone → 0 ≤ n → n ≤ 64 → potW (f s n p) ≤ potW s) {s : WalkS} {x : Ent} (hI : I ≤ 64) : potW (stepW v I path k s x) ≤ potW s + 1 := by
 have h1 : potW ⟨s.paths ++ [path ++ 47 :: x.1], s.gone⟩ = potW s + 1 := by unfold potW; simp; omega
 unfold stepW
 cases k with
 | none => exact Nat.le_of_eq h1
 | some f =>
  simp only
  split
  ·rename_i c
   rw [Bool.and_eq_true] at c
   have c1 := c.1
   unfold isDirP at c1
   simp at c1
   refine Nat.le_trans (hk f rfl _ _ _ ?_ (by omega) (by omega)) (Nat.le_of_eq h1)
   simpa using c.2
  ·exact Nat.le_of_eq h1
theorem pot_fold {v : List (List UInt8)} {I : Int} {path : List UInt8} {k : Option (WalkS → Int → List UInt8 → WalkS)}
  (hk : ∀ f, k = some f → ∀ s n p, n ∉ s.gone → 0 ≤ n → n ≤ 64 → potW (f s n p) ≤ potW s) (hI : I ≤ 64) (l : List Ent) : ∀ s, potW (l.foldl (stepW v I path k) s) ≤ potW s + l.length := by
 induction l with
 | nil => intro s; exact Nat.le_refl _
 | cons x l ih =>
  intro s
  rw [List.foldl_cons, List.length_cons]
  have := ih (stepW v I path k s x)
  have := pot_step (v := v) (path := path) hk (s := s) (x := x) hI
  omega
theorem pot_into {v : List (List UInt8)} {I : Int} (hI : I ≤ 64) (r : Nat) : ∀ s n p, n ∉ s.gone → 0 ≤ n → n ≤ 64 → potW (intoP v I r s n p) ≤ potW s := by
 induction r with
 | zero =>
  intro s n p hn h0 h1
  have e1 := pot_in hn h0 h1
  have e2 := pot_fold (v := v) (I := I) (path := p) (k := none) (fun f e => by cases e) hI (dlistP v I n).1 ⟨s.paths, s.gone ++ [n]⟩
  have e3 := dlist_len v I n
  unfold intoP
  omega
 | succ r ih =>
  intro s n p hn h0 h1
  have e1 := pot_in hn h0 h1
  have e2 := pot_fold (v := v) (I := I) (path := p) (k := some (intoP v I r)) (fun f e => by cases e; exact ih) hI (dlistP v I n).1 ⟨s.paths, s.gone ++ [n]⟩
  have e3 := dlist_len v I n
  unfold intoP
  omega
theorem pot_nil : potW ⟨[], []⟩ = 18200 := rfl
end Go.Proofs.YtfaplefkakpgcaaGreatDoor
