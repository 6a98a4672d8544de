/- The walk of dir.search. -/
import Derived.Test.YtnoofjddikhopaaGreatFa19
import Derived.Test.YtnoofjddikhopaaGreatFa22
import Derived.Test.YtnoofjddikhopaaGreatFa18
import Derived.Test.YtnoofjddikhopaaGreatFa3
namespace Go.Proofs.YtnoofjddikhopaaGreat
set_option linter.unusedVariables false
set_option linter.unusedSimpArgs false
open Go.RowKit Go.Lib Go.Sort Go.Shelf
theorem countP_lt (n m : Nat) (h : m ≤ n) : (List.range n).countP (fun i => decide (i < m)) = m := by
  induction n generalizing m with
  | zero => simp; omega
  | succ n ih =>
    rw [List.range_succ, List.countP_append]
    by_cases e : m = n + 1
    · subst e
      rw [List.countP_eq_length.2 (fun a ha => by rw [List.mem_range] at ha; simp; omega)]
      simp
    · rw [ih m (by omega)]; simp; omega
theorem posE_count {l : List Ent} (hl : l.Pairwise fun a b => ltB a.1 b.1 = true) (name : List UInt8) : (List.range l.length).countP (fun i => !(!ltB (l.getD i ([], 0)).1 name)) = posE l name := by
  rw [← countP_lt l.length (posE l name) (posE_le l name)]
  refine List.countP_congr fun i hi => ?_
  rw [List.mem_range] at hi
  rw [List.getD_eq_getElem?_getD, List.getElem?_eq_getElem hi]
  simp only [Option.getD_some, Bool.not_not, decide_eq_true_eq]
  by_cases h : i < posE l name
  · exact ⟨fun _ => h, fun _ => posE_lt h hi⟩
  · refine ⟨fun h2 => ?_, fun h2 => absurd h2 h⟩
    rw [posE_ge hl (by omega) hi] at h2; cases h2
set_option maxHeartbeats 2000000 in
theorem dclosure_any (ba bx b o c n : Nat) (y name : List UInt8) (i : Nat) (W : World) (hi : i < n)
    (ha : W.cell? ⟨ba, 0, none⟩ = some (.slice (some ⟨b, o, none⟩) n c)) (hx : W.cell? ⟨bx, 0, none⟩ = some (.string (str name))) (hc : W.cell? ⟨b, o + i * 2, none⟩ = some (.string (str y))) :
    Calls Tryz.prog 90 (#[.int .i64 i] ++ #[.pointer (some ⟨ba, 0, none⟩), .pointer (some ⟨bx, 0, none⟩)]) W fun e w' => e = .returned (.bool (!ltB y name)) ∧ ∃ q, w' = W.drewN q := by
  have hiz : (i : Int) < (n : Int) := by omega
  have hl : Op.bytesLess (str y).toList (str name).toList = ltB y name := by rw [str_toList, str_toList]
  generalize ltB y name = r at *
  go_enter Tryz.func90, Tryz.ntmps90
  go_wp2
  go_region
  all_goals go_wp2
  all_goals go_ret
  all_goals exact ⟨by first | rfl | simp, 1, rfl⟩
theorem grow_ext (w : World) (q : Nat) (os : Array Obj) : Ext w (grow (w.drewN q) os) := below_grown_sl w.heap.size w q os (Nat.le_refl _)
set_option maxHeartbeats 2000000 in
set_option maxRecDepth 100000 in
theorem dsearch_any (A : Option Addr) (n c : Nat) (l : List Ent) (name : List UInt8) (w : World) (hs : Ents w A n l) (hn : n ≤ 1000) (hl : l.Pairwise fun a b => ltB a.1 b.1 = true) (hA : ∀ b o, A = some ⟨b, o, none⟩ → 0 < n → b < w.heap.size) :
    Calls Tryz.prog 46 #[.slice A n c, .string (str name)] w fun e w' => e = .returned (.tuple #[.int .i64 (posE l name : Int), .bool (hasE l name)]) ∧ Ext w w' := by
  obtain ⟨W0, hW0⟩ : ∃ W0, W0 = (w.alloc (.cells #[.slice A n c] 64)).alloc (.cells #[.string (str name)] 9) := ⟨_, rfl⟩
  have x0 : Ext w W0 := by rw [hW0]; exact ((Ext.refl w).alloc _).alloc _
  have hsize : W0.heap.size = w.heap.size + 1 + 1 := by rw [hW0]; simp
  have ca : W0.cell? ⟨w.heap.size, 0, none⟩ = some (.slice A n c) := by rw [hW0]; exact cell_alloc_sl _ (cell_new_sl w _ _)
  have cx : W0.cell? ⟨w.heap.size + 1, 0, none⟩ = some (.string (str name)) := by rw [hW0]; have := cell_new_sl (w.alloc (.cells #[.slice A n c] 64)) (.string (str name)) 9; rwa [World.size_alloc] at this
  have eg : ∀ args w, (callFunc 90 args).run Tryz.prog w = .ok (.enter 90 args) w := enters_of Tryz.func90 (by kernel_rfl) rfl
  have h0 := hs.ext x0
  obtain rfl := hs.1
  have hS := Any.sort_Search Tryz.search 90 #[.pointer (some ⟨w.heap.size, 0, none⟩), .pointer (some ⟨w.heap.size + 1, 0, none⟩)] l.length (fun i => !ltB (l.getD i ([], 0)).1 name) W0 eg (by omega)
    (fun m os i hi => by
      obtain ⟨b, o, rfl, hcell⟩ := h0.2 (by omega)
      have hb := hA b o rfl (by omega)
      have hcc := (hcell i hi).1
      have hgd : l.getD i ([], 0) = l[i] := by rw [List.getD_eq_getElem?_getD, List.getElem?_eq_getElem hi]; rfl
      simp only [hgd]
      exact (dclosure_any w.heap.size (w.heap.size + 1) b o c l.length l[i].1 name i _ hi (cell_grown (by simp [hsize]; omega) ca m os) (cell_grown (by simp [hsize]) cx m os) (cell_grown (by simp [hsize]; omega) hcc m os)).mono
        fun _ _ ⟨he, q, hq⟩ => ⟨he, q, #[], by rw [hq, grow_empty]⟩)
    (fun a b hab hb h => by
      have ha : a < l.length := by omega
      simp only [List.getD_eq_getElem?_getD, List.getElem?_eq_getElem ha, List.getElem?_eq_getElem hb, Option.getD_some] at h ⊢
      rw [Bool.not_eq_true'] at h ⊢
      by_cases e : posE l name ≤ a
      · exact posE_ge hl (by omega) hb
      · rw [posE_lt (by omega) ha] at h; cases h)
  rw [posE_count hl] at hS
  change Calls Tryz.prog 89 _ _ _ at hS
  have hple := posE_le l name
  have HS := Lib.hid hS
  have HH : Hid (hasE l name = (decide (posE l name < l.length) && decide ((l.getD (posE l name) ([], 0)).1 = name))) := rfl
  have h1 := h0.2
  clear hS hs hA eg hl
  generalize posE l name = p at *
  go_enter Tryz.func46, Tryz.ntmps46
  go_upto_region 2 with (go_at_call 89; rw [← hW0]; refine HS.out.mono ?_; rintro e w1 ⟨rfl, q, os, hw1⟩; have xg : Ext W0 w1 := (by rw [hw1]; exact grow_ext W0 q os); clear hw1)
  have ka : ∀ y : Later w1, y.now.cell? ⟨w.heap.size, 0, none⟩ = some (.slice A l.length c) := fun y => (xg.trans y.ext).keep ca
  have kx : ∀ y : Later w1, y.now.cell? ⟨w.heap.size + 1, 0, none⟩ = some (.string (str name)) := fun y => (xg.trans y.ext).keep cx
  have X1 := Lib.hid (x0.trans xg)
  clear ca cx HS h0 hW0 hsize
  by_cases hp : p < l.length
  · obtain ⟨b, o, rfl, hcell⟩ := h1 (by omega)
    have hgd : l.getD p ([], 0) = l[p] := by rw [List.getD_eq_getElem?_getD, List.getElem?_eq_getElem hp]; rfl
    have k2 : ∀ y : Later w1, y.now.cell? ⟨b, o + p * 2, none⟩ = some (.string (str l[p].1)) := fun y => (xg.trans y.ext).keep (hcell p hp).1
    have HV := Lib.hid (show hasE l name = decide (l[p].1 = name) by rw [HH.out, hgd, decide_eq_true hp]; rfl)
    have hpi : (p : Int) < (l.length : Int) := by omega
    have hpd : decide ((p : Int) < (l.length : Int)) = true := decide_eq_true hpi
    have hbq : ((str l[p].1).toList == (str name).toList) = decide (l[p].1 = name) := by rw [str_toList, str_toList, Bool.eq_iff_iff]; simp
    clear hcell h1 xg hgd HH
    generalize l[p].1 = y at *
    refine wp_region_later (by kernel_rfl) (by kernel_rfl) ?_
    repeat (go_big_quiet_step (fail))
    refine wpQuiet_nil ?_
    rintro w5 ⟨y, rfl⟩
    go_wp2_with fail
    go_ret2
    exact ⟨by rw [HV.out]; rfl, X1.out.trans y.ext⟩
  · have HV := Lib.hid (show hasE l name = false by rw [HH.out, decide_eq_false hp]; rfl)
    have hpd : decide ((p : Int) < (l.length : Int)) = false := decide_eq_false (by omega)
    clear h1 xg HH
    refine wp_region_later (by kernel_rfl) (by kernel_rfl) ?_
    repeat (go_big_quiet_step (fail))
    refine wpQuiet_nil ?_
    rintro w5 ⟨y, rfl⟩
    go_wp2_with fail
    go_ret2
    exact ⟨by rw [HV.out]; rfl, X1.out.trans y.ext⟩
end Go.Proofs.YtnoofjddikhopaaGreat
/- The walks of fs.names and fs.split. -/
namespace Go.Proofs.YtnoofjddikhopaaGreat
set_option linter.unusedVariables false
set_option linter.unusedSimpArgs false
open Go.RowKit Go.Shelf
attribute [local go_sem] Oper.semAt_some
theorem hasPrefix_any (s : List UInt8) (w : World) : Calls Tryz.prog 41 #[.string (str s), .string ⟨#[47]⟩] w fun e w' => e = .returned (.bool (decide (s.head? = some 47))) ∧ w' = w := by
  have h := Any.strings_HasPrefix Tryz.lays99 (str s) ⟨#[47]⟩ w
  rw [show Lib.hasPrefix (str s).data.toList (⟨#[47]⟩ : ByteArray).data.toList = decide (s.head? = some 47) from by
    rw [show (str s).data.toList = s from rfl]
    cases s with
    | nil => rfl
    | cons c s =>
      show (47 == c && true) = _
      rw [Bool.and_true]
      by_cases h : c = 47
      · subst h; rfl
      · exact (beq_eq_false_iff_ne.2 (Ne.symm h)).trans (decide_eq_false (fun e => h (Option.some.inj e))).symm] at h
  exact h
theorem trimPrefix_any (q : List UInt8) (w : World) : Calls Tryz.prog 44 #[.string (str (47 :: q)), .string ⟨#[47]⟩] w fun e w' => e = .returned (.string (str q)) ∧ w' = w := by
  have h := Any.strings_TrimPrefix Tryz.lays101 (str (47 :: q)) ⟨#[47]⟩ w
  rw [show (⟨(Lib.trimPrefix (str (47 :: q)).data.toList (⟨#[47]⟩ : ByteArray).data.toList).toArray⟩ : ByteArray) = str q from by
    rfl] at h
  exact h
theorem indexByte_any (q : List UInt8) (w : World) : Calls Tryz.prog 45 #[.string (str q), .int .u8 47] w fun e w' => e = .returned (.int .i64 (if restP q = [] then -1 else ((segP q).length : Int))) ∧ w' = w := by
  have h := Any.strings_IndexByte Tryz.lays137 (str q) 47 w
  rw [show Lib.indexByte (str q).data.toList (47 : Int).toNat.toUInt8 = (if restP q = [] then -1 else ((segP q).length : Int)) from by
    exact index_seg q] at h
  exact h
theorem lastIndex_any (p : List UInt8) (w : World) (hs : p.length ≤ 1000000) (h47 : 47 ∈ p) : Calls Tryz.prog 80 #[.string (str p), .int .u8 47] w fun e w' => e = .returned (.int .i64 (slashP p : Int)) ∧ w' = w := by
  have h := Any.strings_LastIndexByte Tryz.lays149 (str p) 47 (by rw [str_size]; omega) w
  rw [last_slash (p := p) rfl h47] at h
  exact h
theorem seg_none {q : List UInt8} (h : restP q = []) : segP q = q := by have := seg_rest q; rwa [h, List.append_nil] at this
theorem seg_take (q : List UInt8) : q.take (segP q).length = segP q := by
  have := List.take_left (l₁ := segP q) (l₂ := restP q); rwa [seg_rest] at this
theorem rest_drop (q : List UInt8) : q.drop (segP q).length = restP q := by
  have := List.drop_left (l₁ := segP q) (l₂ := restP q); rwa [seg_rest] at this
set_option maxHeartbeats 1000000 in
theorem names_any (p : ByteArray) (w : World) :
    Calls Tryz.prog 18 #[.string p] w fun e w' => e = .returned (.func (.func 43) #[] #[.pointer (some ⟨w.heap.size, 0, none⟩)]) ∧ w' = w.alloc (.cells #[.string p] 9) := by
  have hmf : ∀ (fn : Fn) (first cap : Array Value) (w : World), (Instr.makeFunc fn first cap).run Tryz.prog w = .ok (.func fn first cap) w := fun _ _ _ _ => rfl
  go_enter Tryz.func18, Tryz.ntmps18
  go_wp2_with fail
  go_ret
  exact ⟨rfl, rfl⟩
/-- a path of a length that may be -/
def mayP0 (p : List UInt8) : Prop := 47 ∈ p ∧ p.length ≤ 1000
def lenOf : Value → Nat
  | .string s => s.size
  | _ => 0
/-- a path's name -/
def nenc (p : List UInt8) (k : Nat) : Array Value := #[.string (str ((pathP p).getD k []))]
set_option maxRecDepth 100000 in
set_option maxHeartbeats 4000000 in
theorem names1_in (n : Nat) (hn : 1 ≤ n) (l b1 : Nat) (p : List UInt8) (J Jx : List Nat → World → Prop) (W : World) (hJ : AbidesFrom W.heap.size J)
    (hY : ∀ pre x W1, J pre W1 → pre.length < (pathP p).length → YieldAt Fence.wide (n - 1) Tryz.prog l (nenc p x) W1 fun e W' =>
      (e = .returned (.bool true) ∧ J (pre ++ [x]) W' ∧ KpB b1 b1 W1 W') ∨ (e = .returned (.bool false) ∧ Jx (pre ++ [x]) W'))
    (h1 : Box W b1 9 #[.string (str p)]) (h47 : p.head? = some 47) (h0 : J [] W) :
    CallsIn Fence.wide n Tryz.prog 43 #[.func (.yield l) #[] #[], .pointer (some ⟨b1, 0, none⟩)] W fun e W' => (∃ v, e = .returned v) ∧
      ((∃ ys, ys = List.range (pathP p).length ∧ J ys W') ∨ (∃ pre, (∃ k, k ≤ (pathP p).length ∧ pre = List.range k) ∧ Jx pre W')) := by
  have hs : (str p).toList = p := str_toList p
  have cb : W.cell? ⟨b1, 0, none⟩ = some (.string (str p)) := h1.cell 0
  refine callsIn_of_wp Tryz.func43 rfl trivial ?_ rfl
  simp only [Tryz.ntmps43, List.size_toArray, List.length_cons, List.length_nil, Nat.reduceAdd, Nat.reduceSub, Array.replicate_succ, Array.replicate_zero, List.push_toArray, List.append_toArray, List.nil_append, List.cons_append]
  by_cases hp : p = [47]
  · subst hp
    have hs2 : ((str [47]).toList == (⟨#[47]⟩ : ByteArray).toList) = true := by rw [hs, show (⟨#[47]⟩ : ByteArray).toList = [47] from str_toList [47]]; rfl
    gi_wp2_with fail
    refine bodyPost_ret (results_none rfl _ _ _) rfl ?_
    exact ⟨⟨_, rfl⟩, .inl ⟨_, rfl, h0⟩⟩
  · have hs2 : (p == [47]) = false := by simpa using hp
    have hpn : pathP p = partsP p := by unfold pathP; rw [if_neg hp]
    have hp0 : p = [] ∨ ∃ q, p = 47 :: q := by
      cases p with
      | nil => exact .inl rfl
      | cons c q => exact .inr ⟨q, by simp at h47; rw [h47]⟩
    gi_wp2_with fail
    gi_loopw [3, 4, 5] (fun r _ _ wx => ∃ (k : Nat) (rest : List UInt8), r = .string (str rest) ∧ (rest = [] ∨ ∃ q, rest = 47 :: q) ∧ (pathP p).drop k = partsP rest ∧ k + (partsP rest).length = (pathP p).length ∧ J (List.range k) wx ∧ Box wx b1 9 #[.string (str p)]) (fun r _ _ _ => lenOf r)
    case atStart => exact ⟨0, p, rfl, hp0, by rw [hpn]; rfl, by rw [hpn]; omega, h0, h1⟩
    case round =>
      obtain ⟨k, rest, rfl, hrest, hdr, hkl, hJs, hB1⟩ := hrel
      rcases hrest with rfl | ⟨q, rfl⟩
      · have hr2 : (str []).toList = [] := str_toList []
        rw [partsP_nil] at hkl
        gi_wp2_with fail
        refine bodyPost_end (results_none rfl _ _ _) rfl ?_
        obtain rfl : k = (pathP p).length := by simpa using hkl
        exact ⟨⟨_, rfl⟩, .inl ⟨_, rfl, hJs⟩⟩
      · have hr2 : ((47 :: q) == ([] : List UInt8)) = false := rfl
        have hrs := str_toList (47 :: q)
        rw [partsP_cons] at hdr hkl
        simp only [List.length_cons] at hkl
        have hk1 : k < (pathP p).length := by omega
        have hgk : (pathP p).getD k [] = segP q := by
          have e := congrArg List.head? hdr
          rw [List.head?_drop, List.head?_cons] at e
          rw [List.getD_eq_getElem?_getD, e]; rfl
        have hdr2 : (pathP p).drop (k + 1) = partsP (restP q) := by
          have e := congrArg (List.drop 1) hdr
          rw [List.drop_drop] at e
          exact e
        have hX : (str q).extract 0 (segP q).length = str (segP q) := by rw [str_ext, Nat.sub_zero, List.drop_zero, seg_take]
        have hX2 : (str q).extract (segP q).length q.length = str (restP q) := by rw [str_ext, List.take_of_length_le (by rw [List.length_drop]; omega), rest_drop]
        have hsl := seg_len q
        have hsz := str_size q
        obtain ⟨fn, tmps, assign, body, hy, hR⟩ := hY (List.range k) k _ hJs (by rw [List.length_range]; exact hk1)
        have hy' : (Instr.yield l #[.string (str (segP q))]).run Tryz.prog wr = .ok (.round l fn tmps assign body) wr := by
          have : nenc p k = #[.string (str (segP q))] := by unfold nenc; rw [hgk]
          rw [this] at hy; exact hy
        clear hy
        have hhd := restP_head q
        have HT := Lib.hid (fun w => trimPrefix_any q w)
        have HIx := Lib.hid (fun w => indexByte_any q w)
        by_cases hr : restP q = []
        · rw [if_pos hr] at HIx
          have hse : (segP q).length = q.length := by rw [seg_none hr]
          have hi1 : ¬ ((0 : Int) ≤ -1) := by omega
          have hle : (segP q).length ≤ q.length := by omega
          rw [hse] at hX hX2
          gi_wp2_with (first
            | (refine ⟨trivial, ?_⟩; gi_at_call 44; refine (callsIn_wide.2 (HT.out _)).mono ?_; rintro e w2 ⟨rfl, rfl⟩)
            | (refine ⟨trivial, ?_⟩; gi_at_call 45; refine (callsIn_wide.2 (HIx.out _)).mono ?_; rintro e w2 ⟨rfl, rfl⟩))
          refine hR.mono ?_
          rintro e W3 (⟨rfl, hJ3, hk3⟩ | ⟨rfl, hJx3⟩)
          · gi_wp2_with fail
            go_roundw
            case rel => exact ⟨k + 1, [], rfl, .inl rfl, by rw [hdr2, hr], by rw [← hr]; omega, by rw [List.range_succ]; exact hJ3, (hk3 _ _).1 hB1⟩
            case measure => show 0 < (str (47 :: q)).size; rw [str_size, List.length_cons]; omega
          · gi_wp2_with fail
            refine bodyPost_ret (results_none rfl _ _ _) rfl ?_
            exact ⟨⟨_, rfl⟩, .inr ⟨_, ⟨k + 1, by omega, List.range_succ.symm⟩, hJx3⟩⟩
        · rw [if_neg hr] at HIx
          have hle : (segP q).length ≤ q.length := by omega
          gi_wp2_with (first
            | (refine ⟨trivial, ?_⟩; gi_at_call 44; refine (callsIn_wide.2 (HT.out _)).mono ?_; rintro e w2 ⟨rfl, rfl⟩)
            | (refine ⟨trivial, ?_⟩; gi_at_call 45; refine (callsIn_wide.2 (HIx.out _)).mono ?_; rintro e w2 ⟨rfl, rfl⟩))
          refine hR.mono ?_
          rintro e W3 (⟨rfl, hJ3, hk3⟩ | ⟨rfl, hJx3⟩)
          · gi_wp2_with fail
            go_roundw
            case rel => exact ⟨k + 1, restP q, rfl, hhd, hdr2, by omega, by rw [List.range_succ]; exact hJ3, (hk3 _ _).1 hB1⟩
            case measure => show (str (restP q)).size < (str (47 :: q)).size; rw [str_size, str_size, List.length_cons]; omega
          · gi_wp2_with fail
            refine bodyPost_ret (results_none rfl _ _ _) rfl ?_
            exact ⟨⟨_, rfl⟩, .inr ⟨_, ⟨k + 1, by omega, List.range_succ.symm⟩, hJx3⟩⟩
/-- the value of names gives the names of a path, whatever the body does, if it keeps the path's block -/
theorem names_stops (n : Nat) (hn : 1 ≤ n) (b1 : Nat) (p : List UInt8) (w : World) (h1 : Box w b1 9 #[.string (str p)]) (h47 : p.head? = some 47) :
    SeqStopsK Fence.wide n Tryz.prog 43 #[.pointer (some ⟨b1, 0, none⟩)] (nenc p) (KpB b1 b1) (fun ys => ys = List.range (pathP p).length) (fun pre => ∃ k, k ≤ (pathP p).length ∧ pre = List.range k) (pathP p).length w := fun l J Jx W hW hJ _ hY h0 =>
  names1_in n hn l b1 p J Jx W hJ hY (h1.ext hW) h47 h0
set_option maxHeartbeats 1000000 in
theorem split_any (p : List UInt8) (w : World) (h : mayP0 p) :
    Calls Tryz.prog 37 #[.string (str p)] w fun e w' => e = .returned (.tuple #[.string (str (p.take (max (slashP p) 1))), .string (str (baseP p))]) ∧ Ext w w' := by
  obtain ⟨h47, hl⟩ := h
  obtain ⟨s1, s2, s3, s4⟩ := slash_at h47
  have HL := Lib.hid (fun w => lastIndex_any p w (by omega) h47)
  have hX1 : (str p).extract 0 (max (slashP p) 1) = str (p.take (max (slashP p) 1)) := by rw [str_ext, Nat.sub_zero, List.drop_zero]
  have hX2 : (str p).extract (slashP p + 1) p.length = str (baseP p) := by rw [str_ext, List.take_of_length_le (by rw [List.length_drop]; omega), s4]
  have hz := str_size p
  have hmx : (max (slashP p : Int) 1).toNat = max (slashP p) 1 := by omega
  generalize baseP p = ba at *
  generalize slashP p = at1 at *
  clear s2 s3 s4
  go_enter Tryz.func37, Tryz.ntmps37
  go_upto_region 2 with (go_at_call 80; refine (HL.out _).mono ?_; rintro e w1 ⟨rfl, rfl⟩)
  go_region
  all_goals go_wp2_with fail
  all_goals go_ret2
  all_goals exact ⟨rfl, (Ext.refl _).drew⟩
end Go.Proofs.YtnoofjddikhopaaGreat
