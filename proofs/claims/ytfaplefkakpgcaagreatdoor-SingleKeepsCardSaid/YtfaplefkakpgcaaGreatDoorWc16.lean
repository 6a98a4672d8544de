/- The walks of xattr.opened, List and Get on a volume that is one. -/
import Derived.Test.YtfaplefkakpgcaaGreatDoorWc13
import Derived.Test.YtfaplefkakpgcaaGreatDoorWc12
import Derived.Test.YtfaplefkakpgcaaGreatDoorWc6
import Derived.Test.YtfaplefkakpgcaaGreatDoorWc15
import Derived.Deep.DeepCutAuto
import Derived.Deep.AppendLies
import Derived.Deep.RegionLaw
import Derived.Lib.Bytealg
import Derived.BigRegion
namespace Go.Proofs.YtfaplefkakpgcaaGreatDoor
set_option linter.unusedVariables false
set_option linter.unusedSimpArgs false
open Go.RowKit
theorem results_cell3 {fn : Func} {p s r : Tmp} {ty : TypeId} (h : fn.results = #[.cell p ty, .tmp s, .tmp r]) (tmps : Array Value) (w : World) (g : Nat) (t : TypeId) (cs : Array Value) (d : TypeDesc) (v u : Value)
  (hp : tmps.getD p undef = .pointer (some ⟨g, 0, none⟩)) (hs : tmps.getD s undef = v) (hr : tmps.getD r undef = u) (hg : Box w g t cs)
  (hu : Tryz.prog.underlying ty = some d) (hd : isAggD d = true) (hi : (Tryz.prog.info? ty).map (·.size) = some cs.size) :
  (results fn tmps).run Tryz.prog w = .ok (.tuple #[.agg cs, v, u]) w := by
 have hp' : tmps[p]?.getD undef = .pointer (some ⟨g, 0, none⟩) := by simpa using hp
 have hs' : tmps[s]?.getD undef = v := by simpa using hs
 have hr' : tmps[r]?.getD undef = u := by simpa using hr
 simp [results, h, hp', hs', hr', asAddr, run_loadVar_row w g t ty cs (0, 0) d hg hu (by cases d <;> first | rfl | cases hd) hi]
end Go.Proofs.YtfaplefkakpgcaaGreatDoor
/- The document's geometry: Of on a volume that is one. -/
namespace Go.Proofs.YtfaplefkakpgcaaGreatDoor
set_option linter.unusedVariables false
set_option linter.unusedSimpArgs false
open Go.RowKit
theorem rget2_at (p q : UInt8) (B : Int) (w : World) (h : (p.toNat : Int) + 256 * q.toNat = B) :
  Calls Tryz.prog 169 #[.string (str [p, q])] w fun e w' => e = .returned (.int .u64 B) ∧ w = w' := by
 subst h; exact rget2 p q w
set_option maxHeartbeats 1000000 in
set_option maxRecDepth 100000 in
theorem rof_yes (A : Option Addr) (n c : Nat) (v : List (List UInt8)) (I : Int) (w : World) (hv : Strs w A n v) (hg : Good v I) :
  Calls Tryz.prog 99 #[.slice A n c] w fun e w' => e = .returned (.tuple #[geomV v.length I, .int .i64 0]) ∧ Ext w w' := by
 have hpl := plan_bd hg.plan
 obtain ⟨rfl, hv2⟩ := hv
 obtain ⟨b, o, rfl, hcell⟩ := hv2 (by omega)
 have hlt : b < w.heap.size := World.block_lt_of_cell? w _ (hcell 0 (by omega))
 have hz := str_size
 go_enter Tryz.func99, Tryz.ntmps99
 go_wp2_with fail
 generalize hw1 : w.alloc _ = w1
 have x1 : Ext w w1 := by rw [← hw1]; exact (Ext.refl _).alloc _
 have r1 : Box w1 w.heap.size 144 (intVals [0, 0, 0, 0, 0, 0]) := by rw [← hw1]; exact Box.new _ _ _
 clear hw1
 go_loop [5, 15] (fun _ i => ∃ k : Nat, k ≤ v.length ∧ i = .int .i64 k) (fun _ i => v.length - (intOf i).toNat)
 case atStart => exact ⟨0, by omega, rfl⟩
 case round =>
  obtain ⟨k, hk, rfl⟩ := hrel
  by_cases hlt2 : k < v.length
  ·have hck : w1.cell? ⟨b, o + k, none⟩ = some (.string (str v[k])) := x1.keep (hcell k hlt2)
   have hlk : ((v[k].length : Int) != 128) = false := by rw [hg.all k hlt2]; rfl
   go_wp2_with fail
   go_round
   case rel => exact ⟨k + 1, by omega, by go_num⟩
   case measure => simp [intOf]; omega
  ·have hb1 : b < w1.heap.size := Nat.lt_of_lt_of_le hlt x1.size
   have hv0 : v[0]'(by omega) = headL v.length I := by
    have := hg.head; rw [List.getD_eq_getElem?_getD, List.getElem?_eq_getElem (by omega)] at this; exact this
   have c0 : w1.cell? ⟨b, o, none⟩ = some (.string (str (headL v.length I))) := by
    have := x1.keep (hcell 0 (by omega)); rw [hv0] at this; exact this
   have e68 := head_68 v.length I
   have zH : (str (headL v.length I)).size = 128 := by rw [str_size, headL_len]
   have gI := fun w => rget2_at _ _ I w (two_back I (by omega) (by omega))
   have HP := Lib.hid hg.plan
   have HF : ∀ w, Hid (Calls Tryz.prog 170 #[.agg #[.int .i64 v.length, .int .i64 I, .int .i64 1, .int .i64 2, .int .i64 3, .int .i64 (3 + (I + 1) / 2)]] w fun e w' => e = .returned (.string (str (headL v.length I))) ∧ Ext w w') := fun w => Lib.hid (rhead_any v.length I w hg.plan)
   have hgl := Lib.hid hg
   have c2v : ∀ wx, Ext w wx → wx.cell? ⟨b, o + 2, none⟩ = some (.string (str (v.getD 2 []))) := fun wx xx => by
    have := xx.keep (hcell 2 (by omega))
    rw [List.getD_eq_getElem?_getD, List.getElem?_eq_getElem (by omega)]; exact this
   have C2 := Lib.hid c2v
   have l2 : (v.getD 2 []).length = 128 := by rw [List.getD_eq_getElem?_getD, List.getElem?_eq_getElem (by omega)]; exact hg.all 2 (by omega)
   clear c2v hcell hv0 hg
   generalize headL v.length I = H at *
   generalize b8 (I % 256) = r at *
   generalize b8 (I / 256) = s at *
   have hn0 : 0 < v.length := by omega
   have hn1 : (0 : Int) < (v.length : Int) := by omega
   have hn2 : (2 : Int) < (v.length : Int) := by omega
   have GI := Lib.hid gI
   clear gI hz
   have wI : IntKind.i64.wrap I = I := by rw [IntKind.wrap_i64]; omega
   go_wp2_with (first
    | (go_at_call 169; refine (GI.out _).mono ?_; rintro e w' ⟨rfl, rfl⟩)
    | (go_at_call 168; refine (rplan_yes _ _ _ HP.out).mono ?_; rintro e wp ⟨rfl, xp⟩; unfold geomV))
   have bc := Box.new wp 144 (intVals [(v.length : Int), I, 1, 2, 3, 3 + (I + 1) / 2])
   have xc := (x1.trans xp).alloc (.cells (intVals [(v.length : Int), I, 1, 2, 3, 3 + (I + 1) / 2]) 144)
   have rc := (r1.ext xp).ext ((Ext.refl wp).alloc (.cells (intVals [(v.length : Int), I, 1, 2, 3, 3 + (I + 1) / 2]) 144))
   have cc := (xp.alloc (.cells (intVals [(v.length : Int), I, 1, 2, 3, 3 + (I + 1) / 2]) 144)).keep c0
   change Box (wp.alloc (.cells #[.int .i64 v.length, .int .i64 I, .int .i64 1, .int .i64 2, .int .i64 3, .int .i64 (3 + (I + 1) / 2)] 144)) _ _ _ at bc
   change Ext w (wp.alloc (.cells #[.int .i64 v.length, .int .i64 I, .int .i64 1, .int .i64 2, .int .i64 3, .int .i64 (3 + (I + 1) / 2)] 144)) at xc
   change Box (wp.alloc (.cells #[.int .i64 v.length, .int .i64 I, .int .i64 1, .int .i64 2, .int .i64 3, .int .i64 (3 + (I + 1) / 2)] 144)) _ _ _ at rc
   change (wp.alloc (.cells #[.int .i64 v.length, .int .i64 I, .int .i64 1, .int .i64 2, .int .i64 3, .int .i64 (3 + (I + 1) / 2)] 144)).cell? _ = _ at cc
   generalize wp.alloc (.cells #[.int .i64 v.length, .int .i64 I, .int .i64 1, .int .i64 2, .int .i64 3, .int .i64 (3 + (I + 1) / 2)] 144) = wc at bc xc rc cc ⊢
   generalize wp.heap.size = g at bc ⊢
   clear xp x1 r1 c0
   have c0 : ∀ x : Later wc, x.now.cell? ⟨b, o, none⟩ = some (.string (str H)) := fun x => x.ext.keep cc
   have q0 : ∀ x : Later wc, x.now.cell? ⟨g, 0, none⟩ = some (.int .i64 v.length) := fun x => (bc.ext x.ext).cell 0
   have q1 : ∀ x : Later wc, x.now.cell? ⟨g, 1, none⟩ = some (.int .i64 I) := fun x => (bc.ext x.ext).cell 1
   have q2 : ∀ x : Later wc, x.now.cell? ⟨g, 2, none⟩ = some (.int .i64 1) := fun x => (bc.ext x.ext).cell 2
   have q3 : ∀ x : Later wc, x.now.cell? ⟨g, 3, none⟩ = some (.int .i64 2) := fun x => (bc.ext x.ext).cell 3
   have q4 : ∀ x : Later wc, x.now.cell? ⟨g, 4, none⟩ = some (.int .i64 3) := fun x => (bc.ext x.ext).cell 4
   have q5 : ∀ x : Later wc, x.now.cell? ⟨g, 5, none⟩ = some (.int .i64 (3 + (I + 1) / 2)) := fun x => (bc.ext x.ext).cell 5
   refine wp_region_later (by kernel_rfl) (by kernel_rfl) ?_
   repeat (go_big_quiet_step ((exact later_of ((HF _).out))))
   refine wpQuiet_nil ?_
   rintro w5 ⟨x5, rfl⟩
   have xw5 := xc.trans x5.ext
   have e2 := C2.out _ xw5
   have d0 := q0 x5; have d5 := q5 x5
   have b5 := bc.ext x5.ext
   have r5 := rc.ext x5.ext
   clear q0 q1 q2 q3 q4 q5 c0 cc HF C2 bc rc xc
   go_wp2_with fail
   go_loop [8] (fun t => ∃ m : Nat, m ≤ 1024 ∧ t = .int .i64 m) (fun t => 1024 - (intOf t).toNat)
   case atStart => exact ⟨0, by omega, rfl⟩
   case round =>
    obtain ⟨m, hm, rfl⟩ := hrel
    have HB := Lib.hid (fun (hm2 : m < 1024) w => rbit_any m (v.getD 2 []) w l2 hm2)
    by_cases hm2 : m < 1024
    ·by_cases m1 : (m : Int) < 3 + (I + 1) / 2
     ·have hbit := Lib.hid (hgl.out.low m m1)
      have m3' : ¬ (v.length : Int) ≤ m := by omega
      have m3'' : decide ((v.length : Int) ≤ m) = false := by simpa using m3'
      go_wp2_with (go_at_call 171; refine (HB.out hm2 _).mono ?_; rintro e w' ⟨rfl, rfl⟩; rw [hbit.out])
      go_round
      case rel => exact ⟨m + 1, by omega, by go_num⟩
      case measure => simp [intOf]; omega
     ·have m1' : decide ((m : Int) < 3 + (I + 1) / 2) = false := by simpa using m1
      by_cases m3 : v.length ≤ m
      ·have hbit := Lib.hid (hgl.out.high m hm2 m3)
       have m3' : (v.length : Int) ≤ m := by omega
       go_wp2_with (go_at_call 171; refine (HB.out hm2 _).mono ?_; rintro e w' ⟨rfl, rfl⟩; rw [hbit.out])
       go_round
       case rel => exact ⟨m + 1, by omega, by go_num⟩
       case measure => simp [intOf]; omega
      ·have m3' : ¬ (v.length : Int) ≤ m := by omega
       have m3'' : decide ((v.length : Int) ≤ m) = false := by simpa using m3'
       go_wp2_with (go_at_call 171; refine (HB.out hm2 _).mono ?_; rintro e w' ⟨rfl, rfl⟩)
       go_round
       case rel => exact ⟨m + 1, by omega, by go_num⟩
       case measure => simp [intOf]; omega
    ·go_wp2_with (first
      | (refine wp_ld_geom (.tmp 6) rfl rfl g _ 144 rfl b5 rfl ?_)
      | (refine wp_st_geom (.tmp 2) (.tmp 77) rfl rfl w.heap.size _ [0, 0, 0, 0, 0, 0] 144 rfl rfl r5 rfl rfl ?_; intro w6 b6 g6))
     have xF := xw5.grown g6 (fun k e => by cases e; exact Nat.le_refl _)
     exact bodyPost_ret (v := .tuple #[geomV v.length I, .int .i64 0]) (results_cell2 Tryz.results99 _ _ _ _ _ _ _ rfl rfl b6 Tryz.underlying144 rfl geomSize) rfl ⟨rfl, xF⟩
end Go.Proofs.YtfaplefkakpgcaaGreatDoor
/- The document's geometry: Format of 24 blocks and 6 inodes. -/
namespace Go.Proofs.YtfaplefkakpgcaaGreatDoor
set_option linter.unusedVariables false
set_option linter.unusedSimpArgs false
open Go.RowKit
theorem strs_new1 (w : World) (s : List UInt8) : Strs (w.alloc (.cells #[.string (str s)] 9)) (some ⟨w.heap.size, 0, none⟩) 1 [s] := by
 refine ⟨rfl, fun _ => ⟨w.heap.size, 0, rfl, fun j hj => ?_⟩⟩
 rcases (show j = 0 by simpa using hj) with rfl
 exact (Box.new w 9 #[.string (str s)]).cell 0
end Go.Proofs.YtfaplefkakpgcaaGreatDoor
