/- The document's geometry: turn, With. -/
import Derived.Test.YtnoofjddikhopaaGreatFa11
import Derived.Test.YtnoofjddikhopaaGreatFa10
import Derived.Test.YtnoofjddikhopaaGreatFa2
import Derived.Test.YtnoofjddikhopaaGreatFa20
import Derived.Test.YtnoofjddikhopaaGreatFa16
import Derived.Deep.DeepCutAuto
import Derived.Deep.AppendLies
import Derived.Deep.RegionLaw
import Derived.Lib.Bytealg
import Derived.BigRegion
import Derived.Test.YtnoofjddikhopaaGreatFa5
namespace Go.Proofs.YtnoofjddikhopaaGreat
set_option linter.unusedVariables false
set_option linter.unusedSimpArgs false
open Go.RowKit
theorem conv_one_drew (w : World) (x : Int) : (convert 88 9 (.slice (some ⟨w.heap.size, 0, none⟩) 1 1)).run Tryz.prog (w.alloc (.cells #[.int .u8 x] 5)).drew = .ok (.string (str [b8 x])) (w.alloc (.cells #[.int .u8 x] 5)).drew := by
  refine run_convert_bytes_arg (P := Tryz.prog) _ 88 5 Tryz.underlying88 Tryz.underlying5 _ _ _ 1 [x] rfl (fun i hi => ?_) 9 Tryz.underlying9
  rcases (show i = 0 by simp at hi; omega) with rfl
  exact ((Box.new w 5 #[.int .u8 x]).drew).cell 0
theorem flip_parts (m : List UInt8) (i : Nat) (h : i / 8 < m.length) : flipL m i = m.take (i / 8) ++ ([b8 (((m.getD (i / 8) 0).toNat ^^^ 2 ^ (i % 8) : Nat) : Int)] ++ m.drop (i / 8 + 1)) := by
  unfold flipL
  rw [List.set_eq_take_append_cons_drop, if_pos h]; rfl
set_option maxHeartbeats 1000000 in
set_option maxRecDepth 100000 in
theorem rturn_any (i : Nat) (m : List UInt8) (w : World) (hm : m.length = 128) (hi : i < 1024) :
    Calls Tryz.prog 68 #[.string (str m), .int .i64 i] w fun e w' => e = .returned (.string (str (flipL m i))) ∧ Ext w w' := by
  have hsz : (str m).size = 128 := by rw [str_size, hm]
  have hz := str_size
  have hse := str_ext
  have hap := str_app
  have kc := conv_one_drew w
  have t0 : IntKind.i64.wrap ((i : Int) / 8) = (i : Int) / 8 := IntWalk.i64_in _ (by omega)
  have t1 : (0 : Int) ≤ (i : Int) / 8 := by omega
  have t2 : (i : Int) / 8 < 128 := by omega
  have t3 : ((i : Int) / 8).toNat = i / 8 := by omega
  have t4 : (0 : Int) ≤ (i : Int) % 8 := by omega
  have t5 : (i : Int) % 8 < 8 := by omega
  have t6 : (0 : Int) ≤ (i : Int) / 8 + 1 := by omega
  have t7 : ((i : Int) / 8 + 1).toNat = i / 8 + 1 := by omega
  have t8 : IntKind.i64.wrap ((i : Int) / 8 + 1) = (i : Int) / 8 + 1 := IntWalk.i64_in _ (by omega)
  have t9 : i / 8 < 128 := by omega
  have l1 : min (i / 8) 128 = i / 8 := by omega
  go_enter Tryz.func68, Tryz.ntmps68
  go_wp2_with fail
  go_region
  rename_i Q' K hK
  refine hK _ _ ?_
  show Code.wp _ _ (bodyPost _ _ _) _ _
  clear hK
  clear K Q'
  go_wp2_with fail
  go_ret
  refine ⟨?_, ((Ext.refl _).alloc _).drew⟩
  have hl : i / 8 < m.length := by omega
  rw [flip_parts m i hl, xor_val, show ((str m)[i / 8]'(by omega)).toNat = (m.getD (i / 8) 0).toNat by rw [List.getD_eq_getElem?_getD, List.getElem?_eq_getElem hl]; rfl, List.take_of_length_le (l := m.drop (i / 8 + 1)) (by simp; omega)]
  rfl
end Go.Proofs.YtnoofjddikhopaaGreat
/- The document's geometry: Of on a volume that is one. -/
namespace Go.Proofs.YtnoofjddikhopaaGreat
set_option linter.unusedVariables false
set_option linter.unusedSimpArgs false
open Go.RowKit
theorem rget2_at (p q : UInt8) (B : Int) (w : World) (h : (p.toNat : Int) + 256 * q.toNat = B) :
    Calls Tryz.prog 107 #[.string (str [p, q])] w fun e w' => e = .returned (.int .u64 B) ∧ w = w' := by
  subst h; exact rget2 p q w
set_option maxHeartbeats 1000000 in
set_option maxRecDepth 100000 in
theorem rof_yes (A : Option Addr) (n c : Nat) (v : List (List UInt8)) (I : Int) (w : World) (hv : Strs w A n v) (hg : Good v I) :
    Calls Tryz.prog 69 #[.slice A n c] w fun e w' => e = .returned (.tuple #[geomV v.length I, .int .i64 0]) ∧ Ext w w' := by
  have hpl := plan_bd hg.plan
  obtain ⟨rfl, hv2⟩ := hv
  obtain ⟨b, o, rfl, hcell⟩ := hv2 (by omega)
  have hlt : b < w.heap.size := World.block_lt_of_cell? w _ (hcell 0 (by omega))
  have hz := str_size
  go_enter Tryz.func69, Tryz.ntmps69
  go_wp2_with fail
  generalize hw1 : w.alloc _ = w1
  have x1 : Ext w w1 := by rw [← hw1]; exact (Ext.refl _).alloc _
  have r1 : Box w1 w.heap.size 81 (intVals [0, 0, 0, 0, 0, 0]) := by rw [← hw1]; exact Box.new _ _ _
  clear hw1
  go_loop [5, 15] (fun _ i => ∃ k : Nat, k ≤ v.length ∧ i = .int .i64 k) (fun _ i => v.length - (intOf i).toNat)
  case atStart => exact ⟨0, by omega, rfl⟩
  case round =>
    obtain ⟨k, hk, rfl⟩ := hrel
    by_cases hlt2 : k < v.length
    · have hck : w1.cell? ⟨b, o + k, none⟩ = some (.string (str v[k])) := x1.keep (hcell k hlt2)
      have hlk : ((v[k].length : Int) != 128) = false := by rw [hg.all k hlt2]; rfl
      go_wp2_with fail
      go_round
      case rel => exact ⟨k + 1, by omega, by go_num⟩
      case measure => simp [intOf]; omega
    · have hb1 : b < w1.heap.size := Nat.lt_of_lt_of_le hlt x1.size
      have hv0 : v[0]'(by omega) = headL v.length I := by
        have := hg.head; rw [List.getD_eq_getElem?_getD, List.getElem?_eq_getElem (by omega)] at this; exact this
      have c0 : w1.cell? ⟨b, o, none⟩ = some (.string (str (headL v.length I))) := by
        have := x1.keep (hcell 0 (by omega)); rw [hv0] at this; exact this
      have e68 := head_68 v.length I
      have zH : (str (headL v.length I)).size = 128 := by rw [str_size, headL_len]
      have gI := fun w => rget2_at _ _ I w (two_back I (by omega) (by omega))
      have HP := Lib.hid hg.plan
      have HF : ∀ w, Hid (Calls Tryz.prog 66 #[.agg #[.int .i64 v.length, .int .i64 I, .int .i64 1, .int .i64 2, .int .i64 3, .int .i64 (3 + (I + 1) / 2)]] w fun e w' => e = .returned (.string (str (headL v.length I))) ∧ Ext w w') := fun w => Lib.hid (rhead_any v.length I w hg.plan)
      have hgl := Lib.hid hg
      have c2v : ∀ wx, Ext w wx → wx.cell? ⟨b, o + 2, none⟩ = some (.string (str (v.getD 2 []))) := fun wx xx => by
        have := xx.keep (hcell 2 (by omega))
        rw [List.getD_eq_getElem?_getD, List.getElem?_eq_getElem (by omega)]; exact this
      have C2 := Lib.hid c2v
      have l2 : (v.getD 2 []).length = 128 := by rw [List.getD_eq_getElem?_getD, List.getElem?_eq_getElem (by omega)]; exact hg.all 2 (by omega)
      clear c2v hcell hv0 hg
      generalize headL v.length I = H at *
      generalize b8 (I % 256) = r at *
      generalize b8 (I / 256) = s at *
      have hn0 : 0 < v.length := by omega
      have hn1 : (0 : Int) < (v.length : Int) := by omega
      have hn2 : (2 : Int) < (v.length : Int) := by omega
      have GI := Lib.hid gI
      clear gI hz
      have wI : IntKind.i64.wrap I = I := by rw [IntKind.wrap_i64]; omega
      go_wp2_with (first
        | (go_at_call 107; refine (GI.out _).mono ?_; rintro e w' ⟨rfl, rfl⟩)
        | (go_at_call 65; refine (rplan_yes _ _ _ HP.out).mono ?_; rintro e wp ⟨rfl, xp⟩; unfold geomV))
      have bc := Box.new wp 81 (intVals [(v.length : Int), I, 1, 2, 3, 3 + (I + 1) / 2])
      have xc := (x1.trans xp).alloc (.cells (intVals [(v.length : Int), I, 1, 2, 3, 3 + (I + 1) / 2]) 81)
      have rc := (r1.ext xp).ext ((Ext.refl wp).alloc (.cells (intVals [(v.length : Int), I, 1, 2, 3, 3 + (I + 1) / 2]) 81))
      have cc := (xp.alloc (.cells (intVals [(v.length : Int), I, 1, 2, 3, 3 + (I + 1) / 2]) 81)).keep c0
      change Box (wp.alloc (.cells #[.int .i64 v.length, .int .i64 I, .int .i64 1, .int .i64 2, .int .i64 3, .int .i64 (3 + (I + 1) / 2)] 81)) _ _ _ at bc
      change Ext w (wp.alloc (.cells #[.int .i64 v.length, .int .i64 I, .int .i64 1, .int .i64 2, .int .i64 3, .int .i64 (3 + (I + 1) / 2)] 81)) at xc
      change Box (wp.alloc (.cells #[.int .i64 v.length, .int .i64 I, .int .i64 1, .int .i64 2, .int .i64 3, .int .i64 (3 + (I + 1) / 2)] 81)) _ _ _ at rc
      change (wp.alloc (.cells #[.int .i64 v.length, .int .i64 I, .int .i64 1, .int .i64 2, .int .i64 3, .int .i64 (3 + (I + 1) / 2)] 81)).cell? _ = _ at cc
      generalize wp.alloc (.cells #[.int .i64 v.length, .int .i64 I, .int .i64 1, .int .i64 2, .int .i64 3, .int .i64 (3 + (I + 1) / 2)] 81) = wc at bc xc rc cc ⊢
      generalize wp.heap.size = g at bc ⊢
      clear xp x1 r1 c0
      have c0 : ∀ x : Later wc, x.now.cell? ⟨b, o, none⟩ = some (.string (str H)) := fun x => x.ext.keep cc
      have q0 : ∀ x : Later wc, x.now.cell? ⟨g, 0, none⟩ = some (.int .i64 v.length) := fun x => (bc.ext x.ext).cell 0
      have q1 : ∀ x : Later wc, x.now.cell? ⟨g, 1, none⟩ = some (.int .i64 I) := fun x => (bc.ext x.ext).cell 1
      have q2 : ∀ x : Later wc, x.now.cell? ⟨g, 2, none⟩ = some (.int .i64 1) := fun x => (bc.ext x.ext).cell 2
      have q3 : ∀ x : Later wc, x.now.cell? ⟨g, 3, none⟩ = some (.int .i64 2) := fun x => (bc.ext x.ext).cell 3
      have q4 : ∀ x : Later wc, x.now.cell? ⟨g, 4, none⟩ = some (.int .i64 3) := fun x => (bc.ext x.ext).cell 4
      have q5 : ∀ x : Later wc, x.now.cell? ⟨g, 5, none⟩ = some (.int .i64 (3 + (I + 1) / 2)) := fun x => (bc.ext x.ext).cell 5
      refine wp_region_later (by kernel_rfl) (by kernel_rfl) ?_
      repeat (go_big_quiet_step ((exact later_of ((HF _).out))))
      refine wpQuiet_nil ?_
      rintro w5 ⟨x5, rfl⟩
      have xw5 := xc.trans x5.ext
      have e2 := C2.out _ xw5
      have d0 := q0 x5; have d5 := q5 x5
      have b5 := bc.ext x5.ext
      have r5 := rc.ext x5.ext
      clear q0 q1 q2 q3 q4 q5 c0 cc HF C2 bc rc xc
      go_wp2_with fail
      go_loop [8] (fun t => ∃ m : Nat, m ≤ 1024 ∧ t = .int .i64 m) (fun t => 1024 - (intOf t).toNat)
      case atStart => exact ⟨0, by omega, rfl⟩
      case round =>
        obtain ⟨m, hm, rfl⟩ := hrel
        have HB := Lib.hid (fun (hm2 : m < 1024) w => rbit_any m (v.getD 2 []) w l2 hm2)
        by_cases hm2 : m < 1024
        · by_cases m1 : (m : Int) < 3 + (I + 1) / 2
          · have hbit := Lib.hid (hgl.out.low m m1)
            have m3' : ¬ (v.length : Int) ≤ m := by omega
            have m3'' : decide ((v.length : Int) ≤ m) = false := by simpa using m3'
            go_wp2_with (go_at_call 108; refine (HB.out hm2 _).mono ?_; rintro e w' ⟨rfl, rfl⟩; rw [hbit.out])
            go_round
            case rel => exact ⟨m + 1, by omega, by go_num⟩
            case measure => simp [intOf]; omega
          · have m1' : decide ((m : Int) < 3 + (I + 1) / 2) = false := by simpa using m1
            by_cases m3 : v.length ≤ m
            · have hbit := Lib.hid (hgl.out.high m hm2 m3)
              have m3' : (v.length : Int) ≤ m := by omega
              go_wp2_with (go_at_call 108; refine (HB.out hm2 _).mono ?_; rintro e w' ⟨rfl, rfl⟩; rw [hbit.out])
              go_round
              case rel => exact ⟨m + 1, by omega, by go_num⟩
              case measure => simp [intOf]; omega
            · have m3' : ¬ (v.length : Int) ≤ m := by omega
              have m3'' : decide ((v.length : Int) ≤ m) = false := by simpa using m3'
              go_wp2_with (go_at_call 108; refine (HB.out hm2 _).mono ?_; rintro e w' ⟨rfl, rfl⟩)
              go_round
              case rel => exact ⟨m + 1, by omega, by go_num⟩
              case measure => simp [intOf]; omega
        · go_wp2_with (first
            | (refine wp_ld_geom (.tmp 6) rfl rfl g _ 81 rfl b5 rfl ?_)
            | (refine wp_st_geom (.tmp 2) (.tmp 77) rfl rfl w.heap.size _ [0, 0, 0, 0, 0, 0] 81 rfl rfl r5 rfl rfl ?_; intro w6 b6 g6))
          have xF := xw5.grown g6 (fun k e => by cases e; exact Nat.le_refl _)
          exact bodyPost_ret (v := .tuple #[geomV v.length I, .int .i64 0]) (results_cell2 Tryz.results69 _ _ _ _ _ _ _ rfl rfl b6 Tryz.underlying81 rfl geomSize) rfl ⟨rfl, xF⟩
end Go.Proofs.YtnoofjddikhopaaGreat
/- The document's geometry: Format of 24 blocks and 6 inodes. -/
namespace Go.Proofs.YtnoofjddikhopaaGreat
set_option linter.unusedVariables false
set_option linter.unusedSimpArgs false
open Go.RowKit
theorem strs_new1 (w : World) (s : List UInt8) : Strs (w.alloc (.cells #[.string (str s)] 9)) (some ⟨w.heap.size, 0, none⟩) 1 [s] := by
  refine ⟨rfl, fun _ => ⟨w.heap.size, 0, rfl, fun j hj => ?_⟩⟩
  rcases (show j = 0 by simpa using hj) with rfl
  exact (Box.new w 9 #[.string (str s)]).cell 0
def flips (m : List UInt8) : Nat → List UInt8
  | 0 => m
  | k + 1 => flipL (flips m k) k
theorem flips_len (m : List UInt8) (k : Nat) : (flips m k).length = m.length := by
  induction k with
  | zero => rfl
  | succ k ih => rw [flips, flipL_len, ih]
end Go.Proofs.YtnoofjddikhopaaGreat
/- The document's inodes: word, two, within. -/
namespace Go.Proofs.YtnoofjddikhopaaGreat
set_option linter.unusedVariables false
set_option linter.unusedSimpArgs false
open Go.RowKit
theorem fnum2 (s : List UInt8) (i : Nat) (h : i + 1 < s.length) : fnum s i 2 = (s[i].toNat : Int) + 256 * (s[i + 1].toNat : Int) := by
  unfold fnum
  rw [List.drop_eq_getElem_cons (by omega), List.drop_eq_getElem_cons (i := i + 1) (by omega)]
  simp only [List.take_succ_cons, List.take_zero, numL]; omega
set_option maxHeartbeats 400000 in
set_option maxRecDepth 100000 in
theorem rword_any (s : List UInt8) (i : Nat) (w : World) (h : i + 1 < s.length) (h2 : s.length ≤ 1000) :
    Calls Tryz.prog 127 #[.string (str s), .int .i64 i] w fun e w' => e = .returned (.int .i64 (fnum s i 2)) ∧ Ext w w' := by
  have hz := str_size
  have H := Lib.hid (fnum2 s i h)
  have t1 : (i : Int) < (s.length : Int) := by omega
  have t2 : (i : Int) + 1 < (s.length : Int) := by omega
  have t3 : ((i : Int) + 1).toNat = i + 1 := by omega
  have a0 : (str s)[i]'(by rw [str_size]; omega) = s[i] := rfl
  have a1 : (str s)[i + 1]'(by rw [str_size]; omega) = s[i + 1] := rfl
  have b0 := s[i].toNat_lt
  have b1 := s[i + 1].toNat_lt
  generalize s[i] = p at *
  generalize s[i + 1] = q at *
  have w0 : IntKind.i64.wrap (p.toNat : Int) = p.toNat := IntWalk.i64_in _ (by omega)
  have w1 : IntKind.i64.wrap (q.toNat : Int) = q.toNat := IntWalk.i64_in _ (by omega)
  go_enter Tryz.func127, Tryz.ntmps127
  go_wp2_with fail
  refine wp_region_later (by kernel_rfl) (by kernel_rfl) ?_
  repeat (go_big_quiet_step (fail))
  refine wpQuiet_nil ?_
  rintro w2 ⟨x, rfl⟩
  go_wp2_with fail
  go_ret
  exact ⟨by rw [H.out]; rfl, x.ext⟩
set_option maxHeartbeats 400000 in
theorem rwithin_any (n m : Int) (w : World) :
    Calls Tryz.prog 129 #[.int .i64 n, .int .i64 m] w fun e w' => e = .returned (.bool (decide (0 ≤ n ∧ n ≤ m))) ∧ w = w' := by
  by_cases h0 : 0 ≤ n
  · go_enter Tryz.func129, Tryz.ntmps129
    go_wp2_with fail
    go_ret
    exact ⟨ret_bool (by simp [h0]), rfl⟩
  · have h1 : decide (0 ≤ n) = false := by simpa using h0
    go_enter Tryz.func129, Tryz.ntmps129
    go_wp2_with fail
    go_ret
    exact ⟨ret_bool (by simp; try omega), rfl⟩
theorem conv_two (w : World) (x y : Int) : (convert 88 9 (.slice (some ⟨w.heap.size, 0, none⟩) 2 2)).run Tryz.prog (w.alloc (.cells #[.int .u8 x, .int .u8 y] 5)) = .ok (.string (str [b8 x, b8 y])) (w.alloc (.cells #[.int .u8 x, .int .u8 y] 5)) :=
  conv_row w [x, y] #[.int .u8 x, .int .u8 y] 5 2 2 rfl (fun i hi => by
    rcases (show i = 0 ∨ i = 1 by simp at hi; omega) with rfl | rfl <;> rfl)
set_option maxHeartbeats 400000 in
set_option maxRecDepth 100000 in
theorem rtwo_any (n : Int) (w : World) (h0 : 0 ≤ n) (h1 : n ≤ 65535) :
    Calls Tryz.prog 130 #[.int .i64 n] w fun e w' => e = .returned (.string (str (putL n 2))) ∧ Ext w w' := by
  have H := Lib.hid (show putL n 2 = [b8 (n % 256), b8 (n / 256 % 256)] from rfl)
  have k1 := conv_two w (n % 256) (n / 256 % 256)
  have u1 : IntKind.u8.wrap (n % 256) = n % 256 := by rw [IntKind.wrap_u8]; omega
  have u2 : IntKind.u8.wrap (n / 256 % 256) = n / 256 % 256 := by rw [IntKind.wrap_u8]; omega
  go_enter Tryz.func130, Tryz.ntmps130
  go_wp2_with fail
  go_ret
  exact ⟨by rw [H.out]; rfl, (Ext.refl _).alloc _⟩
end Go.Proofs.YtnoofjddikhopaaGreat
/- The document's inodes: Fits, Bytes. -/
namespace Go.Proofs.YtnoofjddikhopaaGreat
set_option linter.unusedVariables false
set_option linter.unusedSimpArgs false
open Go.RowKit
/-- the twelve numbers of an inode that fits -/
structure FitI (k l o s d0 d1 d2 d3 d4 d5 n e : Int) : Prop where
  k : 0 ≤ k ∧ k ≤ 255
  o : 0 ≤ o ∧ o ≤ 255
  l : 0 ≤ l ∧ l ≤ 65535
  s : 0 ≤ s ∧ s ≤ 4294967295
  n : 0 ≤ n ∧ n ≤ 65535
  e : 0 ≤ e ∧ e ≤ 65535
  d0 : 0 ≤ d0 ∧ d0 ≤ 65535
  d1 : 0 ≤ d1 ∧ d1 ≤ 65535
  d2 : 0 ≤ d2 ∧ d2 ≤ 65535
  d3 : 0 ≤ d3 ∧ d3 ≤ 65535
  d4 : 0 ≤ d4 ∧ d4 ≤ 65535
  d5 : 0 ≤ d5 ∧ d5 ≤ 65535
theorem rwithin_yes (n m : Int) (w : World) (h : 0 ≤ n ∧ n ≤ m) :
    Calls Tryz.prog 129 #[.int .i64 n, .int .i64 m] w fun e w' => e = .returned (.bool true) ∧ w = w' := by
  refine (rwithin_any n m w).mono ?_
  rintro e w' ⟨rfl, rfl⟩
  exact ⟨by rw [decide_eq_true h], rfl⟩
set_option maxHeartbeats 1000000 in
set_option maxRecDepth 100000 in
theorem rfits_yes (k l o s d0 d1 d2 d3 d4 d5 n e : Int) (w : World) (h : FitI k l o s d0 d1 d2 d3 d4 d5 n e) :
    Calls Tryz.prog 109 #[inoV [k, l, o, s, d0, d1, d2, d3, d4, d5, n, e]] w fun r w' => r = .returned (.bool true) ∧ Ext w w' := by
  have H := Lib.hid h
  clear h
  show Calls _ _ #[.agg #[.int .i64 k, .int .i64 l, .int .i64 o, .int .i64 s, .int .i64 d0, .int .i64 d1, .int .i64 d2, .int .i64 d3, .int .i64 d4, .int .i64 d5, .int .i64 n, .int .i64 e]] _ _
  go_enter Tryz.func109, Tryz.ntmps109
  go_wp2_with (go_at_call 129; refine (rwithin_yes _ _ _ (by first | exact H.out.k | exact H.out.o | exact H.out.l | exact H.out.s | exact H.out.n | exact H.out.e | exact H.out.d0 | exact H.out.d1 | exact H.out.d2 | exact H.out.d3 | exact H.out.d4 | exact H.out.d5)).mono ?_; rintro e w' ⟨rfl, rfl⟩)
  refine wp_loop_rounds 7 ?_
  rw [rounds_succ]
  go_wp2_with (go_at_call 129; refine (rwithin_yes _ _ _ (by first | exact H.out.k | exact H.out.o | exact H.out.l | exact H.out.s | exact H.out.n | exact H.out.e | exact H.out.d0 | exact H.out.d1 | exact H.out.d2 | exact H.out.d3 | exact H.out.d4 | exact H.out.d5)).mono ?_; rintro e w' ⟨rfl, rfl⟩)
  rw [rounds_succ]
  go_wp2_with (go_at_call 129; refine (rwithin_yes _ _ _ (by first | exact H.out.k | exact H.out.o | exact H.out.l | exact H.out.s | exact H.out.n | exact H.out.e | exact H.out.d0 | exact H.out.d1 | exact H.out.d2 | exact H.out.d3 | exact H.out.d4 | exact H.out.d5)).mono ?_; rintro e w' ⟨rfl, rfl⟩)
  rw [rounds_succ]
  go_wp2_with (go_at_call 129; refine (rwithin_yes _ _ _ (by first | exact H.out.k | exact H.out.o | exact H.out.l | exact H.out.s | exact H.out.n | exact H.out.e | exact H.out.d0 | exact H.out.d1 | exact H.out.d2 | exact H.out.d3 | exact H.out.d4 | exact H.out.d5)).mono ?_; rintro e w' ⟨rfl, rfl⟩)
  rw [rounds_succ]
  go_wp2_with (go_at_call 129; refine (rwithin_yes _ _ _ (by first | exact H.out.k | exact H.out.o | exact H.out.l | exact H.out.s | exact H.out.n | exact H.out.e | exact H.out.d0 | exact H.out.d1 | exact H.out.d2 | exact H.out.d3 | exact H.out.d4 | exact H.out.d5)).mono ?_; rintro e w' ⟨rfl, rfl⟩)
  rw [rounds_succ]
  go_wp2_with (go_at_call 129; refine (rwithin_yes _ _ _ (by first | exact H.out.k | exact H.out.o | exact H.out.l | exact H.out.s | exact H.out.n | exact H.out.e | exact H.out.d0 | exact H.out.d1 | exact H.out.d2 | exact H.out.d3 | exact H.out.d4 | exact H.out.d5)).mono ?_; rintro e w' ⟨rfl, rfl⟩)
  rw [rounds_succ]
  go_wp2_with (go_at_call 129; refine (rwithin_yes _ _ _ (by first | exact H.out.k | exact H.out.o | exact H.out.l | exact H.out.s | exact H.out.n | exact H.out.e | exact H.out.d0 | exact H.out.d1 | exact H.out.d2 | exact H.out.d3 | exact H.out.d4 | exact H.out.d5)).mono ?_; rintro e w' ⟨rfl, rfl⟩)
  rw [rounds_succ]
  go_wp2_with (go_at_call 129; refine (rwithin_yes _ _ _ (by first | exact H.out.k | exact H.out.o | exact H.out.l | exact H.out.s | exact H.out.n | exact H.out.e | exact H.out.d0 | exact H.out.d1 | exact H.out.d2 | exact H.out.d3 | exact H.out.d4 | exact H.out.d5)).mono ?_; rintro e w' ⟨rfl, rfl⟩)
  go_ret
  exact ⟨rfl, (Ext.refl _).alloc _⟩
end Go.Proofs.YtnoofjddikhopaaGreat
/- The document's inodes: Bytes. -/
namespace Go.Proofs.YtnoofjddikhopaaGreat
set_option linter.unusedVariables false
set_option linter.unusedSimpArgs false
open Go.RowKit
theorem conv_box2 (w : World) (g : Nat) (x y : Int) (h : Box w g 5 #[.int .u8 x, .int .u8 y]) : (convert 88 9 (.slice (some ⟨g, 0, none⟩) 2 2)).run Tryz.prog w = .ok (.string (str [b8 x, b8 y])) w := by
  refine run_convert_bytes_arg (P := Tryz.prog) _ 88 5 Tryz.underlying88 Tryz.underlying5 _ _ _ 2 [x, y] rfl (fun i hi => ?_) 9 Tryz.underlying9
  rcases (show i = 0 ∨ i = 1 by simp at hi; omega) with rfl | rfl
  · exact h.cell 0
  · exact h.cell 1
theorem putL4 (s : Int) (h : 0 ≤ s) : putL s 4 = putL (s % 65536) 2 ++ putL (s / 65536) 2 := by
  have e1 : s % 65536 % 256 = s % 256 := by omega
  have e2 : s % 65536 / 256 % 256 = s / 256 % 256 := by omega
  have e3 : s / 256 / 256 % 256 = s / 65536 % 256 := by omega
  have e4 : s / 256 / 256 / 256 % 256 = s / 65536 / 256 % 256 := by omega
  simp only [putL, e1, e2, e3, e4, List.cons_append, List.nil_append]
theorem inoB_parts (k l o s d0 d1 d2 d3 d4 d5 n e : Int) (h : FitI k l o s d0 d1 d2 d3 d4 d5 n e) :
    inoB [k, l, o, s, d0, d1, d2, d3, d4, d5, n, e] = [b8 k, b8 o] ++ putL l 2 ++ putL (s % 65536) 2 ++ putL (s / 65536) 2 ++ (putL d0 2 ++ (putL d1 2 ++ (putL d2 2 ++ (putL d3 2 ++ (putL d4 2 ++ (putL d5 2 ++ (putL n 2 ++ putL e 2))))))) := by
  have e1 : k % 256 = k := by have := h.k; omega
  have e2 : o % 256 = o := by have := h.o; omega
  show putL k 1 ++ (putL o 1 ++ (putL l 2 ++ (putL s 4 ++ (putL d0 2 ++ (putL d1 2 ++ (putL d2 2 ++ (putL d3 2 ++ (putL d4 2 ++ (putL d5 2 ++ (putL n 2 ++ (putL e 2 ++ []))))))))))) = _
  rw [putL4 s h.s.1, show putL k 1 = [b8 k] by simp [putL, e1], show putL o 1 = [b8 o] by simp [putL, e2], List.append_nil]
  simp only [List.append_assoc, List.cons_append, List.nil_append]
set_option maxHeartbeats 2000000 in
set_option maxRecDepth 100000 in
theorem rbytes_yes (k l o s d0 d1 d2 d3 d4 d5 n e : Int) (w : World) (h : FitI k l o s d0 d1 d2 d3 d4 d5 n e) :
    Calls Tryz.prog 110 #[inoV [k, l, o, s, d0, d1, d2, d3, d4, d5, n, e]] w fun r w' => r = .returned (.string (str (inoB [k, l, o, s, d0, d1, d2, d3, d4, d5, n, e] ++ zs 40))) ∧ Ext w w' := by
  have H := Lib.hid h
  have HB := Lib.hid (inoB_parts k l o s d0 d1 d2 d3 d4 d5 n e h)
  obtain ⟨hk0, hk1⟩ := h.k; obtain ⟨ho0, ho1⟩ := h.o; obtain ⟨hl0, hl1⟩ := h.l; obtain ⟨hs0, hs1⟩ := h.s
  clear h
  show Calls _ _ #[.agg #[.int .i64 k, .int .i64 l, .int .i64 o, .int .i64 s, .int .i64 d0, .int .i64 d1, .int .i64 d2, .int .i64 d3, .int .i64 d4, .int .i64 d5, .int .i64 n, .int .i64 e]] _ _
  have hap := str_app
  have tm : s.tmod 65536 = s % 65536 := Int.tmod_eq_emod_of_nonneg hs0
  have td : s.tdiv 65536 = s / 65536 := Int.tdiv_eq_ediv_of_nonneg hs0
  have T1 := Lib.hid (fun w => rtwo_any l w (by omega) (by omega))
  have T2 := Lib.hid (fun w => rtwo_any (s % 65536) w (by omega) (by omega))
  have T3 := Lib.hid (fun w => rtwo_any (s / 65536) w (by omega) (by omega))
  have u1 : IntKind.u8.wrap k = k := by rw [IntKind.wrap_u8]; omega
  have u2 : IntKind.u8.wrap o = o := by rw [IntKind.wrap_u8]; omega
  have u3 : IntKind.i64.wrap (s / 65536) = s / 65536 := IntWalk.i64_in _ (by omega)
  go_enter Tryz.func110, Tryz.ntmps110
  go_wp2_with fail
  have b1 := Box.new w 61 #[.int .i64 k, .int .i64 l, .int .i64 o, .int .i64 s, .int .i64 d0, .int .i64 d1, .int .i64 d2, .int .i64 d3, .int .i64 d4, .int .i64 d5, .int .i64 n, .int .i64 e]
  have x1 := (Ext.refl w).alloc (.cells #[.int .i64 k, .int .i64 l, .int .i64 o, .int .i64 s, .int .i64 d0, .int .i64 d1, .int .i64 d2, .int .i64 d3, .int .i64 d4, .int .i64 d5, .int .i64 n, .int .i64 e] 61)
  generalize w.alloc (.cells #[.int .i64 k, .int .i64 l, .int .i64 o, .int .i64 s, .int .i64 d0, .int .i64 d1, .int .i64 d2, .int .i64 d3, .int .i64 d4, .int .i64 d5, .int .i64 n, .int .i64 e] 61) = w1 at b1 x1 ⊢
  generalize w.heap.size = g at b1 ⊢
  have lp1 := putL_len l 2
  have lp2 := putL_len (s % 65536) 2
  have lp3 := putL_len (s / 65536) 2
  have hz := str_size
  generalize putL l 2 = p1 at *
  generalize putL (s % 65536) 2 = p2 at *
  generalize putL (s / 65536) 2 = p3 at *
  go_cut [3] (fun s3 wx => s3 = .string (str ([b8 k, b8 o] ++ p1 ++ p2 ++ p3)) ∧ Ext w1 wx)
  case first =>
    have c0 : w1.cell? ⟨g, 0, none⟩ = some (.int .i64 k) := b1.cell 0
    have c1 : w1.cell? ⟨g, 1, none⟩ = some (.int .i64 l) := b1.cell 1
    have c2 : w1.cell? ⟨g, 2, none⟩ = some (.int .i64 o) := b1.cell 2
    have c3 : w1.cell? ⟨g, 3, none⟩ = some (.int .i64 s) := b1.cell 3
    have q0 : ∀ x : Later w1, x.now.cell? ⟨g, 0, none⟩ = some (.int .i64 k) := fun x => x.ext.keep c0
    have q1 : ∀ x : Later w1, x.now.cell? ⟨g, 1, none⟩ = some (.int .i64 l) := fun x => x.ext.keep c1
    have q2 : ∀ x : Later w1, x.now.cell? ⟨g, 2, none⟩ = some (.int .i64 o) := fun x => x.ext.keep c2
    have q3 : ∀ x : Later w1, x.now.cell? ⟨g, 3, none⟩ = some (.int .i64 s) := fun x => x.ext.keep c3
    clear b1 c0 c1 c2 c3
    refine wp_region_drift 22 6 [0, 1, 2, 3, 4, 5, 8, 9, 10, 12, 13, 14, 15, 17, 18, 19, 20] [7, 11, 16, 21] (fun wx u => ∃ q, u = .slice (some ⟨q, 0, none⟩) 2 2 ∧ Box wx q 5 #[.int .u8 k, .int .u8 o]) (fun u wx wy xy hx => by obtain ⟨q, h1, h2⟩ := hx; exact ⟨q, h1, h2.ext xy⟩) _ (by kernel_rfl) (by kernel_rfl) (by kernel_rfl) (by kernel_rfl) (by decide) (by decide) rfl (by kernel_rfl) rfl rfl (by kernel_rfl) (by kernel_rfl) ?_
    simp only [pickL, List.filterMap_cons, List.filterMap_nil, List.getElem?_cons_succ, List.getElem?_cons_zero, List.drop_succ_cons, List.drop_zero]
    apply wpCalm_then
    case h1 =>
      repeat (refine wpCalm_plain rfl ?_ (fun x => ?_) ?_; rotate_left; (· (go_simp; (first | (with_reducible exact rfl) | (with_reducible exact T1.out _) | (with_reducible exact T2.out _) | (with_reducible exact T3.out _)))); (try dsimp only); (try simp only [Act.put, List.setIfInBounds_toArray, List.set_cons_zero, List.set_cons_succ]))
      exact wpCalm_nil rfl
    case h2 =>
      refine ⟨fun x => ?_, fun u hu => ?_⟩
      · go_simp
        exact ⟨(Ext.refl _).alloc _, Box.new _ _ _⟩
      · obtain ⟨_, q, rfl, _⟩ := hu
        try dsimp only
        simp only [Act.put, List.setIfInBounds_toArray, List.set_cons_zero, List.set_cons_succ]
        apply wpQuiet_then
        case h1 =>
          repeat (refine wpQuiet_plain rfl ?_ (fun wx hx => ?_) ?_; rotate_left; (· (obtain ⟨_, q', e, bx⟩ := hx; cases e; have hq := conv_box2 wx q k o bx; go_simp; (first | (with_reducible exact rfl)))); (try dsimp only); (try simp only [Act.put, List.setIfInBounds_toArray, List.set_cons_zero, List.set_cons_succ]))
          exact wpQuiet_nil rfl
        case h2 =>
          rintro wx ⟨xx, _⟩
          go_wp2_with fail
          go_meet
          exact ⟨by simp, xx⟩
  case rest =>
    obtain ⟨rfl, xc⟩ := hcut
    have bc := b1.ext xc
    have hA : ([b8 k, b8 o] ++ p1 ++ p2 ++ p3).length = 8 := by simp [lp1, lp2, lp3]
    generalize [b8 k, b8 o] ++ p1 ++ p2 ++ p3 = A0 at *
    have xw := x1.trans xc
    clear T1 T2 T3 b1 x1 xc lp1 lp2 lp3
    have D0 := Lib.hid (fun w => rtwo_any d0 w H.out.d0.1 H.out.d0.2)
    have l0 := putL_len d0 2
    generalize putL d0 2 = f0 at *
    have D1 := Lib.hid (fun w => rtwo_any d1 w H.out.d1.1 H.out.d1.2)
    have l1 := putL_len d1 2
    generalize putL d1 2 = f1 at *
    have D2 := Lib.hid (fun w => rtwo_any d2 w H.out.d2.1 H.out.d2.2)
    have l2 := putL_len d2 2
    generalize putL d2 2 = f2 at *
    have D3 := Lib.hid (fun w => rtwo_any d3 w H.out.d3.1 H.out.d3.2)
    have l3 := putL_len d3 2
    generalize putL d3 2 = f3 at *
    have D4 := Lib.hid (fun w => rtwo_any d4 w H.out.d4.1 H.out.d4.2)
    have l4 := putL_len d4 2
    generalize putL d4 2 = f4 at *
    have D5 := Lib.hid (fun w => rtwo_any d5 w H.out.d5.1 H.out.d5.2)
    have l5 := putL_len d5 2
    generalize putL d5 2 = f5 at *
    have DN := Lib.hid (fun w => rtwo_any n w H.out.n.1 H.out.n.2)
    have DE := Lib.hid (fun w => rtwo_any e w H.out.e.1 H.out.e.2)
    have ln := putL_len n 2
    have le := putL_len e 2
    generalize putL n 2 = fn at *
    generalize putL e 2 = fe at *
    go_wp2_with fail
    refine wp_loop_rounds 7 ?_
    have c0 : wc.cell? ⟨g, 4, none⟩ = some (.int .i64 d0) := bc.cell 4
    rw [rounds_succ]
    go_wp2_with (go_at_call 130; refine (D0.out _).mono ?_; rintro ee e0 ⟨rfl, y0⟩)
    have r0 := bc.ext y0
    have z0 := xw.trans y0
    clear bc xw c0 y0
    have c1 : e0.cell? ⟨g, 5, none⟩ = some (.int .i64 d1) := r0.cell 5
    rw [rounds_succ]
    go_wp2_with (go_at_call 130; refine (D1.out _).mono ?_; rintro ee e1 ⟨rfl, y1⟩)
    have r1 := r0.ext y1
    have z1 := z0.trans y1
    clear r0 z0 c1 y1
    have c2 : e1.cell? ⟨g, 6, none⟩ = some (.int .i64 d2) := r1.cell 6
    rw [rounds_succ]
    go_wp2_with (go_at_call 130; refine (D2.out _).mono ?_; rintro ee e2 ⟨rfl, y2⟩)
    have r2 := r1.ext y2
    have z2 := z1.trans y2
    clear r1 z1 c2 y2
    have c3 : e2.cell? ⟨g, 7, none⟩ = some (.int .i64 d3) := r2.cell 7
    rw [rounds_succ]
    go_wp2_with (go_at_call 130; refine (D3.out _).mono ?_; rintro ee e3 ⟨rfl, y3⟩)
    have r3 := r2.ext y3
    have z3 := z2.trans y3
    clear r2 z2 c3 y3
    have c4 : e3.cell? ⟨g, 8, none⟩ = some (.int .i64 d4) := r3.cell 8
    rw [rounds_succ]
    go_wp2_with (go_at_call 130; refine (D4.out _).mono ?_; rintro ee e4 ⟨rfl, y4⟩)
    have r4 := r3.ext y4
    have z4 := z3.trans y4
    clear r3 z3 c4 y4
    have c5 : e4.cell? ⟨g, 9, none⟩ = some (.int .i64 d5) := r4.cell 9
    rw [rounds_succ]
    go_wp2_with (go_at_call 130; refine (D5.out _).mono ?_; rintro ee e5 ⟨rfl, y5⟩)
    have r5 := r4.ext y5
    have z5 := z4.trans y5
    clear r4 z4 c5 y5
    rw [rounds_succ]
    go_wp2_with fail
    have q10 : ∀ x : Later e5, x.now.cell? ⟨g, 10, none⟩ = some (.int .i64 n) := fun x => (r5.ext x.ext).cell 10
    have q11 : ∀ x : Later e5, x.now.cell? ⟨g, 11, none⟩ = some (.int .i64 e) := fun x => (r5.ext x.ext).cell 11
    refine wp_region_later (by kernel_rfl) (by kernel_rfl) ?_
    repeat (go_big_quiet_step ((first | (with_reducible exact later_of (DN.out _)) | (with_reducible exact later_of (DE.out _)))))
    refine wpQuiet_nil ?_
    rintro w9 ⟨x9, rfl⟩
    have xF := z5.trans x9.ext
    clear q10 q11 r5 z5 DN DE
    have hBl : (A0 ++ (f0 ++ (f1 ++ (f2 ++ (f3 ++ (f4 ++ (f5 ++ (fn ++ fe)))))))).length = 24 := by simp [hA, l0, l1, l2, l3, l4, l5, ln, le]
    generalize A0 ++ (f0 ++ (f1 ++ (f2 ++ (f3 ++ (f4 ++ (f5 ++ (fn ++ fe))))))) = B at *
    have hk0 : (⟨#[0]⟩ : ByteArray) = str [0] := rfl
    go_wp2_with fail
    go_loop [3] (fun t => ∃ j : Nat, j ≤ 40 ∧ t = .string (str (B ++ zs j))) (fun t => 64 - sizeS t)
    case atStart => exact ⟨0, by omega, by rw [show zs 0 = [] from rfl, List.append_nil]⟩
    case round =>
      obtain ⟨j, hj, rfl⟩ := hrel
      have hl : (B ++ zs j).length = 24 + j := by rw [List.length_append, hBl, zs_len]
      have HZ := Lib.hid (show B ++ zs j ++ [0] = B ++ zs (j + 1) by rw [List.append_assoc, show zs (j + 1) = zs j ++ [0] from List.replicate_succ'])
      have HL := Lib.hid (show (B ++ zs (j + 1)).length = 24 + (j + 1) by rw [List.length_append, hBl, zs_len])
      have H40 := Lib.hid (fun (h : ¬ j < 40) => show B ++ zs j = B ++ zs 40 by rw [show j = 40 by omega])
      generalize B ++ zs j = Bj at *
      by_cases hlt : j < 40
      · go_wp2_with fail
        go_round
        case rel => exact ⟨j + 1, by omega, by rw [HZ.out]⟩
        case measure => rw [HZ.out]; simp [sizeS, str_size, hl, HL.out]; omega
      · go_wp2_with fail
        go_ret
        exact ⟨by rw [HB.out, ← H40.out hlt]; rfl, xF⟩
end Go.Proofs.YtnoofjddikhopaaGreat
/- The document's inodes: Of. -/
namespace Go.Proofs.YtnoofjddikhopaaGreat
set_option linter.unusedVariables false
set_option linter.unusedSimpArgs false
open Go.RowKit
theorem fnum2_bd (s : List UInt8) (i : Nat) : 0 ≤ fnum s i 2 ∧ fnum s i 2 ≤ 65535 := by
  unfold fnum
  have h1 := numL_lt ((s.drop i).take 2)
  have h2 : ((s.drop i).take 2).length ≤ 2 := by simp; omega
  have h3 : 256 ^ ((s.drop i).take 2).length ≤ 256 ^ 2 := Nat.pow_le_pow_right (by decide) h2
  omega
theorem fnum4 (s : List UInt8) (i : Nat) (h : i + 3 < s.length) : fnum s i 4 = fnum s i 2 + 65536 * fnum s (i + 2) 2 := by
  unfold fnum
  rw [List.drop_eq_getElem_cons (by omega), List.drop_eq_getElem_cons (i := i + 1) (by omega), List.drop_eq_getElem_cons (i := i + 1 + 1) (by omega), List.drop_eq_getElem_cons (i := i + 1 + 1 + 1) (by omega)]
  simp only [List.take_succ_cons, List.take_zero, numL]; omega
theorem fnum1 (s : List UInt8) (i : Nat) (h : i < s.length) : fnum s i 1 = (s[i].toNat : Int) := by
  unfold fnum
  rw [List.drop_eq_getElem_cons (by omega)]
  simp only [List.take_succ_cons, List.take_zero, numL]; omega
theorem setCell_grown' (w : World) (g i : Nat) (v : Value) : w.grownBy (w.setCell ⟨g, i, none⟩ v) (some g) :=
  ⟨rfl, rfl, rfl, by simp [World.setCell], fun k _ hne => heap_setCell_other w ⟨g, i, none⟩ k v (fun e => hne (by rw [e]))⟩
theorem results_cell1r {fn : Func} {p : Tmp} {ty : TypeId} (h : fn.results = #[.cell p ty]) (tmps : Array Value) (w : World) (g : Nat) (t : TypeId) (cs : Array Value) (d : TypeDesc)
    (hp : tmps.getD p undef = .pointer (some ⟨g, 0, none⟩)) (hg : Box w g t cs)
    (hu : Tryz.prog.underlying ty = some d) (hd : isAggD d = true) (hi : (Tryz.prog.info? ty).map (·.size) = some cs.size) :
    (results fn tmps).run Tryz.prog w = .ok (.agg cs) w := by
  have hp' : tmps[p]?.getD undef = .pointer (some ⟨g, 0, none⟩) := by simpa using hp
  simp [results, h, hp', asAddr, run_loadVar_row w g t ty cs (0, 0) d hg hu (by cases d <;> first | rfl | cases hd) hi]
set_option maxHeartbeats 2000000 in
set_option maxRecDepth 100000 in
theorem riof_any (s : List UInt8) (w : World) (h : s.length = 64) :
    Calls Tryz.prog 98 #[.string (str s)] w fun r w' => r = .returned (inoV (inoL s 0)) ∧ Ext w w' := by
  have hz : (str s).size = 64 := by rw [str_size, h]
  have W : ∀ i : Nat, i + 1 < 64 → Hid (∀ w, Calls Tryz.prog 127 #[.string (str s), .int .i64 i] w fun e w' => e = .returned (.int .i64 (fnum s i 2)) ∧ Ext w w') := fun i hi => Lib.hid (fun w => rword_any s i w (by omega) (by omega))
  have B := fnum2_bd s
  have HI := Lib.hid (show inoL s 0 = [fnum s 0 1, fnum s 2 2, fnum s 1 1, fnum s 4 2 + 65536 * fnum s 6 2, fnum s 8 2, fnum s 10 2, fnum s 12 2, fnum s 14 2, fnum s 16 2, fnum s 18 2, fnum s 20 2, fnum s 22 2] by unfold inoL; rw [show fnum s (0 + 4) 4 = _ from fnum4 s 4 (by omega)])
  rw [fnum1 s 0 (by omega), fnum1 s 1 (by omega)] at HI
  have a0 : (str s)[0]'(by rw [hz]; decide) = s[0]'(by omega) := rfl
  have a1 : (str s)[1]'(by rw [hz]; decide) = s[1]'(by omega) := rfl
  have g0 := (s[0]'(by omega)).toNat_lt
  have g1 := (s[1]'(by omega)).toNat_lt
  generalize s[0]'(by omega) = c0 at *
  generalize s[1]'(by omega) = c1 at *
  have v0 : IntKind.i64.wrap (c0.toNat : Int) = c0.toNat := IntWalk.i64_in _ (by omega)
  have v1 : IntKind.i64.wrap (c1.toNat : Int) = c1.toNat := IntWalk.i64_in _ (by omega)
  have W2 : Hid (∀ w, Calls Tryz.prog 127 #[.string (str s), .int .i64 2] w fun e w' => e = .returned (.int .i64 (fnum s 2 2)) ∧ Ext w w') := W 2 (by decide)
  have W4 : Hid (∀ w, Calls Tryz.prog 127 #[.string (str s), .int .i64 4] w fun e w' => e = .returned (.int .i64 (fnum s 4 2)) ∧ Ext w w') := W 4 (by decide)
  have W6 : Hid (∀ w, Calls Tryz.prog 127 #[.string (str s), .int .i64 6] w fun e w' => e = .returned (.int .i64 (fnum s 6 2)) ∧ Ext w w') := W 6 (by decide)
  have W8 : Hid (∀ w, Calls Tryz.prog 127 #[.string (str s), .int .i64 8] w fun e w' => e = .returned (.int .i64 (fnum s 8 2)) ∧ Ext w w') := W 8 (by decide)
  have W10 : Hid (∀ w, Calls Tryz.prog 127 #[.string (str s), .int .i64 10] w fun e w' => e = .returned (.int .i64 (fnum s 10 2)) ∧ Ext w w') := W 10 (by decide)
  have W12 : Hid (∀ w, Calls Tryz.prog 127 #[.string (str s), .int .i64 12] w fun e w' => e = .returned (.int .i64 (fnum s 12 2)) ∧ Ext w w') := W 12 (by decide)
  have W14 : Hid (∀ w, Calls Tryz.prog 127 #[.string (str s), .int .i64 14] w fun e w' => e = .returned (.int .i64 (fnum s 14 2)) ∧ Ext w w') := W 14 (by decide)
  have W16 : Hid (∀ w, Calls Tryz.prog 127 #[.string (str s), .int .i64 16] w fun e w' => e = .returned (.int .i64 (fnum s 16 2)) ∧ Ext w w') := W 16 (by decide)
  have W18 : Hid (∀ w, Calls Tryz.prog 127 #[.string (str s), .int .i64 18] w fun e w' => e = .returned (.int .i64 (fnum s 18 2)) ∧ Ext w w') := W 18 (by decide)
  have W20 : Hid (∀ w, Calls Tryz.prog 127 #[.string (str s), .int .i64 20] w fun e w' => e = .returned (.int .i64 (fnum s 20 2)) ∧ Ext w w') := W 20 (by decide)
  have W22 : Hid (∀ w, Calls Tryz.prog 127 #[.string (str s), .int .i64 22] w fun e w' => e = .returned (.int .i64 (fnum s 22 2)) ∧ Ext w w') := W 22 (by decide)
  have B4 := B 4; have B6 := B 6
  clear W B h
  generalize fnum s 2 2 = n2 at *
  generalize fnum s 4 2 = n4 at *
  generalize fnum s 6 2 = n6 at *
  generalize fnum s 8 2 = n8 at *
  generalize fnum s 10 2 = n10 at *
  generalize fnum s 12 2 = n12 at *
  generalize fnum s 14 2 = n14 at *
  generalize fnum s 16 2 = n16 at *
  generalize fnum s 18 2 = n18 at *
  generalize fnum s 20 2 = n20 at *
  generalize fnum s 22 2 = n22 at *
  obtain ⟨B40, B41⟩ := B4
  obtain ⟨B60, B61⟩ := B6
  have v2 : IntKind.i64.wrap (65536 * n6) = 65536 * n6 := IntWalk.i64_in _ (by omega)
  have v3 : IntKind.i64.wrap (n4 + 65536 * n6) = n4 + 65536 * n6 := IntWalk.i64_in _ (by omega)
  go_enter Tryz.func98, Tryz.ntmps98
  go_wp2_with fail
  generalize hw1 : w.alloc _ = w1
  have x1 : Ext w w1 := by rw [← hw1]; exact (Ext.refl _).alloc _
  have r1 : Box w1 w.heap.size 61 (intVals zero12) := by rw [← hw1]; exact Box.new _ _ _
  clear hw1
  refine wp_region_drift 20 19 [0, 1, 2, 3, 4, 5, 6, 7, 8, 9, 10, 11, 12, 13, 14, 15, 16, 17, 18] [] (NewBox w1 61 (intVals zero12)) (NewBox.keep w1 _ _) _ (by kernel_rfl) (by kernel_rfl) (by kernel_rfl) (by kernel_rfl) (by decide) (by decide) rfl (by kernel_rfl) rfl rfl (by kernel_rfl) (by kernel_rfl) ?_
  simp only [pickL, List.filterMap_cons, List.filterMap_nil, List.getElem?_cons_succ, List.getElem?_cons_zero, List.drop_succ_cons, List.drop_zero]
  apply wpCalm_then
  case h1 =>
    repeat (refine wpCalm_plain rfl ?_ (fun x => ?_) ?_; rotate_left; (· (go_simp; (first | (with_reducible exact rfl) | (with_reducible exact W2.out _) | (with_reducible exact W4.out _) | (with_reducible exact W6.out _) | (with_reducible exact W20.out _) | (with_reducible exact W22.out _)))); (try dsimp only); (try simp only [Act.put, List.setIfInBounds_toArray, List.set_cons_zero, List.set_cons_succ]))
    exact wpCalm_nil rfl
  case h2 =>
    refine ⟨fun x => ?_, fun u hu => ?_⟩
    · go_simp
      exact newBox_alloc x _ _
    · obtain ⟨_, q, rfl, hq, _⟩ := hu
      simp only [Act.put, List.setIfInBounds_toArray, List.set_cons_zero, List.set_cons_succ]
      refine wpQuiet_nil ?_
      rintro wx ⟨xx, q', e, _, bx⟩
      cases e
      refine wp_st_ino (.tmp 3) (.tmp 23) rfl rfl q [(c0.toNat : Int), n2, (c1.toNat : Int), n4 + 65536 * n6, 0, 0, 0, 0, 0, 0, n20, n22] zero12 61 rfl rfl bx rfl rfl ?_
      intro e0 b0 g0'
      have z0 : Ext w e0 := (x1.trans xx).grown g0' (fun k e => by cases e; exact Nat.le_trans x1.size hq)
      have rr0 : Box e0 w.heap.size 61 (intVals zero12) := (r1.ext xx).grown g0' (fun e => by have := r1.lt; cases e; omega)
      have hqw : w.heap.size < q := Nat.lt_of_lt_of_le r1.lt hq
      clear bx xx r1 x1 hq g0'
      go_wp2_with fail
      refine wp_loop_rounds 7 ?_
      rw [rounds_succ]
      go_wp2_with (go_at_call 127; with_reducible refine (W8.out _).mono ?_; rintro ee y0 ⟨rfl, xy0⟩; have k0 := (b0.ext xy0).cell 4; have f0 := (b0.ext xy0).frozen 4)
      have b1 : Box (y0.setCell ⟨q, 4, none⟩ (.int .i64 n8)) q 61 (intVals [(c0.toNat : Int), n2, (c1.toNat : Int), n4 + 65536 * n6, n8, 0, 0, 0, 0, 0, n20, n22]) := (b0.ext xy0).set 4 (.int .i64 n8)
      have z1 := (z0.trans xy0).setCell (p := ⟨q, 4, none⟩) (Nat.le_of_lt hqw) (.int .i64 n8)
      have rr1 := (rr0.ext xy0).grown (setCell_grown' y0 q 4 (.int .i64 n8)) (by simp; omega)
      generalize y0.setCell ⟨q, 4, none⟩ (.int .i64 n8) = e1 at b1 z1 rr1 ⊢
      clear b0 z0 rr0 k0 f0 xy0
      rw [rounds_succ]
      go_wp2_with (go_at_call 127; with_reducible refine (W10.out _).mono ?_; rintro ee y1 ⟨rfl, xy1⟩; have k1 := (b1.ext xy1).cell 5; have f1 := (b1.ext xy1).frozen 5)
      have b2 : Box (y1.setCell ⟨q, 5, none⟩ (.int .i64 n10)) q 61 (intVals [(c0.toNat : Int), n2, (c1.toNat : Int), n4 + 65536 * n6, n8, n10, 0, 0, 0, 0, n20, n22]) := (b1.ext xy1).set 5 (.int .i64 n10)
      have z2 := (z1.trans xy1).setCell (p := ⟨q, 5, none⟩) (Nat.le_of_lt hqw) (.int .i64 n10)
      have rr2 := (rr1.ext xy1).grown (setCell_grown' y1 q 5 (.int .i64 n10)) (by simp; omega)
      generalize y1.setCell ⟨q, 5, none⟩ (.int .i64 n10) = e2 at b2 z2 rr2 ⊢
      clear b1 z1 rr1 k1 f1 xy1
      rw [rounds_succ]
      go_wp2_with (go_at_call 127; with_reducible refine (W12.out _).mono ?_; rintro ee y2 ⟨rfl, xy2⟩; have k2 := (b2.ext xy2).cell 6; have f2 := (b2.ext xy2).frozen 6)
      have b3 : Box (y2.setCell ⟨q, 6, none⟩ (.int .i64 n12)) q 61 (intVals [(c0.toNat : Int), n2, (c1.toNat : Int), n4 + 65536 * n6, n8, n10, n12, 0, 0, 0, n20, n22]) := (b2.ext xy2).set 6 (.int .i64 n12)
      have z3 := (z2.trans xy2).setCell (p := ⟨q, 6, none⟩) (Nat.le_of_lt hqw) (.int .i64 n12)
      have rr3 := (rr2.ext xy2).grown (setCell_grown' y2 q 6 (.int .i64 n12)) (by simp; omega)
      generalize y2.setCell ⟨q, 6, none⟩ (.int .i64 n12) = e3 at b3 z3 rr3 ⊢
      clear b2 z2 rr2 k2 f2 xy2
      rw [rounds_succ]
      go_wp2_with (go_at_call 127; with_reducible refine (W14.out _).mono ?_; rintro ee y3 ⟨rfl, xy3⟩; have k3 := (b3.ext xy3).cell 7; have f3 := (b3.ext xy3).frozen 7)
      have b4 : Box (y3.setCell ⟨q, 7, none⟩ (.int .i64 n14)) q 61 (intVals [(c0.toNat : Int), n2, (c1.toNat : Int), n4 + 65536 * n6, n8, n10, n12, n14, 0, 0, n20, n22]) := (b3.ext xy3).set 7 (.int .i64 n14)
      have z4 := (z3.trans xy3).setCell (p := ⟨q, 7, none⟩) (Nat.le_of_lt hqw) (.int .i64 n14)
      have rr4 := (rr3.ext xy3).grown (setCell_grown' y3 q 7 (.int .i64 n14)) (by simp; omega)
      generalize y3.setCell ⟨q, 7, none⟩ (.int .i64 n14) = e4 at b4 z4 rr4 ⊢
      clear b3 z3 rr3 k3 f3 xy3
      rw [rounds_succ]
      go_wp2_with (go_at_call 127; with_reducible refine (W16.out _).mono ?_; rintro ee y4 ⟨rfl, xy4⟩; have k4 := (b4.ext xy4).cell 8; have f4 := (b4.ext xy4).frozen 8)
      have b5 : Box (y4.setCell ⟨q, 8, none⟩ (.int .i64 n16)) q 61 (intVals [(c0.toNat : Int), n2, (c1.toNat : Int), n4 + 65536 * n6, n8, n10, n12, n14, n16, 0, n20, n22]) := (b4.ext xy4).set 8 (.int .i64 n16)
      have z5 := (z4.trans xy4).setCell (p := ⟨q, 8, none⟩) (Nat.le_of_lt hqw) (.int .i64 n16)
      have rr5 := (rr4.ext xy4).grown (setCell_grown' y4 q 8 (.int .i64 n16)) (by simp; omega)
      generalize y4.setCell ⟨q, 8, none⟩ (.int .i64 n16) = e5 at b5 z5 rr5 ⊢
      clear b4 z4 rr4 k4 f4 xy4
      rw [rounds_succ]
      go_wp2_with (go_at_call 127; with_reducible refine (W18.out _).mono ?_; rintro ee y5 ⟨rfl, xy5⟩; have k5 := (b5.ext xy5).cell 9; have f5 := (b5.ext xy5).frozen 9)
      have b6 : Box (y5.setCell ⟨q, 9, none⟩ (.int .i64 n18)) q 61 (intVals [(c0.toNat : Int), n2, (c1.toNat : Int), n4 + 65536 * n6, n8, n10, n12, n14, n16, n18, n20, n22]) := (b5.ext xy5).set 9 (.int .i64 n18)
      have z6 := (z5.trans xy5).setCell (p := ⟨q, 9, none⟩) (Nat.le_of_lt hqw) (.int .i64 n18)
      have rr6 := (rr5.ext xy5).grown (setCell_grown' y5 q 9 (.int .i64 n18)) (by simp; omega)
      generalize y5.setCell ⟨q, 9, none⟩ (.int .i64 n18) = e6 at b6 z6 rr6 ⊢
      clear b5 z5 rr5 k5 f5 xy5
      rw [rounds_succ]
      go_wp2_with (first
        | (refine wp_ld_ino (.tmp 3) rfl rfl q _ 61 rfl b6 rfl ?_)
        | (refine wp_st_ino (.tmp 2) (.tmp 36) rfl rfl w.heap.size [(c0.toNat : Int), n2, (c1.toNat : Int), n4 + 65536 * n6, n8, n10, n12, n14, n16, n18, n20, n22] zero12 61 rfl rfl rr6 rfl rfl ?_; intro e9 b9 g9))
      have xF := z6.grown g9 (fun k e => by cases e; exact Nat.le_refl _)
      refine bodyPost_ret (results_cell1r rfl _ _ w.heap.size _ _ _ rfl b9 Tryz.underlying61 rfl inoSize) rfl ⟨?_, xF⟩
      rw [HI.out]; rfl
end Go.Proofs.YtnoofjddikhopaaGreat
/- The document's inodes: Get. -/
namespace Go.Proofs.YtnoofjddikhopaaGreat
set_option linter.unusedVariables false
set_option linter.unusedSimpArgs false
open Go.RowKit
theorem inoL_part (b : List UInt8) (o : Nat) : inoL ((b.drop o).take 64) 0 = inoL b o := by
  have e : ∀ i z : Nat, i + z ≤ 64 → fnum ((b.drop o).take 64) (0 + i) z = fnum b (o + i) z := fun i z h => by
    unfold fnum
    rw [Nat.zero_add, List.drop_take, List.take_take, List.drop_drop, show min z (64 - i) = z by omega]
  unfold inoL
  rw [show fnum ((b.drop o).take 64) 0 1 = fnum b o 1 from e 0 1 (by omega), e 2 2 (by omega), e 1 1 (by omega), e 4 4 (by omega), e 8 2 (by omega), e 10 2 (by omega), e 12 2 (by omega), e 14 2 (by omega), e 16 2 (by omega), e 18 2 (by omega), e 20 2 (by omega), e 22 2 (by omega)]
set_option maxHeartbeats 1000000 in
set_option maxRecDepth 100000 in
theorem riget_yes (A : Option Addr) (n c : Nat) (v : List (List UInt8)) (I k : Int) (w : World) (hv : Strs w A n v) (hg : Good v I) (hk1 : 1 ≤ k) (hk2 : k ≤ I) :
    Calls Tryz.prog 55 #[.slice A n c, .int .i64 k] w fun e w' => e = .returned (.tuple #[.agg (intVals (inoAt v k)), .int .i64 0]) ∧ Ext w w' := by
  have hpl := plan_bd hg.plan
  have HO := Lib.hid (fun w h => rof_yes A n c v I w h hg)
  have hv' := hv
  obtain ⟨rfl, hv2⟩ := hv
  obtain ⟨b, o, rfl, hcell⟩ := hv2 (by omega)
  have hi : (3 + (k - 1) / 2).toNat < v.length := by omega
  have hbl : (v.getD (3 + (k - 1) / 2).toNat []).length = 128 := getD_len hg hi
  have hc0 : w.cell? ⟨b, o + (3 + (k - 1) / 2).toNat, none⟩ = some (.string (str (v.getD (3 + (k - 1) / 2).toNat []))) := by
    rw [hcell _ hi, List.getD_eq_getElem?_getD, List.getElem?_eq_getElem hi]; rfl
  have HE := Lib.hid (show inoAt v k = inoL (((v.getD (3 + (k - 1) / 2).toNat []).drop ((k - 1) % 2 * 64).toNat).take 64) 0 by rw [inoL_part]; rfl)
  generalize v.getD (3 + (k - 1) / 2).toNat [] = bl at *
  have hse := str_ext
  have hz : (str bl).size = 128 := by rw [str_size, hbl]
  have hp : (3 + (k - 1) / 2).toNat = ((3 + (k - 1) / 2).toNat) := rfl
  have HT := Lib.hid (fun w => riof_any ((bl.drop ((k - 1) % 2 * 64).toNat).take 64) w (by simp [hbl]; omega))
  have t1 : IntKind.i64.wrap (k - 1) = k - 1 := IntWalk.i64_in _ (by omega)
  have t2 : (k - 1).tmod 2 = (k - 1) % 2 := Int.tmod_eq_emod_of_nonneg (by omega)
  have t3 : (k - 1).tdiv 2 = (k - 1) / 2 := Int.tdiv_eq_ediv_of_nonneg (by omega)
  have t4 : IntKind.i64.wrap ((k - 1) / 2) = (k - 1) / 2 := IntWalk.i64_in _ (by omega)
  have t5 : IntKind.i64.wrap ((k - 1) % 2 * 64) = (k - 1) % 2 * 64 := IntWalk.i64_in _ (by omega)
  have t6 : IntKind.i64.wrap (3 + (k - 1) / 2) = 3 + (k - 1) / 2 := IntWalk.i64_in _ (by omega)
  have t7 : IntKind.i64.wrap ((k - 1) % 2 * 64 + 64) = (k - 1) % 2 * 64 + 64 := IntWalk.i64_in _ (by omega)
  have s1 : (0 : Int) ≤ (k - 1) % 2 * 64 := by omega
  have s2 : (k - 1) % 2 * 64 + 64 ≤ 128 := by omega
  have s3 : (0 : Int) ≤ 3 + (k - 1) / 2 := by omega
  have s4 : 3 + (k - 1) / 2 < (v.length : Int) := by omega
  have s5 : (k - 1) % 2 * 64 ≤ (k - 1) % 2 * 64 + 64 := by omega
  have s6 : (0 : Int) ≤ (k - 1) % 2 * 64 + 64 := by omega
  have s7 : ((k - 1) % 2 * 64 + 64).toNat - ((k - 1) % 2 * 64).toNat = 64 := by omega
  have d1 : decide (k < 1) = false := by simp; omega
  have d2 : decide (I < k) = false := by simp; omega
  clear hcell hi hp hv2
  go_enter Tryz.func55, Tryz.ntmps55
  go_wp2_with fail
  refine (HO.out _ (hv'.ext ((Ext.refl _).alloc _))).mono ?_
  rintro e w1 ⟨rfl, x1⟩
  rw [geomV_eq]
  have x0 : Ext w w1 := ((Ext.refl w).alloc _).trans x1
  have bR : Box w1 w.heap.size 61 (intVals zero12) := (Box.new w 61 _).ext x1
  have hlt := bR.lt
  clear x1
  go_wp2_with (first
    | (refine wp_st_geom (.tmp 6) (.tmp 12) rfl rfl w1.heap.size _ [0, 0, 0, 0, 0, 0] 81 rfl rfl (Box.new _ _ _) rfl rfl ?_; intro w2 b2 g2; have x2 : Ext w w2 := (x0.alloc _).grown g2 (fun k e => by cases e; exact x0.size); have c1 : w2.cell? ⟨w1.heap.size, 1, none⟩ = some (.int .i64 I) := b2.cell 1; have c4 : w2.cell? ⟨w1.heap.size, 4, none⟩ = some (.int .i64 3) := b2.cell 4; have cb := x2.keep hc0)
    | (go_at_call 98; refine (HT.out _).mono ?_; rintro e w3 ⟨rfl, x3⟩)
    | (refine wp_st_ino (.tmp 4) (.tmp 44) rfl rfl w.heap.size _ zero12 61 rfl rfl (((bR.ext ((Ext.refl _).alloc _)).grown g2 (by simp; omega)).ext x3) rfl rfl ?_; intro w4 b4 g4))
  refine bodyPost_ret (results_cell2 rfl _ _ w.heap.size _ _ _ (.int .i64 0) rfl rfl b4 Tryz.underlying61 rfl inoSize) rfl ⟨by rw [HE.out], ?_⟩
  exact (x2.trans x3).grown g4 (fun k e => by cases e; exact Nat.le_refl _)
end Go.Proofs.YtnoofjddikhopaaGreat
/- The document's inodes: Put. -/
namespace Go.Proofs.YtnoofjddikhopaaGreat
set_option linter.unusedVariables false
set_option linter.unusedSimpArgs false
open Go.RowKit
set_option maxHeartbeats 1000000 in
set_option maxRecDepth 100000 in
theorem riput_yes (A : Option Addr) (m c : Nat) (v : List (List UInt8)) (I j : Int) (k l o s d0 d1 d2 d3 d4 d5 n e : Int) (w : World) (hv : Strs w A m v) (hg : Good v I) (hk1 : 1 ≤ j) (hk2 : j ≤ I) (h : FitI k l o s d0 d1 d2 d3 d4 d5 n e) :
    Calls Tryz.prog 70 #[.slice A m c, .int .i64 j, inoV [k, l, o, s, d0, d1, d2, d3, d4, d5, n, e]] w fun r w' => ∃ u, r = .returned (.tuple #[u, .int .i64 0]) ∧ Ext w w' ∧ w'.ownsRow w.heap.size 9 1 u m (strL (putAt v j [k, l, o, s, d0, d1, d2, d3, d4, d5, n, e])) := by
  have hpl := plan_bd hg.plan
  have HO := Lib.hid (fun w h => rof_yes A m c v I w h hg)
  have HF := Lib.hid (fun w => rfits_yes k l o s d0 d1 d2 d3 d4 d5 n e w h)
  have HY := Lib.hid (fun w => rbytes_yes k l o s d0 d1 d2 d3 d4 d5 n e w h)
  clear h
  unfold inoV at HF HY ⊢
  have hv' := hv
  obtain ⟨rfl, hv2⟩ := hv
  obtain ⟨b, ob, rfl, hcell⟩ := hv2 (by omega)
  have hi : (3 + (j - 1) / 2).toNat < v.length := by omega
  have hbl : (v.getD (3 + (j - 1) / 2).toNat []).length = 128 := getD_len hg hi
  have hc0 : w.cell? ⟨b, ob + (3 + (j - 1) / 2).toNat, none⟩ = some (.string (str (v.getD (3 + (j - 1) / 2).toNat []))) := by
    rw [hcell _ hi, List.getD_eq_getElem?_getD, List.getElem?_eq_getElem hi]; rfl
  have HE := Lib.hid (show putAt v j [k, l, o, s, d0, d1, d2, d3, d4, d5, n, e] = v.set (3 + (j - 1) / 2).toNat (overL (v.getD (3 + (j - 1) / 2).toNat []) ((j - 1) % 2 * 64).toNat (inoB [k, l, o, s, d0, d1, d2, d3, d4, d5, n, e])) from rfl)
  have hIl := inoB_len [k, l, o, s, d0, d1, d2, d3, d4, d5, n, e]
  generalize v.getD (3 + (j - 1) / 2).toNat [] = bl at *
  generalize inoB [k, l, o, s, d0, d1, d2, d3, d4, d5, n, e] = IB at *
  have hse := str_ext
  have hap := str_app
  have hzs := str_size
  have t1 : IntKind.i64.wrap (j - 1) = j - 1 := IntWalk.i64_in _ (by omega)
  have t3 : (j - 1).tdiv 2 = (j - 1) / 2 := Int.tdiv_eq_ediv_of_nonneg (by omega)
  have t4 : IntKind.i64.wrap ((j - 1) / 2) = (j - 1) / 2 := IntWalk.i64_in _ (by omega)
  have t6 : IntKind.i64.wrap (3 + (j - 1) / 2) = 3 + (j - 1) / 2 := IntWalk.i64_in _ (by omega)
  have t8 : j.tmod 2 = j % 2 := Int.tmod_eq_emod_of_nonneg (by omega)
  have s3 : (0 : Int) ≤ 3 + (j - 1) / 2 := by omega
  have s4 : 3 + (j - 1) / 2 < (v.length : Int) := by omega
  clear hcell hv2
  have d1' : decide (j < 1) = false := by simp; omega
  have d2' : decide (I < j) = false := by simp; omega
  go_enter Tryz.func70, Tryz.ntmps70
  go_wp2_with fail
  have x0 := (Ext.refl w).alloc (.cells (intVals [k, l, o, s, d0, d1, d2, d3, d4, d5, n, e]) 61)
  have bI := Box.new w 61 (intVals [k, l, o, s, d0, d1, d2, d3, d4, d5, n, e])
  refine (HO.out _ (hv'.ext x0)).mono ?_
  rintro e1 w1 ⟨rfl, x1⟩
  rw [geomV_eq]
  have bJ := bI.ext x1
  have hlt := bJ.lt
  have x2 := x0.trans x1
  clear x0 x1 bI
  go_wp2_with (first
    | (refine wp_st_geom (.tmp 8) (.tmp 15) rfl rfl w1.heap.size _ [0, 0, 0, 0, 0, 0] 81 rfl rfl (Box.new _ _ _) rfl rfl ?_; intro w2 b2 g2; have x3 : Ext w w2 := (x2.alloc _).grown g2 (fun k e => by cases e; exact x2.size); have bK := (bJ.ext ((Ext.refl _).alloc _)).grown g2 (by simp; omega); have c1 : w2.cell? ⟨w1.heap.size, 1, none⟩ = some (.int .i64 I) := b2.cell 1)
    | (refine wp_ld_ino (.tmp 5) rfl rfl w.heap.size _ 61 rfl bK rfl ?_)
    | (go_at_call 109; refine (HF.out _).mono ?_; rintro e w3 ⟨rfl, x4⟩; have o0 : (w3.alloc (.cells #[] 9)).ownsRow w3.heap.size 9 1 (.slice (some ⟨w3.heap.size, 0, none⟩) 0 0) 0 (strL []) := World.ownsRow_lit w3 #[] 0 (Nat.le_refl _) (by decide) rfl; have y0 : Ext w3 (w3.alloc (.cells #[] 9)) := (Ext.refl _).alloc _; have v0 := hv'.ext ((x3.trans x4).trans y0); have hs0 : w3.heap.size ≤ (w3.alloc (.cells #[] 9)).heap.size := by simp)
    | (at_builtin; refine wp_app_strs w3.heap.size rfl _ _ rfl rfl rfl o0 v0 (by omega) hs0 (by omega) ?_; intro u' w5 own5 g5; rw [Nat.zero_add, List.nil_append] at own5; obtain ⟨gr, cap, rfl, hgr, s5⟩ := Strs.own' own5 (by omega); have x5 : Ext w3 w5 := y0.grown g5 (fun g h => by injection (show some w3.heap.size = some g from h) with h; omega); clear o0 v0 g5; have b5 := (b2.ext x4).ext x5; have c4 : w5.cell? ⟨w1.heap.size, 4, none⟩ = some (.int .i64 3) := b5.cell 4))
  all_goals
    have bK5 := (bK.ext x4).ext x5
    have qc : ∀ x : Later w5, x.now.cell? ⟨b, ob + (3 + (j - 1) / 2).toNat, none⟩ = some (.string (str bl)) := fun x => ((((x3.trans x4).trans x5).trans x.ext).keep hc0)
    have q0 : ∀ x : Later w5, x.now.cell? ⟨w.heap.size, 0, none⟩ = some (.int .i64 k) := fun x => (bK5.ext x.ext).cell 0
    have q1 : ∀ x : Later w5, x.now.cell? ⟨w.heap.size, 1, none⟩ = some (.int .i64 l) := fun x => (bK5.ext x.ext).cell 1
    have q2 : ∀ x : Later w5, x.now.cell? ⟨w.heap.size, 2, none⟩ = some (.int .i64 o) := fun x => (bK5.ext x.ext).cell 2
    have q3 : ∀ x : Later w5, x.now.cell? ⟨w.heap.size, 3, none⟩ = some (.int .i64 s) := fun x => (bK5.ext x.ext).cell 3
    have q4 : ∀ x : Later w5, x.now.cell? ⟨w.heap.size, 4, none⟩ = some (.int .i64 d0) := fun x => (bK5.ext x.ext).cell 4
    have q5 : ∀ x : Later w5, x.now.cell? ⟨w.heap.size, 5, none⟩ = some (.int .i64 d1) := fun x => (bK5.ext x.ext).cell 5
    have q6 : ∀ x : Later w5, x.now.cell? ⟨w.heap.size, 6, none⟩ = some (.int .i64 d2) := fun x => (bK5.ext x.ext).cell 6
    have q7 : ∀ x : Later w5, x.now.cell? ⟨w.heap.size, 7, none⟩ = some (.int .i64 d3) := fun x => (bK5.ext x.ext).cell 7
    have q8 : ∀ x : Later w5, x.now.cell? ⟨w.heap.size, 8, none⟩ = some (.int .i64 d4) := fun x => (bK5.ext x.ext).cell 8
    have q9 : ∀ x : Later w5, x.now.cell? ⟨w.heap.size, 9, none⟩ = some (.int .i64 d5) := fun x => (bK5.ext x.ext).cell 9
    have q10 : ∀ x : Later w5, x.now.cell? ⟨w.heap.size, 10, none⟩ = some (.int .i64 n) := fun x => (bK5.ext x.ext).cell 10
    have q11 : ∀ x : Later w5, x.now.cell? ⟨w.heap.size, 11, none⟩ = some (.int .i64 e) := fun x => (bK5.ext x.ext).cell 11
  · refine wp_region_later_tail 12 (by kernel_rfl) (by kernel_rfl) ?_
    simp only [List.take_succ_cons, List.take_zero, List.drop_succ_cons, List.drop_zero]
    repeat (go_big_quiet_step ((exact later_of (HY.out _))))
    refine wpQuiet_nil ?_
    rintro w6 ⟨x6, rfl⟩
    have own6 := own_ext own5 x6.ext
    have k6 : x6.now.cell? ⟨gr, (3 + (j - 1) / 2).toNat, none⟩ = some (.string (str v[(3 + (j - 1) / 2).toNat])) := (own6.cellAt _ (by omega)).trans (by simp [strL, hi])
    have kf := own6.frozenAt (3 + (j - 1) / 2).toNat
    clear qc q0 q1 q2 q3 q4 q5 q6 q7 q8 q9 q10 q11
    go_wp2_with fail
    go_ret2
    refine ⟨_, rfl, ((((x3.trans x4).trans x5).trans x6.ext).setCell (Nat.le_trans (x3.trans x4).size hgr) _), ?_⟩
    rw [HE.out]
    have hq : j % 2 = 1 := by simpa using ‹(j % 2 == 1) = true›
    have hp : (j - 1) % 2 = 0 := by omega
    have hs := own_base (own6.stored (3 + (j - 1) / 2).toNat (.string (str (IB ++ (bl.drop 24).take 104)))).1 (x3.trans x4).size
    rw [hp, show strL (v.set (3 + (j - 1) / 2).toNat (overL bl (0 * 64 : Int).toNat IB)) = (strL v).set (3 + (j - 1) / 2).toNat (.string (str (IB ++ (bl.drop 24).take 104))) by
      rw [List.take_of_length_le (l := bl.drop 24) (by simp; omega)]; simp [strL, List.map_set, overL, hIl]]
    exact hs
  · refine wp_region_later_tail 18 (by kernel_rfl) (by kernel_rfl) ?_
    simp only [List.take_succ_cons, List.take_zero, List.drop_succ_cons, List.drop_zero]
    repeat (go_big_quiet_step ((exact later_of (HY.out _))))
    refine wpQuiet_nil ?_
    rintro w6 ⟨x6, rfl⟩
    have own6 := own_ext own5 x6.ext
    have k6 : x6.now.cell? ⟨gr, (3 + (j - 1) / 2).toNat, none⟩ = some (.string (str v[(3 + (j - 1) / 2).toNat])) := (own6.cellAt _ (by omega)).trans (by simp [strL, hi])
    have kf := own6.frozenAt (3 + (j - 1) / 2).toNat
    clear qc q0 q1 q2 q3 q4 q5 q6 q7 q8 q9 q10 q11
    go_wp2_with fail
    go_ret2
    refine ⟨_, rfl, ((((x3.trans x4).trans x5).trans x6.ext).setCell (Nat.le_trans (x3.trans x4).size hgr) _), ?_⟩
    rw [HE.out]
    have hq : ¬ j % 2 = 1 := by simpa using ‹(j % 2 == 1) = false›
    have hp : (j - 1) % 2 = 1 := by omega
    have hs := own_base (own6.stored (3 + (j - 1) / 2).toNat (.string (str (bl.take 64 ++ (IB ++ (bl.drop 88).take 40))))).1 (x3.trans x4).size
    rw [hp, show strL (v.set (3 + (j - 1) / 2).toNat (overL bl (1 * 64 : Int).toNat IB)) = (strL v).set (3 + (j - 1) / 2).toNat (.string (str (bl.take 64 ++ (IB ++ (bl.drop 88).take 40)))) by
      rw [List.take_of_length_le (l := bl.drop 88) (by simp; omega)]; simp [strL, List.map_set, overL, hIl]]
    exact hs
end Go.Proofs.YtnoofjddikhopaaGreat
