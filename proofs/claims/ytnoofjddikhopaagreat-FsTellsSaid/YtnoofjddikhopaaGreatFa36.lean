/- The walk of the law FsTells. -/
import Derived.Test.YtnoofjddikhopaaGreatFa31
import Derived.Test.YtnoofjddikhopaaGreatFa35
namespace Go.Proofs.YtnoofjddikhopaaGreat
set_option linter.unusedVariables false
set_option linter.unusedSimpArgs false
open Go.RowKit
set_option maxHeartbeats 1000000 in
set_option maxRecDepth 100000 in
theorem great19_any (A : Option Addr) (n c : Nat) (v : List (List UInt8)) (w : World) (hv : Strs w A n v) (hn : n ≤ 9223372036854775807) :
    Calls Tryz.prog 4 #[.slice A n c] w fun e w' => ∃ z : Int, e = .returned (.int .i64 z) ∧ Ext w w' ∧ (z = 1 ∨ z = 0 ∧ n ≤ 64) := by
  have hz := str_size
  by_cases h64 : 64 < n
  · have d1 : (64 : Int) < (n : Int) := by omega
    go_enter Tryz.func4, Tryz.ntmps4
    go_wp2_with fail
    go_ret
    exact ⟨1, rfl, Ext.refl _, .inl rfl⟩
  · have d1 : ¬ (64 : Int) < (n : Int) := by omega
    obtain ⟨rfl, hv2⟩ := hv
    go_enter Tryz.func4, Tryz.ntmps4
    go_upto_region 4 with fail
    go_loopw [4, 10] (fun _ t wx => ∃ i : Nat, i ≤ v.length ∧ t = .int .i64 i ∧ Ext w wx) (fun _ t _ => v.length - (intOf t).toNat)
    case atStart => exact ⟨0, by omega, rfl, Ext.refl _⟩
    case round =>
      obtain ⟨i, hi, rfl, xi⟩ := hrel
      by_cases hlt : i < v.length
      · obtain ⟨b, o, rfl, hc⟩ := hv2 (by omega)
        have k1 := xi.keep (hc i hlt)
        have hii : (i : Int) < (v.length : Int) := by omega
        clear hc hv2
        generalize v[i] = s at *
        by_cases hs : 300 < s.length
        · have d2 : (300 : Int) < (s.length : Int) := by omega
          go_wp2_with fail
          go_ret
          exact ⟨1, rfl, xi, .inl rfl⟩
        · have d2 : ¬ (300 : Int) < (s.length : Int) := by omega
          go_wp2_with fail
          go_roundw
          case rel => exact ⟨i + 1, by omega, by go_num, xi⟩
          case measure => simp [intOf]; omega
      · obtain rfl : i = v.length := by omega
        go_wp2_with fail
        go_ret
        exact ⟨0, rfl, xi, .inr ⟨rfl, by omega⟩⟩
theorem RowR.of {B : Nat} {R : List (List UInt8) × Int} {e : Ending} {w : World} (h : WriteR B R e w) (hR : R.2 ≠ 0 → R.1 = []) : ∃ A n c, e = .returned (.tuple #[.slice A n c, .int .i64 R.2]) ∧ Strs w A n R.1 := by
  rcases h with ⟨h, rfl⟩ | ⟨h, b, cap, rfl, own⟩
  · exact ⟨none, 0, 0, rfl, by rw [hR h]; rfl, fun h => absurd h (Nat.lt_irrefl 0)⟩
  · exact ⟨_, _, cap, by rw [h], Strs.own own⟩
theorem mkP_err (B I : Int) (h : (mkP B I).2 ≠ 0) : (mkP B I).1 = [] := by
  unfold mkP at h ⊢
  split
  · rfl
  · rename_i c; rw [if_neg c] at h; exact absurd rfl h
set_option maxHeartbeats 4000000 in
set_option maxRecDepth 100000 in
theorem fsTells_any (A : Option Addr) (n c : Nat) (v : List (List UInt8)) (p : List UInt8) (a0 a1 a2 a3 : Int) (w : World) (hv : Strs w A n v) (hn : n ≤ 9223372036854775807) (h1 : a1 ≤ 9223372036854775807) (h2 : a2 ≤ 9223372036854775807) :
    Calls Tryz.prog 3 #[.slice A n c, .string (str p), .agg #[.int .i64 a0, .int .i64 a1, .int .i64 a2, .int .i64 a3]] w fun e w' => e = .returned (.bool true) ∧ Ext w w' := by
  have HGr := Lib.hid (fun w h => great19_any A n c v w h hn)
  have HFx := Lib.hid fixed_true
  have HV := Lib.hid hv
  have hz := str_size
  obtain ⟨I, hg⟩ := goodX v
  have HF1 := Lib.hid (fun w h (hp : p.length ≤ 300) => findX_any A n c v I p w h hn hg (by omega))
  have HF2 := Lib.hid (fun w h (hp : p.length ≤ 300) => rfindp_any A n c v I p w h hn hg (by omega))
  have HR1 := Lib.hid (fun w h => readX_any A n c v I a0 a1 a2 w h hn hg h1 h2)
  have HR2 := Lib.hid (fun w h => rreadX_any A n c v I a0 a1 a2 w h hn hg h1 h2)
  have HM1 := Lib.hid (fun w => make_any a3 a0 w)
  have HM2 := Lib.hid (fun w => rmake_any a3 a0 w)
  have HW1 := Lib.hid (fun w h => walk_any A n c v I w h hn hg)
  have HW2 := Lib.hid (fun w h => rwalk_any A n c v I w h hn hg)
  have HSm := Lib.hid (fun A B n c m d l w ha hb hn => rsame_yes A B n c m d l w ha hb hn)
  have HMe := Lib.hid (mkP_err a3 a0)
  have HWl : Hid ((walkX v I).length ≤ 18200) := Lib.hid (by
    cases I with
    | none => exact Nat.zero_le _
    | some I =>
      have hI64 : I ≤ 64 := (plan_bd (show Good v I from hg).plan).2.2.2.1
      have := pot_into (v := v) hI64 7 ⟨[], []⟩ 1 [] (by simp) (by omega) (by omega)
      rw [pot_nil] at this
      have h2 : (walkP v I).length ≤ potW (intoP v I 7 ⟨[], []⟩ 1 []) := by unfold potW walkP; omega
      exact Nat.le_trans h2 this)
  have HMl : Hid ((mkP a3 a0).1.length ≤ 223) := Lib.hid (by
    unfold mkP
    split
    · exact Nat.zero_le _
    · rename_i c
      have : planB a3 a0 = true := by
        cases h : planB a3 a0 with
        | true => rfl
        | false => exact absurd (planE_no h) c
      have hp := plan_bd this
      rw [mkV_len]; omega)
  clear hv hg h1 h2 hn
  generalize findX v I p = F at *
  generalize readX v I a0 a1 a2 = R at *
  generalize mkP a3 a0 = M at *
  generalize walkX v I = WL at *
  have bA := Box.new w 23 #[.int .i64 a0, .int .i64 a1, .int .i64 a2, .int .i64 a3]
  have x0 : Ext w (w.alloc (.cells #[.int .i64 a0, .int .i64 a1, .int .i64 a2, .int .i64 a3] 23)) := (Ext.refl w).alloc _
  go_enter Tryz.func3, Tryz.ntmps3
  go_upto_region 1 with fail
  generalize w.alloc (.cells #[.int .i64 a0, .int .i64 a1, .int .i64 a2, .int .i64 a3] 23) = w0 at *
  obtain ⟨g, hge⟩ : ∃ g, w.heap.size = g := ⟨_, rfl⟩
  rw [hge] at bA ⊢
  clear hge
  have HX0 := Lib.hid x0
  have HB0 := Lib.hid bA
  clear x0 bA
  go_cut [26] (fun s wx => ∃ b : Bool, s = .bool b ∧ Ext w0 wx ∧ (b = false → p.length ≤ 300))
  case first =>
    clear HF1 HF2 HR1 HR2 HM1 HM2 HW1 HW2 HSm HFx
    by_cases hp : p.length ≤ 300
    · have d1 : ¬ (300 : Int) < (p.length : Int) := by omega
      go_upto_region 2 with (go_at_call 4; refine (HGr.out _ (HV.out.ext HX0.out)).mono ?_; rintro e w1 ⟨z, rfl, x1, rfl | ⟨rfl, _⟩⟩)
      all_goals
        go_meet
        exact ⟨_, rfl, x1, fun _ => hp⟩
    · have d1 : (300 : Int) < (p.length : Int) := by omega
      go_upto_region 2 with (go_at_call 4; refine (HGr.out _ (HV.out.ext HX0.out)).mono ?_; rintro e w1 ⟨z, rfl, x1, rfl | ⟨rfl, _⟩⟩)
      all_goals
        go_meet
        exact ⟨true, rfl, x1, fun h => by cases h⟩
  case rest =>
    obtain ⟨b, rfl, xc, hb⟩ := hcut
    have HXc := Lib.hid (HX0.out.trans xc)
    have HBc := Lib.hid (HB0.out.ext xc)
    clear xc HX0 HB0 HGr
    cases b with
    | true =>
      clear HF1 HF2 HR1 HR2 HM1 HM2 HW1 HW2 HSm
      go_wp2_with (go_at_call 5; refine (HFx.out _).mono ?_; rintro e w1 ⟨rfl, x1⟩)
      go_ret
      exact ⟨rfl, HXc.out.trans x1⟩
    | false =>
    have hp := hb rfl
    go_upto_region 5 with (first
      | (go_at_call 6; refine (HF1.out _ (HV.out.ext HXc.out) hp).mono ?_; rintro e w1 ⟨rfl, x1⟩)
      | (go_at_call 7; refine (HF2.out _ (HV.out.ext (HXc.out.trans x1)) hp).mono ?_; rintro e w2 ⟨rfl, x2⟩))
    have HX2 := Lib.hid ((HXc.out.trans x1).trans x2)
    have bA := (HBc.out.ext x1).ext x2
    have q0 : w2.cell? ⟨g, 0, none⟩ = some (.int .i64 a0) := bA.cell 0
    have q1 : w2.cell? ⟨g, 1, none⟩ = some (.int .i64 a1) := bA.cell 1
    have q2 : w2.cell? ⟨g, 2, none⟩ = some (.int .i64 a2) := bA.cell 2
    have HB2 := Lib.hid bA
    clear x1 x2 bA HXc HBc HF1 HF2 hp hb
    go_upto_region 6 with (go_at_call 8; refine (HR1.out _ (HV.out.ext HX2.out)).mono ?_; rintro e w3 ⟨rfl, x3⟩)
    have HX3 := Lib.hid (HX2.out.trans x3)
    have bA := HB2.out.ext x3
    have r0 : w3.cell? ⟨g, 0, none⟩ = some (.int .i64 a0) := bA.cell 0
    have r1 : w3.cell? ⟨g, 1, none⟩ = some (.int .i64 a1) := bA.cell 1
    have r2 : w3.cell? ⟨g, 2, none⟩ = some (.int .i64 a2) := bA.cell 2
    have HB3 := Lib.hid bA
    clear x3 bA q0 q1 q2 HX2 HB2 HR1
    go_upto_region 7 with (go_at_call 9; refine (HR2.out _ (HV.out.ext HX3.out)).mono ?_; rintro e w4 ⟨rfl, x4⟩)
    have HX4 := Lib.hid (HX3.out.trans x4)
    have bA := HB3.out.ext x4
    have q0 : w4.cell? ⟨g, 0, none⟩ = some (.int .i64 a0) := bA.cell 0
    have q3 : w4.cell? ⟨g, 3, none⟩ = some (.int .i64 a3) := bA.cell 3
    have HB4 := Lib.hid bA
    clear x4 bA r0 r1 r2 HX3 HB3 HR2
    go_upto_region 8 with (go_at_call 10; refine (HM1.out _).mono ?_; rintro e w5 ⟨hW, x5⟩; obtain ⟨A5, n5, c5, rfl, s5⟩ := RowR.of hW HMe.out; clear hW)
    have HX5 := Lib.hid (HX4.out.trans x5)
    have bA := HB4.out.ext x5
    have r0 : w5.cell? ⟨g, 0, none⟩ = some (.int .i64 a0) := bA.cell 0
    have r3 : w5.cell? ⟨g, 3, none⟩ = some (.int .i64 a3) := bA.cell 3
    have HS5 := Lib.hid s5
    clear x5 bA q0 q3 HX4 HB4 HM1 s5
    go_upto_region 9 with (go_at_call 11; refine (HM2.out _).mono ?_; rintro e w6 ⟨⟨A6, n6, c6, rfl, s6⟩, x6⟩)
    have HX6 := Lib.hid (HX5.out.trans x6)
    have HS5' := Lib.hid (HS5.out.ext x6)
    have HS6 := Lib.hid s6
    clear x6 r0 r3 HX5 HS5 HM2 s6
    have HSM := Lib.hid (fun x (hx : Ext w6 x) => HSm.out A5 A6 n5 c5 n6 c6 M.1 x (HS5'.out.ext hx) (HS6.out.ext hx) (by have := HS5'.out.1; have := HMl.out; omega))
    clear HS5' HS6
    go_wp2_with (first
      | (go_at_call 5; refine (HFx.out _).mono ?_; rintro e w7 ⟨rfl, x7⟩)
      | (go_at_call 13; refine (HW1.out _ (HV.out.ext (HX6.out.trans x7))).mono ?_; rintro e w8 ⟨u8, rfl, x8, own8⟩; obtain ⟨A8, c8, rfl, _⟩ := own_slice own8; have s8 := Lib.hid (Strs.own own8); clear own8)
      | (go_at_call 14; refine (HW2.out _ (HV.out.ext ((HX6.out.trans x7).trans x8))).mono ?_; rintro e w9 ⟨u9, rfl, x9, own9⟩; obtain ⟨A9, c9, rfl, _⟩ := own_slice own9; have s9 := Lib.hid (Strs.own own9); clear own9)
      | (go_at_call 12; ((have hq := HSm.out A8 A9 _ c8 _ c9 WL _ (s8.out.ext x9) s9.out (by have := HWl.out; omega)); with_reducible (refine hq.mono ?_)); clear hq; rintro e wa ⟨rfl, xa⟩)
      | (go_at_call 12; ((have hq := HSM.out _ (((x7.trans x8).trans x9).trans xa)); with_reducible (refine hq.mono ?_)); clear hq; rintro e wb ⟨rfl, xb⟩))
    go_ret
    exact ⟨rfl, HX6.out.trans ((((x7.trans x8).trans x9).trans xa).trans xb)⟩
end Go.Proofs.YtnoofjddikhopaaGreat
