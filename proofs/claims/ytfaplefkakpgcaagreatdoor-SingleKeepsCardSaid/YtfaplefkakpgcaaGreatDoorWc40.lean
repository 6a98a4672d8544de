/- For every three machines and every number the law SingleKeeps returns true: a process that is brought into a machine has its registers and pages as they were; brought from there into yet another one, likewise. No condition. -/
import Derived.Test.YtfaplefkakpgcaaGreatDoorWc38
import Derived.Test.YtfaplefkakpgcaaGreatDoorWc29
import Derived.Test.YtfaplefkakpgcaaGreatDoorWc39
import Derived.Test.YtfaplefkakpgcaaGreatDoorWc2
import Derived.Test.YtfaplefkakpgcaaGreatDoorTie
import Derived.Test.YtfaplefkakpgcaaGreatDoorCards
import Derived.LaidMore
import Derived.Stop.Joined
namespace Go.Proofs.YtfaplefkakpgcaaGreatDoor.singleKeeps
set_option linter.unusedVariables false
set_option linter.unusedSimpArgs false
open Go.ChangeShapes Go.WideShapes Go.ChangeAt Go.RowKit
theorem reads : ∀ t ∈ Tryz.f6.params.toList, ReadT t := by
 rw [Tryz.params6]
 intro t ht
 have hm : t ∈ [38, 3, 38, 38] := ht
 have hall : [38, 3, 38, 38].all (fun u => decide (u ∈ [38, 3])) = true := by kernel_rfl
 have hu : t ∈ [38, 3] := of_decide_eq_true (List.all_eq_true.1 hall t hm)
 rcases (by simpa using hu : t = 38 ∨ t = 3) with rfl | rfl <;> exact ⟨by kernel_rfl, of_decide_eq_true (by kernel_rfl)⟩
def laid2 {H : Type} : List (String × DataW H) := [("math/bits.deBruijn32tab", Rows.laid_math_bits_deBruijn32tab), ("math/bits.deBruijn64tab", Rows.laid_math_bits_deBruijn64tab), ("internal/strconv.uint64pow10", Rows.laid_internal_strconv_uint64pow10), ("strconv.ErrRange", Rows.laid_strconv_ErrRange), ("strconv.ErrSyntax", Rows.laid_strconv_ErrSyntax)]
theorem door_met (os : Os) (args : Array Value) : laidMetH Tryz.prog laid2 ((World.doorLaid Tryz.prog 400 os).forCall (fun _ _ => 0) ⟨#[], args, []⟩).memory :=
 laidMetH_of_parts3 (fuel := 8) (laidMet_of_run' 8 (by kernel_rfl) (by kernel_rfl)) (by kernel_rfl) (by kernel_rfl)
def zeroMac : Array Value := #[.int .u64 0, .int .i64 0, .int .i64 0, .int .i64 0, .slice none 0 0, .slice none 0 0, .int .i64 0, .string ⟨#[]⟩, .slice none 0 0, .int .i64 0, .string ⟨#[]⟩, .bool false, .int .u64 0, .slice none 0 0, .slice none 0 0, .int .i64 0, .slice none 0 0]
set_option maxRecDepth 100000 in
theorem lifted (os : Os) (started : os.Started) (H : Type) (enc : TypeId × Value → H) :
  ReturnsInHanded {} Tryz.checked os 6 .any (fun w args => (Rows.singleKeepsSpec.pre enc Tryz.prog Tryz.f6 [] false w args ∧ laidMetH Tryz.prog laid2 w) ∧ sizedMet enc Tryz.prog Tryz.f6 (OpenSpec.ofChange Rows.singleKeepsSpec) false w args)
   (Rows.singleKeepsSpec.post enc Tryz.prog Tryz.f6 false true false false) := by
 refine returnsInHanded_of_change_and (C := Tryz.checked) (X := fun w _ => laidMetH Tryz.prog laid2 w) (fun _ _ _ hh h => h.of_heap hh) ownKnobNone started (by kernel_rfl) Tryz.func6
  (ChangeSpec.witness_shaped (enc := enc) (C := Tryz.checked) (os := os) (X := fun w _ => laidMetH Tryz.prog laid2 w) false (World.doorLaid Tryz.prog 400 os) #[.agg zeroMac, .int .i64 0, .agg zeroMac, .agg zeroMac] 8 rfl (World.shaped_of_RefB (by kernel_rfl) (by kernel_rfl)) (by kernel_rfl) (by kernel_rfl) (by kernel_rfl) (door_met os _)) ?_
 intro W base args ds gs before hval0 hW _ hwts hX _
 have hval : ∀ (j : Nat) t v, Tryz.f6.params[j]? = some t → args[j]? = some v → Value.okWide Tryz.prog W .any base t v := hval0
 have hW' := hW
 obtain ⟨p, q, hA0, hV, rfl, hfz, hnd⟩ := hW
 have hA : DataW.TrodAll enc Tryz.prog W 0 (fun _ => true) true Tryz.f6.params.toList args.toList ds p := hA0
 rw [Tryz.params6] at hA hval
 obtain ⟨v0, vs0, d0x, ds0, p0, q0, hargs, rfl, rfl, h0, r0⟩ := trodAll_cons hA
 obtain ⟨v1, vs1, d1x, ds1, p1, q1, rfl, rfl, rfl, h1, r1⟩ := trodAll_cons r0
 obtain ⟨v2, vs2, d2x, ds2, p2, q2, rfl, rfl, rfl, h2, r2⟩ := trodAll_cons r1
 obtain ⟨v3, vs3, d3x, ds3, p3, q3, rfl, rfl, rfl, h3, r3⟩ := trodAll_cons r2
 obtain ⟨rfl, rfl, rfl⟩ := trodAll_nil r3
 obtain rfl : args = #[v0, v1, v2, v3] := by cases args; simp_all
 obtain ⟨rfl, rfl⟩ := trodVars_none hV
 obtain ⟨cs0, rfl, hcs0⟩ := okWide_struct Tryz.underlying38 (hval 0 38 v0 rfl rfl)
 obtain ⟨fuel0, ht0⟩ := h0
 obtain ⟨m0, d0', hm0, hin0, hfit0⟩ := mac_inF (by rw [show (Value.agg cs0).cells = cs0 from rfl, Array.length_toList, hcs0]; exact macCells) ht0
 have hcm0 : cs0 = m0.cells := Array.toList_inj.1 hm0
 subst hcm0
 obtain ⟨n1, rfl⟩ := okWide_int Tryz.underlying3 (hval 1 3 v1 rfl rfl)
 obtain ⟨cs2, rfl, hcs2⟩ := okWide_struct Tryz.underlying38 (hval 2 38 v2 rfl rfl)
 obtain ⟨fuel2, ht2⟩ := h2
 obtain ⟨m2, d2, hm2, hin2, hfit2⟩ := mac_inF (by rw [show (Value.agg cs2).cells = cs2 from rfl, Array.length_toList, hcs2]; exact macCells) ht2
 have hcm2 : cs2 = m2.cells := Array.toList_inj.1 hm2
 subst hcm2
 obtain ⟨cs3, rfl, hcs3⟩ := okWide_struct Tryz.underlying38 (hval 3 38 v3 rfl rfl)
 obtain ⟨fuel3, ht3⟩ := h3
 obtain ⟨m3, d3, hm3, hin3, hfit3⟩ := mac_inF (by rw [show (Value.agg cs3).cells = cs3 from rfl, Array.length_toList, hcs3]; exact macCells) ht3
 have hcm3 : cs3 = m3.cells := Array.toList_inj.1 hm3
 subst hcm3
 have hC := singleKeeps_any m0 m2 m3 d0' d2 d3 n1 W hin0 hin2 hin3 hfit0 hfit2 hfit3 (dec10_of_laid hX)
 refine hC.mono fun e W' ⟨he, hg⟩ => ?_
 subst he
 exact ⟨_, rfl, law_post rfl hW' (by kernel_rfl) reads rfl hg⟩
set_option maxHeartbeats 4000000 in
set_option maxRecDepth 100000 in
theorem closed : joinedFacts Tryz.prog 6 Tryz.f6 Rows.singleKeepsSpec Rows.singleKeepsRow = true := by
 unfold joinedFacts
 repeat' (rw [Bool.and_eq_true]; refine And.intro ?_ ?_)
 all_goals (as_aux_lemma => kernel_rfl)
theorem over : Rows.singleKeepsRow.holds Tryz.pinned (OpenSpec.ofChange Rows.singleKeepsSpec) :=
 OpenClaim.holds_of_wide 6 Tryz.f6 rfl rfl rfl rfl rfl rfl rfl ⟨rfl, rfl, rfl, rfl, rfl⟩ rfl rfl rfl rfl rfl (by kernel_rfl) Tryz.func6 closed
  (of_decide_eq_true (by kernel_rfl)) (by unfold Func.isWrapper; first | (rw [if_pos (by decide +kernel)]; kernel_rfl) | (rw [if_neg (by decide +kernel)]; exact ⟨rfl, rfl⟩))
  (fun os started H enc _ => lifted os started H enc)
theorem proved : Rows.SingleKeepsCardSaid :=
 Claim7.holds_tied_plain_at .later [] [.data, .data, .data, .sentinel, .sentinel] true (true, "b813af415a7ced93fd6036a8cc7a69b6d2396f3cd35a26011d7f7c05126a80ae") true
  over (fun _ h => by cases h) (by kernel_rfl) (fun _ h => by cases h) singleKeeps_row_tie rfl ⟨rfl, rfl⟩ (by kernel_rfl) rfl
  (fun f fn hf hfn => by
   obtain rfl : f = 6 := Option.some.inj ((show Tryz.prog.funcNamed "hibernacle/hibernaclelaw56.SingleKeeps" = some 6 by kernel_rfl).symm.trans hf) |>.symm
   obtain rfl : fn = Tryz.f6 := (Option.some.inj (Tryz.func6.symm.trans hfn)).symm
   exact ⟨by kernel_rfl, fun j t ht => by
    rw [Tryz.params6] at ht
    have hm : t ∈ [38, 3, 38, 38] := by simpa using Array.mem_of_getElem? ht
    have hall : ([38, 3, 38, 38].all fun u => !Tryz.prog.wantsStandIn u) = true := by kernel_rfl
    exact (show Tryz.prog.wantsStandIn t = false by simpa using List.all_eq_true.1 hall t hm)⟩)
  (by kernel_rfl)
#print axioms proved
end Go.Proofs.YtfaplefkakpgcaaGreatDoor.singleKeeps
