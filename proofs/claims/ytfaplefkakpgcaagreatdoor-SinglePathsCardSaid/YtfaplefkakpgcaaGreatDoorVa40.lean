/- For every machine and every number the law SinglePaths returns true: the file at each path of a machine's volume is told by its image, byte by byte, as it is read there; what is no file, isn't. No condition. -/
import Derived.Test.YtfaplefkakpgcaaGreatDoorVa38
import Derived.Test.YtfaplefkakpgcaaGreatDoorVa37
import Derived.Test.YtfaplefkakpgcaaGreatDoorVa39
import Derived.Test.YtfaplefkakpgcaaGreatDoorVa9
import Derived.Test.YtfaplefkakpgcaaGreatDoorTie
import Derived.Test.YtfaplefkakpgcaaGreatDoorCards
import Derived.LaidMore
import Derived.Stop.Joined
namespace Go.Proofs.YtfaplefkakpgcaaGreatDoor.singlePaths
set_option linter.unusedVariables false
set_option linter.unusedSimpArgs false
open Go.ChangeShapes Go.WideShapes Go.ChangeAt Go.RowKit
theorem reads : ∀ t ∈ Tryz.f7.params.toList, ReadT t := by
  rw [Tryz.params7]
  intro t ht
  rcases (by simpa using ht : t = 38 ∨ t = 5) with rfl | rfl <;> exact ⟨by kernel_rfl, of_decide_eq_true (by kernel_rfl)⟩
def laid2 {H : Type} : List (String × DataW H) := [("math/bits.deBruijn32tab", Rows.laid_math_bits_deBruijn32tab), ("math/bits.deBruijn64tab", Rows.laid_math_bits_deBruijn64tab), ("internal/strconv.uint64pow10", Rows.laid_internal_strconv_uint64pow10), ("strconv.ErrRange", Rows.laid_strconv_ErrRange), ("strconv.ErrSyntax", Rows.laid_strconv_ErrSyntax)]
theorem door_met (os : Os) (args : Array Value) : laidMetH Tryz.prog laid2 ((World.doorLaid Tryz.prog 400 os).forCall (fun _ _ => 0) ⟨#[], args, []⟩).memory :=
  laidMetH_of_parts3 (fuel := 8) (laidMet_of_run' 8 (by kernel_rfl) (by kernel_rfl)) (by kernel_rfl) (by kernel_rfl)
def zeroMac : Array Value := #[.int .u64 0, .int .i64 0, .int .i64 0, .int .i64 0, .slice none 0 0, .slice none 0 0, .int .i64 0, .string ⟨#[]⟩, .slice none 0 0, .int .i64 0, .string ⟨#[]⟩, .bool false, .int .u64 0, .slice none 0 0, .slice none 0 0, .int .i64 0, .slice none 0 0]
set_option maxRecDepth 100000 in
theorem lifted (os : Os) (started : os.Started) (H : Type) (enc : TypeId × Value → H) :
    ReturnsInHanded {} Tryz.checked os 7 .any (fun w args => (Rows.singlePathsSpec.pre enc Tryz.prog Tryz.f7 [] false w args ∧ laidMetH Tryz.prog laid2 w) ∧ sizedMet enc Tryz.prog Tryz.f7 (OpenSpec.ofChange Rows.singlePathsSpec) false w args)
      (Rows.singlePathsSpec.post enc Tryz.prog Tryz.f7 false true false false) := by
  refine returnsInHanded_of_change_and (C := Tryz.checked) (X := fun w _ => laidMetH Tryz.prog laid2 w) (fun _ _ _ hh h => h.of_heap hh) ownKnobNone started (by kernel_rfl) Tryz.func7
    (ChangeSpec.witness_shaped (enc := enc) (C := Tryz.checked) (os := os) (X := fun w _ => laidMetH Tryz.prog laid2 w) false (World.doorLaid Tryz.prog 400 os) #[.agg zeroMac, .int .u8 0] 8 rfl (World.shaped_of_RefB (by kernel_rfl) (by kernel_rfl)) (by kernel_rfl) (by kernel_rfl) (by kernel_rfl) (door_met os _)) ?_
  intro W base args ds gs before hval0 hW _ hwts hX _
  have hval : ∀ (j : Nat) t v, Tryz.f7.params[j]? = some t → args[j]? = some v → Value.okWide Tryz.prog W .any base t v := hval0
  have hW' := hW
  obtain ⟨p, q, hA0, hV, rfl, hfz, hnd⟩ := hW
  have hA : DataW.TrodAll enc Tryz.prog W 0 (fun _ => true) true Tryz.f7.params.toList args.toList ds p := hA0
  rw [Tryz.params7] at hA hval
  obtain ⟨v0, vs0, d0, ds0, p0, q0, hargs, rfl, rfl, h0, r0⟩ := trodAll_cons hA
  obtain ⟨v1, vs1, d1, ds1, p1, q1, rfl, rfl, rfl, h1, r1⟩ := trodAll_cons r0
  obtain ⟨rfl, rfl, rfl⟩ := trodAll_nil r1
  obtain rfl : args = #[v0, v1] := by cases args; simp_all
  obtain ⟨rfl, rfl⟩ := trodVars_none hV
  obtain ⟨cs, rfl, hcs⟩ := okWide_struct Tryz.underlying38 (hval 0 38 v0 rfl rfl)
  obtain ⟨fuel, ht⟩ := h0
  obtain ⟨m, d, hm, hin, hfit⟩ := mac_inF (by rw [show (Value.agg cs).cells = cs from rfl, Array.length_toList, hcs]; exact macCells) ht
  have hcm : cs = m.cells := Array.toList_inj.1 hm
  subst hcm
  obtain ⟨n1, rfl⟩ := okWide_int Tryz.underlying5 (hval 1 5 v1 rfl rfl)
  obtain ⟨fuel1, ht1⟩ := h1
  obtain ⟨n2, e2, _, hw2⟩ := DataW.trod_int Tryz.underlying5 ht1
  have hn2 : n1 = n2 := by
    have e3 : [Value.int .u8 n1] = [.int .u8 n2] := e2
    injection e3 with e3
    injection e3 with _ e3
  subst hn2
  have hn0 : 0 ≤ n1 ∧ n1 < 256 := by
    unfold Lit.wf at hw2
    simp only [Bool.and_eq_true, decide_eq_true_eq, show IntKind.u8.min = 0 from rfl, show IntKind.u8.max = 255 from rfl] at hw2
    omega
  obtain ⟨kk, rfl⟩ := Int.eq_ofNat_of_zero_le hn0.1
  have hC := singlePaths_any m d kk W hin hfit (dec10_of_laid hX) (by omega)
  refine hC.mono fun e W' ⟨he, hg⟩ => ?_
  subst he
  exact ⟨_, rfl, law_post rfl hW' (by kernel_rfl) reads rfl hg⟩
set_option maxHeartbeats 4000000 in
set_option maxRecDepth 100000 in
theorem closed : joinedFacts Tryz.prog 7 Tryz.f7 Rows.singlePathsSpec Rows.singlePathsRow = true := by
  unfold joinedFacts
  repeat' (rw [Bool.and_eq_true]; refine And.intro ?_ ?_)
  all_goals (as_aux_lemma => kernel_rfl)
theorem over : Rows.singlePathsRow.holds Tryz.pinned (OpenSpec.ofChange Rows.singlePathsSpec) :=
  OpenClaim.holds_of_wide 7 Tryz.f7 rfl rfl rfl rfl rfl rfl rfl ⟨rfl, rfl, rfl, rfl, rfl⟩ rfl rfl rfl rfl rfl (by kernel_rfl) Tryz.func7 closed
    (of_decide_eq_true (by kernel_rfl)) (by unfold Func.isWrapper; first | (rw [if_pos (by decide +kernel)]; kernel_rfl) | (rw [if_neg (by decide +kernel)]; exact ⟨rfl, rfl⟩))
    (fun os started H enc _ => lifted os started H enc)
theorem proved : Rows.SinglePathsCardSaid :=
  Claim7.holds_tied_plain_at .later [] [.data, .data, .data, .sentinel, .sentinel] true (true, "b813af415a7ced93fd6036a8cc7a69b6d2396f3cd35a26011d7f7c05126a80ae") true
    over (fun _ h => by cases h) (by kernel_rfl) (fun _ h => by cases h) singlePaths_row_tie rfl ⟨rfl, rfl⟩ (by kernel_rfl) rfl
    (fun f fn hf hfn => by
      obtain rfl : f = 7 := Option.some.inj ((show Tryz.prog.funcNamed "hibernacle/hibernaclelaw56.SinglePaths" = some 7 by kernel_rfl).symm.trans hf) |>.symm
      obtain rfl : fn = Tryz.f7 := (Option.some.inj (Tryz.func7.symm.trans hfn)).symm
      exact ⟨by kernel_rfl, fun j t ht => by
        rw [Tryz.params7] at ht
        have hm : t ∈ [38, 5] := by simpa using Array.mem_of_getElem? ht
        have hall : ([38, 5].all fun u => !Tryz.prog.wantsStandIn u) = true := by kernel_rfl
        exact (show Tryz.prog.wantsStandIn t = false by simpa using List.all_eq_true.1 hall t hm)⟩)
    (by kernel_rfl)
#print axioms proved
end Go.Proofs.YtfaplefkakpgcaaGreatDoor.singlePaths
