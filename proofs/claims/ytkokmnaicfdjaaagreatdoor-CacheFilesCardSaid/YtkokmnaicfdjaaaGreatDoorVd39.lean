/- For every machine, every path and every data the law CacheFiles returns true: a file that is written on the kernel's volume, and kept, is read there as it was written; kept anew as it was ahead, all of the volume is as it was. No condition. -/
import Derived.Test.YtkokmnaicfdjaaaGreatDoorVd37
import Derived.Test.YtkokmnaicfdjaaaGreatDoorVd38
import Derived.Test.YtkokmnaicfdjaaaGreatDoorVd9
import Derived.Test.YtkokmnaicfdjaaaGreatDoorTie
import Derived.Test.YtkokmnaicfdjaaaGreatDoorCards
import Derived.LaidMore
import Derived.Stop.Joined
namespace Go.Proofs.YtkokmnaicfdjaaaGreatDoor.cacheFiles
set_option linter.unusedVariables false
set_option linter.unusedSimpArgs false
open Go.ChangeShapes Go.WideShapes Go.ChangeAt Go.RowKit

theorem reads : ∀ t ∈ Tryz.f7.params.toList, ReadT t := by
  rw [Tryz.params7]
  intro t ht
  rcases (by simpa using ht : t = 30 ∨ t = 9) with rfl | rfl <;> exact ⟨by kernel_rfl, of_decide_eq_true (by kernel_rfl)⟩
def laid2 {H : Type} : List (String × DataW H) := [("hibernacle/hash.eight", Rows.laid_hibernacle_hash_eight), ("hibernacle/hash.rows", Rows.laid_hibernacle_hash_rows)]
theorem door_met (os : Os) (args : Array Value) : laidMetH Tryz.prog laid2 ((World.doorLaid Tryz.prog 400 os).forCall (fun _ _ => 0) ⟨#[], args, []⟩).memory :=
  laidMetH_of_parts3 (fuel := 8) (laidMet_of_run' 8 (by kernel_rfl) (by kernel_rfl)) (by kernel_rfl) (by kernel_rfl)
def zeroMac : Array Value := #[.int .u64 0, .int .i64 0, .int .i64 0, .int .i64 0, .slice none 0 0, .slice none 0 0, .int .i64 0, .string ⟨#[]⟩, .slice none 0 0, .int .i64 0, .string ⟨#[]⟩, .bool false, .int .u64 0, .slice none 0 0, .slice none 0 0, .int .i64 0, .slice none 0 0]
set_option maxRecDepth 100000 in
theorem lifted (os : Os) (started : os.Started) (H : Type) (enc : TypeId × Value → H) :
    ReturnsInHanded {} Tryz.checked os 7 .any (fun w args => (Rows.cacheFilesSpec.pre enc Tryz.prog Tryz.f7 [] false w args ∧ laidMetH Tryz.prog laid2 w) ∧ sizedMet enc Tryz.prog Tryz.f7 (OpenSpec.ofChange Rows.cacheFilesSpec) false w args)
      (Rows.cacheFilesSpec.post enc Tryz.prog Tryz.f7 false true false false) := by
  refine returnsInHanded_of_change_and (C := Tryz.checked) (X := fun w _ => laidMetH Tryz.prog laid2 w) (fun _ _ _ hh h => h.of_heap hh) ownKnobNone started (by kernel_rfl) Tryz.func7
    (ChangeSpec.witness_shaped (enc := enc) (C := Tryz.checked) (os := os) (X := fun w _ => laidMetH Tryz.prog laid2 w) false (World.doorLaid Tryz.prog 400 os) #[.agg zeroMac, .string ⟨#[]⟩, .string ⟨#[]⟩] 8 rfl (World.shaped_of_RefB (by kernel_rfl) (by kernel_rfl)) (by kernel_rfl) (by kernel_rfl) (by kernel_rfl) (door_met os _)) ?_
  intro W base args ds gs before hval0 hW _ hwts hX _
  have hval : ∀ (j : Nat) t v, Tryz.f7.params[j]? = some t → args[j]? = some v → Value.okWide Tryz.prog W .any base t v := hval0
  have hW' := hW
  obtain ⟨p, q, hA0, hV, rfl, hfz, hnd⟩ := hW
  have hA : DataW.TrodAll enc Tryz.prog W 0 (fun _ => true) true Tryz.f7.params.toList args.toList ds p := hA0
  rw [Tryz.params7] at hA hval
  obtain ⟨v0, vs0, d0, ds0, p0, q0, hargs, rfl, rfl, h0, r0⟩ := trodAll_cons hA
  obtain ⟨v1, vs1, d1, ds1, p1, q1, rfl, rfl, rfl, h1, r1⟩ := trodAll_cons r0
  obtain ⟨v2, vs2, d2, ds2, p2, q2, rfl, rfl, rfl, h2, r2⟩ := trodAll_cons r1
  obtain ⟨rfl, rfl, rfl⟩ := trodAll_nil r2
  obtain rfl : args = #[v0, v1, v2] := by cases args; simp_all
  obtain ⟨rfl, rfl⟩ := trodVars_none hV
  obtain ⟨cs, rfl, hcs⟩ := okWide_struct Tryz.underlying30 (hval 0 30 v0 rfl rfl)
  obtain ⟨fuel, ht⟩ := h0
  obtain ⟨m, d, hm, hin⟩ := mac_in (by rw [show (Value.agg cs).cells = cs from rfl, Array.length_toList, hcs]; exact macCells) ht
  have hcm : cs = m.cells := Array.toList_inj.1 hm
  subst hcm
  have hwt : (d0.weights Tryz.prog 30).all (· ≤ reachBytes) = true := by
    rw [Tryz.params7] at hwts
    have h3 : (d0.weights Tryz.checked.prog 30).all (· ≤ reachBytes) = true ∧ (d1.weights Tryz.checked.prog 9).all (· ≤ reachBytes) = true ∧ (d2.weights Tryz.checked.prog 9).all (· ≤ reachBytes) = true := by
      simpa [DataW.weightsEach, ChangeSpec.plain, Rows.cacheFilesSpec] using hwts
    exact h3.1
  have hre : MacReach m := mac_reach ht hwt
  obtain ⟨s1, rfl⟩ := okWide_string Tryz.underlying9 (hval 1 9 v1 rfl rfl)
  obtain ⟨s2, rfl⟩ := okWide_string Tryz.underlying9 (hval 2 9 v2 rfl rfl)
  have hC := cacheFiles_any m d s1.data.toList s2.data.toList W hin hre (tabs_of_laid hX)
  rw [← str_of s1, ← str_of s2] at hC
  refine hC.mono fun e W' ⟨he, hg⟩ => ?_
  subst he
  exact ⟨_, rfl, law_post rfl hW' (by kernel_rfl) reads rfl hg⟩
theorem over : Rows.cacheFilesRow.holds Tryz.pinned (OpenSpec.ofChange Rows.cacheFilesSpec) :=
  OpenClaim.holds_of_wide 7 Tryz.f7 rfl rfl rfl rfl rfl rfl rfl ⟨rfl, rfl, rfl, rfl, rfl⟩ rfl rfl rfl rfl rfl (by kernel_rfl) Tryz.func7 (by kernel_rfl)
    (of_decide_eq_true (by kernel_rfl)) (by unfold Func.isWrapper; first | (rw [if_pos (by decide +kernel)]; kernel_rfl) | (rw [if_neg (by decide +kernel)]; exact ⟨rfl, rfl⟩))
    (fun os started H enc _ => lifted os started H enc)
theorem proved : Rows.CacheFilesCardSaid :=
  Claim7.holds_tied_plain_at .later [] [.data, .data] true (true, "cc185ea190416d4771431daf53bac9468ae262975f1ef0b5832c8ac05ac1ecb0") false
    over (fun _ h => by cases h) (by kernel_rfl) (fun _ h => by cases h) cacheFiles_row_tie rfl ⟨rfl, rfl⟩ (by kernel_rfl) rfl
    (fun f fn hf hfn => by
      obtain rfl : f = 7 := Option.some.inj ((show Tryz.prog.funcNamed "hibernacle/hibernaclelaw28.CacheFiles" = some 7 by kernel_rfl).symm.trans hf) |>.symm
      obtain rfl : fn = Tryz.f7 := (Option.some.inj (Tryz.func7.symm.trans hfn)).symm
      exact ⟨by kernel_rfl, fun j t ht => by
        rw [Tryz.params7] at ht
        have hm : t ∈ [30, 9, 9] := by simpa using Array.mem_of_getElem? ht
        have hall : ([30, 9, 9].all fun u => !Tryz.prog.wantsStandIn u) = true := by kernel_rfl
        exact (show Tryz.prog.wantsStandIn t = false by simpa using List.all_eq_true.1 hall t hm)⟩)
    (by kernel_rfl)
#print axioms proved
end Go.Proofs.YtkokmnaicfdjaaaGreatDoor.cacheFiles
