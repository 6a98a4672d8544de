/- For every machine the law CacheSyncs returns true: what syncing makes of any machine that may be, or the error, is the document's; if it is OK, the drive's volume is the kernel's. No condition. -/
import Derived.Test.YtkokmnaicfdjaaaGreatDoorVb26
import Derived.Test.YtkokmnaicfdjaaaGreatDoorVb27
import Derived.Test.YtkokmnaicfdjaaaGreatDoorVb2
import Derived.Test.YtkokmnaicfdjaaaGreatDoorTie
import Derived.Test.YtkokmnaicfdjaaaGreatDoorCards
import Derived.LaidMore
import Derived.Stop.Joined
namespace Go.Proofs.YtkokmnaicfdjaaaGreatDoor.cacheSyncs
set_option linter.unusedVariables false
open Go.ChangeShapes Go.WideShapes Go.ChangeAt Go.RowKit

theorem reads : ∀ t ∈ Tryz.f5.params.toList, ReadT t := by
  rw [Tryz.params5]
  intro t ht
  rcases (by simpa using ht : t = 30) with rfl
  exact ⟨by kernel_rfl, of_decide_eq_true (by kernel_rfl)⟩
def laid2 {H : Type} : List (String × DataW H) := [("hibernacle/hash.eight", Rows.laid_hibernacle_hash_eight), ("hibernacle/hash.rows", Rows.laid_hibernacle_hash_rows)]
theorem door_met (os : Os) (args : Array Value) : laidMetH Tryz.prog laid2 ((World.doorLaid Tryz.prog 400 os).forCall (fun _ _ => 0) ⟨#[], args, []⟩).memory :=
  laidMetH_of_parts3 (fuel := 8) (laidMet_of_run' 8 (by kernel_rfl) (by kernel_rfl)) (by kernel_rfl) (by kernel_rfl)
def zeroMac : Array Value := #[.int .u64 0, .int .i64 0, .int .i64 0, .int .i64 0, .slice none 0 0, .slice none 0 0, .int .i64 0, .string ⟨#[]⟩, .slice none 0 0, .int .i64 0, .string ⟨#[]⟩, .bool false, .int .u64 0, .slice none 0 0, .slice none 0 0, .int .i64 0, .slice none 0 0]
set_option maxRecDepth 100000 in
theorem lifted (os : Os) (started : os.Started) (H : Type) (enc : TypeId × Value → H) :
    ReturnsInHanded {} Tryz.checked os 5 .any (fun w args => (Rows.cacheSyncsSpec.pre enc Tryz.prog Tryz.f5 [] false w args ∧ laidMetH Tryz.prog laid2 w) ∧ sizedMet enc Tryz.prog Tryz.f5 (OpenSpec.ofChange Rows.cacheSyncsSpec) false w args)
      (Rows.cacheSyncsSpec.post enc Tryz.prog Tryz.f5 false true false false) := by
  refine returnsInHanded_of_change_and (C := Tryz.checked) (X := fun w _ => laidMetH Tryz.prog laid2 w) (fun _ _ _ hh h => h.of_heap hh) ownKnobNone started (by kernel_rfl) Tryz.func5
    (ChangeSpec.witness_shaped (enc := enc) (C := Tryz.checked) (os := os) (X := fun w _ => laidMetH Tryz.prog laid2 w) false (World.doorLaid Tryz.prog 400 os) #[.agg zeroMac] 8 rfl (World.shaped_of_RefB (by kernel_rfl) (by kernel_rfl)) (by kernel_rfl) (by kernel_rfl) (by kernel_rfl) (door_met os _)) ?_
  intro W base args ds gs before hval0 hW _ hwts hX _
  have hval : ∀ (j : Nat) t v, Tryz.f5.params[j]? = some t → args[j]? = some v → Value.okWide Tryz.prog W .any base t v := hval0
  have hW' := hW
  obtain ⟨p, q, hA0, hV, rfl, hfz, hnd⟩ := hW
  have hA : DataW.TrodAll enc Tryz.prog W 0 (fun _ => true) true Tryz.f5.params.toList args.toList ds p := hA0
  rw [Tryz.params5] at hA hval
  obtain ⟨v0, d0, rfl, rfl, h0⟩ := trodAll_one hA
  obtain ⟨rfl, rfl⟩ := trodVars_none hV
  obtain ⟨cs, rfl, hcs⟩ := okWide_struct Tryz.underlying30 (hval 0 30 v0 rfl rfl)
  obtain ⟨fuel, ht⟩ := h0
  obtain ⟨m, d, hm, hin⟩ := mac_in (by rw [show (Value.agg cs).cells = cs from rfl, Array.length_toList, hcs]; exact macCells) ht
  have hcm : cs = m.cells := Array.toList_inj.1 hm
  subst hcm
  have hwt : (d0.weights Tryz.prog 30).all (· ≤ reachBytes) = true := by
    rw [Tryz.params5] at hwts
    show (d0.weights Tryz.checked.prog 30).all (· ≤ reachBytes) = true
    simpa [DataW.weightsEach, ChangeSpec.plain, Rows.cacheSyncsSpec] using hwts
  have hre : MacReach m := mac_reach ht hwt
  refine (cacheSyncs_any m d W hin hre (tabs_of_laid hX)).mono fun e W' ⟨he, hg⟩ => ?_
  subst he
  exact ⟨_, rfl, law_post rfl hW' (by kernel_rfl) reads rfl hg⟩
theorem over : Rows.cacheSyncsRow.holds Tryz.pinned (OpenSpec.ofChange Rows.cacheSyncsSpec) :=
  OpenClaim.holds_of_wide 5 Tryz.f5 rfl rfl rfl rfl rfl rfl rfl ⟨rfl, rfl, rfl, rfl, rfl⟩ rfl rfl rfl rfl rfl (by kernel_rfl) Tryz.func5 (by kernel_rfl)
    (of_decide_eq_true (by kernel_rfl)) (by unfold Func.isWrapper; first | (rw [if_pos (by decide +kernel)]; kernel_rfl) | (rw [if_neg (by decide +kernel)]; exact ⟨rfl, rfl⟩))
    (fun os started H enc _ => lifted os started H enc)
theorem proved : Rows.CacheSyncsCardSaid :=
  Claim7.holds_tied_plain_at .later [] [.data, .data] true (true, "cc185ea190416d4771431daf53bac9468ae262975f1ef0b5832c8ac05ac1ecb0") false
    over (fun _ h => by cases h) (by kernel_rfl) (fun _ h => by cases h) cacheSyncs_row_tie rfl ⟨rfl, rfl⟩ (by kernel_rfl) rfl
    (fun f fn hf hfn => by
      obtain rfl : f = 5 := Option.some.inj ((show Tryz.prog.funcNamed "hibernacle/hibernaclelaw28.CacheSyncs" = some 5 by kernel_rfl).symm.trans hf) |>.symm
      obtain rfl : fn = Tryz.f5 := (Option.some.inj (Tryz.func5.symm.trans hfn)).symm
      exact ⟨by kernel_rfl, fun j t ht => by
        rw [Tryz.params5] at ht
        have hm : t ∈ [30] := by simpa using Array.mem_of_getElem? ht
        have hall : ([30].all fun u => !Tryz.prog.wantsStandIn u) = true := by kernel_rfl
        exact (show Tryz.prog.wantsStandIn t = false by simpa using List.all_eq_true.1 hall t hm)⟩)
    (by kernel_rfl)
#print axioms proved
end Go.Proofs.YtkokmnaicfdjaaaGreatDoor.cacheSyncs
