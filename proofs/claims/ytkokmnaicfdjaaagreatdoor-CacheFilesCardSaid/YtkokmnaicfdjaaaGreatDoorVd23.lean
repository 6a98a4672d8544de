/- maps.Keys and slices.Sorted at a map of the call's own, with keys that are numbers. -/
import Derived.Test.YtkokmnaicfdjaaaGreatDoorVd3
import Derived.Test.YtkokmnaicfdjaaaGreatDoorVd21
import Derived.Test.YtkokmnaicfdjaaaGreatDoorVd22
import Derived.Test.YtkokmnaicfdjaaaGreatDoorVd1
import Derived.Maps.Own
import Derived.Maps.OwnSet
namespace Go.Proofs.YtkokmnaicfdjaaaGreatDoor
set_option linter.unusedVariables false
set_option linter.unusedSimpArgs false
open Go.RowKit Go.Maps Go.Sort Go.Shelf

theorem sortsA (m : Nat) : AnyZI.SortsIn Tryz.prog Tryz.sortedA_ren Fence.wide m :=
  ⟨fun blk off cap ss W hH hblk hsz => callsIn_wide.2 (Tryz.slices_Sort_int blk off cap ss W hH hblk hsz),
   fun p cap W => callsIn_wide.2 (Tryz.slices_Sort_int_none p cap W)⟩
theorem keys_any (mb : Option Nat) (W : World) :
    Calls Tryz.prog 34 #[.map mb] W fun e w' => e = .returned (.func (.func 69) #[] #[.pointer (some ⟨W.heap.size, 0, none⟩)]) ∧ w' = W.alloc (.cells #[.map mb] 77) :=
  (callsIn_wide (n := 5)).1 (AnyZI.keys_in Tryz.keysA Fence.wide 5 trivial rfl mb W)
theorem sorted_any {H : Type} (Bm b nn : Nat) (D0 : DataW H) {R : Value → Option (DataW H × List MemPlace)} (w : World) (hBm : Bm < w.heap.size) (hm : w.cell? ⟨Bm, 0, none⟩ = some (.map (some b))) (hown : w.ownsMap Tryz.prog 3 R b nn D0)
    (hmax : Maps.size D0 ≤ maxLen) (hbytes : Maps.size D0 * 8 ≤ 140737488355328) :
    Calls Tryz.prog 33 #[.func (.func 69) #[] #[.pointer (some ⟨Bm, 0, none⟩)]] w fun e w' => ∃ (v : Value) (ss : List Int), e = .returned v ∧ ss.Perm (intKeys D0) ∧
      w'.ownsRow w.heap.size 3 1 v ss.length ((ss.mergeSort (fun x y => decide (x ≤ y))).map encZ) ∧ (v = .slice none 0 0 ↔ ss = []) ∧ Ext w w' := by
  have hseq : SeqGives Fence.wide 2 Tryz.prog 69 #[.pointer (some ⟨Bm, 0, none⟩)] encZ (fun ss => ss.Perm (intKeys D0)) (Maps.size D0) w :=
    AnyZI.keys_gives (ρ := Tryz.keysA_ren) { Tryz.keysA with } Fence.wide _ trivial rfl (by omega) Bm b nn D0 w hBm hm hown
  exact (callsIn_wide (n := 5)).1 (AnyZI.sorted_in Tryz.sortedA Fence.wide 5 trivial trivial trivial trivial rfl (by omega) (sortsA _) (enters_of Tryz.func68 (by kernel_rfl) rfl) 69 #[.pointer (some ⟨Bm, 0, none⟩)] trivial (enters_of Tryz.func69 (by kernel_rfl) rfl) _ _ hmax hbytes _ hseq)
theorem sorted_nil (Bm b nn : Nat) {R : Value → Option (DataW Unit × List MemPlace)} (w : World) (hBm : Bm < w.heap.size) (hm : w.cell? ⟨Bm, 0, none⟩ = some (.map (some b))) (hown : w.ownsMap Tryz.prog 3 R b nn (.map [])) :
    Calls Tryz.prog 33 #[.func (.func 69) #[] #[.pointer (some ⟨Bm, 0, none⟩)]] w fun e w' => e = .returned (.slice none 0 0) ∧ Ext w w' := by
  refine (sorted_any Bm b nn (.map []) w hBm hm hown (by show 0 ≤ maxLen; exact Nat.zero_le _) (by show 0 * 8 ≤ _; omega)).mono ?_
  rintro e w' ⟨v, ss, rfl, hp, _, hn, hx⟩
  have hss : ss = [] := List.Perm.eq_nil (show ss.Perm [] from hp)
  rw [hn.2 hss]
  exact ⟨rfl, hx⟩
end Go.Proofs.YtkokmnaicfdjaaaGreatDoor
