/- The two tables of the digest lie where they were laid. -/
import Derived.Test.YtkokmnaicfdjaaaGreatDoorVd16
import Derived.Test.YtkokmnaicfdjaaaGreatDoorRows
import Derived.LaidMore
import Derived.MakeChecks
import Derived.Stop.Joined
namespace Go.Proofs.YtkokmnaicfdjaaaGreatDoor
set_option linter.unusedVariables false
set_option linter.unusedSimpArgs false
open Go.ChangeShapes Go.WideShapes Go.ChangeAt Go.RowKit

section
variable {H : Type} {enc : TypeId × Value → H} {P : Program} {w : World} {base : Nat} {spare : Nat → Bool} {held : Bool}
theorem ints_of_trod {t e : TypeId} {k : IntKind} {n fuel : Nat} {cs : List Value} {x : DataW H × List MemPlace} (hu : P.underlying t = some (.array n e)) (he : P.underlying e = some (.int k)) (hc : P.cellsOf e = 1) (hct : P.cellsOf t = n) (h : DataW.trod enc P w base spare held fuel t cs = some x) (zs : List Int) (hx : x.1 = .agg (zs.map fun z => .lit (.int k z))) :
    cs = zs.map (Value.int k) := by
  obtain ⟨xs, m, _, hx', hl, hxl, hf⟩ := DataW.trod_array hu h
  rw [hx'] at hx
  injection hx with hz
  have hzl : zs.length = n := by have := congrArg List.length hz; simp at this; omega
  apply List.ext_getElem?
  intro i
  by_cases hi : i < n
  · have h1 := hf i hi
    have hci : i < cs.length := by omega
    rw [hc, Nat.mul_one, List.getElem?_eq_getElem (show i < xs.length by omega), List.drop_eq_getElem_cons hci, List.take_succ_cons, List.take_zero] at h1
    obtain ⟨z, e2, e3, _⟩ := DataW.trod_int he h1
    injection e2 with e2 _
    have h2 := congrArg (fun l => l[i]?) hz
    simp only [List.getElem?_map] at h2
    rw [List.getElem?_eq_getElem (show i < xs.length by omega), List.getElem?_eq_getElem (show i < zs.length by omega)] at h2
    simp only [Option.map_some, e3] at h2
    injection h2 with h2
    injection h2 with h2
    injection h2 with _ h2
    rw [List.getElem?_eq_getElem hci, List.getElem?_map, List.getElem?_eq_getElem (show i < zs.length by omega), e2, h2]
    rfl
  · rw [List.getElem?_eq_none (by omega), List.getElem?_eq_none (by simp; omega)]
end
theorem chunks {α : Type} (z : Nat) : ∀ (n : Nat) (cs : List α), cs.length = n * z → cs = (List.range n).flatMap fun i => (cs.drop (i * z)).take z
  | 0, cs, h => by
    rw [Nat.zero_mul] at h
    rw [List.eq_nil_of_length_eq_zero h]; rfl
  | n + 1, cs, h => by
    rw [Nat.succ_mul] at h
    have h1 := chunks z n (cs.take (n * z)) (by rw [List.length_take]; omega)
    rw [List.range_succ, List.flatMap_append, List.flatMap_cons, List.flatMap_nil, List.append_nil]
    have h2 : (List.range n).flatMap (fun i => (cs.drop (i * z)).take z) = (List.range n).flatMap (fun i => ((cs.take (n * z)).drop (i * z)).take z) := by
      rw [List.flatMap_def, List.flatMap_def, List.map_congr_left fun i hi => ?_]
      have hi := List.mem_range.1 hi
      have h3 : (i + 1) * z ≤ n * z := Nat.mul_le_mul_right _ hi
      rw [Nat.succ_mul] at h3
      rw [List.drop_take, List.take_take, Nat.min_eq_left (by omega)]
    rw [h2, ← h1, List.take_of_length_le (l := cs.drop (n * z)) (by rw [List.length_drop]; omega), List.take_append_drop]
def laidT : List (String × DataW Unit) := [("hibernacle/hash.eight", Rows.laid_hibernacle_hash_eight), ("hibernacle/hash.rows", Rows.laid_hibernacle_hash_rows)]
theorem gEight : Tryz.prog.globalNamed "hibernacle/hash.eight" = some 0 := by kernel_rfl
theorem gRows : Tryz.prog.globalNamed "hibernacle/hash.rows" = some 1 := by kernel_rfl
theorem tEight : (Tryz.prog.globals[0]?).map (·.type) = some 216 := by kernel_rfl
theorem tRows : (Tryz.prog.globals[1]?).map (·.type) = some 274 := by kernel_rfl
theorem cEight : Tryz.prog.cellsOf 216 = 8 := by kernel_rfl
theorem cRows : Tryz.prog.cellsOf 274 = 160 := by kernel_rfl
theorem cRow : Tryz.prog.cellsOf 273 = 16 := by kernel_rfl
theorem cU32 : Tryz.prog.cellsOf 60 = 1 := by kernel_rfl
theorem cU8 : Tryz.prog.cellsOf 5 = 1 := by kernel_rfl
def rowD (k : Nat) : DataW Unit := .agg (((List.range 16).map fun j => (rowP k j : Int)).map fun z => .lit (.int .u8 z))
theorem laidEight : (Rows.laid_hibernacle_hash_eight : DataW Unit) = .agg ((eightN.map fun (n : Nat) => (n : Int)).map fun z => .lit (.int .u32 z)) := rfl
theorem laidRows : (Rows.laid_hibernacle_hash_rows : DataW Unit) = .agg ((List.range 10).map rowD) := rfl
theorem tabs_of_laid {W : World} (h : laidMetH Tryz.prog laidT W) : Tabs W := by
  rw [MakeChecks.laidMetH_plain _ _ _ (by kernel_rfl)] at h
  obtain ⟨ps, ⟨g0, t0, cs0, f0, p0, q0, hg0, ht0, hv0, hd0, ⟨g1, t1, cs1, f1, p1, q1, hg1, ht1, hv1, hd1, _, _⟩, _⟩, _, _⟩ := h
  obtain rfl := Option.some.inj (gEight.symm.trans hg0)
  obtain rfl := Option.some.inj (gRows.symm.trans hg1)
  obtain rfl := Option.some.inj (tEight.symm.trans ht0)
  obtain rfl := Option.some.inj (tRows.symm.trans ht1)
  refine ⟨fun j v hj => ?_, fun j v hj => ?_⟩
  · have e := ints_of_trod Tryz.underlying216 Tryz.underlying60 cU32 cEight hd0 (eightN.map fun (n : Nat) => (n : Int)) laidEight
    rw [Nat.zero_add, World.var?_cell hg0 hv0 j, ← Array.getElem?_toList, e, ← hj]
    unfold eightL
    rw [List.map_map]; rfl
  · obtain ⟨xs, m, _, hx', hl, hxl, hf⟩ := DataW.trod_array Tryz.underlying274 hd1
    rw [cRows] at hl
    have hz : (List.range 10).map rowD = xs.map (·.1) := by
      have := congrArg Prod.fst hx'
      have := laidRows.symm.trans this
      injection this
    have hc := chunks 16 10 cs1.toList hl
    have e : (List.range 10).flatMap (fun i => (cs1.toList.drop (i * 16)).take 16) = rowsL := by
      unfold rowsL
      rw [List.flatMap_def, List.flatMap_def, List.map_congr_left fun i hi => ?_]
      have hi := List.mem_range.1 hi
      have h1 := hf i hi
      rw [cRow, List.getElem?_eq_getElem (show i < xs.length by omega)] at h1
      have h2 := congrArg (fun l => l[i]?) hz
      simp only [List.getElem?_map] at h2
      rw [List.getElem?_range hi, List.getElem?_eq_getElem (show i < xs.length by omega)] at h2
      simp only [Option.map_some] at h2
      injection h2 with h2
      rw [ints_of_trod Tryz.underlying273 Tryz.underlying5 cU8 cRow h1 _ h2.symm]
      unfold rowL
      rw [List.map_map]; rfl
    rw [Nat.zero_add, World.var?_cell hg1 hv1 j, ← Array.getElem?_toList, hc, e, ← hj]
end Go.Proofs.YtkokmnaicfdjaaaGreatDoor
