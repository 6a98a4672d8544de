/- For every input the law XattrFull returns true: attributes are set just as long as their row fits; the one that does not fit leaves all as it was; with no block left the first one is refused. No condition. -/
import Derived.Test.YtmcoepkopfcbdaaMf16
import Derived.Test.YtmcoepkopfcbdaaMf17
namespace Go.Proofs.Ytmcoepkopfcbdaa.xattrFull
set_option linter.unusedVariables false
open Go.ChangeShapes Go.WideShapes Go.ChangeAt Go.RowKit

theorem byteCells : Try.prog.cellsOf 5 = 1 := by kernel_rfl
set_option maxRecDepth 100000 in
theorem bytes_in {H : Type} {enc : TypeId × Value → H} {W : World} {r : Reach} {b0 : Nat} {v : Value} {d : DataW H} {ps : List MemPlace} (hv : Value.okWide Try.prog W r b0 22 v) (h : DataW.Trod enc Try.prog W 0 (fun _ => true) true 22 v d ps) :
    ∃ A n c l, v = .slice A n c ∧ n ≤ maxLen ∧ Byts W A n l := by
  obtain ⟨a0, len, cap, rfl⟩ := okWide_slice Try.underlying22 hv
  obtain ⟨fuel, hf⟩ := h
  rcases open_ints Try.underlying22 Try.underlying5 byteCells hf with ⟨hcs, hx⟩ | ⟨a, len', cap', zs, hcs, _, hl, hm, hz, hx, hcell, hwz⟩
  · simp [Value.cells] at hcs
    obtain ⟨rfl, rfl, rfl⟩ := hcs
    exact ⟨none, 0, 0, [], rfl, by unfold maxLen; omega, rfl, fun h => by omega⟩
  · simp [Value.cells] at hcs
    obtain ⟨rfl, rfl, rfl⟩ := hcs
    simp only [if_true] at hz
    refine ⟨some a, len, cap, (zs.take len).map fun z => UInt8.ofNat z.toNat, rfl, by omega, by simp; omega, fun hn => ?_⟩
    obtain ⟨b, off, spot⟩ := a
    have hspot : spot = none := by simpa [Addr.add] using World.cell?_spot (hcell 0 (by omega))
    subst hspot
    refine ⟨b, off, rfl, fun j hj => ?_⟩
    have hjl : j < zs.length := by simp at hj; omega
    have hjn : j < len := by simp at hj; omega
    have hc := hcell j hjl
    rw [add_plain] at hc
    rw [hc]
    have hb := bounds_u8 (hwz zs[j] (List.getElem_mem hjl))
    have e : zs.getD j 0 = zs[j] := by simp [List.getD, hjl]
    rw [e]
    simp only [List.getElem_map, List.getElem_take]
    have : ((UInt8.ofNat zs[j].toNat).toNat : Int) = zs[j] := b8_toNat _ hb.1 hb.2
    rw [this]
theorem walk (A : Option Addr) (n c : Nat) (l : List UInt8) (f : Bool) (w : World) (hn : n ≤ maxLen) (hb : Byts w A n l) :
    Calls Try.prog 3 #[.slice A n c, .bool f] w fun e w' => e = .returned (.bool true) ∧ Ext w w' := by
  unfold maxLen at hn
  by_cases h : 15 < n
  · exact full_big A n c f w h (by omega)
  · cases f with
    | true => exact full_fill A n c w (by omega)
    | false => exact full_sizes A n c l w hb (by omega)
theorem reads : ∀ t ∈ Try.f3.params.toList, ReadT t := by
  rw [Try.params3]
  intro t ht
  rcases (by simpa using ht : t = 22 ∨ t = 4) with rfl | rfl <;> exact ⟨by kernel_rfl, of_decide_eq_true (by kernel_rfl)⟩
set_option maxRecDepth 100000 in
theorem lifted (os : Os) (started : os.Started) (H : Type) (enc : TypeId × Value → H) :
    ReturnsInHanded {} Try.checked os 3 .any (Rows.xattrFullSpec.pre6 enc Try.prog Try.f3 Rows.xattrFullRow.domain false) (Rows.xattrFullSpec.post enc Try.prog Try.f3 false true false false) := by
  refine returnsInHanded_of_change (C := Try.checked) ownKnobNone started (by kernel_rfl) Try.func3
    (ChangeSpec.witness6 (enc := enc) (C := Try.checked) false ⟨#[], #[.slice none 0 0, .bool true], []⟩ 8 (by kernel_rfl) (by kernel_rfl) (by kernel_rfl) (by kernel_rfl)) ?_
  intro W base args ds gs before hval0 hW hcnd _
  have hval : ∀ (j : Nat) t v, Try.f3.params[j]? = some t → args[j]? = some v → Value.okWide Try.prog W .any base t v := hval0
  have hW' := hW
  obtain ⟨p, q, hA0, hV, rfl, hfz, hnd⟩ := hW
  have hA : DataW.TrodAll enc Try.prog W 0 (fun _ => true) true Try.f3.params.toList args.toList ds p := hA0
  rw [Try.params3] at hA hval
  obtain ⟨v0, vs0, d0, ds0, p0, q0, hargs, rfl, rfl, h0, r0⟩ := trodAll_cons hA
  obtain ⟨v1, vs1, d1, ds1, p1, q1, rfl, rfl, rfl, h1, r1⟩ := trodAll_cons r0
  obtain ⟨rfl, rfl, rfl⟩ := trodAll_nil r1
  obtain rfl : args = #[v0, v1] := by cases args; simp_all
  obtain ⟨rfl, rfl⟩ := trodVars_none hV
  obtain ⟨A, n, c, l, rfl, hn, hb⟩ := bytes_in (hval 0 22 v0 rfl rfl) h0
  obtain ⟨a1, rfl, rfl, rfl⟩ := open_bool Try.underlying4 (hval 1 4 v1 rfl rfl) h1
  clear hA0 hval0
  refine (walk A n c l a1 W hn hb).mono fun e W' ⟨he, hg⟩ => ?_
  subst he
  exact ⟨_, rfl, law_post rfl hW' (by kernel_rfl) reads rfl hg⟩
theorem over : Rows.xattrFullRow.holds Try.pinned (OpenSpec.ofChange Rows.xattrFullSpec) :=
  OpenClaim.holds_of_wide 3 Try.f3 rfl rfl rfl rfl rfl rfl rfl ⟨rfl, rfl, rfl, rfl, rfl⟩ rfl rfl rfl rfl rfl (by kernel_rfl) Try.func3 (by kernel_rfl)
    (of_decide_eq_true (by kernel_rfl)) (by unfold Func.isWrapper; first | (rw [if_pos (by decide +kernel)]; kernel_rfl) | (rw [if_neg (by decide +kernel)]; exact ⟨rfl, rfl⟩))
    (fun os started H enc _ => lifted os started H enc)
theorem proved : Rows.XattrFullSaid := over
#print axioms proved
end Go.Proofs.Ytmcoepkopfcbdaa.xattrFull
