/- For every volume, every path and every four numbers the law FsTells returns true: the inode of any path, the paths of all things, and any bytes of any inode, of any volume, are the document's; so is what Make makes. No condition. -/
import Derived.Test.YtnoofjddikhopaaGreatFa36
import Derived.Test.YtnoofjddikhopaaGreatFa13
import Derived.Test.YtnoofjddikhopaaGreatFa14
import Derived.Test.YtnoofjddikhopaaGreatFa12
namespace Go.Proofs.YtnoofjddikhopaaGreat.fsTells
set_option linter.unusedVariables false
set_option linter.unusedSimpArgs false
open Go.ChangeShapes Go.WideShapes Go.ChangeAt Go.RowKit
theorem okWide_arr {P : Program} {w : World} {r : Reach} {base : Nat} {t e : TypeId} {v : Value} {k : Nat} (ht : P.underlying t = some (.array k e)) (h : Value.okWide P w r base t v) : ∃ cs, v = .agg cs ∧ cs.size = P.cellsOf t := by
  simp only [Value.okWide, ht] at h
  obtain ⟨cs, rfl, h2, _⟩ := h
  exact ⟨cs, rfl, h2⟩
theorem reads : ∀ t ∈ Tryz.f3.params.toList, ReadT t := by
  rw [Tryz.params3]
  intro t ht
  rcases (by simpa using ht : t = 22 ∨ t = 9 ∨ t = 23) with rfl | rfl | rfl <;> exact ⟨by kernel_rfl, of_decide_eq_true (by kernel_rfl)⟩
theorem arr4 : Tryz.prog.cellsOf 23 = 4 := by kernel_rfl
section
variable {H : Type} {enc : TypeId × Value → H} {w : World}
set_option maxRecDepth 100000 in
theorem arr_in {r : Reach} {b0 : Nat} {v : Value} {d : DataW H} {ps : List MemPlace} (hv : Value.okWide Tryz.prog w r b0 23 v) (h : DataW.Trod enc Tryz.prog w 0 (fun _ => true) true 23 v d ps) :
    ∃ a0 a1 a2 a3 : Int, v = .agg #[.int .i64 a0, .int .i64 a1, .int .i64 a2, .int .i64 a3] ∧ a1 ≤ 9223372036854775807 ∧ a2 ≤ 9223372036854775807 := by
  obtain ⟨cs, rfl, hsz⟩ := okWide_arr Tryz.underlying23 hv
  rw [arr4] at hsz
  obtain ⟨fuel, ht⟩ := h
  have hl : (Value.agg cs).cells.toList.length = 4 := by simpa [Value.cells] using hsz
  obtain ⟨a0, e0, _⟩ := leaf_int (n := 2) (t := 23) (t' := 3) (o := 0) Tryz.underlying3 (by kernel_rfl) ht (by rw [hl]; decide)
  obtain ⟨a1, e1, w1⟩ := leaf_int (n := 2) (t := 23) (t' := 3) (o := 1) Tryz.underlying3 (by kernel_rfl) ht (by rw [hl]; decide)
  obtain ⟨a2, e2, w2⟩ := leaf_int (n := 2) (t := 23) (t' := 3) (o := 2) Tryz.underlying3 (by kernel_rfl) ht (by rw [hl]; decide)
  obtain ⟨a3, e3, _⟩ := leaf_int (n := 2) (t := 23) (t' := 3) (o := 3) Tryz.underlying3 (by kernel_rfl) ht (by rw [hl]; decide)
  refine ⟨a0, a1, a2, a3, ?_, ?_, ?_⟩
  · have hc : cs.toList = [.int .i64 a0, .int .i64 a1, .int .i64 a2, .int .i64 a3] := by
      have h4 : cs.toList.length = 4 := by simpa using hsz
      simp only [Value.cells] at e0 e1 e2 e3
      apply List.ext_getElem?
      intro i
      rcases (by omega : i = 0 ∨ i = 1 ∨ i = 2 ∨ i = 3 ∨ 4 ≤ i) with rfl | rfl | rfl | rfl | hi
      · exact e0
      · exact e1
      · exact e2
      · exact e3
      · rw [List.getElem?_eq_none (by omega), List.getElem?_eq_none (by simpa using hi)]
    rw [show cs = cs.toList.toArray by simp, hc]
  · simp [Lit.wf, IntKind.min, IntKind.max, IntKind.signed, IntKind.bits] at w1; omega
  · simp [Lit.wf, IntKind.min, IntKind.max, IntKind.signed, IntKind.bits] at w2; omega
end
set_option maxRecDepth 100000 in
theorem lifted (os : Os) (started : os.Started) (H : Type) (enc : TypeId × Value → H) :
    ReturnsInHanded {} Tryz.checked os 3 .any (Rows.fsTellsSpec.pre6 enc Tryz.prog Tryz.f3 Rows.fsTellsRow.domain false) (Rows.fsTellsSpec.post enc Tryz.prog Tryz.f3 false true false false) := by
  refine returnsInHanded_of_change (C := Tryz.checked) ownKnobNone started (by kernel_rfl) Tryz.func3
    (ChangeSpec.witness6 (enc := enc) (C := Tryz.checked) false ⟨#[], #[.slice none 0 0, .string ⟨#[]⟩, .agg #[.int .i64 0, .int .i64 0, .int .i64 0, .int .i64 0]], []⟩ 8 (by kernel_rfl) (by kernel_rfl) (by kernel_rfl) (by kernel_rfl)) ?_
  intro W base args ds gs before hval0 hW hcnd _
  have hval : ∀ (j : Nat) t v, Tryz.f3.params[j]? = some t → args[j]? = some v → Value.okWide Tryz.prog W .any base t v := hval0
  have hW' := hW
  obtain ⟨p, q, hA0, hV, rfl, hfz, hnd⟩ := hW
  have hA : DataW.TrodAll enc Tryz.prog W 0 (fun _ => true) true Tryz.f3.params.toList args.toList ds p := hA0
  rw [Tryz.params3] at hA hval
  obtain ⟨v0, vs0, d0, ds0, p0, q0, hargs, rfl, rfl, h0, r0⟩ := trodAll_cons hA
  obtain ⟨v1, vs1, d1, ds1, p1, q1, rfl, rfl, rfl, h1, r1⟩ := trodAll_cons r0
  obtain ⟨v2, vs2, d2, ds2, p2, q2, rfl, rfl, rfl, h2, r2⟩ := trodAll_cons r1
  obtain ⟨rfl, rfl, rfl⟩ := trodAll_nil r2
  obtain rfl : args = #[v0, v1, v2] := by cases args; simp_all
  obtain ⟨rfl, rfl⟩ := trodVars_none hV
  obtain ⟨a0, len, cap, rfl⟩ := okWide_slice Tryz.underlying22 (hval 0 22 v0 rfl rfl)
  obtain ⟨fuel0, ht0⟩ := h0
  obtain ⟨s, v, hs, hok, hrow⟩ := strs_in (v := .slice a0 len cap) ht0
  injection hs with hs1 hs2 hs3
  subst hs1; subst hs2; subst hs3
  obtain ⟨s1, rfl⟩ := okWide_string Tryz.underlying9 (hval 1 9 v1 rfl rfl)
  obtain ⟨b0, b1, b2, b3, rfl, hb1, hb2⟩ := arr_in (hval 2 23 v2 rfl rfl) h2
  clear hA0 hval0
  have hC := fsTells_any s.A s.n s.c v s1.data.toList b0 b1 b2 b3 W hrow.strs (by have := hok.2.1; unfold maxLen at this; omega) hb1 hb2
  rw [← str_of s1] at hC
  refine hC.mono fun e W' ⟨he, hg⟩ => ?_
  subst he
  exact ⟨_, rfl, law_post rfl hW' (by kernel_rfl) reads rfl hg⟩
theorem over : Rows.fsTellsRow.holds Tryz.pinned (OpenSpec.ofChange Rows.fsTellsSpec) :=
  OpenClaim.holds_of_wide 3 Tryz.f3 rfl rfl rfl rfl rfl rfl rfl ⟨rfl, rfl, rfl, rfl, rfl⟩ rfl rfl rfl rfl rfl (by kernel_rfl) Tryz.func3 (by kernel_rfl)
    (of_decide_eq_true (by kernel_rfl)) (by unfold Func.isWrapper; first | (rw [if_pos (by decide +kernel)]; kernel_rfl) | (rw [if_neg (by decide +kernel)]; exact ⟨rfl, rfl⟩))
    (fun os started H enc _ => lifted os started H enc)
theorem proved : Rows.FsTellsSaid := over
#print axioms proved
end Go.Proofs.YtnoofjddikhopaaGreat.fsTells
