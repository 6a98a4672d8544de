/- For every input the law XattrBack returns true: behind whatever was done, what is set is got; all others are as they were; dropped, all that is told is as it was ahead, or without it. No condition. -/
import Derived.Test.YtmcoepkopfcbdaaMa16
import Derived.Test.YtmcoepkopfcbdaaMa18
import Derived.SizedLaws
import Derived.Deep.Slices
import Derived.Test.YtmcoepkopfcbdaaMa17
namespace Go.Proofs.Ytmcoepkopfcbdaa
set_option linter.unusedVariables false
open Go.ChangeShapes Go.WideShapes Go.ChangeAt Go.RowKit

theorem actCells : Try.prog.cellsOf 35 = 4 := by kernel_rfl
theorem intCells : Try.prog.cellsOf 3 = 1 := by kernel_rfl
theorem strCells : Try.prog.cellsOf 9 = 1 := by kernel_rfl
theorem actBytes : Try.prog.bytesOf 35 = 48 := by kernel_rfl
section
variable {H : Type} {enc : TypeId × Value → H} {W : World}
set_option maxRecDepth 100000 in
theorem act_in {n : Nat} {sp : Nat → Bool} {cs : List Value} {x : DataW H × List MemPlace} (hl : cs.length = 4) (h : DataW.trod enc Try.prog W 0 sp true n 35 cs = some x) : ∃ y : ActT, cs = actL y := by
  obtain ⟨xs, k, hk, hxy, _, hxl, hf⟩ := DataW.trod_struct Try.underlying35 h
  match cs, hl with
  | [v0, v1, v2, v3], _ =>
    have g0 := hf 0 _ rfl
    have g1 := hf 1 _ rfl
    have g2 := hf 2 _ rfl
    have g3 := hf 3 _ rfl
    match xs, hxl with
    | [y0, y1, y2, y3], _ =>
      simp [intCells, strCells] at g0 g1 g2 g3
      obtain ⟨m0, e0, _⟩ := DataW.trod_int Try.underlying3 g0
      obtain ⟨m1, e1, _⟩ := DataW.trod_int Try.underlying3 g1
      obtain ⟨m2, e2, _⟩ := DataW.trod_string Try.underlying9 g2
      obtain ⟨m3, e3, _⟩ := DataW.trod_string Try.underlying9 g3
      simp only [List.cons.injEq, and_true] at e0 e1 e2 e3
      exact ⟨(m0, m1, m2.data.toList, m3.data.toList), by rw [e0, e1, e2, e3]; rfl⟩
set_option maxRecDepth 100000 in
theorem acts_in {r : Reach} {b0 : Nat} {v : Value} {d : DataW H} {ps : List MemPlace} (hv : Value.okWide Try.prog W r b0 33 v) (h : DataW.Trod enc Try.prog W 0 (fun _ => true) true 33 v d ps)
    (hsz : ∀ elems spare, d = .slice elems spare → (elems.length + spare.length) * Try.prog.bytesOf 35 ≤ reachBytes) :
    ∃ A n c l, v = .slice A n c ∧ (A = none → n = 0 ∧ c = 0) ∧ (n + 1) * 48 ≤ 140737488355328 ∧ Acts W A n l := by
  obtain ⟨a0, len, cap, rfl⟩ := okWide_slice Try.underlying33 hv
  obtain ⟨fuel, hf⟩ := h
  rcases Deep.open_slice Try.underlying33 hf with ⟨hcs, hx⟩ | ⟨a, len', cap', m, n, D, Pl, hcs, hb, hl, hm, hmm, hx, hel⟩
  · simp [Value.cells] at hcs
    obtain ⟨rfl, rfl, rfl⟩ := hcs
    exact ⟨none, 0, 0, [], rfl, fun _ => ⟨rfl, rfl⟩, by omega, rfl, fun h => by omega⟩
  · simp [Value.cells] at hcs
    obtain ⟨rfl, rfl, rfl⟩ := hcs
    simp only [if_true] at hmm
    subst hmm
    simp only [Prod.mk.injEq] at hx
    have hs := hsz _ _ hx.1
    rw [actBytes] at hs
    simp only [List.length_map, List.length_range] at hs
    have each : ∀ i, i < len → ∃ y : ActT, W.cells? 0 (a.add (i * 4)) 4 = some (actL y) := fun i hi => by
      obtain ⟨cs', h1, h2⟩ := hel i (by omega)
      rw [actCells] at h1
      obtain ⟨y, rfl⟩ := act_in (World.cells?_some h1).2.1 h2
      exact ⟨y, h1⟩
    obtain ⟨q, hq⟩ := Deep.choose_lt each
    refine ⟨some a, len, _, (List.range len).map q, rfl, (fun h => by cases h), by unfold reachBytes at hs; omega, by simp, fun hn => ?_⟩
    obtain ⟨b, off, spot⟩ := a
    have hspot : spot = none := by
      have := (World.cells?_some (hq 0 hn)).2.2 0 (by omega)
      simpa [Addr.add] using World.cell?_spot this
    subst hspot
    refine ⟨b, off, rfl, fun j u hj => ?_⟩
    have hjl : j < len * 4 := by have := (List.getElem?_eq_some_iff.1 hj).1; rw [actsL_len] at this; simpa using this
    have hk : j / 4 < len := by omega
    have e := actsL_at ((List.range len).map q) (j / 4) (by simpa using hk) (j % 4) (by omega)
    rw [show j / 4 * 4 + j % 4 = j by omega, hj] at e
    have hc := (World.cells?_some (hq (j / 4) hk)).2.2 (j % 4) (by omega)
    rw [Deep.add_add, add_plain] at hc
    rw [show off + j = off + (j / 4 * 4 + j % 4) by omega, hc]
    simp at e
    exact e.symm
set_option maxRecDepth 100000 in
theorem act_val {r : Reach} {b0 : Nat} {v : Value} {d : DataW H} {ps : List MemPlace} (hv : Value.okWide Try.prog W r b0 35 v) (h : DataW.Trod enc Try.prog W 0 (fun _ => true) true 35 v d ps) :
    ∃ x : ActT, v = .agg (actL x).toArray := by
  obtain ⟨cs, rfl, hsz⟩ := okWide_struct Try.underlying35 hv
  obtain ⟨fuel, hf⟩ := h
  obtain ⟨y, hy⟩ := act_in (by simpa [Value.cells, actCells] using hsz) hf
  refine ⟨y, ?_⟩
  have : cs.toList = actL y := by simpa [Value.cells] using hy
  rw [← this]
end
end Go.Proofs.Ytmcoepkopfcbdaa
/- For every input the law XattrBack returns true: behind whatever was done, what is set is got; all others are as they were; dropped, all that is told is as it was ahead, or without it. No condition. -/
namespace Go.Proofs.Ytmcoepkopfcbdaa.xattrBack
set_option linter.unusedVariables false
open Go.ChangeShapes Go.WideShapes Go.ChangeAt Go.RowKit

theorem reads : ∀ t ∈ Try.f4.params.toList, ReadT t := by
  rw [Try.params4]
  intro t ht
  rcases (by simpa using ht : t = 33 ∨ t = 35) with rfl | rfl <;> exact ⟨by kernel_rfl, of_decide_eq_true (by kernel_rfl)⟩
set_option maxRecDepth 100000 in
theorem lifted (os : Os) (started : os.Started) (H : Type) (enc : TypeId × Value → H) :
    ReturnsInHanded {} Try.checked os 4 .any (Rows.xattrBackSpec.pre6 enc Try.prog Try.f4 Rows.xattrBackRow.domain false) (Rows.xattrBackSpec.post enc Try.prog Try.f4 false true false false) := by
  refine returnsInHanded_of_change_sized (C := Try.checked) ownKnobNone started (by kernel_rfl) Try.func4
    (ChangeSpec.witness6 (enc := enc) (C := Try.checked) false ⟨#[], #[.slice none 0 0, .agg #[.int .i64 0, .int .i64 0, .string ⟨#[]⟩, .string ⟨#[]⟩]], []⟩ 8 (by kernel_rfl) (by kernel_rfl) (by kernel_rfl) (by kernel_rfl)) ?_
  intro W base args ds gs before hval0 hW hcnd hsz0 _
  have hval : ∀ (j : Nat) t v, Try.f4.params[j]? = some t → args[j]? = some v → Value.okWide Try.prog W .any base t v := hval0
  have hsz : (DataW.weightsEach Try.prog (Try.f4.params.toList ++ Rows.xattrBackSpec.plain.varTypes Try.prog) (ds ++ gs)).all (· ≤ reachBytes) = true := hsz0
  have hW' := hW
  obtain ⟨p, q, hA0, hV, rfl, hfz, hnd⟩ := hW
  have hA : DataW.TrodAll enc Try.prog W 0 (fun _ => true) true Try.f4.params.toList args.toList ds p := hA0
  rw [Try.params4] at hA hval hsz
  obtain ⟨v0, vs0, d0, ds0, p0, q0, hargs, rfl, rfl, h0, r0⟩ := trodAll_cons hA
  obtain ⟨v1, vs1, d1, ds1, p1, q1, rfl, rfl, rfl, h1, r1⟩ := trodAll_cons r0
  obtain ⟨rfl, rfl, rfl⟩ := trodAll_nil r1
  obtain rfl : args = #[v0, v1] := by cases args; simp_all
  obtain ⟨rfl, rfl⟩ := trodVars_none hV
  obtain ⟨A, n, c, l, rfl, hA1, hn, hb⟩ := acts_in (hval 0 33 v0 rfl rfl) h0 (fun elems spare e => by subst e; exact sized_slice hsz (j := 0) (t := 33) (e := 35) rfl rfl Try.underlying33)
  obtain ⟨x, rfl⟩ := act_val (hval 1 35 v1 rfl rfl) h1
  clear hA0 hval0 hsz hsz0
  refine (back_any A n c l x W hb hA1 hn).mono fun e W' ⟨he, hg⟩ => ?_
  subst he
  exact ⟨_, rfl, law_post rfl hW' (by kernel_rfl) reads rfl hg⟩
theorem over : Rows.xattrBackRow.holds Try.pinned (OpenSpec.ofChange Rows.xattrBackSpec) :=
  OpenClaim.holds_of_wide 4 Try.f4 rfl rfl rfl rfl rfl rfl rfl ⟨rfl, rfl, rfl, rfl, rfl⟩ rfl rfl rfl rfl rfl (by kernel_rfl) Try.func4 (by kernel_rfl)
    (of_decide_eq_true (by kernel_rfl)) (by unfold Func.isWrapper; first | (rw [if_pos (by decide +kernel)]; kernel_rfl) | (rw [if_neg (by decide +kernel)]; exact ⟨rfl, rfl⟩))
    (fun os started H enc _ => lifted os started H enc)
theorem proved : Rows.XattrBackSaid := over
#print axioms proved
end Go.Proofs.Ytmcoepkopfcbdaa.xattrBack
