/- For every input the law XattrRuns returns true: whatever is set, and dropped, one behind the other, each answer and the volume are the document's. No condition. -/
import Derived.Test.YtmcoepkopfcbdaaGreatMr16
import Derived.Test.YtmcoepkopfcbdaaGreatMr18
import Derived.SizedLaws
import Derived.Deep.Slices
import Derived.Test.YtmcoepkopfcbdaaGreatMr17
namespace Go.Proofs.YtmcoepkopfcbdaaGreat
set_option linter.unusedVariables false
open Go.ChangeShapes Go.WideShapes Go.ChangeAt Go.RowKit

theorem actCells : Tryz.prog.cellsOf 28 = 4 := by kernel_rfl
theorem intCells : Tryz.prog.cellsOf 3 = 1 := by kernel_rfl
theorem strCells : Tryz.prog.cellsOf 9 = 1 := by kernel_rfl
theorem actBytes : Tryz.prog.bytesOf 28 = 48 := by kernel_rfl
section
variable {H : Type} {enc : TypeId × Value → H} {W : World}
set_option maxRecDepth 100000 in
theorem act_in {n : Nat} {sp : Nat → Bool} {cs : List Value} {x : DataW H × List MemPlace} (hl : cs.length = 4) (h : DataW.trod enc Tryz.prog W 0 sp true n 28 cs = some x) : ∃ y : ActT, cs = actL y := by
  obtain ⟨xs, k, hk, hxy, _, hxl, hf⟩ := DataW.trod_struct Tryz.underlying28 h
  match cs, hl with
  | [v0, v1, v2, v3], _ =>
    have g0 := hf 0 _ rfl
    have g1 := hf 1 _ rfl
    have g2 := hf 2 _ rfl
    have g3 := hf 3 _ rfl
    match xs, hxl with
    | [y0, y1, y2, y3], _ =>
      simp [intCells, strCells] at g0 g1 g2 g3
      obtain ⟨m0, e0, _⟩ := DataW.trod_int Tryz.underlying3 g0
      obtain ⟨m1, e1, _⟩ := DataW.trod_int Tryz.underlying3 g1
      obtain ⟨m2, e2, _⟩ := DataW.trod_string Tryz.underlying9 g2
      obtain ⟨m3, e3, _⟩ := DataW.trod_string Tryz.underlying9 g3
      simp only [List.cons.injEq, and_true] at e0 e1 e2 e3
      exact ⟨(m0, m1, m2.data.toList, m3.data.toList), by rw [e0, e1, e2, e3]; rfl⟩
set_option maxRecDepth 100000 in
theorem acts_in {r : Reach} {b0 : Nat} {v : Value} {d : DataW H} {ps : List MemPlace} (hv : Value.okWide Tryz.prog W r b0 22 v) (h : DataW.Trod enc Tryz.prog W 0 (fun _ => true) true 22 v d ps)
    (hsz : ∀ elems spare, d = .slice elems spare → (elems.length + spare.length) * Tryz.prog.bytesOf 28 ≤ reachBytes) :
    ∃ A n c l, v = .slice A n c ∧ (A = none → n = 0 ∧ c = 0) ∧ (n + 1) * 48 ≤ 140737488355328 ∧ Acts W A n l := by
  obtain ⟨a0, len, cap, rfl⟩ := okWide_slice Tryz.underlying22 hv
  obtain ⟨fuel, hf⟩ := h
  rcases Deep.open_slice Tryz.underlying22 hf with ⟨hcs, hx⟩ | ⟨a, len', cap', m, n, D, Pl, hcs, hb, hl, hm, hmm, hx, hel⟩
  · simp [Value.cells] at hcs
    obtain ⟨rfl, rfl, rfl⟩ := hcs
    exact ⟨none, 0, 0, [], rfl, fun _ => ⟨rfl, rfl⟩, by omega, rfl, fun h => by omega⟩
  · simp [Value.cells] at hcs
    obtain ⟨rfl, rfl, rfl⟩ := hcs
    simp only [if_true] at hmm
    subst hmm
    simp only [Prod.mk.injEq] at hx
    have hs := hsz _ _ hx.1
    rw [actBytes] at hs
    simp only [List.length_map, List.length_range] at hs
    have each : ∀ i, i < len → ∃ y : ActT, W.cells? 0 (a.add (i * 4)) 4 = some (actL y) := fun i hi => by
      obtain ⟨cs', h1, h2⟩ := hel i (by omega)
      rw [actCells] at h1
      obtain ⟨y, rfl⟩ := act_in (World.cells?_some h1).2.1 h2
      exact ⟨y, h1⟩
    obtain ⟨q, hq⟩ := Deep.choose_lt each
    refine ⟨some a, len, _, (List.range len).map q, rfl, (fun h => by cases h), by unfold reachBytes at hs; omega, by simp, fun hn => ?_⟩
    obtain ⟨b, off, spot⟩ := a
    have hspot : spot = none := by
      have := (World.cells?_some (hq 0 hn)).2.2 0 (by omega)
      simpa [Addr.add] using World.cell?_spot this
    subst hspot
    refine ⟨b, off, rfl, fun j u hj => ?_⟩
    have hjl : j < len * 4 := by have := (List.getElem?_eq_some_iff.1 hj).1; rw [actsL_len] at this; simpa using this
    have hk : j / 4 < len := by omega
    have e := actsL_at ((List.range len).map q) (j / 4) (by simpa using hk) (j % 4) (by omega)
    rw [show j / 4 * 4 + j % 4 = j by omega, hj] at e
    have hc := (World.cells?_some (hq (j / 4) hk)).2.2 (j % 4) (by omega)
    rw [Deep.add_add, add_plain] at hc
    rw [show off + j = off + (j / 4 * 4 + j % 4) by omega, hc]
    simp at e
    exact e.symm
set_option maxRecDepth 100000 in
theorem act_val {r : Reach} {b0 : Nat} {v : Value} {d : DataW H} {ps : List MemPlace} (hv : Value.okWide Tryz.prog W r b0 28 v) (h : DataW.Trod enc Tryz.prog W 0 (fun _ => true) true 28 v d ps) :
    ∃ x : ActT, v = .agg (actL x).toArray := by
  obtain ⟨cs, rfl, hsz⟩ := okWide_struct Tryz.underlying28 hv
  obtain ⟨fuel, hf⟩ := h
  obtain ⟨y, hy⟩ := act_in (by simpa [Value.cells, actCells] using hsz) hf
  refine ⟨y, ?_⟩
  have : cs.toList = actL y := by simpa [Value.cells] using hy
  rw [← this]
end
end Go.Proofs.YtmcoepkopfcbdaaGreat
/- For every input the law XattrRuns returns true: whatever is set, and dropped, one behind the other, each answer and the volume are the document's. No condition. -/
namespace Go.Proofs.YtmcoepkopfcbdaaGreat.xattrRuns
set_option linter.unusedVariables false
open Go.ChangeShapes Go.WideShapes Go.ChangeAt Go.RowKit

theorem reads : ∀ t ∈ Tryz.f3.params.toList, ReadT t := by
  rw [Tryz.params3]
  intro t ht
  rcases (by simpa using ht : t = 22) with rfl
  exact ⟨by kernel_rfl, of_decide_eq_true (by kernel_rfl)⟩
set_option maxRecDepth 100000 in
theorem lifted (os : Os) (started : os.Started) (H : Type) (enc : TypeId × Value → H) :
    ReturnsInHanded {} Tryz.checked os 3 .any (Rows.xattrRunsSpec.pre6 enc Tryz.prog Tryz.f3 Rows.xattrRunsRow.domain false) (Rows.xattrRunsSpec.post enc Tryz.prog Tryz.f3 false true false false) := by
  refine returnsInHanded_of_change_sized (C := Tryz.checked) ownKnobNone started (by kernel_rfl) Tryz.func3
    (ChangeSpec.witness6 (enc := enc) (C := Tryz.checked) false ⟨#[], #[.slice none 0 0], []⟩ 8 (by kernel_rfl) (by kernel_rfl) (by kernel_rfl) (by kernel_rfl)) ?_
  intro W base args ds gs before hval0 hW hcnd hsz0 _
  have hval : ∀ (j : Nat) t v, Tryz.f3.params[j]? = some t → args[j]? = some v → Value.okWide Tryz.prog W .any base t v := hval0
  have hsz : (DataW.weightsEach Tryz.prog (Tryz.f3.params.toList ++ Rows.xattrRunsSpec.plain.varTypes Tryz.prog) (ds ++ gs)).all (· ≤ reachBytes) = true := hsz0
  have hW' := hW
  obtain ⟨p, q, hA0, hV, rfl, hfz, hnd⟩ := hW
  have hA : DataW.TrodAll enc Tryz.prog W 0 (fun _ => true) true Tryz.f3.params.toList args.toList ds p := hA0
  rw [Tryz.params3] at hA hval hsz
  obtain ⟨v0, vs0, d0, ds0, p0, q0, hargs, rfl, rfl, h0, r0⟩ := trodAll_cons hA
  obtain ⟨rfl, rfl, rfl⟩ := trodAll_nil r0
  obtain rfl : args = #[v0] := by cases args; simp_all
  obtain ⟨rfl, rfl⟩ := trodVars_none hV
  obtain ⟨A, n, c, l, rfl, hA1, hn, hb⟩ := acts_in (hval 0 22 v0 rfl rfl) h0 (fun elems spare e => by subst e; exact sized_slice hsz (j := 0) (t := 22) (e := 28) rfl rfl Tryz.underlying22)
  clear hA0 hval0 hsz hsz0
  refine (runs_any A n c l W hb (by omega)).mono fun e W' ⟨he, hg⟩ => ?_
  subst he
  exact ⟨_, rfl, law_post rfl hW' (by kernel_rfl) reads rfl hg⟩
theorem over : Rows.xattrRunsRow.holds Tryz.pinned (OpenSpec.ofChange Rows.xattrRunsSpec) :=
  OpenClaim.holds_of_wide 3 Tryz.f3 rfl rfl rfl rfl rfl rfl rfl ⟨rfl, rfl, rfl, rfl, rfl⟩ rfl rfl rfl rfl rfl (by kernel_rfl) Tryz.func3 (by kernel_rfl)
    (of_decide_eq_true (by kernel_rfl)) (by unfold Func.isWrapper; first | (rw [if_pos (by decide +kernel)]; kernel_rfl) | (rw [if_neg (by decide +kernel)]; exact ⟨rfl, rfl⟩))
    (fun os started H enc _ => lifted os started H enc)
theorem proved : Rows.XattrRunsSaid := over
#print axioms proved
end Go.Proofs.YtmcoepkopfcbdaaGreat.xattrRuns
