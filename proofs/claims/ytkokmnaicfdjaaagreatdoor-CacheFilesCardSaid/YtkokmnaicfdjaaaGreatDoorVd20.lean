/- Plain: the blocks of a volume that differ, as a list and as a map. -/
import Derived.Test.YtkokmnaicfdjaaaGreatDoorVd19
import Derived.Lib.SlKeysI
import Derived.Maps.Own
import Derived.Maps.OwnSet
namespace Go.Proofs.YtkokmnaicfdjaaaGreatDoor
set_option linter.unusedVariables false
set_option linter.unusedSimpArgs false
open Go.RowKit

/-- the first k blocks that differ -/
def keepL (H v : List (List UInt8)) : Nat → List WrT
  | 0 => []
  | k + 1 => if v.getD k [] = H.getD k [] then keepL H v k else keepL H v k ++ [((k : Int), v.getD k [])]
theorem keepL_mem (H v : List (List UInt8)) : ∀ (k : Nat), ∀ x ∈ keepL H v k, 0 ≤ x.1 ∧ x.1 < (k : Int) ∧ x.2 = v.getD x.1.toNat []
  | 0, x, h => by cases h
  | k + 1, x, h => by
    rw [keepL] at h
    split at h
    · obtain ⟨h1, h2, h3⟩ := keepL_mem H v k x h
      exact ⟨h1, by omega, h3⟩
    · rcases List.mem_append.1 h with h | h
      · obtain ⟨h1, h2, h3⟩ := keepL_mem H v k x h
        exact ⟨h1, by omega, h3⟩
      · obtain rfl : x = ((k : Int), v.getD k []) := List.mem_singleton.1 h
        exact ⟨Int.natCast_nonneg k, by show (k : Int) < _; omega, rfl⟩
theorem keepL_rise (H v : List (List UInt8)) : ∀ (k : Nat), (keepL H v k).Pairwise fun x y => x.1 < y.1
  | 0 => List.Pairwise.nil
  | k + 1 => by
    rw [keepL]
    split
    · exact keepL_rise H v k
    · refine List.pairwise_append.2 ⟨keepL_rise H v k, List.pairwise_singleton _ _, fun x hx y hy => ?_⟩
      obtain rfl : y = ((k : Int), v.getD k []) := List.mem_singleton.1 hy
      exact (keepL_mem H v k x hx).2.1
theorem keepL_len (H v : List (List UInt8)) : ∀ (k : Nat), (keepL H v k).length ≤ k
  | 0 => Nat.le_refl _
  | k + 1 => by
    rw [keepL]
    have := keepL_len H v k
    split
    · omega
    · rw [List.length_append, List.length_singleton]; omega
theorem keep_rise {H v : List (List UInt8)} {N : Nat} (hN : v.length ≤ N) (hf : ∀ b ∈ v, b.length = 128) (hl : (keepL H v v.length).length ≤ 32) : RiseW N (keepL H v v.length) := by
  refine ⟨hl, fun i hi => ?_⟩
  obtain ⟨h1, h2, h3⟩ := keepL_mem H v v.length _ (List.getElem_mem hi)
  refine ⟨h1, by omega, ?_, fun h0 => ?_⟩
  · rw [h3, List.getD_eq_getElem?_getD, List.getElem?_eq_getElem (by omega)]
    exact hf _ (List.getElem_mem _)
  · exact List.pairwise_iff_getElem.1 (keepL_rise H v v.length) (i - 1) i (by omega) hi (by omega)
/-- as entries of a map -/
def keyL (l : List WrT) : List (Lit × DataW Unit) := l.map fun x => (.int .i64 x.1, .lit (.string x.2))
theorem insert_last (e : Lit × DataW Unit) : ∀ l : List (Lit × DataW Unit), (∀ p ∈ l, e.1.before p.1 = false) → DataW.insert e l = l ++ [e]
  | [], _ => rfl
  | y :: r, h => by
    rw [DataW.insert, if_neg (by rw [h y List.mem_cons_self]; simp), insert_last e r (fun p hp => h p (List.mem_cons_of_mem _ hp))]; rfl
theorem ent_put (l : List WrT) (k : Int) (s : List UInt8) (h : ∀ x ∈ l, x.1 < k) : (DataW.map (keyL l)).put (.int .i64 k) (.lit (.string s)) = .map (keyL (l ++ [(k, s)])) := by
  have e1 : (keyL l).filter (fun p => !p.1.sameKey (.int .i64 k)) = keyL l := by
    rw [List.filter_eq_self]
    intro p hp
    obtain ⟨x, hx, rfl⟩ := List.mem_map.1 hp
    have := h x hx
    simp [Lit.sameKey]; omega
  rw [DataW.put, e1, insert_last]
  · unfold keyL; rw [List.map_append]; rfl
  · intro p hp
    obtain ⟨x, hx, rfl⟩ := List.mem_map.1 hp
    have := h x hx
    simp [Lit.before]; omega
theorem ent_keys (l : List WrT) : intKeys (.map (keyL l)) = l.map (·.1) := by
  show (l.map fun x => ((Lit.int .i64 x.1, DataW.lit (.string x.2)) : Lit × DataW Unit)).map (fun p => Go.intOf p.1) = _
  rw [List.map_map]; rfl
theorem ent_size (l : List WrT) : Maps.size (.map (keyL l)) = l.length := by
  show (l.map fun x => ((Lit.int .i64 x.1, DataW.lit (.string x.2)) : Lit × DataW Unit)).length = _
  rw [List.length_map]
theorem ent_at (z : DataW Unit) : ∀ (l : List WrT), (l.Pairwise fun x y => x.1 < y.1) → ∀ x ∈ l, (DataW.map (keyL l)).atKey (.int .i64 x.1) z = .lit (.string x.2)
  | [], _, x, h => by cases h
  | y :: l, hp, x, h => by
    rw [List.pairwise_cons] at hp
    rcases List.mem_cons.1 h with rfl | h
    · simp [DataW.atKey, keyL, Lit.sameKey]
    · have h1 := hp.1 x h
      have ih := ent_at z l hp.2 x h
      simp only [DataW.atKey, keyL, List.map_cons] at ih ⊢
      rw [List.find?_cons_of_neg (by simp [Lit.sameKey]; omega)]
      exact ih
theorem keys_sorted (l : List WrT) (hp : l.Pairwise fun x y => x.1 < y.1) {ss : List Int} (h : ss.Perm (l.map (·.1))) : ss.mergeSort (fun x y => decide (x ≤ y)) = l.map (·.1) := by
  have tr : ∀ a b c : Int, decide (a ≤ b) = true → decide (b ≤ c) = true → decide (a ≤ c) = true := fun a b c h1 h2 => by simp only [decide_eq_true_eq] at *; exact Int.le_trans h1 h2
  have tot : ∀ a b : Int, (decide (a ≤ b) || decide (b ≤ a)) = true := fun a b => by simp only [Bool.or_eq_true, decide_eq_true_eq]; exact Int.le_total a b
  refine List.Perm.eq_of_pairwise (le := fun a b => decide (a ≤ b) = true) (fun a b _ _ h1 h2 => ?_) (List.pairwise_mergeSort tr tot ss) ?_ ((List.mergeSort_perm ss _).trans h)
  · simp only [decide_eq_true_eq] at h1 h2
    exact Int.le_antisymm h1 h2
  · rw [List.pairwise_map]
    exact hp.imp fun h => by simp only [decide_eq_true_eq]; omega
/-- a machine's rows behind keeping a volume; the error; the drive's count -/
def keepD (D : DrvD) (d : MacD) (v : List (List UInt8)) : MacD × Int × Int :=
  if v.length ≠ (homeP d.bl d.pe).length then (d, 2, D.left)
  else if formE v ≠ 0 then (d, 3, D.left)
  else if 32 < (keepL (homeP d.bl d.pe) v v.length).length then (d, 6, D.left)
  else if 16 < (keepL (homeP d.bl d.pe) v v.length).length then
    (syncD { d with di := keepL (homeP d.bl d.pe) v v.length } (commitP D (keepL (homeP d.bl d.pe) v v.length)), (commitP D (keepL (homeP d.bl d.pe) v v.length)).2, (commitP D (keepL (homeP d.bl d.pe) v v.length)).1.left)
  else ({ d with di := keepL (homeP d.bl d.pe) v v.length }, 0, D.left)
theorem keepD_eq (D : DrvD) (d : MacD) (v : List (List UInt8)) : keepD D d v =
  (if v.length ≠ (homeP d.bl d.pe).length then (d, 2, D.left)
  else if formE v ≠ 0 then (d, 3, D.left)
  else if 32 < (keepL (homeP d.bl d.pe) v v.length).length then (d, 6, D.left)
  else if 16 < (keepL (homeP d.bl d.pe) v v.length).length then
    (syncD { d with di := keepL (homeP d.bl d.pe) v v.length } (commitP D (keepL (homeP d.bl d.pe) v v.length)), (commitP D (keepL (homeP d.bl d.pe) v v.length)).2, (commitP D (keepL (homeP d.bl d.pe) v v.length)).1.left)
  else ({ d with di := keepL (homeP d.bl d.pe) v v.length }, 0, D.left)) := rfl
def KeepR (B0 : Nat) (m : Mac) (d : MacD) (v : List (List UInt8)) (w : World) (e : Ending) (w' : World) : Prop :=
  ∃ m' : Mac, e = .returned (.tuple #[.agg m'.cells, .int .i64 (keepD (drvM m d) d v).2.1]) ∧ MacF B0 w' m' (keepD (drvM m d) d v).1 ∧ m'.dleft = (keepD (drvM m d) d v).2.2 ∧ m.Like m' ∧ Ext w w'
theorem KeepR.mk {B0 : Nat} {m m' : Mac} {d E : MacD} {v : List (List UInt8)} {w w' : World} {er x : Int} (hk : keepD (drvM m d) d v = (E, er, x)) (hF : MacF B0 w' m' E) (hl : m'.dleft = x) (hm : m.Like m') (hx : Ext w w') : KeepR B0 m d v w (.returned (.tuple #[.agg m'.cells, .int .i64 er])) w' := by
  refine ⟨m', ?_, ?_, ?_, hm, hx⟩
  · rw [hk]
  · rw [hk]; exact hF
  · rw [hk]; exact hl
/-- a volume that was kept is seen -/
theorem lay_keep (H v : List (List UInt8)) (hlen : v.length = H.length) : ∀ k, k ≤ v.length → (keepL H v k).foldl layP H = (v.take k) ++ H.drop k
  | 0, _ => by simp [keepL]
  | k + 1, hk => by
    have ih := lay_keep H v hlen k (by omega)
    have hkv : k < v.length := by omega
    have hkH : k < H.length := by omega
    have e1 : v.getD k [] = v[k] := by rw [List.getD_eq_getElem?_getD, List.getElem?_eq_getElem hkv]; rfl
    have e2 : H.getD k [] = H[k] := by rw [List.getD_eq_getElem?_getD, List.getElem?_eq_getElem hkH]; rfl
    have e3 : v.take (k + 1) = v.take k ++ [v[k]] := List.take_succ_eq_append_getElem hkv
    have e4 : H.drop k = H[k] :: H.drop (k + 1) := List.drop_eq_getElem_cons hkH
    rw [keepL]
    split
    · rename_i h
      rw [e1, e2] at h
      rw [ih, e3, e4, h, List.append_assoc]; rfl
    · rw [List.foldl_append, ih, List.foldl_cons, List.foldl_nil, e1, lay_eq, if_pos (Int.natCast_nonneg k), e3, e4, Int.toNat_natCast, List.set_append_right _ _ (by rw [List.length_take]; omega), List.length_take, Nat.min_eq_left (by omega), Nat.sub_self, List.append_assoc]
      rfl
theorem lay_keep_all (H v : List (List UInt8)) (hlen : v.length = H.length) : (keepL H v v.length).foldl layP H = v := by
  rw [lay_keep H v hlen _ (Nat.le_refl _), List.take_length, List.drop_of_length_le (by omega), List.append_nil]
end Go.Proofs.YtkokmnaicfdjaaaGreatDoor
/- Plain: what keeping and syncing leave. -/
namespace Go.Proofs.YtkokmnaicfdjaaaGreatDoor
set_option linter.unusedVariables false
set_option linter.unusedSimpArgs false
open Go.RowKit

/-- what keeping leaves of the rest -/
theorem keepD_rest (D : DrvD) (d : MacD) (v : List (List UInt8)) : (keepD D d v).1.fr = d.fr ∧ (keepD D d v).1.pr = d.pr ∧ (keepD D d v).1.pi = d.pi := by
  unfold keepD
  split
  · exact ⟨rfl, rfl, rfl⟩
  · split
    · exact ⟨rfl, rfl, rfl⟩
    · split
      · exact ⟨rfl, rfl, rfl⟩
      · split <;> exact ⟨rfl, rfl, rfl⟩
/-- a volume that was kept is seen -/
theorem keepD_view {D : DrvD} {d : MacD} {v : List (List UInt8)} (hb : D.bl = d.bl) (hpe : D.pe = d.pe) (hj : jrnE d.bl d.pe = 0) (he : (keepD D d v).2.1 = 0) : viewP (keepD D d v).1.bl (keepD D d v).1.pe (keepD D d v).1.di = v := by
  rw [keepD_eq] at he ⊢
  by_cases h1 : v.length = (homeP d.bl d.pe).length
  · rw [if_neg (fun h => h h1)] at he ⊢
    by_cases h2 : formE v = 0
    · rw [if_neg (fun h => h h2)] at he ⊢
      by_cases h3 : 32 < (keepL (homeP d.bl d.pe) v v.length).length
      · rw [if_pos h3] at he; cases he
      · rw [if_neg h3] at he ⊢
        by_cases h4 : 16 < (keepL (homeP d.bl d.pe) v v.length).length
        · rw [if_pos h4] at he ⊢
          have hl : RiseW (D.bl.length - 33) (keepL (homeP d.bl d.pe) v v.length) := keep_rise (by rw [h1, homeP_len hj, hb]; exact Nat.le_refl _) (formE_mem h2) (by omega)
          have hc := commit_home (D := D) (l := keepL (homeP d.bl d.pe) v v.length) (by rw [hb, hpe]; exact hj) hl he
          simp only [syncD]
          simp only at he
          rw [if_pos he]
          refine hc.trans ?_
          rw [hb, hpe]
          exact lay_keep_all _ _ h1
        · rw [if_neg h4]
          exact lay_keep_all _ _ h1
    · rw [if_pos h2] at he; cases he
  · rw [if_pos h1] at he; cases he
theorem rise_of {d : MacD} (h : DiskOk d) : RiseW (d.bl.length - 33) d.di := ⟨h.2.1, h.2.2.1⟩
theorem disk_of {d : MacD} {I : Int} (hj : jrnE d.bl d.pe = 0) (hr : RiseW (d.bl.length - 33) d.di) (hg : Good (viewP d.bl d.pe d.di) I) : DiskOk d := ⟨hj, hr.1, hr.2, I, hg⟩
theorem rise_nil (N : Nat) : RiseW N [] := ⟨Nat.zero_le _, fun i h => by cases h⟩
/-- behind syncing a machine's disk is as it may be -/
theorem sync_disk {D : DrvD} {d : MacD} (hb : D.bl = d.bl) (hpe : D.pe = d.pe) (h : DiskOk d) (he : (commitP D d.di).2 = 0) : DiskOk (syncD d (commitP D d.di)) := by
  obtain ⟨I, hg⟩ := h.2.2.2
  have hj : jrnE D.bl D.pe = 0 := by rw [hb, hpe]; exact h.1
  have hl : RiseW (D.bl.length - 33) d.di := by rw [hb]; exact rise_of h
  refine disk_of (I := I) (commit_jrn hj hl) ?_ ?_
  · show RiseW _ (if (commitP D d.di).2 = 0 then [] else d.di)
    rw [if_pos he]; exact rise_nil _
  · have hc := commit_home hj hl he
    show Good (viewP (commitP D d.di).1.bl (commitP D d.di).1.pe (if (commitP D d.di).2 = 0 then [] else d.di)) I
    rw [if_pos he]
    show Good (homeP (commitP D d.di).1.bl (commitP D d.di).1.pe) I
    rw [hc, hb, hpe]; exact hg
/-- behind keeping a volume, too -/
theorem keep_disk {D : DrvD} {d : MacD} {v : List (List UInt8)} {I : Int} (hb : D.bl = d.bl) (hpe : D.pe = d.pe) (hj : jrnE d.bl d.pe = 0) (hg : Good v I) (he : (keepD D d v).2.1 = 0) : DiskOk (keepD D d v).1 := by
  have hv := keepD_view hb hpe hj he
  rw [keepD_eq] at he hv ⊢
  by_cases h1 : v.length = (homeP d.bl d.pe).length
  · rw [if_neg (fun h => h h1)] at he hv ⊢
    by_cases h2 : formE v = 0
    · rw [if_neg (fun h => h h2)] at he hv ⊢
      by_cases h3 : 32 < (keepL (homeP d.bl d.pe) v v.length).length
      · rw [if_pos h3] at he; cases he
      · rw [if_neg h3] at he hv ⊢
        have hl : RiseW (d.bl.length - 33) (keepL (homeP d.bl d.pe) v v.length) := keep_rise (by rw [h1, homeP_len hj]; exact Nat.le_refl _) (formE_mem h2) (by omega)
        by_cases h4 : 16 < (keepL (homeP d.bl d.pe) v v.length).length
        · rw [if_pos h4] at he hv ⊢
          have hl2 : RiseW (D.bl.length - 33) (keepL (homeP d.bl d.pe) v v.length) := by rw [hb]; exact hl
          refine disk_of (I := I) (commit_jrn (by rw [hb, hpe]; exact hj) hl2) ?_ (by rw [hv]; exact hg)
          show RiseW _ (if (commitP D (keepL (homeP d.bl d.pe) v v.length)).2 = 0 then [] else _)
          rw [if_pos he]; exact rise_nil _
        · rw [if_neg h4] at hv ⊢
          exact disk_of (I := I) hj hl (by rw [hv]; exact hg)
    · rw [if_pos h2] at he; cases he
  · rw [if_pos h1] at he; cases he
end Go.Proofs.YtkokmnaicfdjaaaGreatDoor
/- Plain: how many writes wait behind keeping. -/
namespace Go.Proofs.YtkokmnaicfdjaaaGreatDoor
set_option linter.unusedVariables false
set_option linter.unusedSimpArgs false

theorem step_pe9 (D : DrvD) (c : CallD) : (stepP D c).1.pe.length ≤ D.pe.length + 1 := by
  cases c with
  | put i s =>
    show (putDP D i s).1.pe.length ≤ _
    unfold putDP
    split
    · exact Nat.le_succ _
    · simp
  | flush =>
    show (flushDP D).1.pe.length ≤ _
    unfold flushDP
    split
    · exact Nat.le_succ _
    · simp
theorem done_pe9 : ∀ (l : List CallD) (D : DrvD), (doneP D l).1.pe.length ≤ D.pe.length + l.length
  | [], D => Nat.le_refl _
  | c :: l, D => by
    have h := step_pe9 D c
    simp only [doneP, List.length_cons]
    split
    · have := done_pe9 l (stepP D c).1; omega
    · omega
theorem commitC_len9 (l : List WrT) : (commitC l).length = 2 * l.length + 3 := by
  unfold commitC homeC
  simp only [List.length_append, putsC_len, List.length_map, List.length_cons, List.length_nil]
  omega
theorem keepD_pe {D : DrvD} {d : MacD} (v : List (List UInt8)) (hp : D.pe = d.pe) : (keepD D d v).1.pe.length ≤ d.pe.length + 67 := by
  rw [keepD_eq]
  split
  · exact Nat.le_add_right _ _
  · split
    · exact Nat.le_add_right _ _
    · split
      · exact Nat.le_add_right _ _
      · split
        · rename_i h3 h4
          show (commitP D (keepL (homeP d.bl d.pe) v v.length)).1.pe.length ≤ _
          unfold commitP
          split
          · rw [hp]; exact Nat.le_add_right _ _
          · have := done_pe9 (commitC (keepL (homeP d.bl d.pe) v v.length)) D
            rw [commitC_len9, hp] at this
            omega
        · exact Nat.le_add_right _ _
end Go.Proofs.YtkokmnaicfdjaaaGreatDoor
