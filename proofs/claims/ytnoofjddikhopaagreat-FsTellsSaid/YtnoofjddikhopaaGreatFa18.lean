/- The names of a path: plain. -/
import Derived.Test.YtnoofjddikhopaaGreatFa17
import Derived.Lib.Bytealg
import Derived.Lib.LastIndexByte
namespace Go.Proofs.YtnoofjddikhopaaGreat
set_option linter.unusedVariables false
set_option linter.unusedSimpArgs false
open Go
def segP (q : List UInt8) : List UInt8 := q.takeWhile (fun c => c != 47)
def restP (q : List UInt8) : List UInt8 := q.dropWhile (fun c => c != 47)
theorem seg_rest (q : List UInt8) : segP q ++ restP q = q := List.takeWhile_append_dropWhile
theorem seg_len (q : List UInt8) : (segP q).length + (restP q).length = q.length := by
  have := congrArg List.length (seg_rest q); rwa [List.length_append] at this
theorem restP_head (q : List UInt8) : restP q = [] ∨ ∃ r, restP q = 47 :: r := by
  induction q with
  | nil => exact .inl rfl
  | cons c q ih =>
    unfold restP at *
    by_cases h : c = 47
    · subst h; exact .inr ⟨q, by simp⟩
    · have h1 : (c != 47) = true := by simpa using h
      rw [List.dropWhile_cons, h1]; exact ih
theorem index_seg (q : List UInt8) : Lib.indexByte q 47 = if restP q = [] then -1 else ((segP q).length : Int) := by
  induction q with
  | nil => rfl
  | cons c q ih =>
    unfold Lib.indexByte segP restP
    by_cases h : c = 47
    · subst h; simp
    · have h1 : (c != 47) = true := by simpa using h
      have h2 : (c == 47) = false := by simpa using h
      unfold segP restP at ih
      rw [List.dropWhile_cons, List.takeWhile_cons, h1, h2, ih]
      by_cases h3 : List.dropWhile (fun c => c != 47) q = []
      · simp [h3]
      · simp only [if_neg h3, Bool.false_eq_true, if_false, if_true, List.length_cons]
        rw [if_neg (by simp only [beq_iff_eq]; omega)]
        omega
def partsP : List UInt8 → List (List UInt8)
  | [] => []
  | _ :: q => segP q :: partsP (restP q)
termination_by l => l.length
decreasing_by
  have := seg_len q
  simp only [List.length_cons]; omega
theorem partsP_nil : partsP [] = [] := by rw [partsP]
theorem partsP_cons (c : UInt8) (q : List UInt8) : partsP (c :: q) = segP q :: partsP (restP q) := by rw [partsP]
theorem partsP_len : ∀ (n : Nat) (l : List UInt8), l.length ≤ n → (partsP l).length ≤ l.length ∧ ∀ x ∈ partsP l, x.length ≤ l.length
  | _, [], _ => by rw [partsP_nil]; exact ⟨Nat.le_refl _, fun x h => absurd h List.not_mem_nil⟩
  | n + 1, c :: q, h => by
    rw [partsP_cons]
    have hs := seg_len q
    have ih := partsP_len n (restP q) (by simp at h; omega)
    refine ⟨by simp only [List.length_cons]; omega, fun x hx => ?_⟩
    rcases List.mem_cons.1 hx with rfl | hx
    · simp only [List.length_cons]; omega
    · have := ih.2 x hx; simp only [List.length_cons]; omega
/-- the names of a path -/
def pathP (p : List UInt8) : List (List UInt8) := if p = [47] then [] else partsP p
theorem pathP_len (p : List UInt8) : (pathP p).length ≤ p.length ∧ ∀ x ∈ pathP p, x.length ≤ p.length := by
  unfold pathP
  split
  · exact ⟨Nat.zero_le _, fun x h => absurd h List.not_mem_nil⟩
  · exact partsP_len _ p (Nat.le_refl _)
/-- the last name, and what is ahead of it -/
def baseP (p : List UInt8) : List UInt8 := (p.reverse.takeWhile (fun c => c != 47)).reverse
def slashP (p : List UInt8) : Nat := p.length - (baseP p).length - 1
theorem takeWhile_stop {q : List UInt8} (h : 47 ∈ q) : (q.takeWhile (fun c => c != 47)).length < q.length ∧ q[(q.takeWhile (fun c => c != 47)).length]? = some 47 ∧ ∀ j, j < (q.takeWhile (fun c => c != 47)).length → q[j]? ≠ some 47 := by
  induction q with
  | nil => exact absurd h List.not_mem_nil
  | cons c q ih =>
    by_cases hc : c = 47
    · subst hc; simp
    · have h1 : (c != 47) = true := by simpa using hc
      have ih := ih (by rcases List.mem_cons.1 h with e | e; exact absurd e.symm hc; exact e)
      rw [List.takeWhile_cons, h1]
      simp only [if_true, List.length_cons]
      refine ⟨by omega, by simpa using ih.2.1, fun j hj => ?_⟩
      cases j with
      | zero => simpa using hc
      | succ j => simpa using ih.2.2 j (by omega)
theorem slash_at {p : List UInt8} (h : 47 ∈ p) : slashP p < p.length ∧ p[slashP p]? = some 47 ∧ (∀ j, slashP p < j → p[j]? ≠ some 47) ∧ p.drop (slashP p + 1) = baseP p := by
  obtain ⟨h1, h2, h3⟩ := takeWhile_stop (q := p.reverse) (by simpa using h)
  have hb : (baseP p).length = (p.reverse.takeWhile (fun c => c != 47)).length := by unfold baseP; rw [List.length_reverse]
  have hdef : baseP p = (p.reverse.takeWhile (fun c => c != 47)).reverse := rfl
  generalize hT : p.reverse.takeWhile (fun c => c != 47) = T at *
  rw [List.length_reverse] at h1
  have hs : slashP p = p.length - T.length - 1 := by unfold slashP; rw [hb]
  refine ⟨by omega, ?_, fun j hj => ?_, ?_⟩
  · rw [List.getElem?_reverse (by omega)] at h2
    rw [hs, ← h2]; congr 1; omega
  · by_cases hjl : j < p.length
    · have := h3 (p.length - 1 - j) (by omega)
      rw [List.getElem?_reverse (by omega)] at this
      rwa [show p.length - 1 - (p.length - 1 - j) = j by omega] at this
    · rw [List.getElem?_eq_none (by omega)]; simp
  · rw [hdef, hs]
    have hpre : T <+: p.reverse := by rw [← hT]; exact List.takeWhile_prefix _
    obtain ⟨r, hr⟩ := hpre
    have : p = r.reverse ++ T.reverse := by rw [← List.reverse_append, hr, List.reverse_reverse]
    have hl : p.length = r.length + T.length := by rw [this]; simp
    rw [this]
    rw [List.drop_append_of_le_length (by simp; omega), List.drop_eq_nil_of_le (by simp; omega)]; rfl
theorem last_slash {s : ByteArray} {p : List UInt8} (e : s.data.toList = p) (h : 47 ∈ p) : Lib.lastIndexByte s 47 = (slashP p : Int) := by
  obtain ⟨h1, h2, h3, _⟩ := slash_at h
  have hsz : s.size = p.length := by rw [← e]; rfl
  have hget : ∀ (j : Nat) (hj : j < p.length), s.data[j]! = p[j] := fun j hj => by
    subst e
    rw [getElem!_pos s.data j (by simpa using hj)]; simp
  have h2' : p[slashP p] = 47 := by rw [List.getElem?_eq_getElem h1] at h2; exact Option.some.inj h2
  rcases Lib.lastIndexByte_spec s 47 with ⟨_, hn⟩ | ⟨i, hi, he, hc, hn⟩
  · exfalso
    have := hn (slashP p) (by omega)
    rw [hget _ h1, h2'] at this
    exact this rfl
  · rw [he]
    congr 1
    have hc' : p[i]? = some 47 := by
      rw [hget i (by omega)] at hc
      rw [List.getElem?_eq_getElem (by omega)]
      congr 1
      exact UInt8.toNat.inj (by rw [show (47 : UInt8).toNat = 47 from rfl]; omega)
    rcases Nat.lt_trichotomy i (slashP p) with h' | h' | h'
    · exfalso
      have := hn (slashP p) h' (by omega)
      rw [hget _ h1, h2'] at this
      exact this rfl
    · exact h'
    · exact absurd hc' (h3 i h')
end Go.Proofs.YtnoofjddikhopaaGreat
