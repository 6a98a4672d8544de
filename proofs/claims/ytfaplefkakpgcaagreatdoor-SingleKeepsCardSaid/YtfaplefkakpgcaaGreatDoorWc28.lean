/- What single.Proc stores: pages of the new process, frames. -/
import Derived.Test.YtfaplefkakpgcaaGreatDoorWc26
import Derived.Test.YtfaplefkakpgcaaGreatDoorWc27
namespace Go.Proofs.YtfaplefkakpgcaaGreatDoor
set_option linter.unusedVariables false
set_option linter.unusedSimpArgs false
open Go.RowKit
theorem flat_stL (l : List (List UInt8)) : l.flatMap stL = strL l := by
 unfold strL stL
 induction l with
 | nil => rfl
 | cons a l ih => rw [List.flatMap_cons, ih]; rfl
theorem prL_eq {a b : PrT} (h0 : a.pid = b.pid) (h1 : a.parent = b.parent) (h2 : a.state = b.state) (h3 : ∀ i < 16, a.reg i = b.reg i) (h4 : a.pc = b.pc) (h5 : ∀ i < 16, a.pis i = b.pis i ∧ a.pwr i = b.pwr i ∧ a.pfr i = b.pfr i) (h6 : ∀ i < 8, a.fk i = b.fk i ∧ a.fn i = b.fn i ∧ a.fp i = b.fp i)
  (h7 : a.mask = b.mask) (h8 : a.code = b.code) (h9 : a.why = b.why) (h10 : a.num = b.num) : prL a = prL b := by
 unfold prL
 have e1 : (List.range 16).map (fun i => Value.int .u32 (a.reg i)) = (List.range 16).map (fun i => Value.int .u32 (b.reg i)) := List.map_congr_left (fun i hi => by rw [h3 i (List.mem_range.1 hi)])
 have e2 : (List.range 16).flatMap (pteL a) = (List.range 16).flatMap (pteL b) := by
  rw [List.flatMap_def, List.flatMap_def]
  congr 1
  apply List.map_congr_left
  intro i hi
  obtain ⟨k1, k2, k3⟩ := h5 i (List.mem_range.1 hi)
  unfold pteL
  rw [k1, k2, k3]
 have e3 : (List.range 8).flatMap (fdL a) = (List.range 8).flatMap (fdL b) := by
  rw [List.flatMap_def, List.flatMap_def]
  congr 1
  apply List.map_congr_left
  intro i hi
  obtain ⟨k1, k2, k3⟩ := h6 i (List.mem_range.1 hi)
  unfold fdL
  rw [k1, k2, k3]
 rw [h0, h1, h2, e1, h4, e2, e3, h7, h8, h9, h10]
def PrT.setPte (q : PrT) (i : Nat) (b w : Bool) (f : Int) : PrT := { q with pis := fun j => if j = i then b else q.pis j, pwr := fun j => if j = i then w else q.pwr j, pfr := fun j => if j = i then f else q.pfr j }
set_option maxRecDepth 100000 in
theorem putR_pte (q : PrT) (i : Nat) (hi : i < 16) (b w : Bool) (f : Int) : putR (prL q).toArray (20 + i * 3) [.bool b, .bool w, .int .i64 f] = (prL (q.setPte i b w f)).toArray := by
 rcases (by omega : i = 0 ∨ i = 1 ∨ i = 2 ∨ i = 3 ∨ i = 4 ∨ i = 5 ∨ i = 6 ∨ i = 7 ∨ i = 8 ∨ i = 9 ∨ i = 10 ∨ i = 11 ∨ i = 12 ∨ i = 13 ∨ i = 14 ∨ i = 15) with rfl | rfl | rfl | rfl | rfl | rfl | rfl | rfl | rfl | rfl | rfl | rfl | rfl | rfl | rfl | rfl <;> kernel_rfl
theorem newPr_next {y : PrT} {next : Int} {free : List Nat} {F : Nat → Int × Int × Int} {j : Nat} (h : y.pis j = true) : prL ((newPr y next free F j).setPte j true (y.pwr j) ((free.getD (cntIs y j) 0 : Nat) : Int)) = prL (newPr y next free F (j + 1)) := by
 refine prL_eq rfl rfl rfl (fun _ _ => rfl) rfl (fun i _ => ?_) (fun _ _ => ⟨rfl, rfl, rfl⟩) rfl rfl rfl rfl
 unfold newPr PrT.setPte
 simp only
 by_cases e : i = j
 ·subst e
  simp [h]
 ·rw [if_neg e, if_neg e, if_neg e]
  have e1 : (i < j + 1) ↔ i < j := by omega
  simp [e1]
theorem newPr_skip {y : PrT} {next : Int} {free : List Nat} {F : Nat → Int × Int × Int} {j : Nat} (h : y.pis j = false) : prL (newPr y next free F j) = prL (newPr y next free F (j + 1)) := by
 refine prL_eq rfl rfl rfl (fun _ _ => rfl) rfl (fun i _ => ?_) (fun _ _ => ⟨rfl, rfl, rfl⟩) rfl rfl rfl rfl
 unfold newPr
 simp only
 by_cases e : i = j
 ·subst e
  simp [h]
 ·have e1 : (i < j + 1) ↔ i < j := by omega
  simp [e1]
def cpuL (p : PrT) : List Value := (List.range 16).map (fun i => .int .u32 (p.reg i)) ++ [.int .u32 p.pc]
theorem pr_cpu (p : PrT) : ∀ j v, (cpuL p)[j]? = some v → (prL p).toArray[3 + j]? = some v := fun j v hv => by
 have hj : j < 17 := by have := (List.getElem?_eq_some_iff.1 hv).1; exact this
 rw [List.getElem?_toArray]
 have e : (prL p).drop 3 = cpuL p ++ (spaceL p ++ fdsL p ++ [.bool p.mask, .int .u32 p.code, .int .i64 p.why, .int .u64 p.num]) := rfl
 rw [← List.getElem?_drop, e, List.getElem?_append_left (by exact hj)]; exact hv
theorem cpuSz : (Tryz.prog.info? 48).map (·.size) = some 17 := by kernel_rfl
section
variable {ops : Array Oper} {rest : List Oper} {o : Oper} {a : Act} {w : World} {Q : Exit → Act → World → Prop}
theorem wp_ld_cpu (x : Operand) (hgd : o.guard = none) (ho : o.op = .load 48 x) (g : Nat) (t : TypeId) (p : PrT) (hx : a.eval x = .pointer (some ⟨g, 3, none⟩))
  (hb : Box w g t (prL p).toArray) (hK : wpList Tryz.prog ops Q rest (a.put o.dst (.agg (cpuL p).toArray)) w) : wpList Tryz.prog ops Q (o :: rest) a w :=
 wpList_load_mid hgd _ x ho g 3 hx _ _ (box_range hb (pr_cpu p)) Tryz.underlying48 rfl (by exact cpuSz) hK
end
theorem MacOwn.setFr {w : World} {B g i : Nat} {m : Mac} {d : MacD} (h : MacOwn w B m d) (hA : m.fr.A = some ⟨g, 0, none⟩) (r : List UInt8) : MacOwn (w.setCell ⟨g, i, none⟩ (.string (str r))) B m { d with fr := d.fr.set i r } := by
 have hg : (Value.slice m.fr.A m.fr.n m.fr.c).ownBlock = some g := by rw [hA]; rfl
 have hne : ∀ {e : TypeId} {z n : Nat} {v : Value} {xs : List Value}, w.ownsRow B e z v n xs → 9 ≠ e → v.ownBlock ≠ some (⟨g, i, none⟩ : Addr).block := fun {e z n v xs} ho he hb => by
  rcases ho.2 with ⟨rfl, _⟩ | ⟨g2, cap, cur, rfl, _, h2, _⟩
  ·cases hb
  ·have e2 : g2 = g := by simpa [Value.ownBlock] using hb
   subst e2
   rcases h.fr.2 with ⟨e1, _⟩ | ⟨g3, cap3, cur3, e1, _, h3, _⟩
   ·rw [e1] at hg; cases hg
   ·rw [e1] at hg
    have e3 : g3 = g2 := by simpa [Value.ownBlock] using hg
    subst e3
    rw [h2] at h3
    injection h3 with h3
    injection h3 with _ h3
    exact he h3.symm
 have hfr := h.fr
 rw [flat_stL, hA] at hfr
 refine ⟨?_, ownsRow_setCell_other h.pr (hne h.pr (by decide)) _, ownsRow_setCell_other h.pi (hne h.pi (by decide)) _, ownsRow_setCell_other h.bl (h.apart g hg) _, ownsRow_setCell_other h.pe (hne h.pe (by decide)) _, ownsRow_setCell_other h.di (hne h.di (by decide)) _, by rw [List.length_set]; exact h.frn, h.prn, h.pin, h.bln, h.pen, h.din, h.apart⟩
 rw [flat_stL, hA]
 exact own_set hfr r
end Go.Proofs.YtfaplefkakpgcaaGreatDoor
