/- Words for memory that every walk of this seat uses: a world that has only grown, texts as lists of bytes, rows of texts. -/
import Derived.WalkKit
import Derived.WalkSpells
import Derived.WalkLawsBesides
import Derived.RegionTactic
import Derived.ChangeAlike
import Derived.Lib.Hide
import Derived.Lib.Strings
import Derived.IntWalk
import Derived.Deep.QuietTactic
import Derived.BigQuiet
import Derived.Deep.RegionWith
import Derived.Below
import Derived.Laws.OwnMore
import Derived.Laws.BytesArg
import Derived.ShutString
namespace Go.Proofs.YtnoofjddikhopaaGreat
set_option linter.unusedVariables false
set_option linter.unusedSimpArgs false
open Go.RowKit
/-- w' is w with new blocks, and writes into those alone -/
def Ext (w w' : World) : Prop := Below w.heap.size w w'
namespace Ext
variable {a b c w w' : World}
theorem refl (w : World) : Ext w w := Below.refl _ _
theorem size (h : Ext w w') : w.heap.size ≤ w'.heap.size := Below.size h
theorem trans (h : Ext a b) (k : Ext b c) : Ext a c := Below.trans h (Below.mono k h.size)
theorem alloc (h : Ext a w) (o : Obj) : Ext a (w.alloc o) := Below.alloc h h.size o
theorem drew (h : Ext a w) : Ext a w.drew := Below.drew h
theorem drewN (h : Ext a w) (n : Nat) : Ext a (w.drewN n) := by
  have k : Below a.heap.size a w := h
  exact ⟨k.os, k.tape, k.output, k.size, k.block⟩
theorem setCell (h : Ext a w) {p : Addr} (hp : a.heap.size ≤ p.block) (u : Value) : Ext a (w.setCell p u) := Below.setCell h hp u
theorem cell (h : Ext w w') {p : Addr} (hp : p.block < w.heap.size) : w'.cell? p = w.cell? p := Below.cell h hp
theorem frozen (h : Ext w w') {p : Addr} (hp : p.block < w.heap.size) : w'.frozen? p = w.frozen? p := Below.frozen h hp
theorem keep (h : Ext w w') {b o : Nat} {v : Value} (hc : w.cell? ⟨b, o, none⟩ = some v) : w'.cell? ⟨b, o, none⟩ = some v :=
  (h.cell (World.block_lt_of_cell? w _ hc)).trans hc
theorem undrew (h : Ext w.drew w') : Ext w w' := by
  have k : Below w.drew.heap.size w.drew w' := h
  exact ⟨k.os, k.tape, k.output, k.size, k.block⟩
end Ext
/-- the block g is just these cells, none of them frozen -/
def Box (w : World) (g : Nat) (t : TypeId) (cs : Array Value) : Prop := w.heap[g]? = some (.cells cs t (0, 0))
namespace Box
variable {w w' : World} {g : Nat} {t : TypeId} {cs : Array Value}
theorem lt (h : Box w g t cs) : g < w.heap.size := (Array.getElem?_eq_some_iff.1 h).1
theorem ext (h : Box w g t cs) (k : Ext w w') : Box w' g t cs := (Below.block k g h.lt).trans h
theorem new (w : World) (t : TypeId) (cs : Array Value) : Box (w.alloc (.cells cs t)) w.heap.size t cs := heap_alloc_new w _
theorem cell (h : Box w g t cs) (i : Nat) : w.cell? ⟨g, i, none⟩ = cs[i]? := cell_of_row w g i cs t (0, 0) h
theorem frozen (h : Box w g t cs) (i : Nat) : w.frozen? ⟨g, i, none⟩ = false := by
  have k : w.heap[g]? = some (.cells cs t (0, 0)) := h
  simp [World.frozen?, k]
theorem set (h : Box w g t cs) (i : Nat) (u : Value) : Box (w.setCell ⟨g, i, none⟩ u) g t (cs.setIfInBounds i u) := by
  have k : w.heap[g]? = some (.cells cs t (0, 0)) := h
  show (w.setCell ⟨g, i, none⟩ u).heap[g]? = _
  simp [World.setCell, Array.getElem?_modify, k]
theorem drew (h : Box w g t cs) : Box w.drew g t cs := h
end Box
/-- a world that has grown out of w -/
structure Later (w : World) where
  now : World
  ext : Ext w now
instance laterNonempty (w : World) : Nonempty (Later w) := ⟨⟨w, Ext.refl w⟩⟩
theorem wp_region_later {P : Program} {id : Nat} {Q : Exit → Act → World → Prop} {a : Act} {w : World} {l : List Oper} (hm : P.follows .mixedOrders = true) (hB : Region.lexB .any l.toArray = true)
    (h : wpQuiet P l.toArray (fun w' => ∃ x : Later w, w' = x.now) (fun a' => ∀ w', (∃ x : Later w, w' = x.now) → Q .normal a' w') l a) : (Code.region id l.toArray true).wp P Q a w :=
  wp_region_quiet (C := fun w' => ∃ x : Later w, w' = x.now) hm hB ⟨⟨_, (Ext.refl w).drew⟩, rfl⟩ (by simpa using h)
theorem later_of {P : Program} {f : FuncId} {args : Array Value} {w : World} {x : Later w} {v : Value}
    (h : Calls P f args x.now fun e w' => e = .returned v ∧ Ext x.now w') : Calls P f args x.now fun e w' => e = .returned v ∧ ∃ y : Later w, w' = y.now :=
  h.mono fun _ _ ⟨he, hg⟩ => ⟨he, ⟨_, x.ext.trans hg⟩, rfl⟩
theorem later_of_same {P : Program} {f : FuncId} {args : Array Value} {w : World} {x : Later w} {v : Value}
    (h : Calls P f args x.now fun e w' => e = .returned v ∧ x.now = w') : Calls P f args x.now fun e w' => e = .returned v ∧ ∃ y : Later w, w' = y.now :=
  h.mono fun _ _ ⟨he, hg⟩ => ⟨he, x, hg.symm⟩
/-- a text of these bytes -/
def str (l : List UInt8) : ByteArray := ⟨l.toArray⟩
theorem str_size (l : List UInt8) : (str l).size = l.length := by simp [str, ByteArray.size]
theorem str_app (a b : List UInt8) : str a ++ str b = str (a ++ b) := by apply ByteArray.ext; simp [str]
theorem str_data (l : List UInt8) : (str l).data.toList = l := rfl
theorem str_toList (l : List UInt8) : (str l).toList = l := (ByteArray.toList_eq _).trans rfl
theorem str_ext (l : List UInt8) (a b : Nat) : (str l).extract a b = str ((l.drop a).take (b - a)) := by
  apply ByteArray.ext; apply Array.toList_inj.1; rw [Lib.extract_data]; rfl
theorem str_of (s : ByteArray) : s = str s.data.toList := rfl
/-- the slice with the address A and n places holds these texts -/
def Strs (w : World) (A : Option Addr) (n : Nat) (ss : List (List UInt8)) : Prop :=
  n = ss.length ∧ (0 < n → ∃ b o, A = some ⟨b, o, none⟩ ∧ ∀ (j : Nat) (h : j < ss.length), w.cell? ⟨b, o + j, none⟩ = some (.string (str ss[j])))
namespace Strs
variable {w w' : World} {A : Option Addr} {n : Nat} {ss : List (List UInt8)}
theorem len (h : Strs w A n ss) : n = ss.length := h.1
theorem ext (h : Strs w A n ss) (k : Ext w w') : Strs w' A n ss :=
  ⟨h.1, fun hn => by obtain ⟨b, o, e, hc⟩ := h.2 hn; exact ⟨b, o, e, fun j hj => k.keep (hc j hj)⟩⟩
theorem drew (h : Strs w A n ss) : Strs w.drew A n ss := h.ext ((Ext.refl w).drew)
theorem own {base : Nat} {t : TypeId} {c : Nat} (h : w.ownsRow base t 1 (.slice A n c) n (ss.map fun s => .string (str s))) : Strs w A n ss := by
  have hl : n = ss.length := by have := h.1; simpa using this.symm
  refine ⟨hl, fun hn => ?_⟩
  rcases h.2 with ⟨_, h0⟩ | ⟨g, cap, cur, hv, _⟩
  · omega
  have hA : A = some ⟨g, 0, none⟩ := by injection hv
  subst hA
  refine ⟨g, 0, rfl, fun j hj => ?_⟩
  have := h.cellAt (g := g) j (by omega)
  rw [Nat.zero_add, this]
  simp [hj]
end Strs
end Go.Proofs.YtnoofjddikhopaaGreat
