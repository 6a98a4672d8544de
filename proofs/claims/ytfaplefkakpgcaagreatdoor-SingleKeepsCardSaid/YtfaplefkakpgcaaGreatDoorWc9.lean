/- The walk of geom.turned. -/
import Derived.Test.YtfaplefkakpgcaaGreatDoorWc8
import Derived.Lib.BufferWrite
import Derived.Deep.OwnRows
namespace Go.Proofs.YtfaplefkakpgcaaGreatDoor
set_option linter.unusedVariables false
set_option linter.unusedSimpArgs false
open Go.RowKit
theorem setRow_box {w : World} {g : Nat} {t : TypeId} {cs ds : Array Value} (h : Box w g t cs) : Box (w.setRow g ds) g t ds := setRow_heap w g cs ds t (0, 0) h
theorem strInfo : (Tryz.prog.info? 9).map (fun i => (i.zero, i.size, i.bytes)) = some (some (.string ⟨#[]⟩), 1, 16) := by kernel_rfl
def flipL (m : List UInt8) (i : Nat) : List UInt8 := m.set (i / 8) (b8 (((m.getD (i / 8) 0).toNat ^^^ 2 ^ (i % 8) : Nat) : Int))
theorem Box.setRow_other {w : World} {g g' : Nat} {t : TypeId} {cs ds : Array Value} (h : Box w g t cs) (hne : g ≠ g') : Box (w.setRow g' ds) g t cs := by
 have k : w.heap[g]? = some (.cells cs t (0, 0)) := h
 show (w.setRow g' ds).heap[g]? = _
 simp only [World.setRow, Array.getElem?_modify]
 rw [if_neg (Ne.symm hne)]; exact k
end Go.Proofs.YtfaplefkakpgcaaGreatDoor
/- The walk of geom.Take on a volume that is one. -/
namespace Go.Proofs.YtfaplefkakpgcaaGreatDoor
set_option linter.unusedVariables false
set_option linter.unusedSimpArgs false
open Go.RowKit
theorem own_ext {w w' : World} {base n : Nat} {t : TypeId} {size : Nat} {v : Value} {xs : List Value} (h : w.ownsRow base t size v n xs) (k : Ext w w') : w'.ownsRow base t size v n xs := by
 refine ⟨h.1, ?_⟩
 rcases h.2 with c | ⟨g, cap, cur, e, hb, hh, r⟩
 ·exact Or.inl c
 ·exact Or.inr ⟨g, cap, cur, e, hb, (Box.ext (cs := cur) (t := t) hh k), r⟩
theorem own_base {w : World} {base base' n : Nat} {t : TypeId} {size : Nat} {v : Value} {xs : List Value} (h : w.ownsRow base t size v n xs) (k : base' ≤ base) : w.ownsRow base' t size v n xs := by
 refine ⟨h.1, ?_⟩
 rcases h.2 with c | ⟨g, cap, cur, e, hb, r⟩
 ·exact Or.inl c
 ·exact Or.inr ⟨g, cap, cur, e, Nat.le_trans k hb, r⟩
end Go.Proofs.YtfaplefkakpgcaaGreatDoor
/- The walks of package inode: place. -/
namespace Go.Proofs.YtfaplefkakpgcaaGreatDoor
set_option linter.unusedVariables false
set_option linter.unusedSimpArgs false
open Go.RowKit
set_option maxHeartbeats 400000 in
theorem place_any (B I n : Int) (w : World) (h0 : 1 ≤ n) (h1 : n ≤ 64) :
  Calls Tryz.prog 193 #[geomV B I, .int .i64 n] w fun e w' => e = .returned (.tuple #[.int .i64 (3 + (n - 1) / 2), .int .i64 ((n - 1) % 2 * 64)]) ∧ Ext w w' := by
 unfold geomV
 go_enter Tryz.func193, Tryz.ntmps193
 go_wp2_with fail
 go_ret2
 exact ⟨rfl, (Ext.refl _).alloc _⟩
end Go.Proofs.YtfaplefkakpgcaaGreatDoor
