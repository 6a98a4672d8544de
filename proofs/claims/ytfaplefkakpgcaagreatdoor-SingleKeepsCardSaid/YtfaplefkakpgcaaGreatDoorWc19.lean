/- Plain: how the texts of a row are read. -/
import Derived.Test.YtfaplefkakpgcaaGreatDoorWc4
import Derived.Test.YtfaplefkakpgcaaGreatDoorWc18
namespace Go.Proofs.YtfaplefkakpgcaaGreatDoor
set_option linter.unusedVariables false
set_option linter.unusedSimpArgs false
open Go.RowKit
def flagT (b : Bool) : List UInt8 := if b then [49] else [48]
def fixP (z : Nat) (s : List UInt8) : Option (List UInt8) := if s.length = z then some s else none
def numP (z : Nat) (s : List UInt8) : Option Int := if s.length = z then some (numL s : Int) else none
def flagP (s : List UInt8) : Option Bool := if s = [49] then some true else if s = [48] then some false else none
def openT (z : Option Nat) (s : List UInt8) : Option (List (List UInt8)) := if (textsP s).2 = 0 ∧ (∀ n, z = some n → (textsP s).1.length = n) then some (textsP s).1 else none
def allP {α β : Type} (f : α → Option β) : List α → Option (List β)
 | [] => some []
 | x :: l => (f x).bind fun y => (allP f l).map (y :: ·)
def numAtT (b : List UInt8) (i z : Nat) : Int := (numL ((b.drop i).take z) : Int)
def byteAt (b : List UInt8) (i : Nat) : Int := ((b.getD i 0).toNat : Int)
def pteB (k f : Int) : Bool := (k == 0 && f == 0) || k == 1 || k == 2
def spaceB (b : List UInt8) : Bool := (List.range 16).all fun i => pteB (byteAt b (2 * i)) (byteAt b (2 * i + 1))
def spaceP (s : List UInt8) : Option (List UInt8) := if s.length = 32 ∧ spaceB s = true then some s else none
theorem allP_step {α β : Type} {f : α → Option β} {all rest : List α} {x : α} {y : β} {l : List β} (h : allP f all = (allP f (x :: rest)).map (l ++ ·)) (hx : f x = some y) : allP f all = (allP f rest).map ((l ++ [y]) ++ ·) := by
 rw [h, allP, hx]
 cases allP f rest <;> simp
theorem allP_stop {α β : Type} {f : α → Option β} {all : List α} {l : List β} (h : allP f all = (allP f []).map (l ++ ·)) : allP f all = some l := by
 rw [h]; simp [allP]
theorem allP_fail {α β : Type} {f : α → Option β} {all rest : List α} {x : α} {l : List β} (h : allP f all = (allP f (x :: rest)).map (l ++ ·)) (hx : f x = none) : allP f all = none := by
 rw [h, allP, hx]; rfl
theorem allP_start {α β : Type} (f : α → Option β) (all : List α) : allP f all = (allP f all).map ([] ++ ·) := by
 cases allP f all <;> simp
theorem allP_map {α β : Type} (f : α → Option β) (g : β → α) : ∀ l : List β, (∀ x ∈ l, f (g x) = some x) → allP f (l.map g) = some l := by
 intro l
 induction l with
 | nil => intro _; rfl
 | cons x l ih => intro h; simp [allP, h x List.mem_cons_self, ih (fun y hy => h y (List.mem_cons_of_mem _ hy))]
theorem allP_rel {α β γ : Type} (f : α → Option β) (g : β → α) (q : β → γ) : ∀ l : List β, (∀ x ∈ l, ∃ y, f (g x) = some y ∧ q y = q x) → ∃ l', allP f (l.map g) = some l' ∧ l'.map q = l.map q := by
 intro l
 induction l with
 | nil => intro _; exact ⟨[], rfl, rfl⟩
 | cons x l ih =>
  intro h
  obtain ⟨y, h1, h2⟩ := h x List.mem_cons_self
  obtain ⟨l', h3, h4⟩ := ih (fun y hy => h y (List.mem_cons_of_mem _ hy))
  exact ⟨y :: l', by simp [allP, h1, h3], by simp [h2, h4]⟩
theorem numP_putL {n : Int} {z : Nat} (h0 : 0 ≤ n) (h1 : n < 256 ^ z) : numP z (putL n z) = some n := by
 unfold numP
 rw [if_pos (putL_len n z), numL_putL n z h0 h1]
theorem flagP_flagT (b : Bool) : flagP (flagT b) = some b := by cases b <;> rfl
theorem openT_row (z : Option Nat) (l : List (List UInt8)) (h : ∀ s ∈ l, s.length < 268435456) (hz : ∀ n, z = some n → l.length = n) : openT z (rowL l) = some l := by
 unfold openT
 rw [textsP_row l h, if_pos ⟨rfl, hz⟩]
end Go.Proofs.YtfaplefkakpgcaaGreatDoor
