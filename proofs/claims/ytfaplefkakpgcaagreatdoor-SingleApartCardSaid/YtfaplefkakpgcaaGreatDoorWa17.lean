/- The document's machines: disk. -/
import Derived.Test.YtfaplefkakpgcaaGreatDoorWa14
import Derived.Test.YtfaplefkakpgcaaGreatDoorWa13
import Derived.Test.YtfaplefkakpgcaaGreatDoorWa12
import Derived.Test.YtfaplefkakpgcaaGreatDoorWa6
import Derived.Test.YtfaplefkakpgcaaGreatDoorWa15
import Derived.Deep.DeepCutAuto
import Derived.Deep.AppendLies
import Derived.Deep.RegionLaw
import Derived.Lib.Bytealg
import Derived.Test.YtfaplefkakpgcaaGreatDoorWa16
import Derived.BigRegion
namespace Go.Proofs.YtfaplefkakpgcaaGreatDoor
set_option linter.unusedVariables false
set_option linter.unusedSimpArgs false
open Go.RowKit
theorem OfR.some {v : List (List UInt8)} {e : Ending} (h : OfR v e) : ∃ (g : Value) (n : Int), e = .returned (.tuple #[g, .int .i64 n]) ∧ (n = 0 → ∃ I, Good v I) := by
  rcases h with ⟨I, hI, rfl⟩ | rfl
  · exact ⟨_, 0, rfl, fun _ => ⟨I, hI⟩⟩
  · exact ⟨_, 3, rfl, fun h => by omega⟩
/-- what a machine's drive is, if there is nothing to say against it -/
def DiskOk (d : MacD) : Prop := jrnE d.bl d.pe = 0 ∧ d.di.length ≤ 32 ∧ (∀ (i : Nat) (h : i < d.di.length), 0 ≤ d.di[i].1 ∧ d.di[i].1 < ((d.bl.length - 33 : Nat) : Int) ∧ d.di[i].2.length = 128 ∧ (0 < i → (d.di[i - 1]'(by omega)).1 < d.di[i].1)) ∧ ∃ I, Good (viewP d.bl d.pe d.di) I
end Go.Proofs.YtfaplefkakpgcaaGreatDoor
/- Plain: when a machine may be, point by point. -/
namespace Go.Proofs.YtfaplefkakpgcaaGreatDoor
set_option linter.unusedVariables false
set_option linter.unusedSimpArgs false
/-- is there a process of that number, that lives? -/
def LivesP (l : List PrT) (pid : Int) : Prop := ∃ y ∈ l, y.pid = pid ∧ (y.state = 1 ∨ y.state = 2)
/-- how many of a process's first pages have a frame -/
def cntFr (y : PrT) (fr : Int) : Nat → Nat
  | 0 => 0
  | j + 1 => cntFr y fr j + (if y.pis j = true ∧ y.pfr j = fr then 1 else 0)
/-- how many pages of the first processes do -/
def usersK (l : List PrT) (fr : Int) : Nat → Nat
  | 0 => 0
  | k + 1 => usersK l fr k + cntFr (l.getD k default) fr 16
def FdP (pi : List WrT) (k n p : Int) : Prop :=
  ((k = 0 ∨ k = 1 ∨ k = 2) ∧ n = 0 ∧ p = 0) ∨ (k = 3 ∧ 1 ≤ n ∧ n ≤ 64 ∧ 0 ≤ p ∧ p ≤ 8960) ∨ ((k = 4 ∨ k = 5) ∧ p = 0 ∧ ∃ y ∈ pi, y.1 = n)
def PageP (m : Mac) (d : MacD) (y : PrT) (j : Nat) : Prop :=
  (y.pis j = false ∧ y.pwr j = false ∧ y.pfr j = 0) ∨ (y.pis j = true ∧ y.state ≠ 3 ∧ 0 ≤ y.pfr j ∧ y.pfr j < (m.fr.n : Int) ∧ usersK d.pr (y.pfr j) d.pr.length = 1)
structure ProcOk (m : Mac) (d : MacD) (y : PrT) : Prop where
  pid : 1 ≤ y.pid ∧ y.pid < m.next
  state : y.state = 1 ∨ y.state = 2 ∨ y.state = 3
  reg : y.reg 0 = 0
  par : LivesP d.pr y.parent ∨ (y.state ≠ 3 ∧ y.parent = 0)
  why : (y.state = 2 ∧ 1 ≤ y.why ∧ y.why ≤ 5) ∨ (y.state ≠ 2 ∧ y.why = 0 ∧ y.num = 0)
  code : y.state = 3 ∨ y.code = 0
  page : ∀ j < 16, PageP m d y j
  fd : ∀ j < 8, FdP d.pi (y.fk j) (y.fn j) (y.fp j) ∧ (y.state = 3 → y.fk j = 0)
structure NumsOk (m : Mac) : Prop where
  quantum : 1 ≤ m.quantum ∧ m.quantum ≤ 1000
  left : 0 ≤ m.left ∧ m.left ≤ m.quantum
  cur : 0 ≤ m.cur
  next : 1 ≤ m.next ∧ m.next ≤ 1000000000
  newPipe : 1 ≤ m.newPipe ∧ m.newPipe ≤ 1000000000
/-- the first k pipes are as they may be -/
def PipesK (m : Mac) (l : List WrT) (k : Nat) : Prop := ∀ (i : Nat) (h : i < l.length), i < k → 1 ≤ l[i].1 ∧ l[i].1 < m.newPipe ∧ l[i].2.length ≤ 64 ∧ (0 < i → (l[i - 1]'(by omega)).1 < l[i].1)
def ProcsK (m : Mac) (d : MacD) (k : Nat) : Prop := ∀ (i : Nat) (h : i < d.pr.length), i < k → ProcOk m d d.pr[i] ∧ (0 < i → (d.pr[i - 1]'(by omega)).pid < d.pr[i].pid)
structure RestOk (m : Mac) (d : MacD) : Prop where
  nums : NumsOk m
  frn : 1 ≤ m.fr.n ∧ m.fr.n ≤ 64
  fr : ∀ b ∈ d.fr, b.length = 128
  prn : m.pr.n ≤ 8
  pr : ProcsK m d d.pr.length
  pin : m.pi.n ≤ 64
  pi : PipesK m d.pi d.pi.length
  texts : m.inn.length ≤ 65536 ∧ m.init.length ≤ 128
/-- a machine that may be -/
structure StateOk (m : Mac) (d : MacD) : Prop where
  rest : RestOk m d
  disk : DiskOk d
theorem cnt_mono (y : PrT) (fr : Int) : ∀ {i j : Nat}, i ≤ j → cntFr y fr i ≤ cntFr y fr j := by
  intro i j h
  induction h with
  | refl => exact Nat.le_refl _
  | step _ ih => exact Nat.le_trans ih (Nat.le_add_right _ _)
theorem users_mono (l : List PrT) (fr : Int) : ∀ {i j : Nat}, i ≤ j → usersK l fr i ≤ usersK l fr j := by
  intro i j h
  induction h with
  | refl => exact Nat.le_refl _
  | step _ ih => exact Nat.le_trans ih (Nat.le_add_right _ _)
/-- has one of the pages that were gone through (k processes, j pages of the next one) a frame? -/
def Met (l : List PrT) (k j : Nat) (fr : Int) : Prop := 0 < usersK l fr k + cntFr (l.getD k default) fr j
/-- a frame that one page has alone was not met ahead of that -/
theorem met_one {l : List PrT} {k j : Nat} {fr : Int} (hk : k < l.length) (hj : j < 16) (h : (l.getD k default).pis j = true) (hf : (l.getD k default).pfr j = fr) (hu : usersK l fr l.length = 1) : ¬ Met l k j fr := by
  intro hm
  unfold Met at hm
  have h1 : usersK l fr (k + 1) ≤ usersK l fr l.length := users_mono l fr hk
  have h2 : cntFr (l.getD k default) fr (j + 1) ≤ cntFr (l.getD k default) fr 16 := cnt_mono _ _ hj
  rw [usersK] at h1
  rw [cntFr, if_pos ⟨h, hf⟩] at h2
  omega
theorem met_next {l : List PrT} {k j : Nat} {fr : Int} (h : (l.getD k default).pis j = true) : Met l k (j + 1) fr ↔ Met l k j fr ∨ fr = (l.getD k default).pfr j := by
  unfold Met
  rw [cntFr]
  by_cases e : (l.getD k default).pfr j = fr
  · rw [if_pos ⟨h, e⟩]; exact ⟨fun _ => .inr e.symm, fun _ => by omega⟩
  · rw [if_neg (fun h => e h.2)]
    exact ⟨fun h => .inl (by omega), fun h => h.elim (fun h => by omega) (fun h => absurd h.symm e)⟩
theorem met_skip {l : List PrT} {k j : Nat} {fr : Int} (h : (l.getD k default).pis j = false) : Met l k (j + 1) fr ↔ Met l k j fr := by
  unfold Met
  rw [cntFr, if_neg (fun h2 => by rw [h] at h2; cases h2.1)]; omega
theorem met_proc {l : List PrT} {k : Nat} {fr : Int} : Met l (k + 1) 0 fr ↔ Met l k 16 fr := by
  unfold Met
  rw [usersK, cntFr]; omega
theorem met_zero {l : List PrT} {fr : Int} : ¬ Met l 0 0 fr := by unfold Met; rw [usersK, cntFr]; omega
end Go.Proofs.YtfaplefkakpgcaaGreatDoor
