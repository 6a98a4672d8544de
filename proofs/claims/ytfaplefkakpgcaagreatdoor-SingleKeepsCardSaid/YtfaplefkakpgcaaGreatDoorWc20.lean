/- Plain: a machine's texts, and what is read of them. -/
import Derived.Test.YtfaplefkakpgcaaGreatDoorWc17
import Derived.Test.YtfaplefkakpgcaaGreatDoorWc19
namespace Go.Proofs.YtfaplefkakpgcaaGreatDoor
set_option linter.unusedVariables false
set_option linter.unusedSimpArgs false
open Go.RowKit
def writeT (x : WrT) : List UInt8 := rowL [Lib.itoa x.1, x.2]
def writesT (l : List WrT) : List UInt8 := rowL (l.map writeT)
def cpuT (y : PrT) : List UInt8 := (List.range 16).flatMap (fun i => putL (y.reg i) 4) ++ putL y.pc 4
def pteT (y : PrT) (i : Nat) : List UInt8 := if y.pis i = false then [0, 0] else if y.pwr i = true then [2, b8 (y.pfr i)] else [1, b8 (y.pfr i)]
def spaceT (y : PrT) : List UInt8 := (List.range 16).flatMap (pteT y)
def fdT (y : PrT) (i : Nat) : List UInt8 := b8 (y.fk i) :: (putL (y.fn i) 8 ++ putL (y.fp i) 8)
def fdsT (y : PrT) : List UInt8 := (List.range 8).flatMap (fdT y)
def procL (y : PrT) : List (List UInt8) := [Lib.itoa y.pid, Lib.itoa y.parent, Lib.itoa y.state, cpuT y, spaceT y, fdsT y, flagT y.mask, putL y.code 4, Lib.itoa y.why, putL y.num 8]
def procT (y : PrT) : List UInt8 := rowL (procL y)
def restL (m : Mac) (d : MacD) : List (List UInt8) :=
 [[104, 105, 98, 50], putL m.clock 8, Lib.itoa m.quantum, Lib.itoa m.cur, Lib.itoa m.left, Lib.itoa m.next, m.init, Lib.itoa m.newPipe, m.inn, flagT m.fin, putL m.told 8, Lib.itoa m.dleft, writesT d.pe, writesT d.di, writesT d.pi, rowL (d.pr.map procT)]
def restT (m : Mac) (d : MacD) : List UInt8 := rowL (restL m d)
theorem flatMap_len {α : Type} (l : List α) (f : α → List UInt8) (z : Nat) (h : ∀ x ∈ l, (f x).length = z) : (l.flatMap f).length = l.length * z := by
 induction l with
 | nil => simp
 | cons x l ih => rw [List.flatMap_cons, List.length_append, h x List.mem_cons_self, ih (fun y hy => h y (List.mem_cons_of_mem _ hy)), List.length_cons, Nat.succ_mul]; omega
theorem flatMap_piece {α : Type} (f : α → List UInt8) (z : Nat) : ∀ (l : List α) (r : List UInt8) (i : Nat) (hi : i < l.length), (∀ x ∈ l, (f x).length = z) → ∃ t, (l.flatMap f ++ r).drop (z * i) = f l[i] ++ t := by
 intro l
 induction l with
 | nil => intro r i hi _; exact absurd hi (by simp)
 | cons x l ih =>
  intro r i hi h
  cases i with
  | zero => exact ⟨l.flatMap f ++ r, by simp [List.append_assoc]⟩
  | succ i =>
   obtain ⟨t, ht⟩ := ih r i (by simpa using hi) (fun y hy => h y (List.mem_cons_of_mem _ hy))
   refine ⟨t, ?_⟩
   have hx := h x List.mem_cons_self
   have e : ((x :: l).flatMap f ++ r).drop z = l.flatMap f ++ r := by
    rw [List.flatMap_cons, List.append_assoc, ← hx, List.drop_left]
   rw [Nat.mul_succ, Nat.add_comm, ← List.drop_drop, e]
   simpa using ht
theorem piece16 (f : Nat → List UInt8) (z n : Nat) (r : List UInt8) (i : Nat) (hi : i < n) (h : ∀ i, (f i).length = z) : ∃ t, ((List.range n).flatMap f ++ r).drop (z * i) = f i ++ t := by
 obtain ⟨t, ht⟩ := flatMap_piece f z (List.range n) r i (by simpa using hi) (fun x _ => h x)
 exact ⟨t, by simpa using ht⟩
theorem cpuT_len (y : PrT) : (cpuT y).length = 68 := by
 unfold cpuT
 rw [List.length_append, flatMap_len _ _ 4 (fun i _ => putL_len _ _), putL_len]; rfl
theorem pteT_len (y : PrT) (i : Nat) : (pteT y i).length = 2 := by unfold pteT; split; rfl; split <;> rfl
theorem spaceT_len (y : PrT) : (spaceT y).length = 32 := by
 unfold spaceT
 rw [flatMap_len _ _ 2 (fun i _ => pteT_len y i)]; rfl
theorem fdT_len (y : PrT) (i : Nat) : (fdT y i).length = 17 := by simp [fdT, putL_len]
theorem fdsT_len (y : PrT) : (fdsT y).length = 136 := by
 unfold fdsT
 rw [flatMap_len _ _ 17 (fun i _ => fdT_len y i)]; rfl

/-! ### Reading -/
def writeQ (s : List UInt8) : Option WrT := (openT (some 2) s).bind fun l => (intP (l.getD 0 [])).map fun n => (n, l.getD 1 [])
def writesP (s : List UInt8) : Option (List WrT) := (openT none s).bind (allP writeQ)
def mkProc (pid par st : Int) (cpu sp fds : List UInt8) (mask : Bool) (code why num : Int) : PrT where
 pid := pid
 parent := par
 state := st
 reg i := numAtT cpu (4 * i) 4
 pc := numAtT cpu 64 4
 pis i := !(byteAt sp (2 * i) == 0)
 pwr i := byteAt sp (2 * i) == 2
 pfr i := if byteAt sp (2 * i) = 0 then 0 else byteAt sp (2 * i + 1)
 fk i := byteAt fds (17 * i)
 fn i := wrap64 (numAtT fds (17 * i + 1) 8)
 fp i := wrap64 (numAtT fds (17 * i + 9) 8)
 mask := mask
 code := code
 why := why
 num := num
def procP (s : List UInt8) : Option PrT := (openT (some 10) s).bind fun l =>
 (intP (l.getD 0 [])).bind fun pid => (intP (l.getD 1 [])).bind fun par => (intP (l.getD 2 [])).bind fun st =>
 (fixP 68 (l.getD 3 [])).bind fun cpu => (spaceP (l.getD 4 [])).bind fun sp => (fixP 136 (l.getD 5 [])).bind fun fds =>
 (flagP (l.getD 6 [])).bind fun mask => (numP 4 (l.getD 7 [])).bind fun code => (intP (l.getD 8 [])).bind fun why => (numP 8 (l.getD 9 [])).map fun num =>
 mkProc pid par st cpu sp fds mask code why num
def procsP (s : List UInt8) : Option (List PrT) := (openT none s).bind (allP procP)
def sl0 : Sl := ⟨none, 0, 0⟩
def restQ (s : List UInt8) : Option (Mac × MacD) := (openT (some 16) s).bind fun l =>
 if l.getD 0 [] = [104, 105, 98, 50] then
  (numP 8 (l.getD 1 [])).bind fun clock => (intP (l.getD 2 [])).bind fun quantum => (intP (l.getD 3 [])).bind fun cur => (intP (l.getD 4 [])).bind fun left => (intP (l.getD 5 [])).bind fun next =>
  (intP (l.getD 7 [])).bind fun newPipe => (flagP (l.getD 9 [])).bind fun fin => (numP 8 (l.getD 10 [])).bind fun told => (intP (l.getD 11 [])).bind fun dleft =>
  (writesP (l.getD 12 [])).bind fun pe => (writesP (l.getD 13 [])).bind fun di => (writesP (l.getD 14 [])).bind fun pi => (procsP (l.getD 15 [])).map fun pr =>
  (⟨clock, quantum, cur, left, sl0, sl0, next, l.getD 6 [], sl0, newPipe, l.getD 8 [], fin, told, sl0, sl0, dleft, sl0⟩, ⟨[], pr, pi, [], pe, di⟩)
 else none

/-! ### There and back -/
theorem writeQ_writeT {x : WrT} (h : N64 x.1) (hl : x.2.length < 268435456) : writeQ (writeT x) = some x := by
 unfold writeQ writeT
 rw [openT_row (some 2) [Lib.itoa x.1, x.2] (by
  intro s hs
  rcases List.mem_cons.1 hs with rfl | hs
  ·have := itoa_len h.1 h.2; omega
  ·rw [List.mem_singleton.1 hs]; exact hl) (fun n hn => by cases hn; rfl)]
 simp [intP_itoa h]
def WrFit (l : List WrT) : Prop := ∀ x ∈ l, N64 x.1 ∧ x.2.length ≤ 1000
theorem lenL_few (n : Nat) (h : n < 268435456) : (lenL n).length ≤ 4 := by
 rw [lenL]; split; · simp
 rw [lenL]; split; · simp
 rw [lenL]; split; · simp
 rw [lenL]; split; · simp
 omega
theorem writeT_len {x : WrT} (h : N64 x.1) (hl : x.2.length ≤ 1000) : (writeT x).length ≤ 1028 := by
 unfold writeT
 have := itoa_len h.1 h.2
 have h1 := lenL_few (Lib.itoa x.1).length (by omega)
 have h2 := lenL_few x.2.length (by omega)
 simp only [rowL_cons, rowL_nil, List.append_nil, List.length_append]; omega
theorem writesP_writesT {l : List WrT} (h : WrFit l) : writesP (writesT l) = some l := by
 unfold writesP writesT
 rw [openT_row none _ (by
  intro s hs
  obtain ⟨x, hx, rfl⟩ := List.mem_map.1 hs
  have := writeT_len (h x hx).1 (h x hx).2; omega) (fun n hn => by cases hn)]
 exact allP_map writeQ writeT l (fun x hx => writeQ_writeT (h x hx).1 (by have := (h x hx).2; omega))
structure PrFit (y : PrT) : Prop where
 pid : N64 y.pid
 parent : N64 y.parent
 state : N64 y.state
 why : N64 y.why
 reg : ∀ i < 16, 0 ≤ y.reg i ∧ y.reg i < 4294967296
 pc : 0 ≤ y.pc ∧ y.pc < 4294967296
 code : 0 ≤ y.code ∧ y.code < 4294967296
 num : 0 ≤ y.num ∧ y.num < 18446744073709551616
 page : ∀ i < 16, 0 ≤ y.pfr i ∧ y.pfr i < 256 ∧ (y.pis i = false → y.pwr i = false ∧ y.pfr i = 0)
 fk : ∀ i < 8, 0 ≤ y.fk i ∧ y.fk i < 256
 fn : ∀ i < 8, 0 ≤ y.fn i ∧ y.fn i < 9223372036854775808
 fp : ∀ i < 8, 0 ≤ y.fp i ∧ y.fp i < 9223372036854775808
theorem numAtT_of {b t : List UInt8} {n : Int} {i z : Nat} (h : b.drop i = putL n z ++ t) (h0 : 0 ≤ n) (h1 : n < 256 ^ z) : numAtT b i z = n := by
 unfold numAtT
 rw [h, List.take_append_of_le_length (by rw [putL_len]; exact Nat.le_refl _), List.take_of_length_le (by rw [putL_len]; exact Nat.le_refl _), numL_putL n z h0 h1]
theorem byteAt_of {b t : List UInt8} {c : UInt8} {i : Nat} (h : b.drop i = c :: t) : byteAt b i = (c.toNat : Int) := by
 unfold byteAt
 have : b[i]? = some c := by
  have h2 : (b.drop i)[0]? = some c := by rw [h]; rfl
  rwa [List.getElem?_drop, Nat.add_zero] at h2
 rw [List.getD_eq_getElem?_getD, this]; rfl
theorem b8_natT {n : Int} (h0 : 0 ≤ n) (h1 : n < 256) : ((b8 n).toNat : Int) = n := by
 have := b8_toNat n h0 (by omega)
 omega
theorem cpu_reg {y : PrT} (h : PrFit y) {i : Nat} (hi : i < 16) : numAtT (cpuT y) (4 * i) 4 = y.reg i := by
 obtain ⟨t, ht⟩ := piece16 (fun i => putL (y.reg i) 4) 4 16 (putL y.pc 4) i hi (fun i => putL_len _ _)
 exact numAtT_of ht (h.reg i hi).1 (h.reg i hi).2
theorem cpu_pc {y : PrT} (h : PrFit y) : numAtT (cpuT y) 64 4 = y.pc := by
 refine numAtT_of (t := []) ?_ h.pc.1 h.pc.2
 unfold cpuT
 rw [List.drop_append_of_le_length (by rw [flatMap_len _ _ 4 (fun i _ => putL_len _ _)]; simp), List.drop_of_length_le (by rw [flatMap_len _ _ 4 (fun i _ => putL_len _ _)]; simp)]
 simp
theorem space_at (y : PrT) {i : Nat} (hi : i < 16) : ∃ t, (spaceT y).drop (2 * i) = pteT y i ++ t := by
 obtain ⟨t, ht⟩ := piece16 (pteT y) 2 16 [] i hi (pteT_len y)
 exact ⟨t, by rw [List.append_nil] at ht; exact ht⟩
theorem drop_more {b : List UInt8} {p t : List UInt8} {i j : Nat} (h : b.drop i = p ++ t) (hj : p.length = j) : b.drop (i + j) = t := by
 rw [← List.drop_drop, h, ← hj, List.drop_left]
theorem space_back {y : PrT} (h : PrFit y) {i : Nat} (hi : i < 16) : byteAt (spaceT y) (2 * i) = (if y.pis i = false then 0 else if y.pwr i = true then 2 else 1) ∧ byteAt (spaceT y) (2 * i + 1) = y.pfr i := by
 obtain ⟨t, ht⟩ := space_at y hi
 obtain ⟨h0, h1, h2⟩ := h.page i hi
 unfold pteT at ht
 split at ht
 ·rename_i e
  rw [if_pos e, (h2 e).2]
  exact ⟨byteAt_of ht, byteAt_of (c := 0) (t := t) (drop_more (p := [0]) ht rfl)⟩
 ·rename_i e
  rw [if_neg e]
  split at ht
  ·rename_i e2
   rw [if_pos e2]
   exact ⟨byteAt_of ht, (byteAt_of (t := t) (drop_more (p := [2]) ht rfl)).trans (b8_natT h0 h1)⟩
  ·rename_i e2
   rw [if_neg e2]
   exact ⟨byteAt_of ht, (byteAt_of (t := t) (drop_more (p := [1]) ht rfl)).trans (b8_natT h0 h1)⟩
theorem space_ok {y : PrT} (h : PrFit y) : spaceB (spaceT y) = true := by
 unfold spaceB
 rw [List.all_eq_true]
 intro i hi
 obtain ⟨e1, e2⟩ := space_back h (List.mem_range.1 hi)
 rw [e1, e2]
 unfold pteB
 by_cases p : y.pis i = false
 ·rw [if_pos p, ((h.page i (List.mem_range.1 hi)).2.2 p).2]; rfl
 ·rw [if_neg p]; split <;> simp
theorem fd_at (y : PrT) {i : Nat} (hi : i < 8) : ∃ t, (fdsT y).drop (17 * i) = fdT y i ++ t := by
 obtain ⟨t, ht⟩ := piece16 (fdT y) 17 8 [] i hi (fdT_len y)
 exact ⟨t, by rw [List.append_nil] at ht; exact ht⟩
theorem wrap_pos {n : Int} (h0 : 0 ≤ n) (h1 : n < 9223372036854775808) : wrap64 n = n := by unfold wrap64; omega
theorem fd_back {y : PrT} (h : PrFit y) {i : Nat} (hi : i < 8) : byteAt (fdsT y) (17 * i) = y.fk i ∧ wrap64 (numAtT (fdsT y) (17 * i + 1) 8) = y.fn i ∧ wrap64 (numAtT (fdsT y) (17 * i + 9) 8) = y.fp i := by
 obtain ⟨t, ht⟩ := fd_at y hi
 unfold fdT at ht
 have k1 := h.fk i hi
 have k2 := h.fn i hi
 have k3 := h.fp i hi
 have e1 : (fdsT y).drop (17 * i + 1) = putL (y.fn i) 8 ++ (putL (y.fp i) 8 ++ t) := by
  have := drop_more (p := [b8 (y.fk i)]) (j := 1) (t := putL (y.fn i) 8 ++ (putL (y.fp i) 8 ++ t)) (by simpa using ht) rfl
  exact this
 have e2 : (fdsT y).drop (17 * i + 9) = putL (y.fp i) 8 ++ t := drop_more (j := 8) e1 (putL_len _ _)
 refine ⟨(byteAt_of (by simpa using ht)).trans (b8_natT k1.1 k1.2), ?_, ?_⟩
 ·rw [numAtT_of e1 k2.1 (by have := k2.2; omega), wrap_pos k2.1 k2.2]
 ·rw [numAtT_of e2 k3.1 (by have := k3.2; omega), wrap_pos k3.1 k3.2]
theorem procL_len (y : PrT) : (procL y).length = 10 := rfl
theorem flagT_len (b : Bool) : (flagT b).length = 1 := by cases b <;> rfl
set_option maxRecDepth 10000 in
theorem procL_few {y : PrT} (h : PrFit y) : ∀ s ∈ procL y, s.length ≤ 136 := by
 intro s hs
 have a1 := itoa_len h.pid.1 h.pid.2
 have a2 := itoa_len h.parent.1 h.parent.2
 have a3 := itoa_len h.state.1 h.state.2
 have a4 := itoa_len h.why.1 h.why.2
 simp only [procL, List.mem_cons, List.not_mem_nil, or_false] at hs
 rcases hs with rfl | rfl | rfl | rfl | rfl | rfl | rfl | rfl | rfl | rfl
 ·omega
 ·omega
 ·omega
 ·rw [cpuT_len]; omega
 ·rw [spaceT_len]; omega
 ·rw [fdsT_len]; exact Nat.le_refl _
 ·rw [flagT_len]; omega
 ·rw [putL_len]; omega
 ·omega
 ·rw [putL_len]; omega
theorem procT_len {y : PrT} (h : PrFit y) : (procT y).length ≤ 1400 := by
 have := procL_few h
 unfold procT
 have k : ∀ l : List (List UInt8), (∀ s ∈ l, s.length ≤ 136) → (rowL l).length ≤ l.length * 140 := by
  intro l
  induction l with
  | nil => intro _; simp [rowL_nil]
  | cons s l ih =>
   intro hl
   have h1 := hl s List.mem_cons_self
   have h2 := ih (fun x hx => hl x (List.mem_cons_of_mem _ hx))
   have h3 := lenL_few s.length (by omega)
   rw [rowL_cons, List.length_append, List.length_append, List.length_cons, Nat.succ_mul]; omega
 have k2 := k _ this
 rw [procL_len] at k2; omega
theorem map_congr16 {α : Type} {f g : Nat → α} (n : Nat) (h : ∀ i < n, f i = g i) : (List.range n).map f = (List.range n).map g :=
 List.map_congr_left (fun i hi => h i (List.mem_range.1 hi))
set_option maxRecDepth 10000 in
theorem prL_congr {y z : PrT} (h1 : y.pid = z.pid) (h2 : y.parent = z.parent) (h3 : y.state = z.state) (h4 : ∀ i < 16, y.reg i = z.reg i) (h5 : y.pc = z.pc)
  (h6 : ∀ i < 16, y.pis i = z.pis i ∧ y.pwr i = z.pwr i ∧ y.pfr i = z.pfr i) (h7 : ∀ i < 8, y.fk i = z.fk i ∧ y.fn i = z.fn i ∧ y.fp i = z.fp i)
  (h8 : y.mask = z.mask) (h9 : y.code = z.code) (h10 : y.why = z.why) (h11 : y.num = z.num) : prL y = prL z := by
 have e1 : (List.range 16).map (fun i => Value.int .u32 (y.reg i)) = (List.range 16).map (fun i => Value.int .u32 (z.reg i)) := map_congr16 16 (fun i hi => by rw [h4 i hi])
 have e2 : (List.range 16).flatMap (pteL y) = (List.range 16).flatMap (pteL z) := by
  rw [List.flatMap_def, List.flatMap_def, map_congr16 (g := pteL z) 16 (fun i hi => by unfold pteL; rw [(h6 i hi).1, (h6 i hi).2.1, (h6 i hi).2.2])]
 have e3 : (List.range 8).flatMap (fdL y) = (List.range 8).flatMap (fdL z) := by
  rw [List.flatMap_def, List.flatMap_def, map_congr16 (g := fdL z) 8 (fun i hi => by unfold fdL; rw [(h7 i hi).1, (h7 i hi).2.1, (h7 i hi).2.2])]
 unfold prL
 rw [e1, e2, e3, h1, h2, h3, h5, h8, h9, h10, h11]
theorem procP_procT {y : PrT} (h : PrFit y) : ∃ z, procP (procT y) = some z ∧ prL z = prL y := by
 refine ⟨mkProc y.pid y.parent y.state (cpuT y) (spaceT y) (fdsT y) y.mask y.code y.why y.num, ?_, ?_⟩
 ·unfold procP procT
  rw [openT_row (some 10) (procL y) (fun s hs => by have := procL_few h s hs; omega) (fun n hn => by cases hn; rfl)]
  have e3 : fixP 68 (cpuT y) = some (cpuT y) := if_pos (cpuT_len y)
  have e4 : spaceP (spaceT y) = some (spaceT y) := if_pos ⟨spaceT_len y, space_ok h⟩
  have e5 : fixP 136 (fdsT y) = some (fdsT y) := if_pos (fdsT_len y)
  simp [procL, intP_itoa h.pid, intP_itoa h.parent, intP_itoa h.state, intP_itoa h.why, e3, e4, e5, flagP_flagT, numP_putL (z := 4) h.code.1 h.code.2, numP_putL (z := 8) h.num.1 h.num.2]
 ·refine prL_congr rfl rfl rfl (fun i hi => cpu_reg h hi) (cpu_pc h) (fun i hi => ?_) (fun i hi => fd_back h hi) rfl rfl rfl rfl
  obtain ⟨e1, e2⟩ := space_back h hi
  obtain ⟨_, _, p3⟩ := h.page i hi
  simp only [mkProc, e1, e2]
  by_cases p : y.pis i = false
  ·obtain ⟨p4, p5⟩ := p3 p
   simp [p, p4, p5]
  ·rw [if_neg p]
   have p' : y.pis i = true := by simpa using p
   by_cases q : y.pwr i = true
   ·simp [p', q]
   ·simp [p', q]
structure SameSc (m z : Mac) : Prop where
 clock : m.clock = z.clock
 quantum : m.quantum = z.quantum
 cur : m.cur = z.cur
 left : m.left = z.left
 next : m.next = z.next
 init : m.init = z.init
 newPipe : m.newPipe = z.newPipe
 inn : m.inn = z.inn
 fin : m.fin = z.fin
 told : m.told = z.told
 dleft : m.dleft = z.dleft
structure RestFit (m : Mac) (d : MacD) : Prop where
 clock : 0 ≤ m.clock ∧ m.clock < 18446744073709551616
 told : 0 ≤ m.told ∧ m.told < 18446744073709551616
 quantum : N64 m.quantum
 cur : N64 m.cur
 left : N64 m.left
 next : N64 m.next
 newPipe : N64 m.newPipe
 dleft : N64 m.dleft
 init : m.init.length ≤ 100000
 inn : m.inn.length ≤ 100000
 pe : WrFit d.pe
 di : WrFit d.di
 pi : WrFit d.pi
 pr : ∀ y ∈ d.pr, PrFit y
 pel : d.pe.length ≤ 1000
 dil : d.di.length ≤ 1000
 pil : d.pi.length ≤ 1000
 prl : d.pr.length ≤ 1000
theorem row_few (z : Nat) (hz : z ≤ 100000) (l : List (List UInt8)) (h : ∀ s ∈ l, s.length ≤ z) : (rowL l).length ≤ l.length * (z + 4) := by
 induction l with
 | nil => simp [rowL_nil]
 | cons s l ih =>
  have h1 := h s List.mem_cons_self
  have h2 := ih (fun x hx => h x (List.mem_cons_of_mem _ hx))
  have h3 := lenL_few s.length (by omega)
  rw [rowL_cons, List.length_append, List.length_append, List.length_cons, Nat.succ_mul]; omega
theorem writesT_len {l : List WrT} (h : WrFit l) (hl : l.length ≤ 1000) : (writesT l).length ≤ 1032000 := by
 have := row_few 1028 (by omega) (l.map writeT) (fun s hs => by
  obtain ⟨x, hx, rfl⟩ := List.mem_map.1 hs
  exact writeT_len (h x hx).1 (h x hx).2)
 rw [List.length_map] at this
 unfold writesT; omega
theorem procsT_len {l : List PrT} (h : ∀ y ∈ l, PrFit y) (hl : l.length ≤ 1000) : (rowL (l.map procT)).length ≤ 1404000 := by
 have := row_few 1400 (by omega) (l.map procT) (fun s hs => by
  obtain ⟨x, hx, rfl⟩ := List.mem_map.1 hs
  exact procT_len (h x hx))
 rw [List.length_map] at this
 omega
theorem restL_few {m : Mac} {d : MacD} (h : RestFit m d) : ∀ s ∈ restL m d, s.length ≤ 1404000 := by
 intro s hs
 have a1 := itoa_len h.quantum.1 h.quantum.2
 have a2 := itoa_len h.cur.1 h.cur.2
 have a3 := itoa_len h.left.1 h.left.2
 have a4 := itoa_len h.next.1 h.next.2
 have a5 := itoa_len h.newPipe.1 h.newPipe.2
 have a6 := itoa_len h.dleft.1 h.dleft.2
 have b1 := writesT_len h.pe h.pel
 have b2 := writesT_len h.di h.dil
 have b3 := writesT_len h.pi h.pil
 have b4 := procsT_len h.pr h.prl
 have c1 := h.init
 have c2 := h.inn
 simp only [restL, List.mem_cons, List.not_mem_nil, or_false] at hs
 rcases hs with rfl | rfl | rfl | rfl | rfl | rfl | rfl | rfl | rfl | rfl | rfl | rfl | rfl | rfl | rfl | rfl
 ·simp
 ·rw [putL_len]; omega
 ·omega
 ·omega
 ·omega
 ·omega
 ·omega
 ·omega
 ·omega
 ·rw [flagT_len]; omega
 ·rw [putL_len]; omega
 ·omega
 ·omega
 ·omega
 ·omega
 ·exact b4
theorem restQ_restT {m : Mac} {d : MacD} (h : RestFit m d) : ∃ z e, restQ (restT m d) = some (z, e) ∧ SameSc z m ∧ e.pr.map prL = d.pr.map prL ∧ e.pi = d.pi ∧ e.pe = d.pe ∧ e.di = d.di := by
 obtain ⟨l', h1, h2⟩ := allP_rel procP procT prL d.pr (fun x hx => procP_procT (h.pr x hx))
 refine ⟨⟨m.clock, m.quantum, m.cur, m.left, sl0, sl0, m.next, m.init, sl0, m.newPipe, m.inn, m.fin, m.told, sl0, sl0, m.dleft, sl0⟩, ⟨[], l', d.pi, [], d.pe, d.di⟩, ?_, ⟨rfl, rfl, rfl, rfl, rfl, rfl, rfl, rfl, rfl, rfl, rfl⟩, h2, rfl, rfl, rfl⟩
 unfold restQ restT
 rw [openT_row (some 16) (restL m d) (fun s hs => by have := restL_few h s hs; omega) (fun n hn => by cases hn; rfl)]
 have e1 : procsP (rowL (d.pr.map procT)) = some l' := by
  unfold procsP
  rw [openT_row none _ (fun s hs => by
   obtain ⟨x, hx, rfl⟩ := List.mem_map.1 hs
   have := procT_len (h.pr x hx); omega) (fun n hn => by cases hn)]
  exact h1
 simp [restL, numP_putL (z := 8) h.clock.1 h.clock.2, numP_putL (z := 8) h.told.1 h.told.2, intP_itoa h.quantum, intP_itoa h.cur, intP_itoa h.left, intP_itoa h.next, intP_itoa h.newPipe, intP_itoa h.dleft, flagP_flagT, writesP_writesT h.pe, writesP_writesT h.di, writesP_writesT h.pi, e1]
end Go.Proofs.YtfaplefkakpgcaaGreatDoor
