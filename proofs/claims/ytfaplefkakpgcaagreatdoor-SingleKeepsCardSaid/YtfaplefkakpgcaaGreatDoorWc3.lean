/- A value of a type that is made of structs and arrays, read cell by cell; slices of such. -/
import Derived.Test.YtfaplefkakpgcaaGreatDoorWc2
import Derived.SizedLaws
import Derived.Deep.Slices
import Derived.Test.YtfaplefkakpgcaaGreatDoorWc1
import Derived.DeepKeys
import Derived.Deep.Quiet
namespace Go.Proofs.YtfaplefkakpgcaaGreatDoor
set_option linter.unusedVariables false
set_option linter.unusedSimpArgs false
open Go.ChangeShapes Go.WideShapes Go.ChangeAt Go.RowKit
def leavesAt (P : Program) : Nat → TypeId → List (Nat × TypeId)
 | 0, _ => []
 | n + 1, t => match P.underlying t with
  | some (.struct fs) => fs.toList.flatMap fun f => (leavesAt P n f.type).filterMap fun p => if p.1 < P.cellsOf f.type then some (f.offset + p.1, p.2) else none
  | some (.array k e) => (List.range k).flatMap fun i => (leavesAt P n e).filterMap fun p => if p.1 < P.cellsOf e then some (i * P.cellsOf e + p.1, p.2) else none
  | _ => [(0, t)]
section
variable {H : Type} {enc : TypeId × Value → H} {P : Program} {w : World} {base : Nat} {spare : Nat → Bool} {held : Bool}
theorem leaf_trod : ∀ (n : Nat) {t t' : TypeId} {o fuel : Nat} {cs : List Value} {x : DataW H × List MemPlace} {v : Value}, (o, t') ∈ leavesAt P n t → DataW.trod enc P w base spare held fuel t cs = some x → cs[o]? = some v →
  ∃ fuel' cs' x', DataW.trod enc P w base spare held fuel' t' cs' = some x' ∧ cs'[0]? = some v
 | 0, _, _, _, _, _, _, _, h, _, _ => by simp [leavesAt] at h
 | n + 1, t, t', o, fuel, cs, x, v, h, ht, hv => by
  rw [leavesAt] at h
  split at h
  ·rename_i fs hu
   obtain ⟨xs, m, _, _, _, hxl, hf⟩ := DataW.trod_struct hu ht
   obtain ⟨f, hfm, hp⟩ := List.mem_flatMap.1 h
   obtain ⟨p, hp1, hp2⟩ := List.mem_filterMap.1 hp
   obtain ⟨i, hi, hif⟩ := List.getElem_of_mem hfm
   have hi' : i < fs.size := by simpa using hi
   have h1 := hf i f (by rw [Array.getElem?_eq_getElem hi']; exact congrArg some (by simpa using hif))
   rw [List.getElem?_eq_getElem (by omega)] at h1
   split at hp2
   ·rename_i hlt
    injection hp2 with hp2
    injection hp2 with e1 e2
    subst e1
    refine leaf_trod n (t := f.type) (o := p.1) (by rw [← e2]; exact hp1) h1 ?_
    rw [List.getElem?_take, if_pos hlt, List.getElem?_drop]; exact hv
   ·cases hp2
  ·rename_i k e hu
   obtain ⟨xs, m, _, _, _, hxl, hf⟩ := DataW.trod_array hu ht
   obtain ⟨i, him, hp⟩ := List.mem_flatMap.1 h
   obtain ⟨p, hp1, hp2⟩ := List.mem_filterMap.1 hp
   have hi : i < k := List.mem_range.1 him
   have h1 := hf i hi
   rw [List.getElem?_eq_getElem (by omega)] at h1
   split at hp2
   ·rename_i hlt
    injection hp2 with hp2
    injection hp2 with e1 e2
    subst e1
    refine leaf_trod n (t := e) (o := p.1) (by rw [← e2]; exact hp1) h1 ?_
    rw [List.getElem?_take, if_pos hlt, List.getElem?_drop]; exact hv
   ·cases hp2
  ·obtain ⟨rfl, rfl⟩ : o = 0 ∧ t' = t := by simpa using h
   exact ⟨fuel, cs, x, ht, hv⟩
theorem leaf_int {n : Nat} {t t' : TypeId} {o fuel : Nat} {cs : List Value} {x : DataW H × List MemPlace} {k : IntKind} (hu : P.underlying t' = some (.int k)) (h : (leavesAt P n t).contains (o, t') = true) (ht : DataW.trod enc P w base spare held fuel t cs = some x) (hl : o < cs.length) :
  ∃ m, cs[o]? = some (.int k m) ∧ (Lit.int k m).wf = true := by
 obtain ⟨f', cs', x', h1, h2⟩ := leaf_trod n (List.contains_iff_mem.1 h) ht (List.getElem?_eq_getElem hl)
 obtain ⟨m, rfl, _, hw⟩ := DataW.trod_int hu h1
 exact ⟨m, (List.getElem?_eq_getElem hl).trans h2.symm, hw⟩
theorem leaf_bool {n : Nat} {t t' : TypeId} {o fuel : Nat} {cs : List Value} {x : DataW H × List MemPlace} (hu : P.underlying t' = some .bool) (h : (leavesAt P n t).contains (o, t') = true) (ht : DataW.trod enc P w base spare held fuel t cs = some x) (hl : o < cs.length) :
  ∃ m, cs[o]? = some (.bool m) := by
 obtain ⟨f', cs', x', h1, h2⟩ := leaf_trod n (List.contains_iff_mem.1 h) ht (List.getElem?_eq_getElem hl)
 obtain ⟨m, rfl, _⟩ := DataW.trod_bool hu h1
 exact ⟨m, (List.getElem?_eq_getElem hl).trans h2.symm⟩
theorem leaf_string {n : Nat} {t t' : TypeId} {o fuel : Nat} {cs : List Value} {x : DataW H × List MemPlace} (hu : P.underlying t' = some .string) (h : (leavesAt P n t).contains (o, t') = true) (ht : DataW.trod enc P w base spare held fuel t cs = some x) (hl : o < cs.length) :
  ∃ m : List UInt8, cs[o]? = some (.string (str m)) ∧ m.length ≤ maxLen := by
 obtain ⟨f', cs', x', h1, h2⟩ := leaf_trod n (List.contains_iff_mem.1 h) ht (List.getElem?_eq_getElem hl)
 obtain ⟨m, rfl, _, hw⟩ := DataW.trod_string hu h1
 exact ⟨m.data.toList, (List.getElem?_eq_getElem hl).trans h2.symm, by have := str_size m.data.toList; rw [← str_of] at this; omega⟩
def RowOf {α : Type} (f : α → List Value) (w : World) (A : Option Addr) (n : Nat) (l : List α) : Prop :=
 n = l.length ∧ (0 < n → ∃ b o, A = some ⟨b, o, none⟩ ∧ ∀ j v, (l.flatMap f)[j]? = some v → w.cell? ⟨b, o + j, none⟩ = some v)
theorem RowOf.ext {α : Type} {f : α → List Value} {w w' : World} {A : Option Addr} {n : Nat} {l : List α} (h : RowOf f w A n l) (k : Ext w w') : RowOf f w' A n l :=
 ⟨h.1, fun hn => by obtain ⟨b, o, e, hc⟩ := h.2 hn; exact ⟨b, o, e, fun j v hj => k.keep (hc j v hj)⟩⟩
theorem flat_len {α : Type} (f : α → List Value) (z : Nat) : ∀ (l : List α), (∀ x ∈ l, (f x).length = z) → (l.flatMap f).length = l.length * z
 | [], _ => by simp
 | x :: l, h => by
  rw [List.flatMap_cons, List.length_append, h x (by simp), flat_len f z l (fun y hy => h y (by simp [hy])), List.length_cons, Nat.succ_mul]; omega
theorem flat_at {α : Type} (f : α → List Value) (z : Nat) : ∀ (l : List α), (∀ x ∈ l, (f x).length = z) → ∀ (j : Nat) (h : j < l.length) (i : Nat), i < z → (l.flatMap f)[j * z + i]? = (f l[j])[i]?
 | x :: l, hz, 0, _, i, hi => by
  rw [List.flatMap_cons, Nat.zero_mul, Nat.zero_add, List.getElem?_append_left (by rw [hz x (by simp)]; exact hi)]; rfl
 | x :: l, hz, j + 1, h, i, hi => by
  have hx := hz x (by simp)
  rw [List.flatMap_cons, List.getElem?_append_right (by rw [hx, Nat.succ_mul]; omega), hx, show (j + 1) * z + i - z = j * z + i by rw [Nat.succ_mul]; omega]
  exact flat_at f z l (fun y hy => hz y (by simp [hy])) j (by simpa using h) i hi
theorem RowOf.cell {α : Type} {f : α → List Value} {w : World} {b o n : Nat} {l : List α} {z : Nat} (hc : ∀ j v, (l.flatMap f)[j]? = some v → w.cell? ⟨b, o + j, none⟩ = some v) (hz : ∀ x ∈ l, (f x).length = z) {k : Nat} (hk : k < l.length) {i : Nat} (hi : i < z) {v : Value} (hv : (f l[k])[i]? = some v) :
  w.cell? ⟨b, o + (k * z + i), none⟩ = some v := hc _ _ ((flat_at f z l hz k hk i hi).trans hv)
theorem row_in {α : Type} [Inhabited α] (f : α → List Value) {z : Nat} {T E : TypeId} {fuel : Nat} {v : Value} {x : DataW H × List MemPlace} (hT : P.underlying T = some (.slice E)) (hE : P.cellsOf E = z) (hz0 : 0 < z)
  (hin : ∀ (m : Nat) (cs : List Value) (y : DataW H × List MemPlace), cs.length = z → DataW.trod enc P w base spare held m E cs = some y → ∃ a : α, cs = f a)
  (h : DataW.trod enc P w base spare held fuel T [v] = some x) :
  ∃ A n c l, v = .slice A n c ∧ (A = none → n = 0 ∧ c = 0) ∧ (n ≤ maxLen ∧ n ≤ c) ∧ RowOf f w A n l ∧ ∀ a ∈ l, (f a).length = z := by
 rcases Deep.open_slice hT h with ⟨hcs, hx⟩ | ⟨a, len, cap, m, n, D, Pl, hcs, hb, hl, hm, hmm, hx, hel⟩
 ·injection hcs with hcs _
  exact ⟨none, 0, 0, [], hcs, fun _ => ⟨rfl, rfl⟩, ⟨by unfold maxLen; omega, by omega⟩, ⟨rfl, fun h => by omega⟩, fun a h => by cases h⟩
 ·injection hcs with hcs _
  have hlm : len ≤ m := by rw [hmm]; split <;> omega
  have each : ∀ i, i < len → ∃ y : α, w.cells? base (a.add (i * z)) z = some (f y) := fun i hi => by
   obtain ⟨cs', h1, h2⟩ := hel i (by omega)
   rw [hE] at h1
   obtain ⟨y, rfl⟩ := hin _ _ _ (World.cells?_some h1).2.1 h2
   exact ⟨y, h1⟩
  obtain ⟨q, hq⟩ := Deep.choose_lt each
  have hlen : ∀ y ∈ (List.range len).map q, (f y).length = z := fun y hy => by
   obtain ⟨i, hi, rfl⟩ := List.mem_map.1 hy
   exact (World.cells?_some (hq i (List.mem_range.1 hi))).2.1
  refine ⟨some a, len, cap, (List.range len).map q, hcs, (fun h => by cases h), ⟨by omega, by omega⟩, ⟨by simp, fun hn => ?_⟩, hlen⟩
  obtain ⟨b, off, spot⟩ := a
  have hspot : spot = none := by
   have := (World.cells?_some (hq 0 hn)).2.2 0 (by omega)
   rw [List.getElem?_eq_getElem (by rw [(World.cells?_some (hq 0 hn)).2.1]; omega)] at this
   simpa [Addr.add] using World.cell?_spot this
  subst hspot
  refine ⟨b, off, rfl, fun j u hj => ?_⟩
  have hjl : j < len * z := by have := (List.getElem?_eq_some_iff.1 hj).1; rw [flat_len f z _ hlen] at this; simpa using this
  have hk : j / z < len := Nat.div_lt_of_lt_mul (by rw [Nat.mul_comm]; exact hjl)
  have hr : j % z < z := Nat.mod_lt _ hz0
  have ej : j / z * z + j % z = j := by rw [Nat.mul_comm]; exact Nat.div_add_mod j z
  have e := flat_at f z ((List.range len).map q) hlen (j / z) (by simpa using hk) (j % z) hr
  rw [ej, hj] at e
  have hc := (World.cells?_some (hq (j / z) hk)).2.2 (j % z) hr
  rw [Deep.add_add, add_plain] at hc
  rw [show off + j = off + (j / z * z + j % z) by rw [ej], hc]
  simp at e
  exact e.symm
end
end Go.Proofs.YtfaplefkakpgcaaGreatDoor
/- Processes, pipes, drives and machines that come in, as plain data. -/
namespace Go.Proofs.YtfaplefkakpgcaaGreatDoor
set_option linter.unusedVariables false
set_option linter.unusedSimpArgs false
open Go.ChangeShapes Go.WideShapes Go.ChangeAt Go.RowKit
def giV : Value → Int
 | .int _ m => m
 | _ => 0
def gbV : Value → Bool
 | .bool b => b
 | _ => false
def reto : Option IntKind → Value → Value
 | some k, v => .int k (giV v)
 | none, v => .bool (gbV v)
def kindAt (P : Program) (t : TypeId) : Option (Option IntKind) := match P.underlying t with
 | some (.int k) => some (some k)
 | some .bool => some none
 | _ => none
section
variable {H : Type} {enc : TypeId × Value → H} {P : Program} {w : World} {base : Nat} {spare : Nat → Bool} {held : Bool}
theorem leaf_kind {n : Nat} {t t' : TypeId} {o fuel : Nat} {cs : List Value} {x : DataW H × List MemPlace} {q : Option IntKind} (hu : kindAt P t' = some q) (h : (o, t') ∈ leavesAt P n t) (ht : DataW.trod enc P w base spare held fuel t cs = some x) (hl : o < cs.length) :
  cs[o]? = some (reto q (cs.getD o undef)) := by
 obtain ⟨f', cs', x', h1, h2⟩ := leaf_trod n h ht (List.getElem?_eq_getElem hl)
 rw [List.getD_eq_getElem?_getD, List.getElem?_eq_getElem hl]
 unfold kindAt at hu
 split at hu
 ·rename_i k hk
  injection hu with hu
  subst hu
  obtain ⟨m, rfl, _, hw⟩ := DataW.trod_int hk h1
  have e : cs[o] = .int k m := by simpa using h2.symm
  rw [e]; rfl
 ·rename_i hk
  injection hu with hu
  subst hu
  obtain ⟨m, rfl, _⟩ := DataW.trod_bool hk h1
  have e : cs[o] = .bool m := by simpa using h2.symm
  rw [e]; rfl
 ·cases hu
def kindsOk (P : Program) (n : Nat) (t : TypeId) (ks : List (Option IntKind)) : Bool :=
 (List.range ks.length).all fun i => match (leavesAt P n t)[i]?, ks[i]? with
  | some (o, t'), some q => o == i && (match kindAt P t' with | some q' => q' == q | none => false)
  | _, _ => false
theorem kinds_in {n : Nat} {t : TypeId} {fuel : Nat} {cs : List Value} {x : DataW H × List MemPlace} (ks : List (Option IntKind)) (hk : kindsOk P n t ks = true) (ht : DataW.trod enc P w base spare held fuel t cs = some x) (hl : cs.length = ks.length) :
  cs = (List.range ks.length).map fun i => reto (ks.getD i none) (cs.getD i undef) := by
 apply List.ext_getElem?
 intro i
 by_cases hi : i < ks.length
 ·have h1 := List.all_eq_true.1 hk i (List.mem_range.2 hi)
  rw [List.getElem?_map, List.getElem?_range hi]
  split at h1
  ·rename_i o t' q e1 e2
   simp only [Bool.and_eq_true, beq_iff_eq] at h1
   obtain ⟨rfl, h2⟩ := h1
   split at h2
   ·rename_i q' e3
    have h3 : q' = q := by simpa using h2
    subst h3
    have := leaf_kind e3 (List.mem_of_getElem? e1) ht (by omega)
    rw [this]; simp [List.getD_eq_getElem?_getD, e2]
   ·cases h2
  ·cases h1
 ·rw [List.getElem?_eq_none (by omega), List.getElem?_eq_none (by simp; omega)]
end
structure PrT where
 pid : Int
 parent : Int
 state : Int
 reg : Nat → Int
 pc : Int
 pis : Nat → Bool
 pwr : Nat → Bool
 pfr : Nat → Int
 fk : Nat → Int
 fn : Nat → Int
 fp : Nat → Int
 mask : Bool
 code : Int
 why : Int
 num : Int
instance prInh : Inhabited PrT := ⟨⟨0, 0, 0, fun _ => 0, 0, fun _ => false, fun _ => false, fun _ => 0, fun _ => 0, fun _ => 0, fun _ => 0, false, 0, 0, 0⟩⟩
def pteL (p : PrT) (i : Nat) : List Value := [.bool (p.pis i), .bool (p.pwr i), .int .i64 (p.pfr i)]
def fdL (p : PrT) (i : Nat) : List Value := [.int .i64 (p.fk i), .int .i64 (p.fn i), .int .i64 (p.fp i)]
def prL (p : PrT) : List Value := [.int .i64 p.pid, .int .i64 p.parent, .int .i64 p.state] ++ (List.range 16).map (fun i => .int .u32 (p.reg i)) ++ [.int .u32 p.pc] ++ (List.range 16).flatMap (pteL p) ++ (List.range 8).flatMap (fdL p) ++ [.bool p.mask, .int .u32 p.code, .int .i64 p.why, .int .u64 p.num]
def prKs : List (Option IntKind) := [some .i64, some .i64, some .i64] ++ List.replicate 17 (some .u32) ++ (List.range 16).flatMap (fun _ => [none, none, some .i64]) ++ List.replicate 24 (some .i64) ++ [none, some .u32, some .i64, some .u64]
def mkPr (cs : List Value) : PrT where
 pid := giV (cs.getD 0 undef)
 parent := giV (cs.getD 1 undef)
 state := giV (cs.getD 2 undef)
 reg := fun i => giV (cs.getD (3 + i) undef)
 pc := giV (cs.getD 19 undef)
 pis := fun i => gbV (cs.getD (20 + 3 * i) undef)
 pwr := fun i => gbV (cs.getD (21 + 3 * i) undef)
 pfr := fun i => giV (cs.getD (22 + 3 * i) undef)
 fk := fun i => giV (cs.getD (68 + 3 * i) undef)
 fn := fun i => giV (cs.getD (69 + 3 * i) undef)
 fp := fun i => giV (cs.getD (70 + 3 * i) undef)
 mask := gbV (cs.getD 92 undef)
 code := giV (cs.getD 93 undef)
 why := giV (cs.getD 94 undef)
 num := giV (cs.getD 95 undef)
theorem prL_len (p : PrT) : (prL p).length = 96 := rfl
theorem prL_one (p : PrT) : ∀ v ∈ prL p, v.oneCell' = true := by
 intro v hv
 simp only [prL, pteL, fdL, List.mem_append, List.mem_cons, List.not_mem_nil, or_false, List.mem_map, List.mem_flatMap] at hv
 rcases hv with ((((( h | h | h) | ⟨i, _, h⟩) | h) | ⟨i, _, h | h | h⟩) | ⟨i, _, h | h | h⟩) | (h | h | h | h) <;> (subst h; rfl)
set_option maxRecDepth 100000 in
theorem mkPr_eq (cs : List Value) : prL (mkPr cs) = (List.range prKs.length).map fun i => reto (prKs.getD i none) (cs.getD i undef) := by kernel_rfl
theorem prCells : Tryz.prog.cellsOf 57 = 96 := by kernel_rfl
theorem prSize : (Tryz.prog.info? 57).map (·.size) = some 96 := by kernel_rfl
theorem prKinds : kindsOk Tryz.prog 6 57 prKs = true := by kernel_rfl
theorem wrCells : Tryz.prog.cellsOf 92 = 2 := by kernel_rfl
theorem piCells : Tryz.prog.cellsOf 95 = 2 := by kernel_rfl
theorem stCells : Tryz.prog.cellsOf 9 = 1 := by kernel_rfl
theorem macCells : Tryz.prog.cellsOf 38 = 17 := by kernel_rfl
theorem wrLeaf : leavesAt Tryz.prog 6 92 = [(0, 3), (1, 9)] := by kernel_rfl
theorem piLeaf : leavesAt Tryz.prog 6 95 = [(0, 3), (1, 9)] := by kernel_rfl
def macLv : List (Nat × TypeId) := [(0, 31), (1, 3), (2, 3), (3, 3), (4, 22), (5, 32), (6, 3), (7, 9), (8, 33), (9, 3), (10, 9), (11, 4), (12, 31), (13, 22), (14, 34), (15, 3), (16, 34)]
theorem macLeaf : leavesAt Tryz.prog 6 38 = macLv := by kernel_rfl
def stL (s : List UInt8) : List Value := [.string (str s)]
instance wrInh : Inhabited WrT := ⟨(0, [])⟩
structure Sl where
 A : Option Addr
 n : Nat
 c : Nat
structure Mac where
 clock : Int
 quantum : Int
 cur : Int
 left : Int
 fr : Sl
 pr : Sl
 next : Int
 init : List UInt8
 pi : Sl
 newPipe : Int
 inn : List UInt8
 fin : Bool
 told : Int
 bl : Sl
 pe : Sl
 dleft : Int
 di : Sl
def Mac.cells (m : Mac) : Array Value := #[.int .u64 m.clock, .int .i64 m.quantum, .int .i64 m.cur, .int .i64 m.left, .slice m.fr.A m.fr.n m.fr.c, .slice m.pr.A m.pr.n m.pr.c, .int .i64 m.next, .string (str m.init), .slice m.pi.A m.pi.n m.pi.c, .int .i64 m.newPipe, .string (str m.inn), .bool m.fin, .int .u64 m.told, .slice m.bl.A m.bl.n m.bl.c, .slice m.pe.A m.pe.n m.pe.c, .int .i64 m.dleft, .slice m.di.A m.di.n m.di.c]
structure MacD where
 fr : List (List UInt8)
 pr : List PrT
 pi : List WrT
 bl : List (List UInt8)
 pe : List WrT
 di : List WrT
def Sl.ok (s : Sl) : Prop := (s.A = none → s.n = 0 ∧ s.c = 0) ∧ s.n ≤ maxLen ∧ s.n ≤ s.c
structure MacIn (w : World) (m : Mac) (d : MacD) : Prop where
 fr : RowOf stL w m.fr.A m.fr.n d.fr
 pr : RowOf prL w m.pr.A m.pr.n d.pr
 pi : RowOf wrL w m.pi.A m.pi.n d.pi
 bl : RowOf stL w m.bl.A m.bl.n d.bl
 pe : RowOf wrL w m.pe.A m.pe.n d.pe
 di : RowOf wrL w m.di.A m.di.n d.di
 frk : m.fr.ok
 prk : m.pr.ok
 pik : m.pi.ok
 blk : m.bl.ok
 pek : m.pe.ok
 dik : m.di.ok
 initk : m.init.length ≤ maxLen
 innk : m.inn.length ≤ maxLen
 leftk : (Lit.int .i64 m.dleft).wf = true
theorem MacIn.ext {w w' : World} {m : Mac} {d : MacD} (h : MacIn w m d) (k : Ext w w') : MacIn w' m d :=
 ⟨h.fr.ext k, h.pr.ext k, h.pi.ext k, h.bl.ext k, h.pe.ext k, h.di.ext k, h.frk, h.prk, h.pik, h.blk, h.pek, h.dik, h.initk, h.innk, h.leftk⟩
section
variable {H : Type} {enc : TypeId × Value → H} {w : World} {base : Nat} {spare : Nat → Bool} {held : Bool}
theorem pr_in {m : Nat} {cs : List Value} {y : DataW H × List MemPlace} (hl : cs.length = 96) (h : DataW.trod enc Tryz.prog w base spare held m 57 cs = some y) : ∃ a : PrT, cs = prL a :=
 ⟨mkPr cs, (kinds_in prKs prKinds h (by rw [hl]; rfl)).trans (mkPr_eq cs).symm⟩
theorem two_in {T : TypeId} (hT : leavesAt Tryz.prog 6 T = [(0, 3), (1, 9)]) {m : Nat} {cs : List Value} {y : DataW H × List MemPlace} (hl : cs.length = 2) (h : DataW.trod enc Tryz.prog w base spare held m T cs = some y) : ∃ a : WrT, cs = wrL a := by
 obtain ⟨a, ha, _⟩ := leaf_int (n := 6) (o := 0) Tryz.underlying3 (by rw [hT]; kernel_rfl) h (by omega)
 obtain ⟨b, hb, _⟩ := leaf_string (n := 6) (o := 1) Tryz.underlying9 (by rw [hT]; kernel_rfl) h (by omega)
 match cs, hl with
 | [v0, v1], _ =>
  have e0 : v0 = _ := Option.some.inj ha
  have e1 : v1 = _ := Option.some.inj hb
  exact ⟨(a, b), by rw [e0, e1]; rfl⟩
theorem st_in {m : Nat} {cs : List Value} {y : DataW H × List MemPlace} (hl : cs.length = 1) (h : DataW.trod enc Tryz.prog w base spare held m 9 cs = some y) : ∃ a : List UInt8, cs = stL a := by
 obtain ⟨s, rfl, _⟩ := DataW.trod_string Tryz.underlying9 h
 exact ⟨s.data.toList, rfl⟩
theorem strs_in {fuel : Nat} {v : Value} {x : DataW H × List MemPlace} (h : DataW.trod enc Tryz.prog w base spare held fuel 22 [v] = some x) :
  ∃ (s : Sl) (l : List (List UInt8)), v = .slice s.A s.n s.c ∧ s.ok ∧ RowOf stL w s.A s.n l := by
 obtain ⟨A, n, c, l, e, h0, h1, h2, _⟩ := row_in stL Tryz.underlying22 stCells (by omega) (fun m cs y => st_in) h
 exact ⟨⟨A, n, c⟩, l, e, ⟨h0, h1⟩, h2⟩
theorem pis_in {fuel : Nat} {v : Value} {x : DataW H × List MemPlace} (h : DataW.trod enc Tryz.prog w base spare held fuel 33 [v] = some x) :
  ∃ (s : Sl) (l : List WrT), v = .slice s.A s.n s.c ∧ s.ok ∧ RowOf wrL w s.A s.n l := by
 obtain ⟨A, n, c, l, e, h0, h1, h2, _⟩ := row_in wrL Tryz.underlying33 piCells (by omega) (fun m cs y => two_in piLeaf) h
 exact ⟨⟨A, n, c⟩, l, e, ⟨h0, h1⟩, h2⟩
theorem wrs_in {fuel : Nat} {v : Value} {x : DataW H × List MemPlace} (h : DataW.trod enc Tryz.prog w base spare held fuel 34 [v] = some x) :
  ∃ (s : Sl) (l : List WrT), v = .slice s.A s.n s.c ∧ s.ok ∧ RowOf wrL w s.A s.n l := by
 obtain ⟨A, n, c, l, e, h0, h1, h2, _⟩ := row_in wrL Tryz.underlying34 wrCells (by omega) (fun m cs y => two_in wrLeaf) h
 exact ⟨⟨A, n, c⟩, l, e, ⟨h0, h1⟩, h2⟩
theorem one_slice {T E : TypeId} {fuel : Nat} {cs : List Value} {x : DataW H × List MemPlace} (hT : Tryz.prog.underlying T = some (.slice E)) (h : DataW.trod enc Tryz.prog w base spare held fuel T cs = some x) : ∃ v, cs = [v] := by
 rcases Deep.open_slice hT h with ⟨hcs, hx⟩ | ⟨a, len, cap, m, n, D, Pl, hcs, _⟩
 ·exact ⟨_, hcs⟩
 ·exact ⟨_, hcs⟩
theorem mac_slice {o fuel : Nat} {t' E : TypeId} {cs : List Value} {x : DataW H × List MemPlace} (hT : Tryz.prog.underlying t' = some (.slice E)) (h : macLv.contains (o, t') = true) (ht : DataW.trod enc Tryz.prog w base spare held fuel 38 cs = some x) (hl : o < cs.length) :
  ∃ fuel' v x', cs[o]? = some v ∧ DataW.trod enc Tryz.prog w base spare held fuel' t' [v] = some x' := by
 obtain ⟨f', cs', x', h1, h2⟩ := leaf_trod 6 (by rw [macLeaf]; exact List.contains_iff_mem.1 h) ht (List.getElem?_eq_getElem hl)
 obtain ⟨v, rfl⟩ := one_slice hT h1
 exact ⟨f', v, x', (List.getElem?_eq_getElem hl).trans h2.symm, h1⟩
theorem mac_int {o fuel : Nat} {k : IntKind} {t' : TypeId} {cs : List Value} {x : DataW H × List MemPlace} (hT : Tryz.prog.underlying t' = some (.int k)) (h : macLv.contains (o, t') = true) (ht : DataW.trod enc Tryz.prog w base spare held fuel 38 cs = some x) (hl : o < cs.length) :
  ∃ m, cs[o]? = some (.int k m) ∧ (Lit.int k m).wf = true := leaf_int (n := 6) hT (by rw [macLeaf]; exact h) ht hl
theorem mac_string {o fuel : Nat} {cs : List Value} {x : DataW H × List MemPlace} (h : macLv.contains (o, 9) = true) (ht : DataW.trod enc Tryz.prog w base spare held fuel 38 cs = some x) (hl : o < cs.length) :
  ∃ m : List UInt8, cs[o]? = some (.string (str m)) ∧ m.length ≤ maxLen := leaf_string (n := 6) Tryz.underlying9 (by rw [macLeaf]; exact h) ht hl
theorem mac_bool {o fuel : Nat} {cs : List Value} {x : DataW H × List MemPlace} (h : macLv.contains (o, 4) = true) (ht : DataW.trod enc Tryz.prog w base spare held fuel 38 cs = some x) (hl : o < cs.length) :
  ∃ m, cs[o]? = some (.bool m) := leaf_bool (n := 6) Tryz.underlying4 (by rw [macLeaf]; exact h) ht hl
theorem list17 {cs : List Value} (hl : cs.length = 17) : cs = (List.range 17).map fun i => cs.getD i undef := by
 apply List.ext_getElem?
 intro i
 by_cases hi : i < 17
 ·rw [List.getElem?_map, List.getElem?_range hi, List.getElem?_eq_getElem (by omega)]
  simp [List.getD_eq_getElem?_getD, List.getElem?_eq_getElem (show i < cs.length by omega)]
 ·rw [List.getElem?_eq_none (by omega), List.getElem?_eq_none (by simp; omega)]
theorem getD_of {cs : List Value} {i : Nat} {v : Value} (h : cs[i]? = some v) : cs.getD i undef = v := by rw [List.getD_eq_getElem?_getD, h]; rfl
end
end Go.Proofs.YtfaplefkakpgcaaGreatDoor
/- A value of numbers and bools is like itself, whatever its type. -/
namespace Go.Proofs.YtfaplefkakpgcaaGreatDoor
set_option linter.unusedVariables false
set_option linter.unusedSimpArgs false
open Go.RowKit
def LeafyK (P : Program) : Nat → TypeId → List (Option IntKind) → Bool
 | 0, _, _ => false
 | d + 1, t, ks => match P.underlying t with
  | some .bool => ks == [none]
  | some (.int q) => ks == [some q]
  | some (.array n e) => ks.length == P.cellsOf t && (List.range n).all fun i => LeafyK P d e ((ks.drop (i * P.cellsOf e)).take (P.cellsOf e))
  | some (.struct fs) => ks.length == P.cellsOf t && fs.toList.all fun f => LeafyK P d f.type ((ks.drop f.offset).take (P.cellsOf f.type))
  | _ => false
def valOf (P : Program) (t : TypeId) (cs : List Value) : Value := match P.underlying t with
 | some (.array _ _) => .agg cs.toArray
 | some (.struct _) => .agg cs.toArray
 | _ => cs.headD undef
section
variable {P : Program} (w : World)
theorem part_leafy {d : Nat} {e : TypeId} {ks : List (Option IntKind)} {vs : List Value} {xs : Array Value} {off : Nat} (hk : LeafyK P d e ks = true) (hl : vs.length = ks.length) (hc : (xs.toList.drop off).take (P.cellsOf e) = List.zipWith reto ks vs) :
  (part e xs off).run P w = .ok (valOf P e (List.zipWith reto ks vs)) w := by
 cases d with
 | zero => cases hk
 | succ d =>
  rw [LeafyK] at hk
  have agg : ∀ kd, P.underlying e = some kd → ((∃ n e', kd = .array n e') ∨ ∃ fs, kd = .struct fs) → (part e xs off).run P w = .ok (valOf P e (List.zipWith reto ks vs)) w := by
   intro kd hu hk
   obtain ⟨i, hi⟩ := info_of_underlying hu
   have hl : xs.extract off (off + P.cellsOf e) = (List.zipWith reto ks vs).toArray := by
    rw [← hc]
    apply Array.toList_inj.1
    rw [Array.toList_extract]
    simp [List.extract]
   rcases hk with ⟨n, e', rfl⟩ | ⟨fs, rfl⟩ <;> simp [part, isAgg, run_underlying hu, run_sizeOf w hi, valOf, hu, hl]
  split at hk
  ·rename_i hu
   obtain rfl : ks = [none] := by simpa using hk
   obtain ⟨v, rfl⟩ : ∃ v, vs = [v] := by
    match vs, hl with
    | [v], _ => exact ⟨v, rfl⟩
   have h1 := getElem?_of_chunk (a := reto none v) hc
   rw [run_part_plain w (by simp [Program.plainKey, hu]) h1]
   simp [valOf, hu]
  ·rename_i q hu
   obtain rfl : ks = [some q] := by simpa using hk
   obtain ⟨v, rfl⟩ : ∃ v, vs = [v] := by
    match vs, hl with
    | [v], _ => exact ⟨v, rfl⟩
   have h1 := getElem?_of_chunk (a := reto (some q) v) hc
   rw [run_part_plain w (by simp [Program.plainKey, hu]) h1]
   simp [valOf, hu]
  ·rename_i n e' hu
   exact agg _ hu (.inl ⟨n, e', rfl⟩)
  ·rename_i fs hu
   exact agg _ hu (.inr ⟨fs, rfl⟩)
  ·cases hk
theorem chunk_zip {ks : List (Option IntKind)} {vs : List Value} (o c : Nat) : ((List.zipWith reto ks vs).toArray.toList.drop o).take c = List.zipWith reto ((ks.drop o).take c) ((vs.drop o).take c) := by
 rw [List.toList_toArray, List.drop_zipWith, List.take_zipWith]
theorem chunk_len {ks : List (Option IntKind)} {vs : List Value} (hl : vs.length = ks.length) (o c : Nat) : ((vs.drop o).take c).length = ((ks.drop o).take c).length := by
 simp only [List.length_take, List.length_drop, hl]
theorem self_eq : ∀ (m : Nat) (t : TypeId) (ks : List (Option IntKind)) (vs : List Value) (d : Nat), P.keyTypeAt m t = true → LeafyK P m t ks = true → vs.length = ks.length →
  (Op.equalIn (d + m) t (valOf P t (List.zipWith reto ks vs)) (valOf P t (List.zipWith reto ks vs))).run P w = .ok true w
 | 0, _, _, _, _, h, _, _ => by simp [Program.keyTypeAt] at h
 | m + 1, t, ks, vs, d, ht, hk, hl => by
  rw [Program.keyTypeAt] at ht
  rw [LeafyK] at hk
  cases hu : P.underlying t with
  | none => simp [hu] at ht
  | some kd =>
   cases kd
   case bool =>
    simp only [hu] at hk
    obtain rfl : ks = [none] := by simpa using hk
    obtain ⟨v, rfl⟩ : ∃ v, vs = [v] := by
     match vs, hl with
     | [v], _ => exact ⟨v, rfl⟩
    have e : valOf P t (List.zipWith reto [none] [v]) = .bool (gbV v) := by simp [valOf, hu, reto]
    rw [e]
    exact (run_equalIn_bool w (d + m) t _ _ hu).trans (by simp)
   case int q =>
    simp only [hu] at hk
    obtain rfl : ks = [some q] := by simpa using hk
    obtain ⟨v, rfl⟩ : ∃ v, vs = [v] := by
     match vs, hl with
     | [v], _ => exact ⟨v, rfl⟩
    have e : valOf P t (List.zipWith reto [some q] [v]) = .int q (giV v) := by simp [valOf, hu, reto]
    rw [e]
    exact (run_equalIn_int w (d + m) t q q _ _ hu).trans (by simp)
   case array n e =>
    simp only [hu, Bool.and_eq_true, beq_iff_eq] at hk ht
    have ev : valOf P t (List.zipWith reto ks vs) = .agg (List.zipWith reto ks vs).toArray := by simp [valOf, hu]
    have hpe : ∃ i, P.info? e = some i := by
     cases m with
     | zero => simp [Program.keyTypeAt] at ht
     | succ m' =>
      unfold Program.keyTypeAt at ht
      cases hue : P.underlying e with
      | none => simp [hue] at ht
      | some _ => exact info_of_underlying hue
    obtain ⟨i, hi⟩ := hpe
    rw [ev, show d + (m + 1) = (d + m) + 1 from rfl, run_equalIn_array w (d + m) _ _ hu hi]
    have all := List.all_eq_true.1 hk.2
    generalize List.range n = is at all
    induction is with
    | nil => simp [Op.eqItems]
    | cons j is ih =>
     have hj := all j List.mem_cons_self
     have hp := part_leafy w hj (chunk_len hl (j * P.cellsOf e) (P.cellsOf e)) (chunk_zip (ks := ks) (vs := vs) _ _)
     have hs := self_eq m e _ _ d ht hj (chunk_len hl (j * P.cellsOf e) (P.cellsOf e))
     simp only [Op.eqItems, Sem.run_bind, hp, hs, Result.andThen_ok]
     simpa using ih (fun x hx => all x (List.mem_cons_of_mem _ hx))
   case struct fs =>
    simp only [hu, Bool.and_eq_true, Bool.not_eq_true', beq_iff_eq] at hk ht
    have ev : valOf P t (List.zipWith reto ks vs) = .agg (List.zipWith reto ks vs).toArray := by simp [valOf, hu]
    have hfs : P.fieldsOf t = fs := by simp [Program.fieldsOf, hu]
    rw [ev, show d + (m + 1) = (d + m) + 1 from rfl, run_equalIn_struct w (d + m) t _ _ (by rw [hfs]; exact hu) ht.2, hfs]
    have all := List.all_eq_true.1 hk.2
    have names : ∀ f ∈ fs.toList, (f.name != "_") = true ∧ P.keyTypeAt m f.type = true := fun f hf => by
     have := Array.all_eq_true_iff_forall_mem.1 ht.1.1 f (Array.mem_toList_iff.1 hf)
     simpa only [Bool.and_eq_true] using this
    generalize fs.toList = l at all names
    induction l with
    | nil => simp [Op.eqFields]
    | cons f l ih =>
     have hj := all f List.mem_cons_self
     obtain ⟨hn, hkt⟩ := names f List.mem_cons_self
     have hn' : f.name ≠ "_" := by simpa using hn
     have hp := part_leafy w hj (chunk_len hl f.offset (P.cellsOf f.type)) (chunk_zip (ks := ks) (vs := vs) _ _)
     have hs := self_eq m f.type _ _ d hkt hj (chunk_len hl f.offset (P.cellsOf f.type))
     simp only [Op.eqFields, hn', ne_eq, not_false_eq_true, if_true, Sem.run_bind, hp, hs, Result.andThen_ok]
     simpa using ih (fun x hx => all x (List.mem_cons_of_mem _ hx)) (fun x hx => names x (List.mem_cons_of_mem _ hx))
   all_goals first | (simp [hu] at ht; done) | (simp [hu] at hk; done)
end
end Go.Proofs.YtfaplefkakpgcaaGreatDoor
