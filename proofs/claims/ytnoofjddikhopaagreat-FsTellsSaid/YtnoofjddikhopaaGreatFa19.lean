/- Rows of a directory's entries in memory. -/
import Derived.Test.YtnoofjddikhopaaGreatFa17
import Derived.Test.YtnoofjddikhopaaGreatFa14
import Derived.Test.YtnoofjddikhopaaGreatFa11
import Derived.Test.YtnoofjddikhopaaGreatFa9
import Derived.Test.YtnoofjddikhopaaGreatFa10
import Derived.Test.YtnoofjddikhopaaGreatFa8
import Derived.Test.YtnoofjddikhopaaGreatFa5
namespace Go.Proofs.YtnoofjddikhopaaGreat
set_option linter.unusedVariables false
set_option linter.unusedSimpArgs false
open Go.RowKit
/-- entries as cells -/
def entL (l : List Ent) : List Value := l.flatMap fun x => [Value.string (str x.1), Value.int .i64 x.2]
theorem entL_len (l : List Ent) : (entL l).length = l.length * 2 := by
  induction l with
  | nil => rfl
  | cons x l ih =>
    have : entL (x :: l) = Value.string (str x.1) :: Value.int .i64 x.2 :: entL l := rfl
    rw [this]; simp only [List.length_cons, ih]; omega
theorem entL_at : ∀ (l : List Ent) (j : Nat) (h : j < l.length), (entL l)[j * 2]? = some (.string (str l[j].1)) ∧ (entL l)[j * 2 + 1]? = some (.int .i64 l[j].2)
  | x :: l, 0, _ => ⟨rfl, rfl⟩
  | x :: l, j + 1, h => by
    have e : entL (x :: l) = Value.string (str x.1) :: Value.int .i64 x.2 :: entL l := rfl
    have ih := entL_at l j (by simpa using h)
    rw [e, show (j + 1) * 2 = j * 2 + 1 + 1 by omega]
    simp only [List.getElem?_cons_succ]
    exact ih
theorem entL_append (a b : List Ent) : entL (a ++ b) = entL a ++ entL b := by simp [entL]
theorem entL_one (l : List Ent) : ∀ u ∈ entL l, u.oneCell' = true := by
  intro u hu
  simp only [entL, List.mem_flatMap, List.mem_cons, List.not_mem_nil, or_false] at hu
  obtain ⟨x, _, h | h⟩ := hu <;> (rw [h]; rfl)
/-- the slice with the address A and n places holds these entries -/
def Ents (w : World) (A : Option Addr) (n : Nat) (l : List Ent) : Prop :=
  n = l.length ∧ (0 < n → ∃ b o, A = some ⟨b, o, none⟩ ∧ ∀ (j : Nat) (h : j < l.length), w.cell? ⟨b, o + j * 2, none⟩ = some (.string (str l[j].1)) ∧ w.cell? ⟨b, o + j * 2 + 1, none⟩ = some (.int .i64 l[j].2))
theorem Ents.ext {w w' : World} {A : Option Addr} {n : Nat} {l : List Ent} (h : Ents w A n l) (k : Ext w w') : Ents w' A n l :=
  ⟨h.1, fun hn => by obtain ⟨b, o, e, hc⟩ := h.2 hn; exact ⟨b, o, e, fun j hj => ⟨k.keep (hc j hj).1, k.keep (hc j hj).2⟩⟩⟩
theorem entInfo : (Tryz.prog.info? 79).map (fun i => (i.zero, i.size, i.bytes)) = some (some (.agg #[.string ⟨#[]⟩, .int .i64 0]), 2, 24) := by kernel_rfl
/-- a row of entries of the call's own -/
def OwnE (w : World) (base : Nat) (u : Value) (l : List Ent) : Prop := w.ownsRow base 79 2 u l.length (entL l)
theorem OwnE.nil (w : World) (base : Nat) : OwnE w base (.slice none 0 0) [] := World.ownsRow_nil _ _ _ _
theorem OwnE.ext {w w' : World} {base : Nat} {u : Value} {l : List Ent} (h : OwnE w base u l) (k : Ext w w') : OwnE w' base u l := own_ext h k
theorem OwnE.base {w : World} {base base' : Nat} {u : Value} {l : List Ent} (h : OwnE w base u l) (k : base' ≤ base) : OwnE w base' u l := own_base h k
theorem OwnE.form {w : World} {base : Nat} {u : Value} {l : List Ent} (h : OwnE w base u l) : ∃ A cap, u = .slice A l.length cap ∧ Ents w A l.length l := by
  rcases h.2 with ⟨rfl, h0⟩ | ⟨g, cap, cur, rfl, hb, hh, hcap, _, hsz, htake⟩
  · exact ⟨none, 0, by rw [h0], rfl, fun hn => by omega⟩
  · refine ⟨_, cap, rfl, rfl, fun hn => ⟨g, 0, rfl, fun j hj => ?_⟩⟩
    have hc : ∀ i, i < 2 * l.length → w.cell? ⟨g, 0 + i, none⟩ = (entL l)[i]? := fun i hi => by
      rw [Nat.zero_add, cell_of_row w g i cur _ _ hh, ← htake, List.getElem?_take, if_pos (by omega)]; simp
    have := entL_at l j hj
    exact ⟨(hc _ (by omega)).trans this.1, (by rw [Nat.add_assoc]; exact (hc _ (by omega)).trans this.2)⟩
section
variable {ops : Array Oper} {rest : List Oper} {o : Oper} {a : Act} {w : World} {Q : Exit → Act → World → Prop}
theorem entSize : (Tryz.prog.info? 79).map (·.size) = some 2 := by kernel_rfl
theorem wp_st_ent (x y : Operand) (hgd : o.guard = none) (ho : o.op = .store 79 x y) (g : Nat) (s : ByteArray) (i : Int) (old : Array Value) (t : TypeId) (hx : a.eval x = .pointer (some ⟨g, 0, none⟩)) (hy : a.eval y = .agg #[.string s, .int .i64 i])
    (hb : Box w g t old) (hold : old.size = 2) (hK : ∀ w', Box w' g t #[.string s, .int .i64 i] → w.grownBy w' (some g) → wpList Tryz.prog ops Q rest (a.put o.dst undef) w') : wpList Tryz.prog ops Q (o :: rest) a w :=
  wp_st _ x y hgd ho g _ _ t hx hy hb entSize hold (by simp [Value.oneCell']) hK
theorem wp_ld_ent (x : Operand) (hgd : o.guard = none) (ho : o.op = .load 79 x) (g : Nat) (cs : Array Value) (t : TypeId) (hx : a.eval x = .pointer (some ⟨g, 0, none⟩))
    (hb : Box w g t cs) (hl : cs.size = 2) (hK : wpList Tryz.prog ops Q rest (a.put o.dst (.agg cs)) w) : wpList Tryz.prog ops Q (o :: rest) a w :=
  wp_ld _ x hgd ho g _ t _ hx hb Tryz.underlying79 rfl (by rw [hl]; exact entSize) hK
end
theorem wp_app_ent {ops : Array Oper} {rest : List Oper} {o : Oper} {a : Act} {w : World} {Q : Exit → Act → World → Prop} {B g n : Nat} {u : Value} {l : List Ent} {y : Ent} (hgd : o.guard = none) (sl x : Operand)
    (ho : o.op = .call { callee := .builtin .append, args := #[sl, x], argTypes := #[64, 64] }) (hs : a.eval sl = u) (hx : a.eval x = .slice (some ⟨g, 0, none⟩) 1 1)
    (h0 : w.ownsRow B 79 2 u n (entL l)) (hb : Box w g 79 #[.string (str y.1), .int .i64 y.2]) (hn : n ≤ 1000000) (hB : B ≤ w.heap.size)
    (hK : ∀ u' w', w'.ownsRow B 79 2 u' (n + 1) (entL (l ++ [y])) → w.grownBy w' u.ownBlock → wpList Tryz.prog ops Q rest (a.put o.dst u') w') : wpList Tryz.prog ops Q (o :: rest) a w := by
  refine wpList_plain hgd fun K hK' => ?_
  obtain ⟨i, hi, hz, h1, h2⟩ := info_parts entInfo
  obtain ⟨v', w', hr, ho2, hg, _, _⟩ := run_append_own_at (P := Tryz.prog) w B 64 o.type 79 i _ 2 24 Tryz.underlying64 hi hz h1 h2 rfl (by decide) u n (entL l) h0 ⟨g, 0, none⟩ 1 1 [.string (str y.1), .int .i64 y.2] rfl (fun j u hj => by
    have ha : (⟨g, 0, none⟩ : Addr).add j = ⟨g, j, none⟩ := by unfold Addr.add; split <;> simp_all
    rw [ha, hb.cell j]; simpa using hj) (fun u hu => by rcases (by simpa using hu : u = .string (str y.1) ∨ u = .int .i64 y.2) with rfl | rfl <;> rfl) (by unfold maxLen; omega) (by omega) hB
  unfold Oper.wp execOp
  simp only [ho, resolve, invoke, builtin, Sem.run_bind, Sem.run_pure, Result.andThen_ok, List.map_toArray, List.map_cons, List.map_nil, hs, hx, hr]
  refine hK' _ _ (hK v' w' ?_ hg)
  rw [entL_append]
  exact ho2
theorem OwnE.snoc {w : World} {B n : Nat} {u : Value} {l : List Ent} {y : Ent} (h : w.ownsRow B 79 2 u (n + 1) (entL (l ++ [y]))) (hn : n = l.length) : OwnE w B u (l ++ [y]) := by
  subst hn; unfold OwnE; rw [List.length_append]; exact h
theorem ents_take {w : World} {A : Option Addr} {n : Nat} {l : List Ent} (h : Ents w A n l) (m : Nat) (hm : m ≤ n) : Ents w A m (l.take m) := by
  have h1 := h.1
  refine ⟨by rw [List.length_take]; omega, fun hn => ?_⟩
  obtain ⟨b, o, e, hc⟩ := h.2 (by omega)
  refine ⟨b, o, e, fun j hj => ?_⟩
  have hj' : j < l.length := by rw [List.length_take] at hj; omega
  rw [List.getElem_take]
  exact hc j hj'
end Go.Proofs.YtnoofjddikhopaaGreat
/- The blocks of a file, told one by one: numbers, first. -/
namespace Go.Proofs.YtnoofjddikhopaaGreat
set_option linter.unusedVariables false
set_option linter.unusedSimpArgs false
open Go.RowKit Go.Shelf
/-- the first k of seventy numbers -/
def partC (f : Nat → Int) (k : Nat) : Array Value := ((List.range 70).map fun j => Value.int .i64 (if j < k then f j else 0)).toArray
theorem partC_size (f : Nat → Int) (k : Nat) : (partC f k).size = 70 := by simp [partC]
theorem partC_set (f : Nat → Int) (k : Nat) : (partC f k).setIfInBounds k (.int .i64 (f k)) = partC f (k + 1) := by
  apply Array.ext_getElem?
  intro j
  unfold partC
  simp only [List.setIfInBounds_toArray, List.getElem?_toArray]
  rw [List.getElem?_set, List.getElem?_map, List.getElem?_map]
  by_cases hj : j < 70
  · rw [List.getElem?_range hj]
    by_cases e : k = j
    · subst e
      rw [if_pos rfl, if_pos (by simp; omega)]
      simp
    · rw [if_neg e]
      simp only [Option.map_some]
      congr 2
      by_cases h1 : j < k
      · rw [if_pos h1, if_pos (by omega)]
      · rw [if_neg h1, if_neg (by omega)]
  · rw [List.getElem?_eq_none (by simp; omega)]
    by_cases e : k = j
    · subst e
      rw [if_pos rfl, if_neg (by simp; omega)]; rfl
    · rw [if_neg e]; rfl
theorem partC_one (f : Nat → Int) (k : Nat) : (partC f k).all (·.oneCell') = true := all_oneCell_toArray (fun v hv => by
  obtain ⟨j, _, rfl⟩ := List.mem_map.1 hv
  rfl)
theorem partC_at (f : Nat → Int) (k j : Nat) (hj : j < 70) (hk : j < k) : (partC f k)[j]? = some (.int .i64 (f j)) := by
  unfold partC
  rw [List.getElem?_toArray, List.getElem?_map, List.getElem?_range hj]
  simp only [Option.map_some, if_pos hk]
theorem partC_zero (f : Nat → Int) : partC f 0 = Array.replicate 70 (.int .i64 0) := by
  unfold partC
  simp only [Nat.not_lt_zero, if_false]
  rfl
theorem arr70 : (Tryz.prog.info? 125).map (·.size) = some 70 := by kernel_rfl
set_option maxHeartbeats 4000000 in
set_option maxRecDepth 100000 in
theorem fnumbers_any (g : Nat) (s : Sl) (F : FileT) (w : World) (h : Box w g 83 (fileC s F)) (hr : Strs w s.A s.n F.v) (hF : FileOk F) :
    Calls Tryz.prog 92 #[.pointer (some ⟨g, 0, none⟩)] w fun e w' => e = .returned (.agg (partC (atP F.v F.I F.x) 70)) ∧ Ext w w' := by
  have HAt := Lib.hid (fun k hk w h hr => fat_any g s F k w h hr hF hk)
  have HBX := Lib.hid h
  have HR := Lib.hid hr
  clear h hr hF
  generalize atP F.v F.I F.x = f at *
  have hP := Lib.hid (partC_zero f)
  go_enter Tryz.func92, Tryz.ntmps92
  go_upto_region 2 with fail
  have hz70 : Tryz.zeroCells125 = Array.replicate 70 (.int .i64 0) := by kernel_rfl
  rw [hz70, ← hP.out]
  have x0 := ((Ext.refl w).alloc (.cells (partC f 0) 125)).alloc (.cells (partC f 0) 125)
  have b2 := (Box.new w 125 (partC f 0)).ext ((Ext.refl _).alloc (.cells (partC f 0) 125))
  have b3 := Box.new (w.alloc (.cells (partC f 0) 125)) 125 (partC f 0)
  rw [World.size_alloc] at b3
  clear hz70 hP
  generalize (w.alloc (.cells (partC f 0) 125)).alloc (.cells (partC f 0) 125) = w1 at *
  generalize hG : w.heap.size = G at *
  go_upto_region 3 with fail
  go_loopw [4, 5] (fun _ i wx => ∃ k : Nat, k ≤ 70 ∧ i = .int .i64 k ∧ Ext w wx ∧ Box wx G 125 (partC f 0) ∧ Box wx (G + 1) 125 (partC f k)) (fun _ i _ => 70 - (intOf i).toNat)
  case atStart => exact ⟨0, by omega, rfl, x0, b2, b3⟩
  case round =>
    clear b2 b3 x0
    obtain ⟨k, hk, rfl, xk, c2, c3⟩ := hrel
    have HX := Lib.hid xk
    have C2 := Lib.hid c2
    have C3 := Lib.hid c3
    by_cases hlt : k < 70
    · have hki : (k : Int) < 70 := by omega
      have HAk := Lib.hid (HAt.out k hlt wr (HBX.out.ext xk) (HR.out.ext xk))
      clear xk c2 c3
      go_wp2_with (go_at_call 122; refine HAk.out.mono ?_; rintro e w4 ⟨rfl, x4⟩; have d3 := C3.out.ext x4; have f3 := d3.frozen k; have k3 : w4.cell? ⟨G + 1, k, none⟩ = some (.int .i64 0) := (d3.cell k).trans (by unfold partC; rw [List.getElem?_toArray, List.getElem?_map, List.getElem?_range hlt]; simp); have D3 := Lib.hid d3; have X4 := Lib.hid x4; clear d3 x4)
      go_roundw
      case rel => exact ⟨k + 1, by omega, by go_num, (HX.out.trans X4.out).setCell (by rw [hG]; exact Nat.le_succ _) _, (C2.out.ext X4.out).far (p := ⟨G + 1, k, none⟩) (by show G ≠ G + 1; omega) _, by have := D3.out.set k (.int .i64 (f k)); rw [partC_set] at this; exact this⟩
      case measure => simp [intOf]; omega
    · have hlt2 : ¬ (k : Int) < 70 := by omega
      obtain rfl : k = 70 := by omega
      clear xk c2 c3
      go_wp2_with (first
        | (refine wp_ld 125 (.tmp 3) rfl rfl (G + 1) (partC f 70) 125 _ rfl C3.out Tryz.underlying125 rfl (by rw [partC_size]; exact arr70) ?_)
        | (refine wp_st 125 (.tmp 2) (.tmp 14) rfl rfl G (partC f 70) _ 125 rfl rfl C2.out (by rw [partC_size]; exact arr70) (by rw [partC_size, partC_size]) (partC_one f 70) ?_; intro w6 b6 g6))
      exact bodyPost_ret (results_cell1 rfl _ _ G _ _ _ rfl b6 Tryz.underlying125 rfl (by rw [partC_size]; exact arr70)) rfl ⟨rfl, HX.out.grown g6 (fun j e => by cases e; rw [hG]; exact Nat.le_refl _)⟩
/-- what first hands out -/
def FirstR (f : Nat → Int) (c : Int) (w : World) (e : Ending) (w' : World) : Prop :=
  ∃ b1 b2, e = .returned (.func (.func 93) #[] #[.pointer (some ⟨b1, 0, none⟩), .pointer (some ⟨b2, 0, none⟩)]) ∧ Box w' b1 125 (partC f 70) ∧ Box w' b2 3 #[.int .i64 c] ∧ w.heap.size ≤ b1 ∧ w.heap.size ≤ b2 ∧ b1 ≠ b2
set_option maxHeartbeats 1000000 in
set_option maxRecDepth 100000 in
theorem ffirst_any (g : Nat) (s : Sl) (F : FileT) (c : Int) (w : World) (h : Box w g 83 (fileC s F)) (hr : Strs w s.A s.n F.v) (hF : FileOk F) :
    Calls Tryz.prog 51 #[.pointer (some ⟨g, 0, none⟩), .int .i64 c] w fun e w' => FirstR (atP F.v F.I F.x) c w e w' ∧ Ext w w' := by
  have hmf : ∀ (fn : Fn) (first cap : Array Value) (w : World), (Instr.makeFunc fn first cap).run Tryz.prog w = .ok (.func fn first cap) w := fun _ _ _ _ => rfl
  have x0 := (Ext.refl w).alloc (.cells #[.int .i64 c] 3)
  have b0 := Box.new w 3 #[.int .i64 c]
  have HN := Lib.hid (fnumbers_any g s F _ (h.ext x0) (hr.ext x0) hF)
  clear h hr hF
  generalize atP F.v F.I F.x = f at *
  go_enter Tryz.func51, Tryz.ntmps51
  go_upto_region 2 with (first
    | (go_at_call 92; refine HN.out.mono ?_; rintro e w2 ⟨rfl, x2⟩)
    | (refine wp_st 125 (.tmp 5) (.tmp 7) rfl rfl w2.heap.size (partC f 70) Tryz.zeroCells125 125 rfl rfl (Box.new _ _ _) (by rw [partC_size]; exact arr70) (by rw [partC_size]; kernel_rfl) (partC_one f 70) ?_; intro w3 b3 g3))
  have xa : Ext w2 (w2.alloc (.cells Tryz.zeroCells125 125)) := (Ext.refl w2).alloc _
  have x23 : Ext w2 w3 := xa.grown g3 (fun j e => by cases e; exact Nat.le_refl _)
  have b03 := (b0.ext x2).ext x23
  have xx := (x0.trans x2).trans x23
  have hlt := (b0.ext x2).lt
  have hsz := (x0.trans x2).size
  clear g3
  go_wp2_with fail
  go_ret
  exact ⟨⟨w2.heap.size, w.heap.size, rfl, b3, b03, hsz, Nat.le_refl _, by omega⟩, xx⟩
theorem wpListIn_load_row {F : Fence} {n : Nat} {P : Program} {ops : Array Oper} {rest : List Oper} {o : Oper} {a : Act} {w : World} {Q : Exit → Act → World → Prop} (hgd : o.guard = none) (ty : TypeId) (x : Operand) (ho : o.op = .load ty x)
    (g : Nat) (hx : a.eval x = .pointer (some ⟨g, 0, none⟩)) (t : TypeId) (cs : Array Value) (fr : Nat × Nat) (d : TypeDesc) (hg : w.heap[g]? = some (.cells cs t fr))
    (hu : P.underlying ty = some d) (hd : (match d with | .struct _ | .array _ _ => true | _ => false) = true) (hi : (P.info? ty).map (·.size) = some cs.size)
    (h : wpListIn F n P ops Q rest (a.put o.dst (.agg cs)) w) : wpListIn F n P ops Q (o :: rest) a w := by
  refine wpListIn_plain hgd fun K hK' => ?_
  unfold Oper.wpIn
  refine ⟨?_, ?_⟩
  · simp [Oper.about, ho]
  · rw [Oper.semAt_plain F _ _ (by rw [ho]; intro c hc'; cases hc')]
    simp only [execOp, ho, hx, Instr.loadAt, Instr.sureAddr, Sem.run_bind, Sem.run_pure, Result.andThen_ok, run_loadVar_row w g t ty cs fr d hg hu hd hi]
    exact hK' _ _ h
theorem run_indexC {P : Program} {t e n : Nat} {k : IntKind} {cs : Array Value} {i : Nat} {v : Value} (w : World) (hu : P.underlying t = some (.array n e)) (he : P.underlying e = some (.int k)) (hs : (P.info? e).map (·.size) = some 1) (hin : i < n) (hv : cs[i]? = some v) (h1 : v.oneCell' = true) :
    (Instr.index t (.agg cs) (.int .i64 (i : Int))).run P w = .ok v w := by
  cases hq : P.info? e with
  | none => simp [hq] at hs
  | some j =>
    have hz : j.size = 1 := by simpa [hq] using hs
    have hagg : (isAgg e).run P w = .ok false w := by
      unfold isAgg
      rw [Sem.run_bind, run_underlying he w]
      rfl
    have h1 : (i : Int) < (n : Int) := by omega
    simp [Instr.index, asIntOf, run_underlying hu, h1, sizeOf, typeInfo, hq, part, Sem.run_bind, hagg, hz, hv]
    intro hc; exact absurd hc (by omega)
/-- two blocks are kept -/
def KpB (b1 b2 : Nat) (W W' : World) : Prop := ∀ (cs : Array Value) (t : TypeId), (W.heap[b1]? = some (Obj.cells cs t (0, 0)) → W'.heap[b1]? = some (Obj.cells cs t (0, 0))) ∧ (W.heap[b2]? = some (Obj.cells cs t (0, 0)) → W'.heap[b2]? = some (Obj.cells cs t (0, 0)))
theorem KpB.trans {b1 b2 : Nat} {A B C : World} (h : KpB b1 b2 A B) (k : KpB b1 b2 B C) : KpB b1 b2 A C := fun cs t => ⟨fun e => (k cs t).1 ((h cs t).1 e), fun e => (k cs t).2 ((h cs t).2 e)⟩
theorem KpB.ext {b1 b2 : Nat} {W W' : World} (h : Ext W W') : KpB b1 b2 W W' := fun cs t => ⟨fun e => Box.ext e h, fun e => Box.ext e h⟩
theorem KpB.book {b1 b2 : Nat} {w : World} (W : World) (l : Nat) (o o' : Obj) (_ : w.heap.size ≤ l) (h : W.heap[l]? = some o) (hc : o.isCells = false) (_ : o.isWalk = false) : KpB b1 b2 W (W.putObj l o') := by
  have key : ∀ b (cs : Array Value) (t : TypeId), W.heap[b]? = some (Obj.cells cs t (0, 0)) → (W.putObj l o').heap[b]? = some (Obj.cells cs t (0, 0)) := fun b cs t hb => by
    have hne : b ≠ l := by rintro rfl; rw [h] at hb; cases hb; cases hc
    have := (grownBy_putObj' W l o').block b (Array.getElem?_eq_some_iff.1 hb).1 (fun e => hne (by cases e; rfl))
    exact this.trans hb
  exact fun cs t => ⟨key b1 cs t, key b2 cs t⟩
def benc (f : Nat → Int) (k : Nat) : Array Value := #[.int .i64 (k : Int), .int .i64 (f k)]
set_option maxRecDepth 100000 in
set_option maxHeartbeats 4000000 in
theorem first1_in (n : Nat) (hn : 1 ≤ n) (l b1 b2 c : Nat) (f : Nat → Int) (J Jx : List Nat → World → Prop) (W : World) (hJ : AbidesFrom W.heap.size J)
    (hY : ∀ pre x W1, J pre W1 → pre.length < 70 → YieldAt Fence.wide (n - 1) Tryz.prog l (benc f x) W1 fun e W' =>
      (e = .returned (.bool true) ∧ J (pre ++ [x]) W' ∧ KpB b1 b2 W1 W') ∨ (e = .returned (.bool false) ∧ Jx (pre ++ [x]) W'))
    (h1 : Box W b1 125 (partC f 70)) (h2 : Box W b2 3 #[.int .i64 (c : Int)]) (h0 : J [] W) :
    CallsIn Fence.wide n Tryz.prog 93 #[.func (.yield l) #[] #[], .pointer (some ⟨b1, 0, none⟩), .pointer (some ⟨b2, 0, none⟩)] W fun e W' => (∃ v, e = .returned v) ∧
      ((∃ ys, ys = List.range (min c 70) ∧ J ys W') ∨ (∃ pre, True ∧ Jx pre W')) := by
  generalize hL0 : List.range (min c 70) = L
  have hL := Lib.hid hL0
  clear hL0
  refine callsIn_of_wp Tryz.func93 rfl trivial ?_ rfl
  simp only [Tryz.ntmps93, List.size_toArray, List.length_cons, List.length_nil, Nat.reduceAdd, Nat.reduceSub, Array.replicate_succ, Array.replicate_zero, List.push_toArray, List.append_toArray, List.nil_append, List.cons_append]
  gi_wp2_with (refine wpListIn_load_row rfl 125 (.tmp 1) rfl b1 rfl 125 _ (0, 0) _ h1 Tryz.underlying125 rfl (by rw [partC_size]; exact arr70) ?_)
  gi_loopw [4, 5, 7] (fun _ _ i wx => ∃ k : Nat, k ≤ 70 ∧ k ≤ c ∧ i = .int .i64 k ∧ J (List.range k) wx ∧ Box wx b1 125 (partC f 70) ∧ Box wx b2 3 #[.int .i64 (c : Int)]) (fun _ _ i _ => 70 - (intOf i).toNat)
  case atStart => exact ⟨0, by omega, by omega, rfl, h0, h1, h2⟩
  case round =>
    obtain ⟨k, hk, hkc, rfl, hJs, hB1, hB2⟩ := hrel
    by_cases hlt : k < 70
    · have hki : (k : Int) < 70 := by omega
      have c2 := hB2.cell 0
      simp only [List.getElem?_toArray, List.getElem?_cons_zero] at c2
      have hix : ∀ w, (Instr.index 125 (.agg (partC f 70)) (.int .i64 (k : Int))).run Tryz.prog w = .ok (.int .i64 (f k)) w := fun w => run_indexC w Tryz.underlying125 Tryz.underlying3 (by kernel_rfl) hlt (partC_at f 70 k hlt hlt) rfl
      by_cases hc : c ≤ k
      · have hci : (c : Int) ≤ (k : Int) := by omega
        obtain rfl : k = c := by omega
        gi_wp2
        rename_i hKK _ _ _ _
        refine ⟨fun f hf => (by cases hf), hKK _ _ ?_⟩
        clear hKK
        gi_wp2
        refine bodyPost_ret (results_none rfl _ _ _) rfl ?_
        have hJL : J L wr := by rw [← hL.out, Nat.min_eq_left (by omega)]; exact hJs
        first
          | exact ⟨⟨_, rfl⟩, .inl ⟨_, rfl, hJL⟩⟩
          | exact ⟨⟨_, rfl⟩, .inl hJL⟩
      · have hci : ¬ (c : Int) ≤ (k : Int) := by omega
        obtain ⟨fn, tmps, assign, body, hy, hR⟩ := hY (List.range k) k _ hJs (by rw [List.length_range]; exact hlt)
        have hy' : (Instr.yield l #[.int .i64 (k : Int), .int .i64 (f k)]).run Tryz.prog wr = .ok (.round l fn tmps assign body) wr := hy
        clear hy
        gi_wp2
        refine hR.mono ?_
        rintro e W3 (⟨rfl, hJ3, hk3⟩ | ⟨rfl, hJx3⟩)
        · gi_wp2
          go_roundw
          case rel => exact ⟨k + 1, by omega, by omega, by go_num, by rw [List.range_succ]; exact hJ3, (hk3 _ _).1 hB1, (hk3 _ _).2 hB2⟩
          case measure => simp [intOf]; omega
        · gi_wp2
          refine bodyPost_ret (results_none rfl _ _ _) rfl ?_
          exact ⟨⟨_, rfl⟩, .inr ⟨_, trivial, hJx3⟩⟩
    · have hki : ¬ (k : Int) < 70 := by omega
      obtain rfl : k = 70 := by omega
      gi_wp2
      refine bodyPost_end (results_none rfl _ _ _) rfl ?_
      have hJL : J L wr := by rw [← hL.out, Nat.min_eq_right (by omega)]; exact hJs
      first
        | exact ⟨⟨_, rfl⟩, .inl ⟨_, rfl, hJL⟩⟩
        | exact ⟨⟨_, rfl⟩, .inl hJL⟩
/-- the value of first gives the numbers of the first c blocks, whatever the body does, if it keeps the two blocks -/
theorem first_stops (n : Nat) (hn : 1 ≤ n) (b1 b2 c : Nat) (f : Nat → Int) (w : World) (h1 : Box w b1 125 (partC f 70)) (h2 : Box w b2 3 #[.int .i64 (c : Int)]) :
    SeqStopsK Fence.wide n Tryz.prog 93 #[.pointer (some ⟨b1, 0, none⟩), .pointer (some ⟨b2, 0, none⟩)] (benc f) (KpB b1 b2) (fun ys => ys = List.range (min c 70)) (fun _ => True) 70 w := fun l J Jx W hW hJ _ hY h0 =>
  first1_in n hn l b1 b2 c f J Jx W hJ hY (h1.ext hW) (h2.ext hW) h0
end Go.Proofs.YtnoofjddikhopaaGreat
/- extent.Count on a volume that is one. -/
namespace Go.Proofs.YtnoofjddikhopaaGreat
set_option linter.unusedVariables false
set_option linter.unusedSimpArgs false
open Go.RowKit Go.Shelf
attribute [local go_sem] Oper.semAt_some
/-- how many of these blocks are there -/
def hereN (f : Nat → Int) (l : List Nat) : Nat := (l.filter fun k => f k != -1).length
theorem hereN_snoc (f : Nat → Int) (l : List Nat) (k : Nat) : hereN f (l ++ [k]) = hereN f l + (if f k = -1 then 0 else 1) := by
  unfold hereN
  rw [List.filter_append, List.length_append]
  by_cases h : f k = -1
  · simp [h]
  · simp [h]
theorem hereN_le (f : Nat → Int) (l : List Nat) : hereN f l ≤ l.length := List.length_filter_le _ _
def countF (F : FileT) : Int := (hereN (atP F.v F.I F.x) (List.range 70) : Int) + (if isB F.v F.I (F.x.getD 10 0) then 1 else 0) + (if isB F.v F.I (F.x.getD 11 0) then 1 else 0)
theorem KpB.set {b1 b2 : Nat} {A W : World} (h : KpB b1 b2 A W) (p : Addr) (h1 : b1 ≠ p.block) (h2 : b2 ≠ p.block) (u : Value) : KpB b1 b2 A (W.setCell p u) := h.trans fun cs t =>
  ⟨fun e => (Below.heap_setCell W p u b1 h1).trans e, fun e => (Below.heap_setCell W p u b2 h2).trans e⟩
theorem own_strsN {w : World} {B b cap : Nat} {v : List (List UInt8)} (own : w.ownsRow B 9 1 (.slice (some ⟨b, 0, none⟩) v.length cap) v.length (strL v)) : Strs w (some ⟨b, 0, none⟩) v.length v :=
  ⟨rfl, fun _ => ⟨b, 0, rfl, fun j hj => by rw [Nat.zero_add]; exact (own.cellAt j (by omega)).trans (by simp [strL, hj])⟩⟩
set_option maxHeartbeats 4000000 in
set_option maxRecDepth 100000 in
theorem fcount_yes (A : Option Addr) (n c : Nat) (v : List (List UInt8)) (I k : Int) (w : World) (hv : Strs w A n v) (hg : Good v I) (hk1 : 1 ≤ k) (hk2 : k ≤ I) :
    Calls Tryz.prog 136 #[.slice A n c, .int .i64 k] w fun e w' => e = .returned (.int .i64 (countF (fileOf v I k))) ∧ Ext w w' := by
  have HO := Lib.hid (fun w h => opened_yes A n c v I k w h hg hk1 hk2)
  have HFO := Lib.hid (fun (B g : Nat) (w : World) (s : Sl) hB hs hbx own => FileIn.of_opened (B := B) (w := w) (g := g) (s := s) hg hk1 hk2 hB hs hbx own)
  have HV := Lib.hid hv
  clear hv hg hk1 hk2
  generalize hG : w.heap.size = G at *
  refine (callsIn_wide (n := 6)).1 ?_
  refine callsIn_of_wp_marks Tryz.func136 rfl trivial ?_ rfl
  simp only [Tryz.ntmps136, List.size_toArray, List.length_cons, List.length_nil, Nat.reduceAdd, Nat.reduceSub, Array.replicate_succ, Array.replicate_zero, List.push_toArray, List.append_toArray, List.nil_append, List.cons_append]
  refine wpIn_wide.2 ?_
  go_upto_region 2 with (first
    | (go_at_call 49; refine (HO.out _ HV.out).mono ?_; rintro e w2 ⟨⟨s, rfl, hsn, own2⟩, x2⟩)
    | (refine wp_st_file (.tmp 5) (.tmp 14) rfl rfl w2.heap.size s (fileOf v I k) _ 83 rfl rfl (Box.new _ _ _) rfl ?_; intro w3 b3 g3))
  have xa : Ext w2 (w2.alloc (.cells fileZ 83)) := (Ext.refl w2).alloc _
  have x23 : Ext w2 w3 := xa.grown g3 (fun j e => by cases e; exact Nat.le_refl _)
  have own3 := (own_ext own2 xa).kept g3 (.inr (own_ne (own_ext own2 xa) (Box.new w2 83 fileZ) (by decide)).symm)
  rw [hG] at own3
  have hF0 := HFO.out G w2.heap.size w3 s (by rw [← hG]; exact x2.size) hsn b3 own3
  have HX := Lib.hid (x2.trans x23)
  clear HO HFO HV own2 hsn b3 own3 xa x23 x2 g3
  generalize w2.heap.size = g at *
  generalize hFO : fileOf v I k = F at *
  have HFE := Lib.hid hFO
  clear hFO
  obtain ⟨hOk, hBg, b, cap, hbx, own⟩ := hF0
  generalize fileC s ⟨v, I, k, inoAt v k⟩ = fc at *
  have hr := own_strsN own
  have b7 := Box.new w3 3 #[.int .i64 0]
  have x4 : Ext w3 (w3.alloc (.cells #[.int .i64 0] 3)) := (Ext.refl w3).alloc _
  have HFI := Lib.hid (ffirst_any g ⟨some ⟨b, 0, none⟩, F.v.length, cap⟩ F 70 _ (hbx.ext x4) (hr.ext x4) hOk)
  have hbx4 := hbx.ext x4
  have X4 := HX.out.trans x4
  have hlt := hbx.lt
  have hGw : G ≤ w3.heap.size := by rw [← hG]; exact HX.out.size
  clear HX own hbx x4 hr
  have HCF := Lib.hid (show countF F = (hereN (atP F.v F.I F.x) (List.range (min 70 70)) : Int) + (if isB F.v F.I (F.x.getD 10 0) then 1 else 0) + (if isB F.v F.I (F.x.getD 11 0) then 1 else 0) from rfl)
  generalize hf : atP F.v F.I F.x = f at *
  clear hf
  go_upto_region 5 with fail
  generalize w3.alloc (.cells #[.int .i64 0] 3) = w4 at *
  generalize hE : w3.heap.size = E at *
  clear hE w3
  go_wp2_with (go_at_call 51; refine HFI.out.mono ?_; rintro e w5 ⟨⟨b1, b2, rfl, hb1, hb2, le1, le2, ne12⟩, x5⟩)
  refine (wpIn_wide (n := 6)).1 ?_
  gi_wp2_with fail
  have hE4 := b7.lt
  have b7' := b7.ext x5
  have bg' := hbx4.ext x5
  have X5 := X4.trans x5
  have hs5 := x5.size
  clear b7 hbx4 X4 x5 HFI
  generalize w4.heap.size = G4 at *
  clear w4
  generalize hFC : fileC ⟨some ⟨b, 0, none⟩, F.v.length, cap⟩ F = FC at *
  refine wpIn_rangeFunc_ownH rfl (by decide) (gf := 93) (lb := #[.pointer (some ⟨b1, 0, none⟩), .pointer (some ⟨b2, 0, none⟩)]) rfl trivial (enters_of Tryz.func93 (by kernel_rfl) rfl)
    (first_stops 5 (by decide) b1 b2 70 f w5 hb1 hb2) KpB.trans KpB.book (Below.refl _ _) (fun _ => rfl)
    (fun pre W => Ext w W ∧ Box W g 83 FC ∧ Box W E 3 #[.int .i64 (hereN f pre : Int)] ∧ pre.length ≤ 70)
    (fun _ _ _ => False)
    (OwnFrom.and (ext_own X5.size) (OwnFrom.and (Own.from (box_own _ _ _) _) (OwnFrom.and (Own.from (box_own _ _ _) _) (ownFrom_pure _ _))))
    (fun _ _ _ _ _ hs _ _ => hs) ⟨X5, bg', b7', by simp⟩
    (fun x a' W => a' = { tmps := #[.slice A n c, .int .i64 k, undef, undef, .int .i64 0, .pointer (some ⟨g, 0, none⟩), .int .i64 0, .pointer (some ⟨E, 0, none⟩), undef, .int .i64 (f x), .tuple #[.agg fc, .int .i64 0], .slice A n c, .int .i64 k, .tuple #[.agg fc, .int .i64 0], .agg fc, .int .i64 0, .int .i64 0, .bool false, .func (.func 93) #[] #[.pointer (some ⟨b1, 0, none⟩), .pointer (some ⟨b2, 0, none⟩)], .int .i64 (x : Int), .int .i64 (f x), undef, undef, undef, undef, undef, undef, undef, undef, undef, undef, undef, undef, undef, undef, undef, undef, undef], defers := [] })
    (fun x a' _ X Y row hs hg hr => hs) ?assign ?body ?done ?stop
  case assign =>
    rintro l pre x W K ⟨i1, i2, i3, i4⟩ hK
    simp only [benc]
    gi_wp2
    exact hK _ _ (keeps_ext (Ext.refl W)) (KpB.ext (Ext.refl W)) ⟨i1, i2, i3, i4⟩ rfl
  case body =>
    rintro l pre x a' W hl0 ⟨r, hr⟩ ⟨i1, i2, i3, i4⟩ rfl hlt70
    have c3 : W.cell? ⟨E, 0, none⟩ = some (.int .i64 (hereN f pre : Int)) := i3.cell 0
    have c3f := i3.frozen 0
    have hsn := Lib.hid (hereN_snoc f pre x)
    have hle := hereN_le f pre
    generalize hereN f pre = m at *
    by_cases hh : f x = -1
    · gi_wp2
      refine ⟨keeps_ext (Ext.refl W), KpB.ext (Ext.refl W), i1, i2, ?_, by simp; omega⟩
      rw [hsn.out, if_pos hh]
      exact i3
    · have hne : (f x != -1) = true := by simpa using hh
      gi_wp2
      refine ⟨(keeps_ext (Ext.refl W)).trans ((KeepsOthers.setCell _ _ _).from _), (KpB.ext (Ext.refl W)).set ⟨E, 0, none⟩ (by show b1 ≠ E; omega) (by show b2 ≠ E; omega) _, i1.setCell (p := ⟨E, 0, none⟩) (by show w.heap.size ≤ E; omega) _, i2.far (p := ⟨E, 0, none⟩) (by show g ≠ E; omega) _, ?_, by simp; omega⟩
      rw [hsn.out, if_neg hh]
      exact i3.set 0 _
  case done =>
    rintro D ys W hD hys ⟨i1, i2, i3, i4⟩ hK
    subst hys
    have hle := hereN_le f (List.range (min 70 70))
    rw [List.length_range] at hle
    generalize hereN f (List.range (min 70 70)) = m at *
    have HI1 := Lib.hid (fun w h => fis_any g ⟨some ⟨b, 0, none⟩, F.v.length, cap⟩ F (F.x.getD 10 0) w h)
    have HI2 := Lib.hid (fun w h => fis_any g ⟨some ⟨b, 0, none⟩, F.v.length, cap⟩ F (F.x.getD 11 0) w h)
    rw [hFC] at HI1 HI2
    have c18 : ∀ w : World, Box w g 83 FC → w.cell? ⟨g, 18, none⟩ = some (.int .i64 (F.x.getD 10 0)) := fun w h => by rw [← hFC] at h; exact h.cell 18
    have c19 : ∀ w : World, Box w g 83 FC → w.cell? ⟨g, 19, none⟩ = some (.int .i64 (F.x.getD 11 0)) := fun w h => by rw [← hFC] at h; exact h.cell 19
    generalize isB F.v F.I (F.x.getD 10 0) = p1 at *
    generalize isB F.v F.I (F.x.getD 11 0) = p2 at *
    generalize F.x.getD 10 0 = n1 at *
    generalize F.x.getD 11 0 = n2 at *
    have hm : (m : Int) ≤ 70 := by omega
    have e1 := c18 W i2
    have e2 := c19 W i2
    have c3 : W.cell? ⟨E, 0, none⟩ = some (.int .i64 (m : Int)) := i3.cell 0
    have c3f := i3.frozen 0
    clear hb1 hb2 b7' bg' X5
    have j3 : ∀ u, Box (W.setCell ⟨E, 0, none⟩ (.int .i64 u)) E 3 #[.int .i64 u] := fun u => i3.set 0 _
    have j2 : ∀ u, Box (W.setCell ⟨E, 0, none⟩ u) g 83 FC := fun u => i2.far (p := ⟨E, 0, none⟩) (by show g ≠ E; omega) _
    have h1 := Lib.hid (HI1.out W i2)
    have h2 := Lib.hid (HI2.out W i2)
    have h3 := Lib.hid (HI2.out _ (j2 (.int .i64 ((m : Int) + 1))))
    have e3 := c19 _ (j2 (.int .i64 ((m : Int) + 1)))
    have d3 : (W.setCell ⟨E, 0, none⟩ (.int .i64 ((m : Int) + 1))).cell? ⟨E, 0, none⟩ = some (.int .i64 ((m : Int) + 1)) := (j3 _).cell 0
    have d3f := (j3 ((m : Int) + 1)).frozen 0
    clear HI1 HI2 c18 c19 i4
    have hGD : w.heap.size ≤ D := by rw [hG]; omega
    have T : Trio w W E _ _ D _ := ⟨i3, i1, by omega, hK, rfl⟩
    have T1 := T.set 0 (.int .i64 ((m : Int) + 1))
    have T2 := T1.set 0 (.int .i64 ((m : Int) + 1 + 1))
    gi_wp2_with fail
    cases p1 <;> cases p2
    all_goals go_wp2_with (first
      | (go_at_call 137; (have hq := h1.out; with_reducible (refine hq.mono ?_)); clear hq; rintro e w6 ⟨rfl, rfl⟩)
      | (go_at_call 137; (have hq := h2.out; with_reducible (refine hq.mono ?_)); clear hq; rintro e w6 ⟨rfl, rfl⟩)
      | (go_at_call 137; (have hq := h3.out; with_reducible (refine hq.mono ?_)); clear hq; rintro e w6 ⟨rfl, rfl⟩))
    · refine ⟨by simp, .inl ⟨_, _, rfl, run_takeDeferred hK, ?_⟩⟩
      exact ⟨_, results_tmp rfl _ _ _, by rw [HFE.out, HCF.out]; simp, i1.putObj (.deferred none) hK (by omega)⟩
    · refine ⟨by simp, .inl ⟨_, _, rfl, run_takeDeferred T1.obj, ?_⟩⟩
      exact ⟨_, results_tmp rfl _ _ _, by rw [HFE.out, HCF.out]; simp, T1.ext.putObj (.deferred none) T1.obj (by omega)⟩
    · refine ⟨by simp, .inl ⟨_, _, rfl, run_takeDeferred T1.obj, ?_⟩⟩
      exact ⟨_, results_tmp rfl _ _ _, by rw [HFE.out, HCF.out]; simp, T1.ext.putObj (.deferred none) T1.obj (by omega)⟩
    · refine ⟨by simp, .inl ⟨_, _, rfl, run_takeDeferred T2.obj, ?_⟩⟩
      exact ⟨_, results_tmp rfl _ _ _, by rw [HFE.out, HCF.out]; simp, T2.ext.putObj (.deferred none) T2.obj (by omega)⟩
  case stop =>
    rintro D c pre W hD _ h
    exact h.elim
end Go.Proofs.YtnoofjddikhopaaGreat
/- strings.Builder: more of it. -/
namespace Go.Proofs.YtnoofjddikhopaaGreat
set_option linter.unusedVariables false
set_option linter.unusedSimpArgs false
open Go.RowKit
theorem Bld.ext {B b : Nat} {l : List UInt8} {w w' : World} (h : Bld B b l w) (x : Ext w w') : Bld B b l w' := by
  obtain ⟨hB, v, hb, hown, hne⟩ := h
  exact ⟨hB, v, Box.ext hb x, own_ext hown x, hne⟩
theorem Bld.more {B b base z n : Nat} {l : List UInt8} {w w' : World} {u : Value} {xs : List Value} {t : TypeId} (h : Bld B b l w) (o : w.ownsRow base t z u n xs) (h1 : t ≠ 90) (h2 : t ≠ 5) (hg : w.grownBy w' u.ownBlock) : Bld B b l w' := by
  obtain ⟨hB, v, hb, hown, hne⟩ := h
  refine ⟨hB, v, Box.grown hb hg (own_ne o hb h1), hown.kept hg ?_, hne⟩
  rcases hown.2 with ⟨e, _⟩ | ⟨g, cap, cur, e, _, hh, _⟩
  · exact .inl (by rw [e]; rfl)
  · exact .inr (by rw [e]; exact own_ne o (show Box w g 5 cur from hh) h2)
theorem Bld.box {B b : Nat} {l : List UInt8} {w : World} (h : Bld B b l w) : ∃ cs, Box w b 90 cs := by
  obtain ⟨hB, v, hb, hown, hne⟩ := h
  exact ⟨_, hb⟩
theorem bld_fresh (w : World) : Bld0 w.heap.size w.heap.size (w.alloc (.cells #[.pointer none, .slice none 0 0] 90)) := by
  rcases Lib.fresh_isBuilder 90 5 w with h | h
  · exact h
  · exact absurd h.cell0 (by rw [Box.cell (Box.new w _ _) 0]; simp)
end Go.Proofs.YtnoofjddikhopaaGreat
/- extent.Read on a volume that is one. -/
namespace Go.Proofs.YtnoofjddikhopaaGreat
set_option linter.unusedVariables false
set_option linter.unusedSimpArgs false
open Go.RowKit Go.Shelf
attribute [local go_sem] Oper.semAt_some
/-- a builder, fresh or in use -/
def BldS (B b : Nat) (l : List UInt8) (w : World) : Prop := Bld0 B b w ∧ l = [] ∨ Bld B b l w
theorem ba_kept {B b : Nat} {p : Value} {l : List Value} {w w' : World} {row : Option Nat} (h : Lib.BuilderAt 90 5 B b p l w) (hg : w.grownBy w' row) (hr : ∀ r, row = some r → ∃ o : Obj, w.heap[r]? = some o ∧ o.isCells = false) :
    Lib.BuilderAt 90 5 B b p l w' := by
  obtain ⟨hB, v, hb, hown, hne⟩ := h
  refine ⟨hB, v, Box.grown hb hg (fun e => ?_), hown.kept hg ?_, hne⟩
  · obtain ⟨o, ho, hc⟩ := hr b e.symm
    rw [hb] at ho; cases ho; cases hc
  · rcases hown.2 with ⟨e, _⟩ | ⟨g, cap, cur, e, _, hh, _⟩
    · exact .inl (by rw [e]; rfl)
    · refine .inr (fun e2 => ?_)
      rw [e] at e2
      obtain ⟨o, ho, hc⟩ := hr g e2.symm
      rw [hh] at ho; cases ho; cases hc
theorem bldS_own {β : Type} (B b : Nat) (f : β → List UInt8) : Own (fun s W => BldS B b (f s) W) := fun s X Y row hs hg hr => by
  rcases hs with ⟨h, e⟩ | h
  · exact .inl ⟨ba_kept h hg hr, e⟩
  · exact .inr (ba_kept h hg hr)
theorem BldS.ext {B b : Nat} {l : List UInt8} {w w' : World} (h : BldS B b l w) (x : Ext w w') : BldS B b l w' := by
  rcases h with ⟨h, e⟩ | h
  · refine .inl ⟨?_, e⟩
    obtain ⟨hB, v, hb, hown, hne⟩ := h
    exact ⟨hB, v, Box.ext hb x, own_ext hown x, hne⟩
  · exact .inr (h.ext x)
theorem BldS.isCells {B b : Nat} {l : List UInt8} {w : World} (h : BldS B b l w) : ∃ cs, Box w b 90 cs := by
  rcases h with ⟨⟨hB, v, hb, _⟩, _⟩ | h
  · exact ⟨_, hb⟩
  · exact h.box
theorem bldS_string (B b : Nat) (l : List UInt8) (w : World) (h : BldS B b l w) (hB : B ≤ w.heap.size) :
    Calls Tryz.prog 54 #[.pointer (some ⟨b, 0, none⟩)] w fun e w' => e = .returned (.string (str l)) ∧ Below B w w' ∧ Lib.OthersKept 5 (some b) w w' := by
  rcases h with ⟨h, rfl⟩ | h
  · refine (Tryz.Builder_String_any_k B b [] w (.inl (Lib.BuilderAtF.of h)) hB).mono ?_
    rintro e w' ⟨rfl, _, hb, hk⟩
    exact ⟨rfl, hb, hk⟩
  · exact bldString_any B b l w h hB
theorem keeps_others {B b : Nat} {w w' : World} {cs : Array Value} (h : Lib.OthersKept 5 (some b) w w') (hb : Box w b 90 cs) (hs : w.heap.size ≤ w'.heap.size) : KeepsFrom B w w' := ⟨hs, fun k o hk ho hc => h k o ho (fun e => by
    cases e
    have hb' : w.heap[b]? = some (.cells cs 90 (0, 0)) := hb
    rw [hb'] at ho; cases ho; cases hc) (fun c fz e => by subst e; cases hc)⟩
theorem KpB.others {b1 b2 b : Nat} {w w' : World} (h : Lib.OthersKept 5 (some b) w w') (h1 : b1 ≠ b) (h2 : b2 ≠ b) (c1 : ∀ cs t, w.heap[b1]? = some (Obj.cells cs t (0, 0)) → t ≠ 5) (c2 : ∀ cs t, w.heap[b2]? = some (Obj.cells cs t (0, 0)) → t ≠ 5) : KpB b1 b2 w w' := fun cs t =>
  ⟨fun e => h b1 _ e (fun h => h1 (by injection h)) (fun c fz e2 => by cases e2; exact c1 _ _ e rfl), fun e => h b2 _ e (fun h => h2 (by injection h)) (fun c fz e2 => by cases e2; exact c2 _ _ e rfl)⟩
theorem strs_same {w w' : World} {b n : Nat} {v : List (List UInt8)} (h : Strs w (some ⟨b, 0, none⟩) n v) (e : w'.heap[b]? = w.heap[b]?) : Strs w' (some ⟨b, 0, none⟩) n v := ⟨h.1, fun hn => by
  obtain ⟨b', o', e1, h2⟩ := h.2 hn
  injection e1 with e1
  injection e1 with e1 e2 _
  subst e1 e2
  exact ⟨b, 0, rfl, fun j hj => by rw [← h2 j hj]; unfold World.cell?; rw [e]⟩⟩
/-- where a block's part begins, ends -/
def fromP (off : Int) (x : Nat) : Int := max (wrap64 (off - wrap64 ((x : Int) * 128))) 0
def toP (e : Int) (x : Nat) : Int := min (wrap64 (e - wrap64 ((x : Int) * 128))) 128
def pieceP (F : FileT) (off e : Int) (x : Nat) : List UInt8 :=
  if toP e x ≤ fromP off x then [] else if atP F.v F.I F.x x = -1 then zs (toP e x - fromP off x).toNat
  else ((F.v.getD (atP F.v F.I F.x x).toNat []).drop (fromP off x).toNat).take (toP e x - fromP off x).toNat
theorem piece_le (F : FileT) (off e : Int) (x : Nat) : (pieceP F off e x).length ≤ 128 := by
  have h1 : 0 ≤ fromP off x := Int.le_max_right _ _
  have h2 : toP e x ≤ 128 := Int.min_le_right _ _
  unfold pieceP
  split
  · simp
  · split
    · rw [zs_len]; omega
    · rw [List.length_take]; omega
theorem flatpc_le {pc : Nat → List UInt8} (h : ∀ x, (pc x).length ≤ 128) (pre : List Nat) : (pre.flatMap pc).length ≤ 128 * pre.length := by
  induction pre with
  | nil => simp
  | cons a l ih => rw [List.flatMap_cons, List.length_append, List.length_cons]; have := h a; omega
/-- the end of what is read -/
def endP (F : FileT) (off size : Int) : Int := if size < sizeP F.x - off then off + size else sizeP F.x
def blocksP (e : Int) : Nat := ((e + 127) / 128).toNat
def readP (F : FileT) (off size : Int) : List UInt8 := (List.range (min (blocksP (endP F off size)) 70)).flatMap (pieceP F off (endP F off size))
set_option maxHeartbeats 4000000 in
set_option maxRecDepth 100000 in
theorem fread_yes (A : Option Addr) (n c : Nat) (v : List (List UInt8)) (I k : Int) (off size : Nat) (w : World) (hv : Strs w A n v) (hg : Good v I) (hk1 : 1 ≤ k) (hk2 : k ≤ I) (hin : (off : Int) < sizeP (fileOf v I k).x) (hsz : (size : Int) ≤ 9223372036854775807) (hend : sizeP (fileOf v I k).x - (off : Int) ≤ (size : Int)) :
    Calls Tryz.prog 23 #[.slice A n c, .int .i64 k, .int .i64 (off : Int), .int .i64 (size : Int)] w fun e w' => e = .returned (.tuple #[.string (str (readP (fileOf v I k) off size)), .int .i64 0]) ∧ Ext w w' := by
  have HO := Lib.hid (fun w h => opened_yes A n c v I k w h hg hk1 hk2)
  have HFO := Lib.hid (fun (B g : Nat) (w : World) (s : Sl) hB hs hbx own => FileIn.of_opened (B := B) (w := w) (g := g) (s := s) hg hk1 hk2 hB hs hbx own)
  have HV := Lib.hid hv
  clear hv hg hk1 hk2
  generalize hG : w.heap.size = G at *
  refine (callsIn_wide (n := 6)).1 ?_
  refine callsIn_of_wp_marks Tryz.func23 rfl trivial ?_ rfl
  simp only [Tryz.ntmps23, List.size_toArray, List.length_cons, List.length_nil, Nat.reduceAdd, Nat.reduceSub, Array.replicate_succ, Array.replicate_zero, List.push_toArray, List.append_toArray, List.nil_append, List.cons_append]
  refine wpIn_wide.2 ?_
  have b6 := Box.new w 3 #[.int .i64 (off : Int)]
  have x6 : Ext w (w.alloc (.cells #[.int .i64 (off : Int)] 3)) := (Ext.refl w).alloc _
  have HV1 := Lib.hid (HV.out.ext x6)
  go_upto_region 1 with fail
  rw [hG] at b6
  have hG6 : G + 1 ≤ (w.alloc (.cells #[.int .i64 (off : Int)] 3)).heap.size := by rw [World.size_alloc, hG]; exact Nat.le_refl _
  generalize w.alloc (.cells #[.int .i64 (off : Int)] 3) = w1 at *
  go_upto_region 2 with (first
    | (go_at_call 49; refine (HO.out _ HV1.out).mono ?_; rintro e w2 ⟨⟨s, rfl, hsn, own2⟩, x2⟩)
    | (refine wp_st_file (.tmp 10) (.tmp 22) rfl rfl w2.heap.size s (fileOf v I k) _ 83 rfl rfl (Box.new _ _ _) rfl ?_; intro w3 b3 g3))
  have xa : Ext w2 (w2.alloc (.cells fileZ 83)) := (Ext.refl w2).alloc _
  have x23 : Ext w2 w3 := xa.grown g3 (fun j e => by cases e; exact Nat.le_refl _)
  have own3 := (own_ext own2 xa).kept g3 (.inr (own_ne (own_ext own2 xa) (Box.new w2 83 fileZ) (by decide)).symm)
  have hF0 := HFO.out w1.heap.size w2.heap.size w3 s x2.size hsn b3 own3
  have HX := Lib.hid (x6.trans (x2.trans x23))
  have b63 := (b6.ext x2).ext x23
  have hle2 := x2.size
  clear HO HFO HV HV1 own2 hsn b3 own3 xa x23 x2 g3 b6 x6
  generalize hg2 : w2.heap.size = g at *
  generalize hFO : fileOf v I k = F at *
  have HFE := Lib.hid hFO
  clear hFO hg2
  obtain ⟨hOk, hBg, b, cap, hbx, own⟩ := hF0
  generalize fileC s ⟨v, I, k, inoAt v k⟩ = fc at *
  have hr := own_strsN own
  have HSz := Lib.hid (fun w h => fsize_any g ⟨some ⟨b, 0, none⟩, F.v.length, cap⟩ F w h)
  have hz1 : sizeP F.x ≤ 8960 := by unfold sizeP; omega
  have d1 : decide ((off : Int) < 0) = false := by simp
  have d2 : decide ((size : Int) < 0) = false := by simp
  have hcell6 := b63.cell 0
  have HRD := Lib.hid (show readP F off size = (List.range (min (blocksP (sizeP F.x)) 70)).flatMap (pieceP F off (sizeP F.x)) from by unfold readP endP; rw [if_neg (by omega)])
  generalize hzz : sizeP F.x = z at *
  have d3 : decide (z ≤ (off : Int)) = false := by simp; omega
  have d4 : decide ((size : Int) < z - (off : Int)) = false := by simp; omega
  have w9 : IntKind.i64.wrap (z - (off : Int)) = z - (off : Int) := by rw [IntKind.wrap_i64]; omega
  have w10 : IntKind.i64.wrap (z + 128) = z + 128 := by rw [IntKind.wrap_i64]; omega
  have w11 : IntKind.i64.wrap (z + 128 - 1) = z + 127 := by rw [IntKind.wrap_i64]; omega
  have x34 : Ext w3 (w3.alloc (.cells #[.int .i64 z] 3)) := (Ext.refl w3).alloc _
  have b12 := Box.new w3 3 #[.int .i64 z]
  have b6a := b63.ext x34
  have hbxa := hbx.ext x34
  have c6a : (w3.alloc (.cells #[.int .i64 z] 3)).cell? ⟨G, 0, none⟩ = some (.int .i64 (off : Int)) := b6a.cell 0
  have c12 : (w3.alloc (.cells #[.int .i64 z] 3)).cell? ⟨w3.heap.size, 0, none⟩ = some (.int .i64 z) := b12.cell 0
  go_upto_region 7 with (go_at_call 50; (have hq := HSz.out _ hbx; with_reducible (refine hq.mono ?_)); clear hq; rintro e w6 ⟨rfl, rfl⟩)
  have z12 : (w3.alloc (.cells #[.int .i64 z] 3)).heap.size = w3.heap.size + 1 := World.size_alloc _ _
  have hlt3 := hbx.lt
  have h63 := b63.lt
  have hrr := hr.ext x34
  have HX4 := Lib.hid (HX.out.trans x34)
  have FB := bld_fresh (w3.alloc (.cells #[.int .i64 z] 3))
  rw [z12] at FB
  have hbE : b < w3.heap.size := by
    rcases own.2 with ⟨h, _⟩ | ⟨g', cap', cur, e, _, hh, _⟩
    · cases h
    · injection e with e1 _ _
      injection e1 with e1
      injection e1 with e1 _ _
      subst e1
      exact (Array.getElem?_eq_some_iff.1 hh).1
  go_upto_region 11 with fail
  clear hbx b63 x34 HX hcell6 hr own HSz
  have xB : Ext (w3.alloc (.cells #[.int .i64 z] 3)) ((w3.alloc (.cells #[.int .i64 z] 3)).alloc (.cells #[.pointer none, .slice none 0 0] 90)) := (Ext.refl _).alloc _
  have b12B := b12.ext xB
  have b6B := b6a.ext xB
  have hbxB := hbxa.ext xB
  have hrB := hrr.ext xB
  have HXB := Lib.hid (HX4.out.trans xB)
  have zB : ((w3.alloc (.cells #[.int .i64 z] 3)).alloc (.cells #[.pointer none, .slice none 0 0] 90)).heap.size = w3.heap.size + 2 := by rw [World.size_alloc, z12]
  have hCP : ((z + 127) / 128 : Int) = (blocksP z : Nat) := by unfold blocksP; omega
  have hCT : Int.tdiv (z + 127) 128 = (blocksP z : Nat) := by rw [Int.tdiv_eq_ediv_of_nonneg (by omega)]; exact hCP
  have hC70 : blocksP z ≤ 70 := by unfold blocksP; omega
  generalize hbl : blocksP z = cb at *
  have HFI := Lib.hid (ffirst_any g ⟨some ⟨b, 0, none⟩, F.v.length, cap⟩ F (cb : Int) _ hbxB hrB hOk)
  have c12B := b12B.cell 0
  go_upto_region 12 with fail
  clear xB b12 b6a hbxa hrr HX4 c6a c12 z12
  generalize (w3.alloc (.cells #[.int .i64 z] 3)).alloc (.cells #[.pointer none, .slice none 0 0] 90) = wB at *
  generalize hE : w3.heap.size = E at *
  clear hE w3
  go_wp2_with (go_at_call 51; refine HFI.out.mono ?_; rintro e w5 ⟨⟨b1, b2, rfl, hb1, hb2, le1, le2, ne12⟩, x5⟩)
  refine (wpIn_wide (n := 6)).1 ?_
  gi_wp2_with fail
  have hXE : ∀ W, Below (E + 1) wB W → Ext w W := fun W h => HXB.out.under h (by omega)
  have hBB : ∀ W, Below (E + 1) wB W → Box W G 3 #[.int .i64 (off : Int)] ∧ Box W E 3 #[.int .i64 z] ∧ Box W g 83 (fileC ⟨some ⟨b, 0, none⟩, F.v.length, cap⟩ F) := fun W h =>
    ⟨(h.block G (by omega)).trans b6B, (h.block E (by omega)).trans b12B, (h.block g (by omega)).trans hbxB⟩
  have hSS : ∀ W, Below (E + 1) wB W → Strs W (some ⟨b, 0, none⟩) F.v.length F.v := fun W h => strs_same hrB (h.block b (by omega))
  have x5B : Below (E + 1) wB w5 := Below.mono x5 (by omega)
  have FB5 : BldS (E + 1) (E + 1) [] w5 := BldS.ext (.inl ⟨FB, rfl⟩) x5
  have hs5 := x5.size
  have HAt := Lib.hid (show ∀ x, pieceP F off z x = if toP z x ≤ fromP off x then [] else if atP F.v F.I F.x x = -1 then zs (toP z x - fromP off x).toNat else ((F.v.getD (atP F.v F.I F.x x).toNat []).drop (fromP off x).toNat).take (toP z x - fromP off x).toNat from fun x => rfl)
  have HQ := Lib.hid (fun x (h : atP F.v F.I F.x x ≠ -1) => isB_le (isB_of h))
  have HPC := Lib.hid (piece_le F off z)
  have hGd := Lib.hid hOk.good
  have hdt : (0 : Int) ≤ 3 + (F.I + 1) / 2 := by have := plan_bd hOk.good.plan; omega
  generalize pieceP F off z = pc at *
  generalize atP F.v F.I F.x = f at *
  clear HFI b6B b12B hbxB hrB c12B x5 FB d1 d2 d3 d4 w9 w10 w11 hCP hCT
  refine wpIn_rangeFunc_ownH rfl (by decide) (gf := 93) (lb := #[.pointer (some ⟨b1, 0, none⟩), .pointer (some ⟨b2, 0, none⟩)]) rfl trivial (enters_of Tryz.func93 (by kernel_rfl) rfl)
    (first_stops 5 (by decide) b1 b2 cb f w5 hb1 hb2) KpB.trans KpB.book (Below.refl _ _) (fun _ => rfl)
    (fun pre W => Below (E + 1) wB W ∧ BldS (E + 1) (E + 1) (pre.flatMap pc) W ∧ pre.length ≤ 70 ∧ Box W b1 125 (partC f 70) ∧ Box W b2 3 #[.int .i64 (cb : Int)])
    (fun _ _ _ => False)
    (OwnFrom.and (ownFrom_below (by omega) (by omega)) (OwnFrom.and (Own.from (bldS_own _ _ _) _) (OwnFrom.and (ownFrom_pure _ _) (OwnFrom.and (Own.from (box_own _ _ _) _) (Own.from (box_own _ _ _) _)))))
    (fun _ _ _ _ _ hs _ _ => hs) ⟨x5B, FB5, by simp, hb1, hb2⟩
    (fun x a' W => a' = { tmps := #[.slice A n c, .int .i64 k, .int .i64 (off : Int), .int .i64 (size : Int), undef, undef, .pointer (some ⟨G, 0, none⟩), undef, .string ⟨#[]⟩, .int .i64 0, .pointer (some ⟨g, 0, none⟩), .int .i64 0, .pointer (some ⟨E, 0, none⟩), .pointer (some ⟨E + 1, 0, none⟩), .int .i64 (x : Int), .int .i64 (f x), undef, undef, .tuple #[.agg fc, .int .i64 0], .slice A n c, .int .i64 k, .tuple #[.agg fc, .int .i64 0], .agg fc, .int .i64 0, .int .i64 0, .bool false, undef, .int .i64 (off : Int), .bool false, .bool false, .int .i64 (size : Int), .bool false, .bool false, .int .i64 z, .int .i64 (off : Int), .int .i64 z, .bool false, .int .i64 (size : Int), .int .i64 z, .int .i64 (off : Int), .int .i64 (z - (off : Int)), .bool false, undef, undef, undef, .int .i64 z, .int .i64 (z + 128), .int .i64 (z + 127), .int .i64 (cb : Int), .func (.func 93) #[] #[.pointer (some ⟨b1, 0, none⟩), .pointer (some ⟨b2, 0, none⟩)], .int .i64 (x : Int), .int .i64 (f x), undef, undef, undef, undef, undef, undef, undef, undef, undef, undef, undef, undef, undef, undef, undef, undef, undef, undef, undef, undef, undef, undef, undef, undef, undef, undef, undef, undef, undef, undef], defers := [] })
    (fun x a' _ X Y row hs hg hr => hs) ?assign ?body ?done ?stop
  case assign =>
    rintro l pre x W K ⟨i1, i2, i3, i4, i5⟩ hK
    simp only [benc]
    gi_wp2
    exact hK _ _ (keeps_ext (Ext.refl W)) (KpB.ext (Ext.refl W)) ⟨i1, i2, i3, i4, i5⟩ rfl
  case body =>
    rintro l pre x a' W hl0 ⟨r, hr⟩ ⟨i1, i2, i3, i4, i5⟩ rfl hlt70
    obtain ⟨j1, j2, j3⟩ := hBB W i1
    have c6 : W.cell? ⟨G, 0, none⟩ = some (.int .i64 (off : Int)) := j1.cell 0
    have c12 : W.cell? ⟨E, 0, none⟩ = some (.int .i64 z) := j2.cell 0
    gi_wp2
    -- WEB BEGINS
    refine wpIn_round_web' 12 [[], [], [1], [0, 2], [3], [], [], [6], [5, 7], [8], [4], [9]] (listV [isV (.int .i64 ((off : Int))), isV (.int .i64 ((x : Int))), isV (.int .i64 (wrap64 ((x : Int) * 128))), isV (.int .i64 (wrap64 ((off : Int) - wrap64 ((x : Int) * 128)))), isV (.int .i64 (fromP off x)), isV (.int .i64 (z)), isV (.int .i64 ((x : Int))), isV (.int .i64 (wrap64 ((x : Int) * 128))), isV (.int .i64 (wrap64 (z - wrap64 ((x : Int) * 128)))), isV (.int .i64 (toP z x)), isV (.int .i64 (fromP off x)), isV (.int .i64 (toP z x))]) (by rintro ⟨_, _, h⟩; exact h) (by kernel_rfl) (by kernel_rfl) (by kernel_rfl) (listV_ext (fun p hp => by simp only [List.mem_cons, List.not_mem_nil, or_false] at hp; rcases hp with rfl | rfl | rfl | rfl | rfl | rfl | rfl | rfl | rfl | rfl | rfl | rfl <;> first | exact lasts_is _)) (fun us => ?_)
    simp only [List.take_succ_cons, List.take_zero, List.drop_succ_cons, List.drop_zero]
    rw [webWalk]
    refine And.intro (fun w' hx hd => ?_) ?_
    · clear hd
      have e6 := hx.keep c6
      have e12 := hx.keep c12
      refine web_of_list 52 rfl (by simp) rfl ?_
      go_wp2_with fail
      exact ⟨Ext.refl _, rfl⟩
    simp only [Act.put, List.setIfInBounds_toArray, List.set_cons_zero, List.set_cons_succ]
    rw [webWalk]
    refine And.intro (fun w' hx hd => ?_) ?_
    · clear hd
      refine web_of_list 53 rfl (by simp [Act.put]) rfl ?_
      go_wp2_with fail
      exact ⟨Ext.refl _, rfl⟩
    simp only [Act.put, List.setIfInBounds_toArray, List.set_cons_zero, List.set_cons_succ]
    rw [webWalk]
    refine And.intro (fun w' hx hd => ?_) ?_
    · have h1 := hd 1 (by simp)
      clear hd
      generalize us 1 = u1 at *
      obtain rfl : u1 = .int .i64 ((x : Int)) := h1
      refine web_of_list 54 rfl (by simp [Act.put]) rfl ?_
      go_wp2_with fail
      exact ⟨Ext.refl _, rfl⟩
    simp only [Act.put, List.setIfInBounds_toArray, List.set_cons_zero, List.set_cons_succ]
    rw [webWalk]
    refine And.intro (fun w' hx hd => ?_) ?_
    · have h0 := hd 0 (by simp)
      have h2 := hd 2 (by simp)
      clear hd
      generalize us 0 = u0 at *
      generalize us 2 = u2 at *
      obtain rfl : u0 = .int .i64 ((off : Int)) := h0
      obtain rfl : u2 = .int .i64 (wrap64 ((x : Int) * 128)) := h2
      refine web_of_list 55 rfl (by simp [Act.put]) rfl ?_
      go_wp2_with fail
      exact ⟨Ext.refl _, rfl⟩
    simp only [Act.put, List.setIfInBounds_toArray, List.set_cons_zero, List.set_cons_succ]
    rw [webWalk]
    refine And.intro (fun w' hx hd => ?_) ?_
    · have h3 := hd 3 (by simp)
      clear hd
      generalize us 3 = u3 at *
      obtain rfl : u3 = .int .i64 (wrap64 ((off : Int) - wrap64 ((x : Int) * 128))) := h3
      refine web_of_list 56 rfl (by simp [Act.put]) rfl ?_
      go_wp2_with fail
      exact ⟨Ext.refl _, rfl⟩
    simp only [Act.put, List.setIfInBounds_toArray, List.set_cons_zero, List.set_cons_succ]
    rw [webWalk]
    refine And.intro (fun w' hx hd => ?_) ?_
    · clear hd
      have e6 := hx.keep c6
      have e12 := hx.keep c12
      refine web_of_list 57 rfl (by simp [Act.put]) rfl ?_
      go_wp2_with fail
      exact ⟨Ext.refl _, rfl⟩
    simp only [Act.put, List.setIfInBounds_toArray, List.set_cons_zero, List.set_cons_succ]
    rw [webWalk]
    refine And.intro (fun w' hx hd => ?_) ?_
    · clear hd
      refine web_of_list 58 rfl (by simp [Act.put]) rfl ?_
      go_wp2_with fail
      exact ⟨Ext.refl _, rfl⟩
    simp only [Act.put, List.setIfInBounds_toArray, List.set_cons_zero, List.set_cons_succ]
    rw [webWalk]
    refine And.intro (fun w' hx hd => ?_) ?_
    · have h6 := hd 6 (by simp)
      clear hd
      generalize us 6 = u6 at *
      obtain rfl : u6 = .int .i64 ((x : Int)) := h6
      refine web_of_list 59 rfl (by simp [Act.put]) rfl ?_
      go_wp2_with fail
      exact ⟨Ext.refl _, rfl⟩
    simp only [Act.put, List.setIfInBounds_toArray, List.set_cons_zero, List.set_cons_succ]
    rw [webWalk]
    refine And.intro (fun w' hx hd => ?_) ?_
    · have h5 := hd 5 (by simp)
      have h7 := hd 7 (by simp)
      clear hd
      generalize us 5 = u5 at *
      generalize us 7 = u7 at *
      obtain rfl : u5 = .int .i64 (z) := h5
      obtain rfl : u7 = .int .i64 (wrap64 ((x : Int) * 128)) := h7
      refine web_of_list 60 rfl (by simp [Act.put]) rfl ?_
      go_wp2_with fail
      exact ⟨Ext.refl _, rfl⟩
    simp only [Act.put, List.setIfInBounds_toArray, List.set_cons_zero, List.set_cons_succ]
    rw [webWalk]
    refine And.intro (fun w' hx hd => ?_) ?_
    · have h8 := hd 8 (by simp)
      clear hd
      generalize us 8 = u8 at *
      obtain rfl : u8 = .int .i64 (wrap64 (z - wrap64 ((x : Int) * 128))) := h8
      refine web_of_list 61 rfl (by simp [Act.put]) rfl ?_
      go_wp2_with fail
      exact ⟨Ext.refl _, rfl⟩
    simp only [Act.put, List.setIfInBounds_toArray, List.set_cons_zero, List.set_cons_succ]
    rw [webWalk]
    refine And.intro (fun w' hx hd => ?_) ?_
    · have h4 := hd 4 (by simp)
      clear hd
      generalize us 4 = u4 at *
      obtain rfl : u4 = .int .i64 (fromP off x) := h4
      refine web_of_list 16 rfl (by simp [Act.put]) rfl ?_
      go_wp2_with fail
      exact ⟨Ext.refl _, rfl⟩
    simp only [Act.put, List.setIfInBounds_toArray, List.set_cons_zero, List.set_cons_succ]
    rw [webWalk]
    refine And.intro (fun w' hx hd => ?_) ?_
    · have h9 := hd 9 (by simp)
      clear hd
      generalize us 9 = u9 at *
      obtain rfl : u9 = .int .i64 (toP z x) := h9
      refine web_of_list 17 rfl (by simp [Act.put]) rfl ?_
      go_wp2_with fail
      exact ⟨Ext.refl _, rfl⟩
    simp only [Act.put, List.setIfInBounds_toArray, List.set_cons_zero, List.set_cons_succ]
    rw [webWalk]
    intro w' hx hv
    have h10 := hv 10 (by omega)
    have h11 := hv 11 (by omega)
    clear hv
    generalize us 0 = u0 at *
    generalize us 1 = u1 at *
    generalize us 2 = u2 at *
    generalize us 3 = u3 at *
    generalize us 4 = u4 at *
    generalize us 5 = u5 at *
    generalize us 6 = u6 at *
    generalize us 7 = u7 at *
    generalize us 8 = u8 at *
    generalize us 9 = u9 at *
    generalize us 10 = u10 at *
    generalize us 11 = u11 at *
    obtain rfl : u10 = .int .i64 (fromP off x) := h10
    obtain rfl : u11 = .int .i64 (toP z x) := h11
    have HW := Lib.hid hx
    go_wp2_with fail
    have hpx := HAt.out x
    have hfr0 : 0 ≤ fromP off x := Int.le_max_right _ _
    have hto0 : toP z x ≤ 128 := Int.min_le_right _ _
    have i1' : Below (E + 1) wB w' := Below.trans i1 (Below.mono HW.out (by have := i1.size; omega))
    have i2' := i2.ext HW.out
    have j3' := j3.ext HW.out
    have hpl := flatpc_le HPC.out pre
    have hszW := i1'.size
    clear hx c6 c12 j1 j2 j3
    generalize fromP off x = fr at *
    generalize toP z x = tt at *
    by_cases hc : tt ≤ fr
    · rw [if_pos hc] at hpx
      gi_wp2_with fail
      refine ⟨keeps_ext HW.out, KpB.ext HW.out, i1', ?_, by simp; omega, i4.ext HW.out, i5.ext HW.out⟩
      rw [List.flatMap_append, List.flatMap_singleton, hpx, List.append_nil]
      exact i2'
    rw [if_neg hc] at hpx
    obtain ⟨fa, rfl⟩ : ∃ k : Nat, fr = (k : Int) := ⟨fr.toNat, by omega⟩
    obtain ⟨ta, rfl⟩ : ∃ k : Nat, tt = (k : Int) := ⟨tt.toNat, by omega⟩
    have hlt1 : fa < ta := by omega
    have hlt2 : ta ≤ 128 := by omega
    have hm : ((ta : Int) - (fa : Int)).toNat = ta - fa := by omega
    rw [hm, Int.toNat_natCast] at hpx
    by_cases hq : f x = -1
    · rw [if_pos hq] at hpx
      rw [hq]
      have hw : IntKind.i64.wrap ((ta : Int) - (fa : Int)) = ((ta - fa : Nat) : Int) := by rw [IntKind.wrap_i64]; omega
      have HR := Lib.hid (fun w => repeat_any (ta - fa) w (by omega))
      have HS := Lib.hid (fun w2 (x2 : Ext w' w2) => writeString_keeps (E + 1) (E + 1) (pre.flatMap pc) (zs (ta - fa)) w2 (i2'.ext x2) (by have := x2.size; omega) (by omega) (by simp [zs]; omega))
      have HP := Lib.hid hpx
      clear hpx hq hm
      generalize hmm : ta - fa = m at *
      clear hmm
      gi_wp2_with (first
        | (refine ⟨trivial, ?_⟩; gi_at_call 53; refine (CallsIn.inRound l (callsIn_wide.2 (HR.out _))).mono ?_; rintro e w2 ⟨rfl, x2⟩)
        | (refine ⟨trivial, ?_⟩; gi_at_call 52; refine (CallsIn.inRound l (callsIn_wide.2 (HS.out _ x2))).mono ?_; rintro e w3 ⟨rfl, f3, q3, k3⟩))
      have x12 := HW.out.trans x2
      obtain ⟨cs, hcs⟩ := (i2'.ext x2).isCells
      have k4 := i4.ext x12
      have k5 := i5.ext x12
      have hk := KpB.others k3 (show b1 ≠ E + 1 by omega) (show b2 ≠ E + 1 by omega) (fun cs t e => by rw [show w2.heap[b1]? = _ from k4] at e; cases e; decide) (fun cs t e => by rw [show w2.heap[b2]? = _ from k5] at e; cases e; decide)
      refine ⟨(keeps_ext x12).trans (keeps_others k3 hcs q3.size), (KpB.ext x12).trans hk, (i1'.trans (Below.mono x2 (by omega))).trans q3, ?_, by simp; omega, (hk _ _).1 k4, (hk _ _).2 k5⟩
      rw [List.flatMap_append, List.flatMap_singleton, HP.out]
      exact .inr f3
    rw [if_neg hq] at hpx
    have hqb := HQ.out x hq
    have hss := hSS w' i1'
    have cv : w'.cell? ⟨g, 0, none⟩ = some (.slice (some ⟨b, 0, none⟩) F.v.length cap) := j3'.cell 0
    obtain ⟨b', o', he, hcell⟩ := hss.2 (by omega)
    cases he
    obtain ⟨qn, hqn⟩ : ∃ q : Nat, f x = (q : Int) := ⟨(f x).toNat, by omega⟩
    rw [hqn] at hqb hpx
    rw [hqn]
    have cb : w'.cell? ⟨b, qn, none⟩ = some (.string (str (F.v.getD qn []))) := by have := cell_getD hcell (k := qn) (by omega); rwa [Nat.zero_add] at this
    have hbl : (F.v.getD qn []).length = 128 := getD_len hGd.out (by omega)
    rw [Int.toNat_natCast] at hpx
    clear hcell hss hq
    have hqs : (qn : Int) < (F.v.length : Int) := hqb.2
    generalize F.v.getD qn [] = blk at *
    have hsb : (str blk).size = 128 := by rw [str_size, hbl]
    have HS := Lib.hid (show Calls Tryz.prog 52 #[.pointer (some ⟨E + 1, 0, none⟩), .string ((str blk).extract fa ta)] w' _ from by
      rw [str_ext]
      exact writeString_keeps (E + 1) (E + 1) (pre.flatMap pc) ((blk.drop fa).take (ta - fa)) w' i2' (by omega) (by omega) (by simp; omega))
    have HP := Lib.hid hpx
    clear hpx hm hqn hc hqb
    gi_wp2_with (refine ⟨trivial, ?_⟩; gi_at_call 52; refine (CallsIn.inRound l (callsIn_wide.2 HS.out)).mono ?_; rintro e w3 ⟨rfl, f3, q3, k3⟩)
    have x12 := HW.out
    obtain ⟨cs, hcs⟩ := i2'.isCells
    have k4 := i4.ext x12
    have k5 := i5.ext x12
    have hk := KpB.others k3 (show b1 ≠ E + 1 by omega) (show b2 ≠ E + 1 by omega) (fun cs t e => by rw [show w'.heap[b1]? = _ from k4] at e; cases e; decide) (fun cs t e => by rw [show w'.heap[b2]? = _ from k5] at e; cases e; decide)
    refine ⟨(keeps_ext x12).trans (keeps_others k3 hcs q3.size), (KpB.ext x12).trans hk, i1'.trans q3, ?_, by simp; omega, (hk _ _).1 k4, (hk _ _).2 k5⟩
    rw [List.flatMap_append, List.flatMap_singleton, HP.out]
    exact .inr f3
    -- WEB ENDS
  case done =>
    rintro D ys W hD hys ⟨i1, i2, i3, i4, i5⟩ hK
    subst hys
    have HS := Lib.hid (bldS_string (E + 1) (E + 1) _ W i2 (by have := i1.size; omega))
    have HE := Lib.hid HRD.out
    clear HRD
    have i1s := i1.size
    generalize (List.range (min cb 70)).flatMap pc = R at *
    gi_wp2_with fail
    go_wp2_with (go_at_call 54; refine HS.out.mono ?_; rintro e w6 ⟨rfl, q6, k6⟩)
    obtain ⟨cs, hcs⟩ := i2.isCells
    have hK6 := (keeps_others (B := E + 1) k6 hcs q6.size).2 D _ (by omega) hK rfl
    refine ⟨by simp, .inl ⟨_, _, rfl, run_takeDeferred hK6, ?_⟩⟩
    exact ⟨_, results_tmp2 rfl _ _ _, by rw [HFE.out, HE.out]; simp, (hXE _ (i1.trans q6)).putObj (.deferred none) hK6 (by have := HXB.out.size; omega)⟩
  case stop =>
    rintro D c pre W hD _ h
    exact h.elim
end Go.Proofs.YtnoofjddikhopaaGreat
/- The walk of dir.bytes. -/
namespace Go.Proofs.YtnoofjddikhopaaGreat
set_option linter.unusedVariables false
set_option linter.unusedSimpArgs false
open Go.RowKit
theorem bytesE_take (l : List Ent) (k : Nat) (h : k < l.length) : bytesE (l.take (k + 1)) = bytesE (l.take k) ++ entP l[k] := by
  unfold bytesE; rw [List.take_succ_eq_append_getElem h, List.flatMap_append]; simp
set_option maxHeartbeats 1000000 in
set_option maxRecDepth 100000 in
theorem dbytes_any (A : Option Addr) (n c : Nat) (l : List Ent) (w : World) (hs : Ents w A n l) (hn : n ≤ 1000) (hl : ∀ x ∈ l, x.1.length ≤ 24 ∧ 0 ≤ x.2 ∧ x.2 < 65536) :
    Calls Tryz.prog 81 #[.slice A n c] w fun e w' => e = .returned (.string (str (bytesE l))) ∧ Ext w w' := by
  obtain rfl := hs.1
  have HS := Lib.hid hs
  have HL := Lib.hid hl
  clear hs hl
  have FB := bld_fresh w
  have x0 : Ext w (w.alloc (.cells #[.pointer none, .slice none 0 0] 90)) := (Ext.refl w).alloc _
  go_enter Tryz.func81, Tryz.ntmps81
  go_upto_region 2 with fail
  have hz0 : (w.alloc (.cells #[.pointer none, .slice none 0 0] 90)).heap.size = w.heap.size + 1 := World.size_alloc _ _
  generalize w.alloc (.cells #[.pointer none, .slice none 0 0] 90) = w0 at *
  generalize hE : w.heap.size = E at *
  go_wp2_with fail
  go_loopw [5, 8] (fun _ i wr => ∃ k : Nat, k ≤ l.length ∧ i = .int .i64 k ∧ Ext w wr ∧ BldS E E (bytesE (l.take k)) wr) (fun _ i _ => l.length - (intOf i).toNat)
  case atStart => exact ⟨0, by omega, rfl, x0, .inl ⟨FB, rfl⟩⟩
  case round =>
    obtain ⟨k, hk, rfl, hx, hb⟩ := hrel
    have hxs := hx.size
    by_cases hlt : k < l.length
    · obtain ⟨b, o, rfl, hcell⟩ := HS.out.2 (by omega)
      have hc1 := hx.keep (hcell k hlt).1
      have hc2 := hx.keep (hcell k hlt).2
      have HT := Lib.hid (bytesE_take l k hlt)
      have hb0 := HL.out _ (List.getElem_mem hlt)
      have hbl : (bytesE (l.take k)).length ≤ 32000 := by rw [bytesE_len (fun x hx => by have := (HL.out x (List.mem_of_mem_take hx)).1; omega), List.length_take]; omega
      clear hcell
      generalize l[k] = x at *
      have HEn := Lib.hid (fun w => dentry_any x w hb0.1 hb0.2.1 hb0.2.2)
      have hel : (entP x).length = 32 := entP_len (by omega)
      have HW := Lib.hid (fun w h h2 => writeString_keeps E E (bytesE (l.take k)) (entP x) w h h2 (by omega) (by omega))
      generalize entP x = ex at *
      generalize bytesE (l.take k) = pre at *
      go_wp2_with (first
        | (go_at_call 114; refine (HEn.out _).mono ?_; rintro e w2 ⟨rfl, x2⟩)
        | (go_at_call 52; refine (HW.out _ (((hb.ext ((Ext.refl wr).alloc _)).ext x2)) (by have := x2.size; have := hx.size; simp at *; omega)).mono ?_; rintro e w3 ⟨rfl, f3, q3, k3⟩))
      go_roundw
      case rel => exact ⟨k + 1, by omega, by go_num, hx.trans (((Ext.refl wr).alloc _).trans x2) |>.under q3 (by omega), by rw [HT.out]; exact .inr f3⟩
      case measure => simp [intOf]; omega
    · obtain rfl : k = l.length := by omega
      rw [List.take_length] at hb
      have HStr := Lib.hid (bldS_string E E _ wr hb (by omega))
      go_wp2_with (go_at_call 54; refine HStr.out.mono ?_; rintro e w3 ⟨rfl, q3, _⟩)
      go_ret
      exact ⟨rfl, hx.under q3 (by omega)⟩
end Go.Proofs.YtnoofjddikhopaaGreat
/- extent.Read: behind the file's end; of no inode; from the beginning. -/
namespace Go.Proofs.YtnoofjddikhopaaGreat
set_option linter.unusedVariables false
set_option linter.unusedSimpArgs false
open Go.RowKit Go.Shelf
set_option maxHeartbeats 4000000 in
set_option maxRecDepth 100000 in
theorem fread_past (A : Option Addr) (n c : Nat) (v : List (List UInt8)) (I k : Int) (off size : Nat) (w : World) (hv : Strs w A n v) (hg : Good v I) (hk1 : 1 ≤ k) (hk2 : k ≤ I) (hin : sizeP (fileOf v I k).x ≤ (off : Int)) :
    Calls Tryz.prog 23 #[.slice A n c, .int .i64 k, .int .i64 (off : Int), .int .i64 (size : Int)] w fun e w' => e = .returned (.tuple #[.string (str []), .int .i64 0]) ∧ Ext w w' := by
  have HO := Lib.hid (fun w h => opened_yes A n c v I k w h hg hk1 hk2)
  have HFO := Lib.hid (fun (B g : Nat) (w : World) (s : Sl) hB hs hbx own => FileIn.of_opened (B := B) (w := w) (g := g) (s := s) hg hk1 hk2 hB hs hbx own)
  have HV := Lib.hid hv
  clear hv hg hk1 hk2
  generalize hG : w.heap.size = G at *
  go_enter Tryz.func23, Tryz.ntmps23
  have b6 := Box.new w 3 #[.int .i64 (off : Int)]
  have x6 : Ext w (w.alloc (.cells #[.int .i64 (off : Int)] 3)) := (Ext.refl w).alloc _
  have HV1 := Lib.hid (HV.out.ext x6)
  go_upto_region 1 with fail
  rw [hG] at b6
  have hG6 : G + 1 ≤ (w.alloc (.cells #[.int .i64 (off : Int)] 3)).heap.size := by rw [World.size_alloc, hG]; exact Nat.le_refl _
  generalize w.alloc (.cells #[.int .i64 (off : Int)] 3) = w1 at *
  go_upto_region 2 with (first
    | (go_at_call 49; refine (HO.out _ HV1.out).mono ?_; rintro e w2 ⟨⟨s, rfl, hsn, own2⟩, x2⟩)
    | (refine wp_st_file (.tmp 10) (.tmp 22) rfl rfl w2.heap.size s (fileOf v I k) _ 83 rfl rfl (Box.new _ _ _) rfl ?_; intro w3 b3 g3))
  have xa : Ext w2 (w2.alloc (.cells fileZ 83)) := (Ext.refl w2).alloc _
  have x23 : Ext w2 w3 := xa.grown g3 (fun j e => by cases e; exact Nat.le_refl _)
  have own3 := (own_ext own2 xa).kept g3 (.inr (own_ne (own_ext own2 xa) (Box.new w2 83 fileZ) (by decide)).symm)
  have hF0 := HFO.out w1.heap.size w2.heap.size w3 s x2.size hsn b3 own3
  have HX := Lib.hid (x6.trans (x2.trans x23))
  have b63 := (b6.ext x2).ext x23
  have hle2 := x2.size
  clear HO HFO HV HV1 own2 hsn b3 own3 xa x23 x2 g3 b6 x6
  generalize hg2 : w2.heap.size = g at *
  generalize hFO : fileOf v I k = F at *
  have HFE := Lib.hid hFO
  clear hFO hg2
  obtain ⟨hOk, hBg, b, cap, hbx, own⟩ := hF0
  generalize fileC s ⟨v, I, k, inoAt v k⟩ = fc at *
  have hr := own_strsN own
  have HSz := Lib.hid (fun w h => fsize_any g ⟨some ⟨b, 0, none⟩, F.v.length, cap⟩ F w h)
  have hz1 : sizeP F.x ≤ 8960 := by unfold sizeP; omega
  have d1 : decide ((off : Int) < 0) = false := by simp
  have d2 : decide ((size : Int) < 0) = false := by simp
  have hcell6 := b63.cell 0
  generalize hzz : sizeP F.x = z at *
  have d3 : decide (z ≤ (off : Int)) = true := by simp; omega
  have x34 : Ext w3 (w3.alloc (.cells #[.int .i64 z] 3)) := (Ext.refl w3).alloc _
  have b12 := Box.new w3 3 #[.int .i64 z]
  have b6a := b63.ext x34
  have c6a : (w3.alloc (.cells #[.int .i64 z] 3)).cell? ⟨G, 0, none⟩ = some (.int .i64 (off : Int)) := b6a.cell 0
  have c12 : (w3.alloc (.cells #[.int .i64 z] 3)).cell? ⟨w3.heap.size, 0, none⟩ = some (.int .i64 z) := b12.cell 0
  have HX4 := Lib.hid (HX.out.trans x34)
  go_wp2_with (go_at_call 50; (have hq := HSz.out _ hbx; with_reducible (refine hq.mono ?_)); clear hq; rintro e w6 ⟨rfl, rfl⟩)
  go_ret2
  exact ⟨rfl, HX4.out⟩
/-- all bytes of a file -/
def dataP (v : List (List UInt8)) (I k : Int) : List UInt8 := readP (fileOf v I k) 0 8960
theorem data_none {v : List (List UInt8)} {I k : Int} (h : sizeP (fileOf v I k).x ≤ 0) : dataP v I k = [] := by
  unfold dataP readP endP
  rw [if_neg (by omega), show blocksP (sizeP (fileOf v I k).x) = 0 by unfold blocksP; omega]
  rfl
theorem fread_all (A : Option Addr) (n c : Nat) (v : List (List UInt8)) (I k : Int) (w : World) (hv : Strs w A n v) (hg : Good v I) (hk1 : 1 ≤ k) (hk2 : k ≤ I) :
    Calls Tryz.prog 23 #[.slice A n c, .int .i64 k, .int .i64 0, .int .i64 8960] w fun e w' => e = .returned (.tuple #[.string (str (dataP v I k)), .int .i64 0]) ∧ Ext w w' := by
  by_cases h : sizeP (fileOf v I k).x ≤ 0
  · rw [data_none h]
    exact fread_past A n c v I k 0 8960 w hv hg hk1 hk2 (by simpa using h)
  · exact fread_yes A n c v I k 0 8960 w hv hg hk1 hk2 (by simp; omega) (by simp) (by unfold sizeP; simp; omega)
theorem data_len (v : List (List UInt8)) (I k : Int) : (dataP v I k).length ≤ 8960 := by
  unfold dataP readP
  have := flatpc_le (piece_le (fileOf v I k) ((0 : Nat) : Int) (endP (fileOf v I k) ((0 : Nat) : Int) ((8960 : Nat) : Int))) (List.range (min (blocksP (endP (fileOf v I k) ((0 : Nat) : Int) ((8960 : Nat) : Int))) 70))
  rw [List.length_range] at this
  refine Nat.le_trans ?_ (Nat.le_trans this (by omega))
  exact Nat.le_refl _
end Go.Proofs.YtnoofjddikhopaaGreat
/- inode.All on a volume that is one; inode.New where no inode is free. -/
namespace Go.Proofs.YtnoofjddikhopaaGreat
set_option linter.unusedVariables false
set_option linter.unusedSimpArgs false
open Go.RowKit
/-- numbers as cells -/
def numsL (l : List Int) : List Value := l.map fun z => Value.int .i64 z
theorem intInfoN : (Tryz.prog.info? 3).map (fun i => (i.zero, i.size, i.bytes)) = some (some (.int .i64 0), 1, 8) := by kernel_rfl
theorem wp_app_int {ops : Array Oper} {rest : List Oper} {o : Oper} {a : Act} {w : World} {Q : Exit → Act → World → Prop} {B g n : Nat} {u : Value} {l : List Int} {y : Int} (hgd : o.guard = none) (sl x : Operand)
    (ho : o.op = .call { callee := .builtin .append, args := #[sl, x], argTypes := #[53, 53] }) (hs : a.eval sl = u) (hx : a.eval x = .slice (some ⟨g, 0, none⟩) 1 1)
    (h0 : w.ownsRow B 3 1 u n (numsL l)) (hb : Box w g 3 #[.int .i64 y]) (hn : n ≤ 1000000) (hB : B ≤ w.heap.size)
    (hK : ∀ u' w', w'.ownsRow B 3 1 u' (n + 1) (numsL (l ++ [y])) → w.grownBy w' u.ownBlock → wpList Tryz.prog ops Q rest (a.put o.dst u') w') : wpList Tryz.prog ops Q (o :: rest) a w := by
  refine wpList_plain hgd fun K hK' => ?_
  obtain ⟨i, hi, hz, h1, h2⟩ := info_parts intInfoN
  obtain ⟨v', w', hr, ho2, hg, _, _⟩ := run_append_own_at (P := Tryz.prog) w B 53 o.type 3 i _ 1 8 Tryz.underlying53 hi hz h1 h2 rfl (by decide) u n (numsL l) h0 ⟨g, 0, none⟩ 1 1 [.int .i64 y] rfl (fun j u hj => by
    have ha : (⟨g, 0, none⟩ : Addr).add j = ⟨g, j, none⟩ := by unfold Addr.add; split <;> simp_all
    rw [ha, hb.cell j]; simpa using hj) (fun u hu => by rcases (by simpa using hu : u = .int .i64 y) with rfl; rfl) (by unfold maxLen; omega) (by omega) hB
  unfold Oper.wp execOp
  simp only [ho, resolve, invoke, builtin, Sem.run_bind, Sem.run_pure, Result.andThen_ok, List.map_toArray, List.map_cons, List.map_nil, hs, hx, hr]
  refine hK' _ _ (hK v' w' ?_ hg)
  rw [show numsL (l ++ [y]) = numsL l ++ [.int .i64 y] by simp [numsL]]
  exact ho2
/-- the inodes that are, of the first m -/
def allTo (v : List (List UInt8)) : Nat → List Int
  | 0 => []
  | m + 1 => if (inoAt v ((m + 1 : Nat) : Int)).getD 0 0 ≠ 0 then allTo v m ++ [((m + 1 : Nat) : Int)] else allTo v m
theorem allTo_le (v : List (List UInt8)) : ∀ m, (allTo v m).length ≤ m ∧ ∀ n ∈ allTo v m, 1 ≤ n ∧ n ≤ (m : Int)
  | 0 => ⟨Nat.le_refl _, fun n h => absurd h List.not_mem_nil⟩
  | m + 1 => by
    obtain ⟨h1, h2⟩ := allTo_le v m
    unfold allTo
    split
    · refine ⟨by rw [List.length_append]; simp; omega, fun n hn => ?_⟩
      rcases List.mem_append.1 hn with h | h
      · have := h2 n h; omega
      · obtain rfl := List.mem_singleton.1 h; omega
    · exact ⟨by omega, fun n hn => by have := h2 n hn; omega⟩
theorem allTo_yes {v : List (List UInt8)} {m : Nat} (h : (inoAt v ((m + 1 : Nat) : Int)).getD 0 0 ≠ 0) : allTo v (m + 1) = allTo v m ++ [((m + 1 : Nat) : Int)] := by
  rw [allTo, if_pos h]
theorem allTo_no {v : List (List UInt8)} {m : Nat} (h : (inoAt v ((m + 1 : Nat) : Int)).getD 0 0 = 0) : allTo v (m + 1) = allTo v m := by
  rw [allTo, if_neg (by rw [h]; simp)]
set_option maxHeartbeats 1000000 in
set_option maxRecDepth 100000 in
theorem iall_any (A : Option Addr) (n c : Nat) (v : List (List UInt8)) (I : Int) (w : World) (hv : Strs w A n v) (hg : Good v I) :
    Calls Tryz.prog 143 #[.slice A n c] w fun e w' => ∃ u, e = .returned u ∧ Ext w w' ∧ w'.ownsRow w.heap.size 3 1 u (allTo v I.toNat).length (numsL (allTo v I.toNat)) := by
  have hpl := plan_bd hg.plan
  obtain ⟨b, oo, rfl, _⟩ := hv.2 (by have := hv.1; omega)
  obtain ⟨N, rfl⟩ : ∃ N : Nat, I = (N : Int) := ⟨I.toNat, by omega⟩
  rw [Int.toNat_natCast]
  have HO := Lib.hid (fun w h => of_yes (some ⟨b, oo, none⟩) n c v N w h hg)
  have HT := Lib.hid (fun (m : Nat) (h1 : 1 ≤ m) (h2 : (m : Int) ≤ N) w h => told_good b oo n c v N m w h hg (by omega) h2)
  have HX := Lib.hid (fun m : Nat => inoAt_len v m)
  have HY := Lib.hid (fun m => @allTo_yes v m)
  have HNo := Lib.hid (fun m => @allTo_no v m)
  have HLe := Lib.hid (fun m => (allTo_le v m).1)
  have HV := Lib.hid hv
  have hN : N ≤ 64 := by omega
  clear hv hg hpl
  go_enter Tryz.func143, Tryz.ntmps143
  go_wp2_with fail
  refine (HO.out _ HV.out).mono ?_
  rintro e w1 ⟨rfl, x1⟩
  rw [geomV_eq]
  go_wp2_with (refine wp_st_geom (.tmp 3) (.tmp 10) rfl rfl w1.heap.size _ [0, 0, 0, 0, 0, 0] 81 rfl rfl (Box.new _ _ _) rfl rfl ?_; intro w2 b2 g2; have x2 : Ext w w2 := (x1.alloc _).grown g2 (fun k e => by cases e; exact x1.size))
  have hgt : w.heap.size ≤ w1.heap.size := x1.size
  generalize hG : w1.heap.size = g at *
  go_loopw [5, 6] (fun u t wx => ∃ m : Nat, m ≤ N ∧ t = .int .i64 ((m + 1 : Nat) : Int) ∧ Ext w wx ∧ Box wx g 81 (intVals [v.length, N, 1, 2, 3, 3 + (N + 1) / 2]) ∧ wx.ownsRow w.heap.size 3 1 u (allTo v m).length (numsL (allTo v m))) (fun _ t _ => N + 1 - (intOf t).toNat)
  case atStart => exact ⟨0, by omega, rfl, x2, b2, World.ownsRow_nil _ _ _ _⟩
  case round =>
    obtain ⟨m, hm, rfl, xm, bm, own⟩ := hrel
    have c1 : wr.cell? ⟨g, 1, none⟩ = some (.int .i64 (N : Int)) := bm.cell 1
    by_cases hlt : m < N
    · have dm : ((m + 1 : Nat) : Int) ≤ (N : Int) := by omega
      have HTm := Lib.hid (HT.out (m + 1) (by omega) dm)
      obtain ⟨a0, a1, a2, a3, a4, a5, a6, a7, a8, a9, a10, a11, hx⟩ := flist12 (HX.out (m + 1))
      have hx0 : (inoAt v ((m + 1 : Nat) : Int)).getD 0 0 = a0 := by rw [hx]; rfl
      have HYm := Lib.hid (HY.out m)
      have HNm := Lib.hid (HNo.out m)
      rw [hx0] at HYm HNm
      rw [hx] at HTm
      rw [show intVals [a0, a1, a2, a3, a4, a5, a6, a7, a8, a9, a10, a11] = #[.int .i64 a0, .int .i64 a1, .int .i64 a2, .int .i64 a3, .int .i64 a4, .int .i64 a5, .int .i64 a6, .int .i64 a7, .int .i64 a8, .int .i64 a9, .int .i64 a10, .int .i64 a11] from rfl] at HTm
      have hfd := ino_kind a0 a1 a2 a3 a4 a5 a6 a7 a8 a9 a10 a11
      have hle := HLe.out m
      have hxs := xm.size
      clear hx hx0
      have OW := Lib.hid own
      clear own
      generalize hk : m + 1 = k at *
      by_cases hb : a0 = 0
      · have hbd : (a0 != 0) = false := by simpa using hb
        have HE := Lib.hid (HNm.out hb)
        clear hb
        go_wp2_with (first
          | (refine wp_ld_geom (.tmp 3) rfl rfl g _ 81 rfl bm rfl ?_)
          | (go_at_call 63; refine (HTm.out _ (HV.out.ext xm)).mono ?_; rintro e w3 ⟨rfl, x3⟩; clear HTm))
        go_roundw
        case rel => exact ⟨m + 1, by omega, by rw [hk]; go_num, xm.trans x3, bm.ext x3, by rw [hk, HE.out]; exact own_ext OW.out x3⟩
        case measure => simp [intOf]; omega
      · have hbd : (a0 != 0) = true := by simpa using hb
        have HE := Lib.hid (HYm.out hb)
        clear hb
        go_wp2_with (first
          | (refine wp_ld_geom (.tmp 3) rfl rfl g _ 81 rfl bm rfl ?_)
          | (go_at_call 63; refine (HTm.out _ (HV.out.ext xm)).mono ?_; rintro e w3 ⟨rfl, x3⟩; clear HTm)
          | (refine wp_app_int (y := (k : Int)) rfl (.tmp 26) (.tmp 28) rfl rfl rfl (own_ext OW.out (x3.alloc _)) (Box.new _ _ _) (by omega) (by simp; have := x3.size; omega) ?_; intro u5 w5 o5 g5; have hlo5 := Lib.hid (fun (j : Nat) e => own_low OW.out (k := j) e); have x5 : Ext w w5 := ((xm.trans x3).alloc _).grown g5 (fun j e => hlo5.out j e); have b5 := (bm.ext (x3.alloc (.cells #[.int .i64 (k : Int)] 3)))))
        go_roundw
        case rel => exact ⟨m + 1, by omega, by rw [hk]; go_num, x5, (b5.grown g5 (own_ne (own_ext OW.out (x3.alloc _)) b5 (by decide))), by rw [hk, HE.out, List.length_append]; exact o5⟩
        case measure => simp [intOf]; omega
    · obtain rfl : m = N := by omega
      have dm : ¬ ((m + 1 : Nat) : Int) ≤ (m : Int) := by omega
      have dm2 : decide (((m + 1 : Nat) : Int) ≤ (m : Int)) = false := decide_eq_false dm
      have OW := Lib.hid own
      clear own
      generalize ((m + 1 : Nat) : Int) = k at *
      go_wp2_with fail
      go_ret
      exact ⟨_, rfl, xm, OW.out⟩
end Go.Proofs.YtnoofjddikhopaaGreat
/- inode.New on any volume that is one. -/
namespace Go.Proofs.YtnoofjddikhopaaGreat
set_option linter.unusedVariables false
set_option linter.unusedSimpArgs false
open Go.RowKit
/-- the first inode that is free, less one -/
def freeI (v : List (List UInt8)) (I : Int) : Option Nat := (List.range I.toNat).find? fun i => (inoAt v ((i + 1 : Nat) : Int)).getD 0 0 == 0
/-- a volume with a new inode, its number, the error -/
def newP (v : List (List UInt8)) (I kd o : Int) : List (List UInt8) × Int × Int := match freeI v I with
  | some i => (putAt v ((i + 1 : Nat) : Int) [kd, 1, o, 0, 0, 0, 0, 0, 0, 0, 0, 0], ((i + 1 : Nat) : Int), 0)
  | none => ([], 0, 10)
theorem freeI_some {v : List (List UInt8)} {I : Int} {i : Nat} (h : freeI v I = some i) : (i : Int) < I ∧ (inoAt v ((i + 1 : Nat) : Int)).getD 0 0 = 0 ∧ ∀ j, j < i → (inoAt v ((j + 1 : Nat) : Int)).getD 0 0 ≠ 0 := by
  unfold freeI at h
  obtain ⟨h1, h2, h3⟩ := List.find?_range_eq_some.1 h
  rw [List.mem_range] at h2
  exact ⟨by omega, by simpa using h1, fun j hj => by simpa using h3 j hj⟩
theorem freeI_none {v : List (List UInt8)} {I : Int} (h : freeI v I = none) (j : Nat) (hj : (j : Int) < I) : (inoAt v ((j + 1 : Nat) : Int)).getD 0 0 ≠ 0 := by
  unfold freeI at h
  have := List.find?_range_eq_none.1 h j (by omega)
  simpa using this
set_option maxHeartbeats 1000000 in
set_option maxRecDepth 100000 in
theorem inew_no (A : Option Addr) (n c : Nat) (v : List (List UInt8)) (I kd o : Int) (w : World) (hv : Strs w A n v) (hg : Good v I) (hkd : kd = 1 ∨ kd = 2) (ho0 : 0 ≤ o) (ho1 : o ≤ 15)
    (hno : ∀ i : Nat, 1 ≤ i → (i : Int) ≤ I → (inoAt v i).getD 0 0 ≠ 0) :
    Calls Tryz.prog 27 #[.slice A n c, .int .i64 kd, .int .i64 o] w fun e w' => e = .returned (.tuple #[.slice none 0 0, .int .i64 0, .int .i64 10]) ∧ Ext w w' := by
  have hpl := plan_bd hg.plan
  obtain ⟨b, oo, rfl, _⟩ := hv.2 (by have := hv.1; omega)
  obtain ⟨N, rfl⟩ : ∃ N : Nat, I = (N : Int) := ⟨I.toNat, by omega⟩
  have HO := Lib.hid (fun w h => of_yes (some ⟨b, oo, none⟩) n c v N w h hg)
  have HT := Lib.hid (fun (m : Nat) (h1 : 1 ≤ m) (h2 : (m : Int) ≤ N) w h => told_good b oo n c v N m w h hg (by omega) h2)
  have HL := Lib.hid hno
  have HX := Lib.hid (fun m : Nat => inoAt_len v m)
  clear hno
  have d3 : decide (o < 0) = false := by simp; omega
  have d4 : decide (16 ≤ o) = false := by simp; omega
  rcases hkd with rfl | rfl
  all_goals
    go_enter Tryz.func27, Tryz.ntmps27
    go_wp2_with fail
    refine (HO.out _ hv).mono ?_
    rintro e w1 ⟨rfl, x1⟩
    rw [geomV_eq]
    go_wp2_with (refine wp_st_geom (.tmp 9) (.tmp 15) rfl rfl w1.heap.size _ [0, 0, 0, 0, 0, 0] 81 rfl rfl (Box.new _ _ _) rfl rfl ?_; intro w2 b2 g2; have x2 : Ext w w2 := (x1.alloc _).grown g2 (fun k e => by cases e; exact x1.size))
    go_loopw [11] (fun t wx => ∃ m : Nat, 1 ≤ m ∧ m ≤ N + 1 ∧ t = .int .i64 m ∧ Ext w wx ∧ Box wx w1.heap.size 81 (intVals [v.length, N, 1, 2, 3, 3 + (N + 1) / 2])) (fun t _ => N + 1 - (intOf t).toNat)
    case atStart => exact ⟨1, by omega, by omega, rfl, x2, b2⟩
    case round =>
      obtain ⟨m, hm1, hm, rfl, xm, bm⟩ := hrel
      have c1 : wr.cell? ⟨w1.heap.size, 1, none⟩ = some (.int .i64 (N : Int)) := bm.cell 1
      by_cases hlt : m ≤ N
      · have dm : (m : Int) ≤ (N : Int) := by omega
        have HTm := Lib.hid (HT.out m hm1 dm)
        obtain ⟨a0, a1, a2, a3, a4, a5, a6, a7, a8, a9, a10, a11, hx⟩ := flist12 (HX.out m)
        have hx0 : (inoAt v m).getD 0 0 = a0 := by rw [hx]; rfl
        rw [hx] at HTm
        rw [show intVals [a0, a1, a2, a3, a4, a5, a6, a7, a8, a9, a10, a11] = #[.int .i64 a0, .int .i64 a1, .int .i64 a2, .int .i64 a3, .int .i64 a4, .int .i64 a5, .int .i64 a6, .int .i64 a7, .int .i64 a8, .int .i64 a9, .int .i64 a10, .int .i64 a11] from rfl] at HTm
        have hfd := ino_kind a0 a1 a2 a3 a4 a5 a6 a7 a8 a9 a10 a11
        have hb : (a0 == 0) = false := by rw [← hx0]; simpa using HL.out m hm1 dm
        clear hx hx0
        go_wp2_with (first
          | (refine wp_ld_geom (.tmp 9) rfl rfl w1.heap.size _ 81 rfl bm rfl ?_)
          | (go_at_call 63; refine (HTm.out _ (hv.ext xm)).mono ?_; rintro e w3 ⟨rfl, x3⟩))
        go_roundw
        case rel => exact ⟨m + 1, by omega, by omega, by go_num, xm.trans x3, bm.ext x3⟩
        case measure => simp [intOf]; omega
      · have dm : ¬ (m : Int) ≤ (N : Int) := by omega
        go_wp2_with fail
        go_ret3
        exact ⟨rfl, xm⟩
theorem inew_any (A : Option Addr) (n c : Nat) (v : List (List UInt8)) (I kd o : Int) (w : World) (hv : Strs w A n v) (hg : Good v I) (hkd : kd = 1 ∨ kd = 2) (ho0 : 0 ≤ o) (ho1 : o ≤ 15) :
    Calls Tryz.prog 27 #[.slice A n c, .int .i64 kd, .int .i64 o] w fun e w' => ∃ u, e = .returned (.tuple #[u, .int .i64 (newP v I kd o).2.1, .int .i64 (newP v I kd o).2.2]) ∧ Ext w w' ∧ ((newP v I kd o).2.2 = 0 → w'.ownsRow w.heap.size 9 1 u n (strL (newP v I kd o).1)) ∧ ((newP v I kd o).2.2 ≠ 0 → u = .slice none 0 0) := by
  unfold newP
  cases h : freeI v I with
  | some i =>
    obtain ⟨h1, h2, h3⟩ := freeI_some h
    refine (inew_yes A n c (i + 1) v I kd o w hv hg hkd ho0 ho1 (by omega) (by omega) h2 (fun j hj1 hj2 => by
      obtain ⟨m, rfl⟩ : ∃ m, j = m + 1 := ⟨j - 1, by omega⟩
      exact h3 m (by omega))).mono ?_
    rintro e w' ⟨u, rfl, x, own⟩
    exact ⟨u, rfl, x, fun _ => own, fun h => absurd rfl h⟩
  | none =>
    refine (inew_no A n c v I kd o w hv hg hkd ho0 ho1 (fun j hj1 hj2 => by
      obtain ⟨m, rfl⟩ : ∃ m, j = m + 1 := ⟨j - 1, by omega⟩
      exact freeI_none h m (by omega))).mono ?_
    rintro e w' ⟨rfl, x⟩
    exact ⟨_, rfl, x, fun h => (by cases h), fun _ => rfl⟩
end Go.Proofs.YtnoofjddikhopaaGreat
/- quota.limit, Limit, owned, Used on a volume that is one. -/
namespace Go.Proofs.YtnoofjddikhopaaGreat
set_option linter.unusedVariables false
set_option linter.unusedSimpArgs false
open Go.RowKit
theorem qis_any (o : Int) (w : World) : Calls Tryz.prog 132 #[.int .i64 o] w fun e w' => e = .returned (.bool (decide (0 ≤ o) && decide (o < 16))) ∧ w = w' := by
  rcases Bool.eq_false_or_eq_true (decide (0 ≤ o)) with d1 | d1
  all_goals
    go_enter Tryz.func132, Tryz.ntmps132
    go_wp2_with fail
    go_ret
    exact ⟨by rw [d1]; rfl, rfl⟩
/-- an owner's limit -/
def limitP (v : List (List UInt8)) (o : Nat) : Int := fnum (v.getD 1 []) (2 * o) 2
set_option maxHeartbeats 1000000 in
set_option maxRecDepth 100000 in
theorem qlimit_any (A : Option Addr) (n c o : Nat) (v : List (List UInt8)) (I : Int) (w : World) (hv : Strs w A n v) (hg : Good v I) (ho : o < 16) :
    Calls Tryz.prog 133 #[.slice A n c, .agg (intVals [v.length, I, 1, 2, 3, 3 + (I + 1) / 2]), .int .i64 o] w fun e w' => e = .returned (.int .i64 (limitP v o)) ∧ Ext w w' := by
  have hpl := plan_bd hg.plan
  obtain ⟨rfl, hv2⟩ := hv
  obtain ⟨b, oo, rfl, hcell⟩ := hv2 (by omega)
  have hgl : (v.getD 1 []).length = 128 := getD_len hg (by omega)
  have cb : w.cell? ⟨b, oo + 1, none⟩ = some (.string (str (v.getD 1 []))) := cell_getD hcell (by omega)
  have cb2 := ((Ext.refl w).alloc (.cells (intVals [v.length, I, 1, 2, 3, 3 + (I + 1) / 2]) 81)).keep cb
  have cg : (w.alloc (.cells (intVals [v.length, I, 1, 2, 3, 3 + (I + 1) / 2]) 81)).cell? ⟨w.heap.size, 2, none⟩ = some (.int .i64 1) := (Box.new _ _ _).cell 2
  have HG := Lib.hid (fun w => get_ext (v.getD 1 []) (2 * o) (2 * o + 2) 2 w rfl (.inr (.inl rfl)) (by omega))
  have HL : Hid (limitP v o = fnum (v.getD 1 []) (2 * o) 2) := rfl
  have hfb := fnum_bd (v.getD 1 []) (2 * o) 2 (by omega)
  have hsz : (str (v.getD 1 [])).size = 128 := by rw [str_size, hgl]
  have h1 : (1 : Int) < (v.length : Int) := by omega
  clear hcell hv2 hg hgl cb
  generalize v.getD 1 [] = blk at *
  have w2 : IntKind.i64.wrap (2 * (o : Int)) = ((2 * o : Nat) : Int) := by rw [IntKind.wrap_i64]; omega
  have w3 : IntKind.i64.wrap (((2 * o : Nat) : Int) + 2) = ((2 * o + 2 : Nat) : Int) := by rw [IntKind.wrap_i64]; omega
  have w4 : IntKind.i64.wrap (fnum blk (2 * o) 2) = fnum blk (2 * o) 2 := by rw [IntKind.wrap_i64]; omega
  generalize fnum blk (2 * o) 2 = z at *
  go_enter Tryz.func133, Tryz.ntmps133
  go_wp2_with (go_at_call 102; refine (HG.out _).mono ?_; rintro e w5 ⟨rfl, rfl⟩)
  go_ret
  exact ⟨by rw [HL.out]; rfl, (Ext.refl w).alloc _⟩
set_option maxHeartbeats 1000000 in
set_option maxRecDepth 100000 in
theorem qLimit_any (A : Option Addr) (n c o : Nat) (v : List (List UInt8)) (I : Int) (w : World) (hv : Strs w A n v) (hg : Good v I) (ho : o < 16) :
    Calls Tryz.prog 112 #[.slice A n c, .int .i64 o] w fun e w' => e = .returned (.tuple #[.int .i64 (limitP v o), .int .i64 0]) ∧ Ext w w' := by
  have HO := Lib.hid (fun w h => of_yes A n c v I w h hg)
  have HL := Lib.hid (fun w h => qlimit_any A n c o v I w h hg ho)
  have HI := Lib.hid (fun w => qis_any (o : Int) w)
  have d1 : (decide ((0 : Int) ≤ (o : Int)) && decide ((o : Int) < 16)) = true := by simp; omega
  rw [d1] at HI
  have HV := Lib.hid hv
  clear hv hg d1 ho
  generalize limitP v o = z at *
  go_enter Tryz.func112, Tryz.ntmps112
  go_wp2_with fail
  refine (HO.out _ HV.out).mono ?_
  rintro e w1 ⟨rfl, x1⟩
  rw [geomV_eq]
  go_wp2_with (first
    | (refine wp_st_geom (.tmp 6) (.tmp 11) rfl rfl w1.heap.size _ [0, 0, 0, 0, 0, 0] 81 rfl rfl (Box.new _ _ _) rfl rfl ?_; intro w2 b2 g2; have x2 : Ext w w2 := (x1.alloc _).grown g2 (fun k e => by cases e; exact x1.size))
    | (go_at_call 132; refine (HI.out _).mono ?_; rintro e w3 ⟨rfl, rfl⟩)
    | (refine wp_ld_geom (.tmp 6) rfl rfl w1.heap.size _ 81 rfl b2 rfl ?_)
    | (go_at_call 133; refine (HL.out _ (HV.out.ext x2)).mono ?_; rintro e w4 ⟨rfl, x4⟩))
  go_ret2
  exact ⟨rfl, x2.trans x4⟩
end Go.Proofs.YtnoofjddikhopaaGreat
/- quota.Used on a volume that is one. -/
namespace Go.Proofs.YtnoofjddikhopaaGreat
set_option linter.unusedVariables false
set_option linter.unusedSimpArgs false
open Go.RowKit
set_option maxHeartbeats 2000000 in
set_option maxRecDepth 100000 in
theorem used1_any (b oo n c S B : Nat) (v : List (List UInt8)) (I k m z : Int) (w : World) (hv : Strs w (some ⟨b, oo, none⟩) n v) (hg : Good v I) (hk1 : 1 ≤ k) (hk2 : k ≤ I) (hz : countF (fileOf v I k) = z) (hm : 0 ≤ m) (hm2 : m ≤ 100000) (hz0 : 0 ≤ z) (hz2 : z ≤ 100000)
    (bS : Box w S 3 #[.int .i64 m]) (cV : w.cell? ⟨B, 0, none⟩ = some (.slice (some ⟨b, oo, none⟩) n c)) :
    Calls Tryz.prog 135 #[.int .i64 k, .pointer (some ⟨S, 0, none⟩), .pointer (some ⟨B, 0, none⟩)] w fun e w' => e = .returned (.bool true) ∧ ∃ w1, Ext w w1 ∧ w' = w1.setCell ⟨S, 0, none⟩ (.int .i64 (m + z)) := by
  have HC := Lib.hid (fun w h => fcount_yes (some ⟨b, oo, none⟩) n c v I k w h hg hk1 hk2)
  rw [hz] at HC
  have HV := Lib.hid hv
  have cS : w.cell? ⟨S, 0, none⟩ = some (.int .i64 m) := bS.cell 0
  clear hv hg hz
  go_enter Tryz.func135, Tryz.ntmps135
  go_upto_region 1 with fail
  refine wp_region_web' 5 [[], [], [], [1, 2], [0, 3]] (listV [isV (.int .i64 m), isV (.slice (some ⟨b, oo, none⟩) n c), isV (.int .i64 k), isV (.int .i64 z), isV (.int .i64 (m + z))]) (by kernel_rfl) (by kernel_rfl) (listV_ext (fun p hp => by simp only [List.mem_cons, List.not_mem_nil, or_false] at hp; rcases hp with rfl | rfl | rfl | rfl | rfl <;> first | exact lasts_is _)) (fun us => ?_)
  simp only [List.take_succ_cons, List.take_zero, List.drop_succ_cons, List.drop_zero]
  rw [webWalk]
  refine And.intro (fun w' hx hd => ?_) ?_
  · clear hd
    have c5 := hx.keep cS
    refine web_of_list 5 rfl (by simp) rfl ?_
    go_wp2_with fail
    exact ⟨Ext.refl _, rfl⟩
  simp only [Act.put, List.setIfInBounds_toArray, List.set_cons_zero, List.set_cons_succ]
  rw [webWalk]
  refine And.intro (fun w' hx hd => ?_) ?_
  · clear hd
    have c6 := hx.keep cV
    refine web_of_list 6 rfl (by simp [Act.put]) rfl ?_
    go_wp2_with fail
    exact ⟨Ext.refl _, rfl⟩
  simp only [Act.put, List.setIfInBounds_toArray, List.set_cons_zero, List.set_cons_succ]
  rw [webWalk]
  refine And.intro (fun w' hx hd => ?_) ?_
  · clear hd
    refine web_of_list 7 rfl (by simp [Act.put]) rfl ?_
    go_wp2_with fail
    exact ⟨Ext.refl _, rfl⟩
  simp only [Act.put, List.setIfInBounds_toArray, List.set_cons_zero, List.set_cons_succ]
  rw [webWalk]
  refine And.intro (fun w' hx hd => ?_) ?_
  · have h1 := hd 1 (by simp)
    have h2 := hd 2 (by simp)
    clear hd
    generalize us 1 = u1 at *
    generalize us 2 = u2 at *
    obtain rfl : u1 = .slice (some ⟨b, oo, none⟩) n c := h1
    obtain rfl : u2 = .int .i64 k := h2
    refine web_of_list 8 rfl (by simp [Act.put]) rfl ?_
    go_wp2_with (go_at_call 136; refine (HC.out _ (HV.out.ext hx)).mono ?_; rintro e w2 ⟨rfl, x2⟩)
    first
    | exact rfl
    | exact ⟨x2, rfl⟩
    | exact ⟨Ext.refl _, rfl⟩
  simp only [Act.put, List.setIfInBounds_toArray, List.set_cons_zero, List.set_cons_succ]
  rw [webWalk]
  refine And.intro (fun w' hx hd => ?_) ?_
  · have h0 := hd 0 (by simp)
    have h3 := hd 3 (by simp)
    clear hd
    generalize us 0 = u0 at *
    generalize us 3 = u3 at *
    obtain rfl : u0 = .int .i64 m := h0
    obtain rfl : u3 = .int .i64 z := h3
    refine web_of_list 9 rfl (by simp [Act.put]) rfl ?_
    go_wp2_with fail
    exact ⟨Ext.refl _, rfl⟩
  simp only [Act.put, List.setIfInBounds_toArray, List.set_cons_zero, List.set_cons_succ]
  rw [webWalk]
  intro w' hx hv
  have h4 := hv 4 (by omega)
  clear hv
  generalize us 0 = u0 at *
  generalize us 1 = u1 at *
  generalize us 2 = u2 at *
  generalize us 3 = u3 at *
  generalize us 4 = u4 at *
  obtain rfl : u4 = .int .i64 (m + z) := h4
  have bS' := bS.ext hx
  have kS := bS'.cell 0
  have fS := bS'.frozen 0
  have HX := Lib.hid hx
  clear hx bS bS'
  go_wp2_with fail
  go_ret
  exact ⟨rfl, _, HX.out, rfl⟩
/-- how many blocks an inode counts for an owner -/
def ownF (v : List (List UInt8)) (I o : Int) (n : Int) : Int := if (inoAt v n).getD 2 0 = o then countF (fileOf v I n) else 0
def usedS (v : List (List UInt8)) (I o : Int) (l : List Int) : Int := (l.map (ownF v I o)).sum
def usedP (v : List (List UInt8)) (I o : Int) : Int := usedS v I o (allTo v I.toNat)
theorem usedS_take (v : List (List UInt8)) (I o : Int) (l : List Int) (i : Nat) (h : i < l.length) : usedS v I o (l.take (i + 1)) = usedS v I o (l.take i) + ownF v I o l[i] := by
  unfold usedS; rw [List.take_succ_eq_append_getElem h, List.map_append, List.sum_append]; simp
theorem countF_bd (F : FileT) : 0 ≤ countF F ∧ countF F ≤ 72 := by
  have h := hereN_le (atP F.v F.I F.x) (List.range 70)
  rw [List.length_range] at h
  unfold countF
  split <;> split <;> omega
theorem ownF_bd (v : List (List UInt8)) (I o n : Int) : 0 ≤ ownF v I o n ∧ ownF v I o n ≤ 72 := by
  have h := countF_bd (fileOf v I n)
  unfold ownF
  split <;> omega
theorem usedS_bd (v : List (List UInt8)) (I o : Int) (l : List Int) : 0 ≤ usedS v I o l ∧ usedS v I o l ≤ 72 * l.length := by
  induction l with
  | nil => exact ⟨Int.le_refl _, Int.le_refl _⟩
  | cons n l ih =>
    have h := ownF_bd v I o n
    unfold usedS at *
    rw [List.map_cons, List.sum_cons, List.length_cons]; omega
/-- numbers in memory, from B on -/
def RowI (B : Nat) (w : World) (A : Option Addr) (l : List Int) : Prop := ∀ (i : Nat) (h : i < l.length), ∃ g, A = some ⟨g, 0, none⟩ ∧ B ≤ g ∧ w.cell? ⟨g, i, none⟩ = some (.int .i64 l[i])
theorem RowI.ext {B : Nat} {w w' : World} {A : Option Addr} {l : List Int} (h : RowI B w A l) (x : Ext w w') : RowI B w' A l := fun i hi => by
  obtain ⟨g, e, hb, hc⟩ := h i hi
  exact ⟨g, e, hb, x.keep hc⟩
theorem RowI.set {B S : Nat} {w : World} {A : Option Addr} {l : List Int} (h : RowI B w A l) (hS : S < B) (u : Value) : RowI B (w.setCell ⟨S, 0, none⟩ u) A l := fun i hi => by
  obtain ⟨g, e, hb, hc⟩ := h i hi
  refine ⟨g, e, hb, ?_⟩
  rw [← hc]
  unfold World.cell?
  rw [Below.heap_setCell w ⟨S, 0, none⟩ u g (by show g ≠ S; omega)]
theorem own_nums {w : World} {B : Nat} {u : Value} {l : List Int} (h : w.ownsRow B 3 1 u l.length (numsL l)) : ∃ A cap, u = .slice A l.length cap ∧ RowI B w A l := by
  rcases h.2 with ⟨e, h0⟩ | ⟨g, cap, cur, e, hb, _⟩
  · exact ⟨none, 0, by rw [e, h0], fun i hi => by omega⟩
  · subst e
    exact ⟨_, cap, rfl, fun i hi => ⟨g, rfl, hb, (h.cellAt i (by omega)).trans (by simp [numsL, hi])⟩⟩
set_option maxHeartbeats 2000000 in
set_option maxRecDepth 100000 in
theorem owned1_any (b oo n c S B b1 b2 : Nat) (v : List (List UInt8)) (I o : Int) (w : World) (hg : Good v I) (HV : ∀ W, Below S w W → Strs W (some ⟨b, oo, none⟩) n v) (hS : S < w.heap.size)
    (bS : Box w S 3 #[.int .i64 0]) (bB : Box w B 22 #[.slice (some ⟨b, oo, none⟩) n c]) (bb1 : Box w b1 22 #[.slice (some ⟨b, oo, none⟩) n c]) (bb2 : Box w b2 3 #[.int .i64 o]) (ne2 : b2 ≠ S) :
    Calls Tryz.prog 142 #[.func (.func 135) #[] #[.pointer (some ⟨S, 0, none⟩), .pointer (some ⟨B, 0, none⟩)], .pointer (some ⟨b1, 0, none⟩), .pointer (some ⟨b2, 0, none⟩)] w fun e w' => e = .returned (.tuple #[]) ∧ Below S w w' ∧ Box w' S 3 #[.int .i64 (usedP v I o)] := by
  have hpl := plan_bd hg.plan
  have HA := Lib.hid (fun w h => iall_any (some ⟨b, oo, none⟩) n c v I w h hg)
  have hle := allTo_le v I.toNat
  have HI := Lib.hid (fun k w h h1 h2 => iget_yes (some ⟨b, oo, none⟩) n c v I k w h hg h1 h2)
  have HU := Lib.hid (fun k m w h h1 h2 hm hm2 bS cV => used1_any b oo n c S B v I k m (countF (fileOf v I k)) w h hg h1 h2 rfl hm hm2 (countF_bd _).1 (by have := (countF_bd (fileOf v I k)).2; omega) bS cV)
  have HP : Hid (usedP v I o = usedS v I o (allTo v I.toNat)) := rfl
  have HLen := Lib.hid (fun k => inoAt_len v k)
  have HV := Lib.hid HV
  clear hg
  generalize allTo v I.toNat = L at *
  generalize usedP v I o = R at *
  have hL1 := hle.1
  have HLb := Lib.hid hle.2
  have hN : L.length ≤ 64 := by omega
  clear hle hL1
  have c1 : w.cell? ⟨b1, 0, none⟩ = some (.slice (some ⟨b, oo, none⟩) n c) := bb1.cell 0
  have ne1 : b1 ≠ S := bb1.ne bS (by decide)
  have neB : B ≠ S := bB.ne bS (by decide)
  have hb1 := bb1.lt
  have hb2 := bb2.lt
  have hbB := bB.lt
  have x0 : Below S w w := Below.refl _ _
  go_enter Tryz.func142, Tryz.ntmps142
  go_wp2_with (go_at_call 143; refine (HA.out _ (HV.out _ x0)).mono ?_; rintro e w1 ⟨u, rfl, x1, own1⟩; obtain ⟨A1, cap1, rfl, row1⟩ := own_nums own1; clear own1 HA)
  have y1 : Below S w w1 := Below.mono x1 (by omega)
  have cS1 := bS.ext x1
  have cB1 := bB.ext x1
  have c11 := bb1.ext x1
  have c21 := bb2.ext x1
  go_loopw [5, 6, 7, 11] (fun _ _ _ t wx => ∃ i : Nat, i ≤ L.length ∧ t = .int .i64 i ∧ Below S w wx ∧ w.heap.size ≤ wx.heap.size ∧ Box wx S 3 #[.int .i64 (usedS v I o (L.take i))] ∧ Box wx B 22 #[.slice (some ⟨b, oo, none⟩) n c] ∧ Box wx b1 22 #[.slice (some ⟨b, oo, none⟩) n c] ∧ Box wx b2 3 #[.int .i64 o] ∧ RowI w.heap.size wx A1 L) (fun _ _ _ t _ => L.length - (intOf t).toNat)
  case atStart => exact ⟨0, by omega, rfl, y1, x1.size, by rw [List.take_zero]; exact cS1, cB1, c11, c21, row1⟩
  case round =>
    clear row1 bS bB bb1 bb2 cS1 cB1 c11 c21 y1 x1 c1 x0
    obtain ⟨i, hi, rfl, xi, hsz, kS, kB, k1, k2, hrow⟩ := hrel
    by_cases hlt : i < L.length
    · have hil : (i : Int) < (L.length : Int) := by omega
      obtain ⟨g, rfl, hge, hcell⟩ := hrow i hlt
      have HT := Lib.hid (usedS_take v I o L i hlt)
      have hbd := usedS_bd v I o (L.take i)
      rw [List.length_take] at hbd
      obtain ⟨hn1, hn2⟩ := HLb.out L[i] (List.getElem_mem hlt)
      have hof : Hid (ownF v I o L[i] = if (inoAt v L[i]).getD 2 0 = o then countF (fileOf v I L[i]) else 0) := rfl
      have hlen := HLen.out L[i]
      have HIi := Lib.hid (fun w h => HI.out L[i] w h hn1 (by omega))
      have HUi := Lib.hid (fun m w h hm hm2 bS cV => HU.out L[i] m w h hn1 (by omega) hm hm2 bS cV)
      generalize L[i] = k at *
      generalize countF (fileOf v I k) = z at *
      generalize usedS v I o (L.take i) = m at *
      have hm2 : m ≤ 100000 := by omega
      have hc1 : wr.cell? ⟨b1, 0, none⟩ = some (.slice (some ⟨b, oo, none⟩) n c) := k1.cell 0
      have hx2 : (intVals (inoAt v k))[2]? = some (.int .i64 ((inoAt v k).getD 2 0)) := rfl
      generalize inoAt v k = x at *
      generalize x.getD 2 0 = ow at *
      by_cases how : ow = o
      · subst how
        rw [if_pos rfl] at hof
        rw [hof.out] at HT
        go_wp2_with (first
          | (go_at_call 35; refine (HIi.out _ (HV.out _ xi)).mono ?_; rintro e w3 ⟨rfl, x3⟩)
          | (refine wp_st_ino (.tmp 6) (.tmp 19) rfl rfl w3.heap.size _ zero12 61 rfl rfl (Box.new _ _ _) hlen rfl ?_; intro w4 b4 g4; have d2 := (b4.cell 2).trans hx2; have x4 : Ext wr w4 := (x3.alloc (.cells (intVals zero12) 61)).grown g4 (fun k e => by cases e; exact x3.size); have d1 : w4.cell? ⟨b2, 0, none⟩ = some (.int .i64 ow) := (k2.ext x4).cell 0)
          | (go_at_call 135; refine (HUi.out m _ (HV.out _ (xi.trans (Below.mono x4 (by omega)))) hbd.1 hm2 (kS.ext x4) ((kB.ext x4).cell 0)).mono ?_; rintro e w5 ⟨rfl, w6, x6, rfl⟩))
        have x46 := x4.trans x6
        go_roundw
        case rel => exact ⟨i + 1, by omega, by go_num, (xi.trans (Below.mono x46 (by omega))).setCell (p := ⟨S, 0, none⟩) (Nat.le_refl _) _, by have := x46.size; simp; omega, by rw [HT.out]; exact (kS.ext x46).set 0 _, (kB.ext x46).far (p := ⟨S, 0, none⟩) neB _, (k1.ext x46).far (p := ⟨S, 0, none⟩) ne1 _, (k2.ext x46).far (p := ⟨S, 0, none⟩) ne2 _, (hrow.ext x46).set (by omega) _⟩
        case measure => simp [intOf]; omega
      · rw [if_neg how] at hof
        rw [hof.out] at HT
        go_wp2_with (first
          | (go_at_call 35; refine (HIi.out _ (HV.out _ xi)).mono ?_; rintro e w3 ⟨rfl, x3⟩)
          | (refine wp_st_ino (.tmp 6) (.tmp 19) rfl rfl w3.heap.size _ zero12 61 rfl rfl (Box.new _ _ _) hlen rfl ?_; intro w4 b4 g4; have d2 := (b4.cell 2).trans hx2; have x4 : Ext wr w4 := (x3.alloc (.cells (intVals zero12) 61)).grown g4 (fun k e => by cases e; exact x3.size); have d1 : w4.cell? ⟨b2, 0, none⟩ = some (.int .i64 o) := (k2.ext x4).cell 0))
        go_roundw
        case rel => exact ⟨i + 1, by omega, by go_num, xi.trans (Below.mono x4 (by omega)), by have := x4.size; omega, by rw [HT.out, Int.add_zero]; exact kS.ext x4, kB.ext x4, k1.ext x4, k2.ext x4, hrow.ext x4⟩
        case measure => simp [intOf]; omega
    · obtain rfl : i = L.length := by omega
      have hil : ¬ (L.length : Int) < (L.length : Int) := by omega
      rw [List.take_length] at kS
      go_wp2_with fail
      refine bodyPost_end (results_none rfl _ _ _) rfl ?_
      exact ⟨rfl, xi, by rw [HP.out]; exact kS⟩
set_option maxHeartbeats 1000000 in
set_option maxRecDepth 100000 in
theorem qowned_any (A : Option Addr) (n c : Nat) (o : Int) (w : World) :
    Calls Tryz.prog 134 #[.slice A n c, .int .i64 o] w fun e w' => e = .returned (.func (.func 142) #[] #[.pointer (some ⟨w.heap.size, 0, none⟩), .pointer (some ⟨w.heap.size + 1, 0, none⟩)]) ∧ w' = (w.alloc (.cells #[.slice A n c] 22)).alloc (.cells #[.int .i64 o] 3) := by
  have hmf : ∀ (fn : Fn) (first cap : Array Value) (w : World), (Instr.makeFunc fn first cap).run Tryz.prog w = .ok (.func fn first cap) w := fun _ _ _ _ => rfl
  go_enter Tryz.func134, Tryz.ntmps134
  go_wp2_with fail
  go_ret
  exact ⟨rfl, rfl⟩
theorem strs_lt {w : World} {b o n : Nat} {v : List (List UInt8)} (h : Strs w (some ⟨b, o, none⟩) n v) (hn : 0 < n) : b < w.heap.size := by
  obtain ⟨b', o', e, hc⟩ := h.2 hn
  cases e
  have := hc 0 (by have := h.1; omega)
  unfold World.cell? at this
  cases hh : w.heap[b]? with
  | none => simp only [hh] at this; cases this
  | some o => exact (Array.getElem?_eq_some_iff.1 hh).1
set_option maxHeartbeats 1000000 in
set_option maxRecDepth 100000 in
theorem qused_any (A : Option Addr) (n c : Nat) (v : List (List UInt8)) (I o : Int) (w : World) (hv : Strs w A n v) (hg : Good v I) :
    Calls Tryz.prog 113 #[.slice A n c, .int .i64 o] w fun e w' => e = .returned (.int .i64 (usedP v I o)) ∧ Ext w w' := by
  have hpl := plan_bd hg.plan
  obtain ⟨b, oo, rfl, _⟩ := hv.2 (by have := hv.1; omega)
  have HO := Lib.hid (fun w => qowned_any (some ⟨b, oo, none⟩) n c o w)
  have H1 := Lib.hid (fun S B b1 b2 w a1 a2 a3 a4 a5 a6 a7 => owned1_any b oo n c S B b1 b2 v I o w hg a1 a2 a3 a4 a5 a6 a7)
  have HV := Lib.hid hv
  have hmf : ∀ (fn : Fn) (first cap : Array Value) (w : World), (Instr.makeFunc fn first cap).run Tryz.prog w = .ok (.func fn first cap) w := fun _ _ _ _ => rfl
  clear hv hg
  generalize usedP v I o = R at *
  have b0 := Box.new w 22 #[.slice (some ⟨b, oo, none⟩) n c]
  have x0 : Ext w (w.alloc (.cells #[.slice (some ⟨b, oo, none⟩) n c] 22)) := (Ext.refl w).alloc _
  have z0 : (w.alloc (.cells #[.slice (some ⟨b, oo, none⟩) n c] 22)).heap.size = w.heap.size + 1 := World.size_alloc _ _
  go_enter Tryz.func113, Tryz.ntmps113
  go_upto_region 1 with fail
  generalize w.alloc (.cells #[.slice (some ⟨b, oo, none⟩) n c] 22) = w1 at *
  have c1 := Box.new w1 3 #[.int .i64 0]
  have x1 : Ext w1 (w1.alloc (.cells #[.int .i64 0] 3)) := (Ext.refl w1).alloc _
  have z1 : (w1.alloc (.cells #[.int .i64 0] 3)).heap.size = w1.heap.size + 1 := World.size_alloc _ _
  have b01 := b0.ext x1
  go_upto_region 2 with fail
  rw [z0] at c1
  have x01 := x0.trans x1
  clear b0 x0 x1
  generalize w1.alloc (.cells #[.int .i64 0] 3) = w2 at *
  have cv2 : w2.cell? ⟨w.heap.size, 0, none⟩ = some (.slice (some ⟨b, oo, none⟩) n c) := b01.cell 0
  have e1 : w1.heap.size = w.heap.size + 1 := z0
  have e2 : w2.heap.size = w.heap.size + 2 := by omega
  obtain ⟨w4, hw4⟩ : ∃ w4, w4 = (w2.alloc (.cells #[.slice (some ⟨b, oo, none⟩) n c] 22)).alloc (.cells #[.int .i64 o] 3) := ⟨_, rfl⟩
  have x4 : Ext w2 w4 := by rw [hw4]; exact ((Ext.refl w2).alloc _).alloc _
  have z4 : w4.heap.size = w2.heap.size + 2 := by rw [hw4, World.size_alloc, World.size_alloc]
  have d1 : Box w4 w2.heap.size 22 #[.slice (some ⟨b, oo, none⟩) n c] := by rw [hw4]; exact (Box.new w2 _ _).ext ((Ext.refl _).alloc _)
  have d2 : Box w4 (w2.heap.size + 1) 3 #[.int .i64 o] := by
    rw [hw4]
    have := Box.new (w2.alloc (.cells #[.slice (some ⟨b, oo, none⟩) n c] 22)) 3 #[.int .i64 o]
    rwa [World.size_alloc] at this
  have X4 := Lib.hid (x01.trans x4)
  have hwl := strs_lt HV.out (by have := HV.out.1; omega)
  have HH := Lib.hid (H1.out (w.heap.size + 1) w.heap.size w2.heap.size (w2.heap.size + 1) w4 (fun W hW => HV.out.ext (X4.out.under hW (by omega))) (by omega) (c1.ext x4) (b01.ext x4) d1 d2 (by omega))
  have e3 : w2.heap.size = w.heap.size + 1 + 1 := e2
  rw [e3] at HH
  subst hw4
  clear H1 d1 d2 z4 e3
  go_wp2_with (first
    | (go_at_call 134; refine (HO.out _).mono ?_; rintro e w4' ⟨rfl, rfl⟩)
    | (go_at_call 142; refine HH.out.mono ?_; rintro e w5 ⟨rfl, x5, k5⟩; have k5c : w5.cell? ⟨w.heap.size + 1, 0, none⟩ = some (.int .i64 R) := k5.cell 0))
  go_ret
  exact ⟨rfl, X4.out.under x5 (by omega)⟩
end Go.Proofs.YtnoofjddikhopaaGreat
/- The drive of the statements of layer 28: wal.Format of 24 blocks; fs.Make. -/
namespace Go.Proofs.YtnoofjddikhopaaGreat
set_option linter.unusedVariables false
set_option linter.unusedSimpArgs false
open Go.RowKit
theorem inoL_zs (n o : Nat) : inoL (zs n) o = zero12 := by
  have e : ∀ o z, fnum (zs n) o z = 0 := fun o z => by
    have h : ((zs n).drop o).take z = zs (min z (n - o)) := by unfold zs; simp
    unfold fnum
    rw [h]
    have k : ∀ m, numL (zs m) = 0 := fun m => by
      induction m with
      | zero => rfl
      | succ m ih => rw [show zs (m + 1) = 0 :: zs m from rfl, numL, ih]; rfl
    rw [k]; rfl
  unfold inoL
  simp only [e]; rfl
end Go.Proofs.YtnoofjddikhopaaGreat
