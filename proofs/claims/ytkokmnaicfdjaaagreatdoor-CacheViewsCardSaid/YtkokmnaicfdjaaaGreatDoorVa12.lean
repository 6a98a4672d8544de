/- Rows of the call's own: what a step that writes one keeps; append of texts to rows of bytes and of texts. -/
import Derived.Test.YtkokmnaicfdjaaaGreatDoorVa9
import Derived.Maps.AppendAt
import Derived.Lib.AppendStr
import Derived.RangeFuncWrites
namespace Go.Proofs.YtkokmnaicfdjaaaGreatDoor
set_option linter.unusedVariables false
open Go.RowKit

theorem Ext.grown {a w w' : World} {row : Option Nat} (h : Ext a w) (hg : w.grownBy w' row) (hr : ∀ k, row = some k → a.heap.size ≤ k) : Ext a w' := Below.grown h hg h.size hr
theorem ext_grown {w w' : World} (hg : w.grownBy w' none) : Ext w w' := (Ext.refl w).grown hg (fun _ e => by cases e)
theorem Box.grown {w w' : World} {g : Nat} {t : TypeId} {cs : Array Value} {row : Option Nat} (h : Box w g t cs) (hg : w.grownBy w' row) (hne : some g ≠ row) : Box w' g t cs := (hg.block g h.lt hne).trans h
theorem own_ne {w : World} {base g size n : Nat} {e t : TypeId} {v : Value} {xs : List Value} {cs : Array Value} (h : w.ownsRow base e size v n xs) (hb : Box w g t cs) (hne : e ≠ t) : some g ≠ v.ownBlock := by
  rcases h.2 with ⟨rfl, _⟩ | ⟨g', cap, cur, rfl, _, hh, _⟩
  · simp [Value.ownBlock]
  · intro he
    have he' : g = g' := by simpa [Value.ownBlock] using he
    subst he'
    have h1 : w.heap[g]? = some (.cells cs t (0, 0)) := hb
    rw [hh] at h1; injection h1 with e1; injection e1 with _ e2; exact hne e2
theorem own_low {w : World} {base size n : Nat} {e : TypeId} {v : Value} {xs : List Value} (h : w.ownsRow base e size v n xs) {k : Nat} (hk : v.ownBlock = some k) : base ≤ k := by
  rcases h.2 with ⟨rfl, _⟩ | ⟨g', cap, cur, rfl, hb, _⟩
  · simp [Value.ownBlock] at hk
  · have : g' = k := by simpa [Value.ownBlock] using hk
    omega
theorem own_cells {w : World} {base size n : Nat} {e : TypeId} {v : Value} {xs : List Value} (h : w.ownsRow base e size v n xs) {k : Nat} {o : Obj} (hk : v.ownBlock = some k) (ho : w.heap[k]? = some o) : o.isCells = true := by
  rcases h.2 with ⟨rfl, _⟩ | ⟨g', cap, cur, rfl, _, hh, _⟩
  · simp [Value.ownBlock] at hk
  · have : g' = k := by simpa [Value.ownBlock] using hk
    subst this; rw [hh] at ho; cases ho; rfl
theorem own_keeps {w w' : World} {base size n B : Nat} {e : TypeId} {v : Value} {xs : List Value} (h : w.ownsRow base e size v n xs) (hg : w.grownBy w' v.ownBlock) : KeepsFrom B w w' :=
  (KeepsOthers.of_grownBy hg (fun _ _ hj ho => own_cells h hj ho)).from B
/-- bytes as cells -/
def byteL (l : List UInt8) : List Value := l.map fun c => Value.int .u8 (c.toNat : Int)
def strL (ss : List (List UInt8)) : List Value := ss.map fun s => Value.string (str s)
theorem byteInfo : (Tryz.prog.info? 5).map (fun i => (i.zero, i.size, i.bytes)) = some (some (.int .u8 0), 1, 1) := by kernel_rfl
/-- append(b, s...) -/
theorem app_str {w : World} {base n : Nat} {v : Value} {l : List UInt8} (h : w.ownsRow base 5 1 v n (byteL l)) (s : List UInt8) (ty : TypeId) (hn : n + s.length ≤ 140737488355328) (hb : base ≤ w.heap.size) :
    ∃ v' w', (Builtin.append_ #[101, 9] ty #[v, .string (str s)]).run Tryz.prog w = .ok v' w' ∧ w'.ownsRow base 5 1 v' (n + s.length) (byteL (l ++ s)) ∧ w.grownBy w' v.ownBlock := by
  obtain ⟨i, hi, hz, h1, h2⟩ := info_parts byteInfo
  obtain ⟨v', w', hr, ho, hg, _⟩ := Lib.run_append_own_string (P := Tryz.prog) w base 101 9 ty 5 i Tryz.underlying101 Tryz.underlying9 hi hz h1 h2 v n (byteL l) h (str s) (by rw [str_size]; unfold maxLen; omega) (by rw [str_size]; exact hn) hb
  rw [str_size] at ho
  refine ⟨v', w', hr, ?_, hg⟩
  rw [show byteL (l ++ s) = byteL l ++ Lib.strCells (str s) by simp [byteL, Lib.strCells, str_data]]
  exact ho
theorem wp_app_str {ops : Array Oper} {rest : List Oper} {o : Oper} {a : Act} {Q : Exit → Act → World → Prop} {w : World} {base n : Nat} {v : Value} {l s : List UInt8} (hgd : o.guard = none) (sl x : Operand)
    (ho : o.op = .call { callee := .builtin .append, args := #[sl, x], argTypes := #[101, 9] }) (hs : a.eval sl = v) (hx : a.eval x = .string (str s)) (h : w.ownsRow base 5 1 v n (byteL l))
    (hn : n + s.length ≤ 140737488355328) (hb : base ≤ w.heap.size) (hK : ∀ v' w', w'.ownsRow base 5 1 v' (n + s.length) (byteL (l ++ s)) → w.grownBy w' v.ownBlock → wpList Tryz.prog ops Q rest (a.put o.dst v') w') : wpList Tryz.prog ops Q (o :: rest) a w := by
  obtain ⟨i, hi, hz, h1, h2⟩ := info_parts byteInfo
  refine Lib.wpList_append_own_string w hgd sl x 101 9 ho base 5 i Tryz.underlying101 Tryz.underlying9 hi hz h1 h2 v n (byteL l) hs h (str s) hx (by rw [str_size]; unfold maxLen; omega) (by rw [str_size]; exact hn) hb ?_
  intro v' w' ho' hg _
  rw [str_size] at ho'
  refine hK v' w' ?_ hg
  rw [show byteL (l ++ s) = byteL l ++ Lib.strCells (str s) by simp [byteL, Lib.strCells, str_data]]
  exact ho'
/-- append(r, v...) of texts -/
theorem app_strs {w : World} {base n m c : Nat} {u : Value} {xs ys : List (List UInt8)} {A : Option Addr} (h : w.ownsRow base 9 1 u n (strL xs)) (hs : Strs w A m ys) (ty : TypeId) (hn : n + m ≤ 1000000) (hb : base ≤ w.heap.size) (hpos : 0 < m) :
    ∃ u' w', (Builtin.append_ #[23, 23] ty #[u, .slice A m c]).run Tryz.prog w = .ok u' w' ∧ w'.ownsRow base 9 1 u' (n + m) (strL (xs ++ ys)) ∧ w.grownBy w' u.ownBlock := by
  obtain ⟨i, hi, hz, h1, h2⟩ := info_parts strInfo
  obtain ⟨hl, hs2⟩ := hs
  obtain ⟨b, o, rfl, hc⟩ := hs2 hpos
  obtain ⟨v', w', hr, ho, hg, _⟩ := run_append_own_at (P := Tryz.prog) w base 23 ty 9 i _ 1 16 Tryz.underlying23 hi hz h1 h2 rfl (by decide) u n (strL xs) h ⟨b, o, none⟩ m c (strL ys) (by simp [strL, hl]) (fun j v hj => by
    have hjl : j < ys.length := by have := (List.getElem?_eq_some_iff.1 hj).1; simpa [strL] using this
    have ha : (⟨b, o, none⟩ : Addr).add j = ⟨b, o + j, none⟩ := by unfold Addr.add; split <;> simp_all
    rw [ha, hc j hjl]
    simp [strL, hjl] at hj; rw [← hj]) (fun v hv => by
    simp only [strL, List.mem_map] at hv
    obtain ⟨s, _, rfl⟩ := hv; rfl) (by unfold maxLen; omega) (by omega) hb
  refine ⟨v', w', hr, ?_, hg⟩
  rw [show strL (xs ++ ys) = strL xs ++ strL ys by simp [strL]]
  exact ho
/-- append([]string(nil), v...) -/
theorem app_nil {w : World} {base m c : Nat} {ys : List (List UInt8)} {A : Option Addr} (hs : Strs w A m ys) (ty : TypeId) (hm : m ≤ 1000000) (hb : base ≤ w.heap.size) (hpos : 0 < m) :
    ∃ u' w', (Builtin.append_ #[23, 23] ty #[.slice none 0 0, .slice A m c]).run Tryz.prog w = .ok u' w' ∧ w'.ownsRow base 9 1 u' m (strL ys) ∧ Ext w w' := by
  obtain ⟨u', w', hr, ho, hg⟩ := app_strs (c := c) (xs := []) (World.ownsRow_nil w base 9 1) hs ty (by omega) hb hpos
  rw [Nat.zero_add] at ho
  exact ⟨u', w', hr, ho, ext_grown hg⟩
theorem wp_app_nil {ops : Array Oper} {rest : List Oper} {o : Oper} {a : Act} {Q : Exit → Act → World → Prop} {w : World} {m c : Nat} {ys : List (List UInt8)} {A : Option Addr} (base : Nat) (hgd : o.guard = none) (sl x : Operand)
    (ho : o.op = .call { callee := .builtin .append, args := #[sl, x], argTypes := #[23, 23] }) (hs : a.eval sl = .slice none 0 0) (hx : a.eval x = .slice A m c) (h : Strs w A m ys) (hm : m ≤ 1000000) (hb : base ≤ w.heap.size) (hpos : 0 < m)
    (hK : ∀ u' w', w'.ownsRow base 9 1 u' m (strL ys) → Ext w w' → wpList Tryz.prog ops Q rest (a.put o.dst u') w') : wpList Tryz.prog ops Q (o :: rest) a w := by
  refine wpList_plain hgd fun K hK' => ?_
  obtain ⟨v', w', hr, h2, h3⟩ := app_nil (base := base) (c := c) h o.type hm hb hpos
  unfold Oper.wp execOp
  simp only [ho, resolve, invoke, builtin, Sem.run_bind, Sem.run_pure, Result.andThen_ok, List.map_toArray, List.map_cons, List.map_nil, hs, hx, hr]
  exact hK' _ _ (hK v' w' h2 h3)
theorem wp_app_strs {ops : Array Oper} {rest : List Oper} {o : Oper} {a : Act} {Q : Exit → Act → World → Prop} {w : World} {n m c : Nat} {u : Value} {xs ys : List (List UInt8)} {A : Option Addr} (base : Nat) (hgd : o.guard = none) (sl x : Operand)
    (ho : o.op = .call { callee := .builtin .append, args := #[sl, x], argTypes := #[23, 23] }) (hs : a.eval sl = u) (hx : a.eval x = .slice A m c) (h0 : w.ownsRow base 9 1 u n (strL xs)) (h : Strs w A m ys) (hm : n + m ≤ 1000000) (hb : base ≤ w.heap.size) (hpos : 0 < m)
    (hK : ∀ u' w', w'.ownsRow base 9 1 u' (n + m) (strL (xs ++ ys)) → w.grownBy w' u.ownBlock → wpList Tryz.prog ops Q rest (a.put o.dst u') w') : wpList Tryz.prog ops Q (o :: rest) a w := by
  refine wpList_plain hgd fun K hK' => ?_
  obtain ⟨v', w', hr, h2, h3⟩ := app_strs (base := base) (c := c) h0 h o.type hm hb hpos
  unfold Oper.wp execOp
  simp only [ho, resolve, invoke, builtin, Sem.run_bind, Sem.run_pure, Result.andThen_ok, List.map_toArray, List.map_cons, List.map_nil, hs, hx, hr]
  exact hK' _ _ (hK v' w' h2 h3)
/-- string(b) of a row of the call's own -/
theorem conv_own {w : World} {base n : Nat} {v : Value} {l : List UInt8} (h : w.ownsRow base 5 1 v n (byteL l)) (hn : 0 < n) : (convert 101 9 v).run Tryz.prog w = .ok (.string (str l)) w := by
  have hl : l.length = n := by have := h.1; simpa [byteL] using this
  rcases h.2 with ⟨_, h0⟩ | ⟨g, cap, cur, rfl, _, hh, _⟩
  · omega
  subst hl
  refine run_convert_bytes_back w 101 9 5 ⟨g, 0, none⟩ cap l Tryz.underlying101 Tryz.underlying5 Tryz.underlying9 (fun j hj => ?_)
  have ha : (⟨g, 0, none⟩ : Addr).add j = ⟨g, j, none⟩ := by unfold Addr.add; split <;> simp_all
  rw [ha, h.cellAt (g := g) j (by omega)]
  simp [byteL, hj]
theorem Strs.own' {w : World} {base n : Nat} {t : TypeId} {u : Value} {ss : List (List UInt8)} (h : w.ownsRow base t 1 u n (strL ss)) (hn : 0 < n) : ∃ g cap, u = .slice (some ⟨g, 0, none⟩) n cap ∧ base ≤ g ∧ Strs w (some ⟨g, 0, none⟩) n ss := by
  have h' := h
  rcases h.2 with ⟨_, h0⟩ | ⟨g, cap, cur, rfl, hb, _⟩
  · omega
  exact ⟨g, cap, rfl, hb, Strs.own h'⟩
end Go.Proofs.YtkokmnaicfdjaaaGreatDoor
/- The document's SameBlocks at two rows that are one. -/
namespace Go.Proofs.YtkokmnaicfdjaaaGreatDoor
set_option linter.unusedVariables false
open Go.RowKit

set_option maxHeartbeats 1000000 in
set_option maxRecDepth 100000 in
theorem same16_yes (A B : Option Addr) (n c1 c2 : Nat) (v : List (List UInt8)) (w : World) (ha : Strs w A n v) (hb : Strs w B n v) (hn : n ≤ 9223372036854775807) :
    Calls Tryz.prog 12 #[.slice A n c1, .slice B n c2] w fun e w' => e = .returned (.bool true) ∧ Ext w w' := by
  obtain ⟨hl, ha2⟩ := ha
  obtain ⟨_, hb2⟩ := hb
  have d0 : ((n : Int) != (n : Int)) = false := by simp
  go_enter Tryz.func12, Tryz.ntmps12
  go_wp2_with fail
  go_loopw [5, 13] (fun _ t wx => ∃ k : Nat, k ≤ n ∧ t = .int .i64 k ∧ Ext w wx) (fun _ t _ => n - (intOf t).toNat)
  case atStart => exact ⟨0, by omega, rfl, Ext.refl _⟩
  case round =>
    obtain ⟨k, hk, rfl, xk⟩ := hrel
    by_cases hlt : k < n
    · obtain ⟨b, o, rfl, hcell⟩ := ha2 (by omega)
      obtain ⟨b', o', rfl, hcell'⟩ := hb2 (by omega)
      have c1 := xk.keep (hcell k (by omega))
      have c2 := xk.keep (hcell' k (by omega))
      have hki : (k : Int) < (n : Int) := by omega
      clear hcell hcell' ha2 hb2
      generalize v[k]'(by omega) = s at *
      go_wp2_with fail
      go_quiet (fail)
      go_wp2_with fail
      go_roundw
      case rel => exact ⟨k + 1, by omega, by go_num, xk.drewN _⟩
      case measure => simp [intOf]; omega
    · obtain rfl : k = n := by omega
      go_wp2_with fail
      go_ret
      exact ⟨rfl, xk⟩
end Go.Proofs.YtkokmnaicfdjaaaGreatDoor
