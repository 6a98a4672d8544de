/- Rows of the call's own: what a step that writes one keeps; append of texts to rows of bytes and of texts. -/
import Derived.Test.YtnoofjddikhopaaGreatFa7
import Derived.Maps.AppendAt
import Derived.Lib.AppendStr
import Derived.RangeFuncWrites
import Derived.Test.YtnoofjddikhopaaGreatFa3
import Derived.Lib.Builder
import Derived.Laws.Bits128
import Derived.Test.YtnoofjddikhopaaGreatFa2
namespace Go.Proofs.YtnoofjddikhopaaGreat
set_option linter.unusedVariables false
set_option linter.unusedSimpArgs false
open Go.RowKit
theorem Ext.grown {a w w' : World} {row : Option Nat} (h : Ext a w) (hg : w.grownBy w' row) (hr : ∀ k, row = some k → a.heap.size ≤ k) : Ext a w' := Below.grown h hg h.size hr
theorem ext_grown {w w' : World} (hg : w.grownBy w' none) : Ext w w' := (Ext.refl w).grown hg (fun _ e => by cases e)
theorem Box.grown {w w' : World} {g : Nat} {t : TypeId} {cs : Array Value} {row : Option Nat} (h : Box w g t cs) (hg : w.grownBy w' row) (hne : some g ≠ row) : Box w' g t cs := (hg.block g h.lt hne).trans h
theorem own_ne {w : World} {base g size n : Nat} {e t : TypeId} {v : Value} {xs : List Value} {cs : Array Value} (h : w.ownsRow base e size v n xs) (hb : Box w g t cs) (hne : e ≠ t) : some g ≠ v.ownBlock := by
  rcases h.2 with ⟨rfl, _⟩ | ⟨g', cap, cur, rfl, _, hh, _⟩
  · simp [Value.ownBlock]
  · intro he
    have he' : g = g' := by simpa [Value.ownBlock] using he
    subst he'
    have h1 : w.heap[g]? = some (.cells cs t (0, 0)) := hb
    rw [hh] at h1; injection h1 with e1; injection e1 with _ e2; exact hne e2
theorem own_low {w : World} {base size n : Nat} {e : TypeId} {v : Value} {xs : List Value} (h : w.ownsRow base e size v n xs) {k : Nat} (hk : v.ownBlock = some k) : base ≤ k := by
  rcases h.2 with ⟨rfl, _⟩ | ⟨g', cap, cur, rfl, hb, _⟩
  · simp [Value.ownBlock] at hk
  · have : g' = k := by simpa [Value.ownBlock] using hk
    omega
theorem own_cells {w : World} {base size n : Nat} {e : TypeId} {v : Value} {xs : List Value} (h : w.ownsRow base e size v n xs) {k : Nat} {o : Obj} (hk : v.ownBlock = some k) (ho : w.heap[k]? = some o) : o.isCells = true := by
  rcases h.2 with ⟨rfl, _⟩ | ⟨g', cap, cur, rfl, _, hh, _⟩
  · simp [Value.ownBlock] at hk
  · have : g' = k := by simpa [Value.ownBlock] using hk
    subst this; rw [hh] at ho; cases ho; rfl
theorem own_keeps {w w' : World} {base size n B : Nat} {e : TypeId} {v : Value} {xs : List Value} (h : w.ownsRow base e size v n xs) (hg : w.grownBy w' v.ownBlock) : KeepsFrom B w w' :=
  (KeepsOthers.of_grownBy hg (fun _ _ hj ho => own_cells h hj ho)).from B
/-- bytes as cells -/
def byteL (l : List UInt8) : List Value := l.map fun c => Value.int .u8 (c.toNat : Int)
def strL (ss : List (List UInt8)) : List Value := ss.map fun s => Value.string (str s)
theorem byteInfo : (Tryz.prog.info? 5).map (fun i => (i.zero, i.size, i.bytes)) = some (some (.int .u8 0), 1, 1) := by kernel_rfl
theorem wp_app_str {ops : Array Oper} {rest : List Oper} {o : Oper} {a : Act} {Q : Exit → Act → World → Prop} {w : World} {base n : Nat} {v : Value} {l s : List UInt8} (hgd : o.guard = none) (sl x : Operand)
    (ho : o.op = .call { callee := .builtin .append, args := #[sl, x], argTypes := #[88, 9] }) (hs : a.eval sl = v) (hx : a.eval x = .string (str s)) (h : w.ownsRow base 5 1 v n (byteL l))
    (hn : n + s.length ≤ 140737488355328) (hb : base ≤ w.heap.size) (hK : ∀ v' w', w'.ownsRow base 5 1 v' (n + s.length) (byteL (l ++ s)) → w.grownBy w' v.ownBlock → wpList Tryz.prog ops Q rest (a.put o.dst v') w') : wpList Tryz.prog ops Q (o :: rest) a w := by
  obtain ⟨i, hi, hz, h1, h2⟩ := info_parts byteInfo
  refine Lib.wpList_append_own_string w hgd sl x 88 9 ho base 5 i Tryz.underlying88 Tryz.underlying9 hi hz h1 h2 v n (byteL l) hs h (str s) hx (by rw [str_size]; unfold maxLen; omega) (by rw [str_size]; exact hn) hb ?_
  intro v' w' ho' hg _
  rw [str_size] at ho'
  refine hK v' w' ?_ hg
  rw [show byteL (l ++ s) = byteL l ++ Lib.strCells (str s) by simp [byteL, Lib.strCells, str_data]]
  exact ho'
/-- append(r, v...) of texts -/
theorem app_strs {w : World} {base n m c : Nat} {u : Value} {xs ys : List (List UInt8)} {A : Option Addr} (h : w.ownsRow base 9 1 u n (strL xs)) (hs : Strs w A m ys) (ty : TypeId) (hn : n + m ≤ 1000000) (hb : base ≤ w.heap.size) (hpos : 0 < m) :
    ∃ u' w', (Builtin.append_ #[22, 22] ty #[u, .slice A m c]).run Tryz.prog w = .ok u' w' ∧ w'.ownsRow base 9 1 u' (n + m) (strL (xs ++ ys)) ∧ w.grownBy w' u.ownBlock := by
  obtain ⟨i, hi, hz, h1, h2⟩ := info_parts strInfo
  obtain ⟨hl, hs2⟩ := hs
  obtain ⟨b, o, rfl, hc⟩ := hs2 hpos
  obtain ⟨v', w', hr, ho, hg, _⟩ := run_append_own_at (P := Tryz.prog) w base 22 ty 9 i _ 1 16 Tryz.underlying22 hi hz h1 h2 rfl (by decide) u n (strL xs) h ⟨b, o, none⟩ m c (strL ys) (by simp [strL, hl]) (fun j v hj => by
    have hjl : j < ys.length := by have := (List.getElem?_eq_some_iff.1 hj).1; simpa [strL] using this
    have ha : (⟨b, o, none⟩ : Addr).add j = ⟨b, o + j, none⟩ := by unfold Addr.add; split <;> simp_all
    rw [ha, hc j hjl]
    simp [strL, hjl] at hj; rw [← hj]) (fun v hv => by
    simp only [strL, List.mem_map] at hv
    obtain ⟨s, _, rfl⟩ := hv; rfl) (by unfold maxLen; omega) (by omega) hb
  refine ⟨v', w', hr, ?_, hg⟩
  rw [show strL (xs ++ ys) = strL xs ++ strL ys by simp [strL]]
  exact ho
/-- append([]string(nil), v...) -/
theorem app_nil {w : World} {base m c : Nat} {ys : List (List UInt8)} {A : Option Addr} (hs : Strs w A m ys) (ty : TypeId) (hm : m ≤ 1000000) (hb : base ≤ w.heap.size) (hpos : 0 < m) :
    ∃ u' w', (Builtin.append_ #[22, 22] ty #[.slice none 0 0, .slice A m c]).run Tryz.prog w = .ok u' w' ∧ w'.ownsRow base 9 1 u' m (strL ys) ∧ Ext w w' := by
  obtain ⟨u', w', hr, ho, hg⟩ := app_strs (c := c) (xs := []) (World.ownsRow_nil w base 9 1) hs ty (by omega) hb hpos
  rw [Nat.zero_add] at ho
  exact ⟨u', w', hr, ho, ext_grown hg⟩
theorem wp_app_nil {ops : Array Oper} {rest : List Oper} {o : Oper} {a : Act} {Q : Exit → Act → World → Prop} {w : World} {m c : Nat} {ys : List (List UInt8)} {A : Option Addr} (base : Nat) (hgd : o.guard = none) (sl x : Operand)
    (ho : o.op = .call { callee := .builtin .append, args := #[sl, x], argTypes := #[22, 22] }) (hs : a.eval sl = .slice none 0 0) (hx : a.eval x = .slice A m c) (h : Strs w A m ys) (hm : m ≤ 1000000) (hb : base ≤ w.heap.size) (hpos : 0 < m)
    (hK : ∀ u' w', w'.ownsRow base 9 1 u' m (strL ys) → Ext w w' → wpList Tryz.prog ops Q rest (a.put o.dst u') w') : wpList Tryz.prog ops Q (o :: rest) a w := by
  refine wpList_plain hgd fun K hK' => ?_
  obtain ⟨v', w', hr, h2, h3⟩ := app_nil (base := base) (c := c) h o.type hm hb hpos
  unfold Oper.wp execOp
  simp only [ho, resolve, invoke, builtin, Sem.run_bind, Sem.run_pure, Result.andThen_ok, List.map_toArray, List.map_cons, List.map_nil, hs, hx, hr]
  exact hK' _ _ (hK v' w' h2 h3)
theorem wp_app_strs {ops : Array Oper} {rest : List Oper} {o : Oper} {a : Act} {Q : Exit → Act → World → Prop} {w : World} {n m c : Nat} {u : Value} {xs ys : List (List UInt8)} {A : Option Addr} (base : Nat) (hgd : o.guard = none) (sl x : Operand)
    (ho : o.op = .call { callee := .builtin .append, args := #[sl, x], argTypes := #[22, 22] }) (hs : a.eval sl = u) (hx : a.eval x = .slice A m c) (h0 : w.ownsRow base 9 1 u n (strL xs)) (h : Strs w A m ys) (hm : n + m ≤ 1000000) (hb : base ≤ w.heap.size) (hpos : 0 < m)
    (hK : ∀ u' w', w'.ownsRow base 9 1 u' (n + m) (strL (xs ++ ys)) → w.grownBy w' u.ownBlock → wpList Tryz.prog ops Q rest (a.put o.dst u') w') : wpList Tryz.prog ops Q (o :: rest) a w := by
  refine wpList_plain hgd fun K hK' => ?_
  obtain ⟨v', w', hr, h2, h3⟩ := app_strs (base := base) (c := c) h0 h o.type hm hb hpos
  unfold Oper.wp execOp
  simp only [ho, resolve, invoke, builtin, Sem.run_bind, Sem.run_pure, Result.andThen_ok, List.map_toArray, List.map_cons, List.map_nil, hs, hx, hr]
  exact hK' _ _ (hK v' w' h2 h3)
/-- string(b) of a row of the call's own -/
theorem conv_own {w : World} {base n : Nat} {v : Value} {l : List UInt8} (h : w.ownsRow base 5 1 v n (byteL l)) (hn : 0 < n) : (convert 88 9 v).run Tryz.prog w = .ok (.string (str l)) w := by
  have hl : l.length = n := by have := h.1; simpa [byteL] using this
  rcases h.2 with ⟨_, h0⟩ | ⟨g, cap, cur, rfl, _, hh, _⟩
  · omega
  subst hl
  refine run_convert_bytes_back w 88 9 5 ⟨g, 0, none⟩ cap l Tryz.underlying88 Tryz.underlying5 Tryz.underlying9 (fun j hj => ?_)
  have ha : (⟨g, 0, none⟩ : Addr).add j = ⟨g, j, none⟩ := by unfold Addr.add; split <;> simp_all
  rw [ha, h.cellAt (g := g) j (by omega)]
  simp [byteL, hj]
theorem Strs.own' {w : World} {base n : Nat} {t : TypeId} {u : Value} {ss : List (List UInt8)} (h : w.ownsRow base t 1 u n (strL ss)) (hn : 0 < n) : ∃ g cap, u = .slice (some ⟨g, 0, none⟩) n cap ∧ base ≤ g ∧ Strs w (some ⟨g, 0, none⟩) n ss := by
  have h' := h
  rcases h.2 with ⟨_, h0⟩ | ⟨g, cap, cur, rfl, hb, _⟩
  · omega
  exact ⟨g, cap, rfl, hb, Strs.own h'⟩
end Go.Proofs.YtnoofjddikhopaaGreat
/- strings.Builder: WriteString, of a fresh one too; its text. -/
namespace Go.Proofs.YtnoofjddikhopaaGreat
set_option linter.unusedVariables false
set_option linter.unusedSimpArgs false
open Go.RowKit
/-- the builder in block b holds these bytes -/
def Bld (B b : Nat) (l : List UInt8) (w : World) : Prop := Lib.BuilderAt 90 5 B b (.pointer (some ⟨b, 0, none⟩)) (byteL l) w
set_option maxRecDepth 100000 in
theorem copyCheck_any (B b : Nat) (l : List UInt8) (w : World) (h : Bld B b l w) :
    Calls Tryz.prog 94 #[.pointer (some ⟨b, 0, none⟩)] w fun e w' => e = .returned (.tuple #[]) ∧ w = w' := by
  have c0 := h.cell0
  obtain ⟨j, hj⟩ : ∃ j, Tryz.prog.info? 90 = some j := Option.isSome_iff_exists.1 (by kernel_rfl)
  have hne := Lib.run_neq_ptr_same (P := Tryz.prog) w ⟨b, 0, none⟩ Tryz.underlying87 hj
  go_enter Tryz.func94, Tryz.ntmps94
  go_wp2_with fail
  go_end0
  exact ⟨rfl, rfl⟩
theorem own_form {w : World} {base size n : Nat} {e : TypeId} {v : Value} {xs : List Value} (h : w.ownsRow base e size v n xs) (hn : 0 < n) : ∃ g cap, v = .slice (some ⟨g, 0, none⟩) n cap ∧ base ≤ g := by
  rcases h.2 with ⟨_, h0⟩ | ⟨g, cap, cur, h, hb, _⟩
  · omega
  · exact ⟨g, cap, h, hb⟩
theorem Bld.put {B b : Nat} {l' : List UInt8} {w w1 : World} {v v' : Value} {row : Option Nat} (hB0 : B ≤ b) (hb : w.heap[b]? = some (.cells #[.pointer (some ⟨b, 0, none⟩), v] 90 (0, 0))) (hne : v.ownBlock ≠ some b)
    (hg : w.grownBy w1 row) (hr : row = v.ownBlock) (own1 : w1.ownsRow B 5 1 v' l'.length (byteL l')) : Bld B b l' (w1.setCell ⟨b, 1, none⟩ v') := by
  subst hr
  have hb1 : Box w1 b 90 #[.pointer (some ⟨b, 0, none⟩), v] := Box.grown hb hg (fun e => hne e.symm)
  exact Lib.BuilderAt.put hB0 hb1 (by rw [show (byteL l').length = l'.length by simp [byteL]]; exact own1) (by decide)
def Bld0 (B b : Nat) (w : World) : Prop := Lib.BuilderAt 90 5 B b (.pointer none) [] w
set_option maxHeartbeats 1000000 in
set_option maxRecDepth 100000 in
theorem copyCheck_fresh (B b : Nat) (w : World) (h : Bld0 B b w) :
    Calls Tryz.prog 94 #[.pointer (some ⟨b, 0, none⟩)] w fun e w' => e = .returned (.tuple #[]) ∧ w' = w.setCell ⟨b, 0, none⟩ (.pointer (some ⟨b, 0, none⟩)) := by
  have hsh := h.shape
  obtain ⟨hB0, v, hb, hown, hne⟩ := h
  have hb' : Box w b 90 #[.pointer none, v] := hb
  have c0 : w.cell? ⟨b, 0, none⟩ = some (.pointer none) := hb'.cell 0
  have f0 := hb'.frozen 0
  obtain ⟨j, hj, hjs⟩ := Option.map_eq_some_iff.1 Tryz.Builder_Extra_169.sizeBuilder
  have hne1 := fun w => Lib.run_neq_ptr_same (P := Tryz.prog) w ⟨b, 0, none⟩ Tryz.underlying87 hj
  have hb2 : Box (w.setCell ⟨b, 0, none⟩ (.pointer (some ⟨b, 0, none⟩))) b 90 #[.pointer (some ⟨b, 0, none⟩), v] := hb'.set 0 _
  have d0 : (w.setCell ⟨b, 0, none⟩ (.pointer (some ⟨b, 0, none⟩))).cell? ⟨b, 0, none⟩ = some (.pointer (some ⟨b, 0, none⟩)) := hb2.cell 0
  have hto := Lib.run_to_unsafe (P := Tryz.prog) w ⟨b, 0, none⟩ Tryz.underlying87 Tryz.underlying160 hj (by rw [hjs]; decide) hsh (Nat.zero_lt_succ 1)
  have hfrom := Lib.run_from_unsafe (P := Tryz.prog) w ⟨b, 0, none⟩ Tryz.underlying160 Tryz.underlying87 hj hsh Tryz.Builder_Extra_169.liesBuilder
  go_enter Tryz.func94, Tryz.ntmps94
  go_wp2_with fail
  rw [run_callFunc_extern Tryz.func123 (by kernel_rfl) (by kernel_rfl) (by kernel_rfl) (e := Extern.AbiNoEscape.same) (by kernel_rfl)]
  rw [Lib.run_noEscape]
  simp only [Result.andThen]
  rw [Oper.upon_value]
  go_wp2_with fail
  go_end0
  exact ⟨rfl, rfl⟩
theorem copyCheck_keeps (B b : Nat) (l : List UInt8) (w : World) (h : Bld0 B b w ∧ l = [] ∨ Bld B b l w) (hB : B ≤ w.heap.size) :
    Calls Tryz.prog 94 #[.pointer (some ⟨b, 0, none⟩)] w fun e w' => e = .returned (.tuple #[]) ∧ Bld B b l w' ∧ Below B w w' ∧ Lib.OthersKept 5 (some b) w w' := by
  rcases h with ⟨h, rfl⟩ | h
  · refine (copyCheck_fresh B b w h).mono ?_
    rintro e w' ⟨rfl, rfl⟩
    exact ⟨rfl, h.used _, (Below.refl B w).setCell (p := ⟨b, 0, none⟩) h.1 _, (Lib.OthersKept.refl _ _ w).setCell ⟨b, 0, none⟩ rfl _⟩
  · refine (copyCheck_any B b l w h).mono ?_
    rintro e w' ⟨rfl, rfl⟩
    exact ⟨rfl, h, Below.refl B w, Lib.OthersKept.refl _ _ w⟩
theorem own_row8 {w : World} {base size n : Nat} {e : TypeId} {v : Value} {xs : List Value} (h : w.ownsRow base e size v n xs) : ∀ g, v.ownBlock = some g → ∃ c fz, w.heap[g]? = some (.cells c e fz) := fun g hg => by
  rcases h.2 with ⟨rfl, _⟩ | ⟨g', cap, cur, rfl, _, hh, _⟩
  · cases hg
  · injection hg with hg
    subst hg
    exact ⟨cur, (0, 0), hh⟩
set_option maxHeartbeats 400000 in
theorem writeString_keeps (B b : Nat) (l s : List UInt8) (w : World) (h : Bld0 B b w ∧ l = [] ∨ Bld B b l w) (hB : B ≤ w.heap.size) (hl : l.length ≤ 100000000000) (hs : s.length ≤ 1000000000) :
    Calls Tryz.prog 52 #[.pointer (some ⟨b, 0, none⟩), .string (str s)] w fun e w' => e = .returned (.tuple #[.int .i64 s.length, .nilIface]) ∧ Bld B b (l ++ s) w' ∧ Below B w w' ∧ Lib.OthersKept 5 (some b) w w' := by
  have HC := Lib.hid (copyCheck_keeps B b l w h hB)
  have hz := str_size
  clear h
  go_enter Tryz.func52, Tryz.ntmps52
  go_wp2_with fail
  refine HC.out.mono ?_
  rintro e w0 ⟨rfl, ⟨hB0, v, hb, hown, hne⟩, bw0, ok0⟩
  have c1 : w0.cell? ⟨b, 1, none⟩ = some v := Box.cell hb 1
  have hlen : (byteL l).length = l.length := by simp [byteL]
  rw [hlen] at hown
  have hBw : B ≤ w0.heap.size := Nat.le_trans hB bw0.size
  go_wp2_with (refine wp_app_str rfl (.tmp 12) (.tmp 13) rfl rfl rfl hown (by omega) hBw ?_)
  intro v' w1 own1 hg1
  have hb1 : Box w1 b 90 #[.pointer (some ⟨b, 0, none⟩), v] := Box.grown hb hg1 (fun e => hne e.symm)
  have d0 : w1.cell? ⟨b, 1, none⟩ = some v := hb1.cell 1
  have d1 := hb1.frozen 1
  have hlo := @own_low w0 B 1 _ _ v _ hown
  have hbw : Below B w w1 := bw0.grown hg1 hBw (fun k e => hlo e)
  have hok : Lib.OthersKept 5 (some b) w w1 := ok0.grown hg1 (own_row8 hown)
  have hput := Bld.put (l' := l ++ s) hB0 hb hne hg1 rfl (by rw [List.length_append]; exact own1)
  rcases own1.2 with ⟨rfl, h0⟩ | ⟨g, cap, cur, rfl, _⟩
  · go_wp2_with fail
    go_ret2
    exact ⟨rfl, hput, hbw.setCell (p := ⟨b, 1, none⟩) hB0 _, hok.setCell ⟨b, 1, none⟩ rfl _⟩
  · go_wp2_with fail
    go_ret2
    exact ⟨rfl, hput, hbw.setCell (p := ⟨b, 1, none⟩) hB0 _, hok.setCell ⟨b, 1, none⟩ rfl _⟩
/-- its text -/
theorem bldString_any (B b : Nat) (l : List UInt8) (w : World) (h : Bld B b l w) (hB : B ≤ w.heap.size) :
    Calls Tryz.prog 54 #[.pointer (some ⟨b, 0, none⟩)] w fun e w' => e = .returned (.string (str l)) ∧ Below B w w' ∧ Lib.OthersKept 5 (some b) w w' := by
  refine (Tryz.Builder_String_any_k B b l w (.inr (Lib.BuilderAtF.of h)) hB).mono ?_
  rintro e w' ⟨rfl, _, hb, hk⟩
  exact ⟨rfl, hb, hk⟩
end Go.Proofs.YtnoofjddikhopaaGreat
/- The walks of num.length and num.Texts. -/
namespace Go.Proofs.YtnoofjddikhopaaGreat
set_option linter.unusedVariables false
set_option linter.unusedSimpArgs false
open Go.RowKit
def sizeS (t : Value) : Nat := match t with | .string s => s.size | _ => 0
end Go.Proofs.YtnoofjddikhopaaGreat
