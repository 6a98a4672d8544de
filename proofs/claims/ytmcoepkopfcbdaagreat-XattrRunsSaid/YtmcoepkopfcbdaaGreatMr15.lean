/- slices.SortFunc at attributes, by their names. -/
import Derived.Test.YtmcoepkopfcbdaaGreatMr13
import Derived.Test.YtmcoepkopfcbdaaGreatMr14
import Derived.Test.YtmcoepkopfcbdaaGreatMr5
import Derived.Test.YtmcoepkopfcbdaaGreatMr10
import Derived.Deep.DeepCutAuto
namespace Go.Proofs.YtmcoepkopfcbdaaGreat
set_option linter.unusedVariables false
open Go.RowKit Go.Sort

def encA (x : Att) : List Value := [.string (str x.1), .string (str x.2)]
def cmpA (x y : Att) : Int := Lib.compareBytes x.1 y.1
theorem ltOf_cmpA (x y : Att) : ltOf cmpA x y = ltB x.1 y.1 := cmp_ltB x.1 y.1
theorem swoA : SWO (ltOf cmpA) where
  irrefl x := by rw [ltOf_cmpA]; exact ltB_irrefl _
  trans x y z h1 h2 := by rw [ltOf_cmpA] at *; exact ltB_trans _ _ _ h1 h2
  ntrans x y z h1 h2 := by
    rw [ltOf_cmpA] at *
    cases h : ltB x.1 z.1 with
    | false => rfl
    | true =>
      cases h3 : ltB y.1 x.1 with
      | true => have := ltB_trans _ _ _ h3 h; rw [h2] at this; cases this
      | false =>
        have e := ltB_tri _ _ h1 h3
        rw [e, h2] at h; cases h
set_option maxHeartbeats 400000 in
theorem set1_any (x y : Att) (W : World) : Calls Tryz.prog 20 #[.agg #[.string (str x.1), .string (str x.2)], .agg #[.string (str y.1), .string (str y.2)]] W fun e w' => e = .returned (.int .i64 (cmpA x y)) ∧ ∃ q os', w' = grow (W.drewN q) os' := by
  have hcon := fun W' => Tryz.strings_Compare (str x.1) (str y.1) W'
  have e : Lib.compareBytes (str x.1).data.toList (str y.1).data.toList = cmpA x y := rfl
  rw [e] at hcon
  have HC := Lib.hid hcon
  clear hcon e
  go_enter Tryz.func20, Tryz.ntmps20
  go_wp2_with (go_at_call 21; refine (HC.out _).mono ?_; rintro e w' ⟨rfl, rfl⟩)
  go_ret
  exact ⟨rfl, 0, _, by rw [alloc_eq_grow, alloc_eq_grow, grow_grow]; rfl⟩
theorem flat_att (d : Array Att) : (flatK encA 2 d).toList = attL d.toList := by
  apply List.ext_getElem?
  intro t
  have hs : (flatK encA 2 d).size = d.size * 2 := size_flatK _ _ _
  have hl := attL_len d.toList
  by_cases ht : t < d.size * 2
  · have h1 : (flatK encA 2 d).toList[t]? = some ((encA d[t / 2]!)[t % 2]!) := by
      have := get_flatK encA 2 d t ht
      rw [Array.getElem?_toList, Array.getElem?_eq_getElem (by omega)]
      rw [getElem!_pos _ t (by omega)] at this
      rw [this]
    have hj : t / 2 < d.toList.length := by simp; omega
    have hd : d[t / 2]! = d.toList[t / 2] := by rw [getElem!_pos d (t / 2) (by omega)]; simp
    have ha := attL_at d.toList (t / 2) hj
    rw [h1, hd]
    rcases (by omega : t % 2 = 0 ∨ t % 2 = 1) with h | h
    · have e : (attL d.toList)[t]? = (attL d.toList)[t / 2 * 2]? := by rw [show t / 2 * 2 = t by omega]
      rw [h, e, ha.1]; rfl
    · have e : (attL d.toList)[t]? = (attL d.toList)[t / 2 * 2 + 1]? := by rw [show t / 2 * 2 + 1 = t by omega]
      rw [h, e, ha.2]; rfl
  · rw [List.getElem?_eq_none (by simp [hs]; omega), List.getElem?_eq_none (by rw [hl]; simp; omega)]
theorem sortWorld_grown (w : World) (g n : Nat) (d : Array Att) (os : Array Obj) (hg : g < w.heap.size) : w.grownBy (sortWorldK encA 2 w g 0 n d os) (some g) := by
  refine ⟨rfl, rfl, rfl, ?_, fun k hk hne => ?_⟩
  · simp [sortWorldK, putRowK, putRow, mapBlock, grow]
  · have hne' : g ≠ k := fun e => hne (by rw [e])
    simp only [sortWorldK, putRowK, putRow, mapBlock, grow]
    rw [Array.getElem?_append_left (by simpa using hk), Array.getElem?_modify, if_neg hne']; rfl
theorem sortWorld_block (w : World) (g n : Nat) (d : Array Att) (os : Array Obj) (cur : Array Value) (t : TypeId) (hb : w.heap[g]? = some (.cells cur t (0, 0))) :
    (sortWorldK encA 2 w g 0 n d os).heap[g]? = some (.cells (putCells id 0 (flatK encA 2 d) cur) t (0, 0)) := by
  have hg : g < w.heap.size := (Array.getElem?_eq_some_iff.1 hb).1
  simp only [sortWorldK, putRowK, putRow, mapBlock, grow]
  rw [Array.getElem?_append_left (by simpa using hg), Array.getElem?_modify, if_pos rfl, show (Sort.ahead w n).heap[g]? = w.heap[g]? from rfl, hb]
  rfl
theorem putCells_take (F cur : Array Value) (h : F.size ≤ cur.size) : (putCells id 0 F cur).toList.take F.size = F.toList := by
  apply List.ext_getElem?
  intro t
  by_cases ht : t < F.size
  · rw [List.getElem?_take, if_pos ht]
    simp [putCells, ht, show t < cur.size by omega]
  · rw [List.getElem?_eq_none (by simp; omega), List.getElem?_eq_none (by simp; omega)]
theorem sort_any (base g cap : Nat) (l : List Att) (w : World) (hown : OwnA w base (.slice (some ⟨g, 0, none⟩) l.length cap) l) (hl : l.length ≤ 1000000) :
    Calls Tryz.prog 19 #[.slice (some ⟨g, 0, none⟩) l.length cap, .func (.func 20) #[] #[]] w fun e w' => e = .returned (.tuple #[]) ∧
      ∃ l' : List Att, l'.Perm l ∧ l'.Pairwise (fun x y => ltB y.1 x.1 = false) ∧ OwnA w' base (.slice (some ⟨g, 0, none⟩) l.length cap) l' ∧ w.grownBy w' (some g) := by
  have eg : ∀ args w, (callFunc 20 args).run Tryz.prog w = .ok (.enter 20 args) w := enters_of Tryz.func20 (by kernel_rfl) rfl
  have hown' := hown
  rcases hown.2 with ⟨h0, _⟩ | ⟨g', cap', cur, e, hb, hh, hcap, hmax, hsz, htake⟩
  · cases h0
  injection e with e1 e2 e3
  injection e1 with e1
  injection e1 with e1 _
  subst e1; subst e3
  have hlt : g < w.heap.size := (Array.getElem?_eq_some_iff.1 hh).1
  have hfs : (flatK encA 2 l.toArray).size = l.length * 2 := by rw [size_flatK]; simp
  have hcs : ∀ j, j < l.length * 2 → w.cell? ⟨g, 0 + j, none⟩ = some ((flatK encA 2 l.toArray)[j]!) := fun j hj => by
    have h1 : (flatK encA 2 l.toArray).toList[j]? = (attL l)[j]? := by rw [flat_att]
    rw [Nat.zero_add, cell_of_row w g j cur _ _ hh]
    have h2 : cur[j]? = (attL l)[j]? := by rw [← htake, List.getElem?_take, if_pos hj]; simp
    rw [h2, ← h1, Array.getElem?_toList, Array.getElem?_eq_getElem (by omega), getElem!_pos _ j (by omega)]
  have hH : HoldsK encA 2 w g 0 l.toArray := fun j hj => ⟨hcs j (by omega), frozen_of_row w g _ cur _ hh⟩
  have hcon := AnyQ.slices_SortFunc Tryz.sortAtt 2 Tryz.isAgg49 Tryz.sizeOf49 encA (fun _ => rfl) (fun x v hv => by simp [encA] at hv; rcases hv with rfl | rfl <;> rfl) cmpA swoA 20 #[] g 0 cap l.toArray w eg (fun _ _ _ _ x y => set1_any x y _) hH hlt (by simp; omega)
  change Calls Tryz.prog 19 _ _ _ at hcon
  rw [show l.toArray.size = l.length by simp] at hcon
  refine hcon.mono ?_
  rintro e w' ⟨rfl, d', n, os, hp, hs, rfl⟩
  have hds : d'.size = l.length := by have := hp.1; simpa using this
  refine ⟨rfl, d'.toList, ?_, ?_, ?_, sortWorld_grown w g n d' os hlt⟩
  · have := hp.2.2
    simpa [hds, Array.extract_eq_self_of_le, Nat.le_refl] using this
  · rw [List.pairwise_iff_getElem]
    intro i j hi hj hij
    have := hs i j (Nat.zero_le _) hij (by simp at hj; omega)
    rw [ltOf_cmpA] at this
    simp only [Array.length_toList] at hi hj
    rw [getElem!_pos d' i hi, getElem!_pos d' j hj] at this
    simpa using this
  · have hfd : (flatK encA 2 d').size = l.length * 2 := by rw [size_flatK, hds]
    unfold OwnA
    rw [show d'.toList.length = l.length by simp [hds]]
    refine ⟨by rw [attL_len]; simp [hds], .inr ⟨g, cap, _, rfl, hb, sortWorld_block w g n d' os cur _ hh, hcap, hmax, ?_, ?_⟩⟩
    · simp [putCells, hsz]
    · rw [← hfd, putCells_take _ _ (by rw [hfd, hsz]; exact Nat.mul_le_mul_right 2 hcap), flat_att]
end Go.Proofs.YtmcoepkopfcbdaaGreat
/- The walk of xattr.changed; volumes stay volumes. -/
namespace Go.Proofs.YtmcoepkopfcbdaaGreat
set_option linter.unusedVariables false
open Go.RowKit

set_option maxHeartbeats 1000000 in
set_option maxRecDepth 100000 in
theorem changed_any (A : Option Addr) (n c i : Nat) (v : List (List UInt8)) (r : List UInt8) (w : World) (hv : Strs w A n v) (hi : i < v.length) (hn : n ≤ 1000) (hr : r.length ≤ 126) :
    Calls Tryz.prog 23 #[.slice A n c, .int .i64 i, .string (str r)] w fun e w' => ∃ u, e = .returned u ∧ Ext w w' ∧ w'.ownsRow w.heap.size 9 1 u n (strL (v.set i (blockL r))) := by
  obtain rfl := hv.1
  have HB := Lib.hid (fun w => block_any r w hr)
  go_enter Tryz.func23, Tryz.ntmps23
  go_wp2_with (at_builtin; refine wp_app_nil w.heap.size rfl _ _ rfl rfl rfl hv (by omega) (by omega) (by omega) ?_; intro u' w1 own1 x1; obtain ⟨g, cap, rfl, hg, s1⟩ := Strs.own' own1 (by omega))
  refine (HB.out _).mono ?_
  rintro e w2 ⟨rfl, x2⟩
  have own2 := own_ext own1 x2
  have k2 : w2.cell? ⟨g, i, none⟩ = some (.string (str v[i])) := (own2.cellAt i (by omega)).trans (by simp [strL, hi])
  have kf := own2.frozenAt i
  have hiv : (i : Int) < (v.length : Int) := by omega
  go_wp2_with fail
  go_ret
  refine ⟨_, rfl, (x1.trans x2).setCell hg _, ?_⟩
  have hs := (own2.stored i (.string (str (blockL r)))).1
  rw [show strL (v.set i (blockL r)) = (strL v).set i (.string (str (blockL r))) by simp [strL, List.map_set]]
  exact hs
end Go.Proofs.YtmcoepkopfcbdaaGreat
/- The document's geometry: With. -/
namespace Go.Proofs.YtmcoepkopfcbdaaGreat
set_option linter.unusedVariables false
open Go.RowKit

theorem wp_app_strs {ops : Array Oper} {rest : List Oper} {o : Oper} {a : Act} {Q : Exit → Act → World → Prop} {w : World} {n m c : Nat} {u : Value} {xs ys : List (List UInt8)} {A : Option Addr} (base : Nat) (hgd : o.guard = none) (sl x : Operand)
    (ho : o.op = .call { callee := .builtin .append, args := #[sl, x], argTypes := #[25, 25] }) (hs : a.eval sl = u) (hx : a.eval x = .slice A m c) (h0 : w.ownsRow base 9 1 u n (strL xs)) (h : Strs w A m ys) (hm : n + m ≤ 1000000) (hb : base ≤ w.heap.size) (hpos : 0 < m)
    (hK : ∀ u' w', w'.ownsRow base 9 1 u' (n + m) (strL (xs ++ ys)) → w.grownBy w' u.ownBlock → wpList Tryz.prog ops Q rest (a.put o.dst u') w') : wpList Tryz.prog ops Q (o :: rest) a w := by
  refine wpList_plain hgd fun K hK' => ?_
  obtain ⟨v', w', hr, h2, h3⟩ := app_strs (base := base) (c := c) h0 h o.type hm hb hpos
  unfold Oper.wp execOp
  simp only [ho, resolve, invoke, builtin, Sem.run_bind, Sem.run_pure, Result.andThen_ok, List.map_toArray, List.map_cons, List.map_nil, hs, hx, hr]
  exact hK' _ _ (hK v' w' h2 h3)

set_option maxHeartbeats 1000000 in
set_option maxRecDepth 100000 in
theorem rwith_any (A : Option Addr) (n c i : Nat) (v : List (List UInt8)) (r : List UInt8) (w : World) (hv : Strs w A n v) (hi : i < v.length) (hn : n ≤ 1000) :
    Calls Tryz.prog 33 #[.slice A n c, .int .i64 i, .string (str r)] w fun e w' => ∃ u, e = .returned u ∧ Ext w w' ∧ w'.ownsRow w.heap.size 9 1 u n (strL (v.set i r)) := by
  obtain rfl := hv.1
  have o0 : (w.alloc (.cells #[] 9)).ownsRow w.heap.size 9 1 (.slice (some ⟨w.heap.size, 0, none⟩) 0 0) 0 (strL []) := World.ownsRow_lit w #[] 0 (Nat.le_refl _) (by decide) rfl
  have x0 : Ext w (w.alloc (.cells #[] 9)) := (Ext.refl _).alloc _
  have v0 := hv.ext x0
  have hs0 : w.heap.size ≤ (w.alloc (.cells #[] 9)).heap.size := by simp
  go_enter Tryz.func33, Tryz.ntmps33
  go_wp2_with (at_builtin; refine wp_app_strs w.heap.size rfl _ _ rfl rfl rfl o0 v0 (by omega) hs0 (by omega) ?_; intro u' w1 own1 x1; rw [Nat.zero_add, List.nil_append] at own1; obtain ⟨g, cap, rfl, hg, s1⟩ := Strs.own' own1 (by omega); have x2 : Ext w w1 := x0.grown x1 (fun g h => by injection (show some w.heap.size = some g from h) with h; omega); clear o0 v0 x1; have k2 : w1.cell? ⟨g, i, none⟩ = some (.string (str v[i])) := (own1.cellAt i (by omega)).trans (by simp [strL, hi]); have kf := own1.frozenAt i; have hiv : (i : Int) < (v.length : Int) := by omega)
  go_ret
  refine ⟨_, rfl, x2.setCell hg _, ?_⟩
  have hs := (own1.stored i (.string (str r))).1
  rw [show strL (v.set i r) = (strL v).set i (.string (str r)) by simp [strL, List.map_set]]
  exact hs
end Go.Proofs.YtmcoepkopfcbdaaGreat
/- The document's geometry: Of on a volume that is one. -/
namespace Go.Proofs.YtmcoepkopfcbdaaGreat
set_option linter.unusedVariables false
open Go.RowKit

theorem rget2_at (p q : UInt8) (B : Int) (w : World) (h : (p.toNat : Int) + 256 * q.toNat = B) :
    Calls Tryz.prog 68 #[.string (str [p, q])] w fun e w' => e = .returned (.int .u64 B) ∧ w = w' := by
  subst h; exact rget2 p q w
set_option maxHeartbeats 1000000 in
set_option maxRecDepth 100000 in
theorem rof_yes (A : Option Addr) (n c : Nat) (v : List (List UInt8)) (I : Int) (w : World) (hv : Strs w A n v) (hg : Good v I) :
    Calls Tryz.prog 39 #[.slice A n c] w fun e w' => e = .returned (.tuple #[geomV v.length I, .int .i64 0]) ∧ Ext w w' := by
  have hpl := plan_bd hg.plan
  obtain ⟨rfl, hv2⟩ := hv
  obtain ⟨b, o, rfl, hcell⟩ := hv2 (by omega)
  have hlt : b < w.heap.size := World.block_lt_of_cell? w _ (hcell 0 (by omega))
  have hz := str_size
  go_enter Tryz.func39, Tryz.ntmps39
  go_wp2_with fail
  generalize hw1 : w.alloc _ = w1
  have x1 : Ext w w1 := by rw [← hw1]; exact (Ext.refl _).alloc _
  have r1 : Box w1 w.heap.size 68 (intVals [0, 0, 0, 0, 0, 0]) := by rw [← hw1]; exact Box.new _ _ _
  clear hw1
  go_loop [5, 15] (fun _ i => ∃ k : Nat, k ≤ v.length ∧ i = .int .i64 k) (fun _ i => v.length - (intOf i).toNat)
  case atStart => exact ⟨0, by omega, rfl⟩
  case round =>
    obtain ⟨k, hk, rfl⟩ := hrel
    by_cases hlt2 : k < v.length
    · have hck : w1.cell? ⟨b, o + k, none⟩ = some (.string (str v[k])) := x1.keep (hcell k hlt2)
      have hlk : ((v[k].length : Int) != 128) = false := by rw [hg.all k hlt2]; rfl
      go_wp2_with fail
      go_round
      case rel => exact ⟨k + 1, by omega, by go_num⟩
      case measure => simp [intOf]; omega
    · have hb1 : b < w1.heap.size := Nat.lt_of_lt_of_le hlt x1.size
      have hv0 : v[0]'(by omega) = headL v.length I := by
        have := hg.head; rw [List.getD_eq_getElem?_getD, List.getElem?_eq_getElem (by omega)] at this; exact this
      have c0 : w1.cell? ⟨b, o, none⟩ = some (.string (str (headL v.length I))) := by
        have := x1.keep (hcell 0 (by omega)); rw [hv0] at this; exact this
      have e68 := head_68 v.length I
      have zH : (str (headL v.length I)).size = 128 := by rw [str_size, headL_len]
      have gI := fun w => rget2_at _ _ I w (two_back I (by omega) (by omega))
      have HP := Lib.hid hg.plan
      have HF : ∀ w, Hid (Calls Tryz.prog 42 #[.agg #[.int .i64 v.length, .int .i64 I, .int .i64 1, .int .i64 2, .int .i64 3, .int .i64 (3 + (I + 1) / 2)]] w fun e w' => e = .returned (.string (str (headL v.length I))) ∧ Ext w w') := fun w => Lib.hid (rhead_any v.length I w hg.plan)
      have hgl := Lib.hid hg
      have c2v : ∀ wx, Ext w wx → wx.cell? ⟨b, o + 2, none⟩ = some (.string (str (v.getD 2 []))) := fun wx xx => by
        have := xx.keep (hcell 2 (by omega))
        rw [List.getD_eq_getElem?_getD, List.getElem?_eq_getElem (by omega)]; exact this
      have C2 := Lib.hid c2v
      have l2 : (v.getD 2 []).length = 128 := by rw [List.getD_eq_getElem?_getD, List.getElem?_eq_getElem (by omega)]; exact hg.all 2 (by omega)
      clear c2v hcell hv0 hg
      generalize headL v.length I = H at *
      generalize b8 (I % 256) = r at *
      generalize b8 (I / 256) = s at *
      have hn0 : 0 < v.length := by omega
      have hn1 : (0 : Int) < (v.length : Int) := by omega
      have hn2 : (2 : Int) < (v.length : Int) := by omega
      have GI := Lib.hid gI
      clear gI hz
      have wI : IntKind.i64.wrap I = I := by rw [IntKind.wrap_i64]; omega
      go_wp2_with (first
        | (go_at_call 68; refine (GI.out _).mono ?_; rintro e w' ⟨rfl, rfl⟩)
        | (go_at_call 41; refine (rplan_yes _ _ _ HP.out).mono ?_; rintro e wp ⟨rfl, xp⟩; unfold geomV))
      have bc := Box.new wp 68 (intVals [(v.length : Int), I, 1, 2, 3, 3 + (I + 1) / 2])
      have xc := (x1.trans xp).alloc (.cells (intVals [(v.length : Int), I, 1, 2, 3, 3 + (I + 1) / 2]) 68)
      have rc := (r1.ext xp).ext ((Ext.refl wp).alloc (.cells (intVals [(v.length : Int), I, 1, 2, 3, 3 + (I + 1) / 2]) 68))
      have cc := (xp.alloc (.cells (intVals [(v.length : Int), I, 1, 2, 3, 3 + (I + 1) / 2]) 68)).keep c0
      change Box (wp.alloc (.cells #[.int .i64 v.length, .int .i64 I, .int .i64 1, .int .i64 2, .int .i64 3, .int .i64 (3 + (I + 1) / 2)] 68)) _ _ _ at bc
      change Ext w (wp.alloc (.cells #[.int .i64 v.length, .int .i64 I, .int .i64 1, .int .i64 2, .int .i64 3, .int .i64 (3 + (I + 1) / 2)] 68)) at xc
      change Box (wp.alloc (.cells #[.int .i64 v.length, .int .i64 I, .int .i64 1, .int .i64 2, .int .i64 3, .int .i64 (3 + (I + 1) / 2)] 68)) _ _ _ at rc
      change (wp.alloc (.cells #[.int .i64 v.length, .int .i64 I, .int .i64 1, .int .i64 2, .int .i64 3, .int .i64 (3 + (I + 1) / 2)] 68)).cell? _ = _ at cc
      generalize wp.alloc (.cells #[.int .i64 v.length, .int .i64 I, .int .i64 1, .int .i64 2, .int .i64 3, .int .i64 (3 + (I + 1) / 2)] 68) = wc at bc xc rc cc ⊢
      generalize wp.heap.size = g at bc ⊢
      clear xp x1 r1 c0
      have c0 : ∀ x : Later wc, x.now.cell? ⟨b, o, none⟩ = some (.string (str H)) := fun x => x.ext.keep cc
      have q0 : ∀ x : Later wc, x.now.cell? ⟨g, 0, none⟩ = some (.int .i64 v.length) := fun x => (bc.ext x.ext).cell 0
      have q1 : ∀ x : Later wc, x.now.cell? ⟨g, 1, none⟩ = some (.int .i64 I) := fun x => (bc.ext x.ext).cell 1
      have q2 : ∀ x : Later wc, x.now.cell? ⟨g, 2, none⟩ = some (.int .i64 1) := fun x => (bc.ext x.ext).cell 2
      have q3 : ∀ x : Later wc, x.now.cell? ⟨g, 3, none⟩ = some (.int .i64 2) := fun x => (bc.ext x.ext).cell 3
      have q4 : ∀ x : Later wc, x.now.cell? ⟨g, 4, none⟩ = some (.int .i64 3) := fun x => (bc.ext x.ext).cell 4
      have q5 : ∀ x : Later wc, x.now.cell? ⟨g, 5, none⟩ = some (.int .i64 (3 + (I + 1) / 2)) := fun x => (bc.ext x.ext).cell 5
      refine wp_region_later (by kernel_rfl) (by kernel_rfl) ?_
      repeat (go_big_quiet_step ((exact later_of ((HF _).out))))
      refine wpQuiet_nil ?_
      rintro w5 ⟨x5, rfl⟩
      have xw5 := xc.trans x5.ext
      have e2 := C2.out _ xw5
      have d0 := q0 x5; have d5 := q5 x5
      have b5 := bc.ext x5.ext
      have r5 := rc.ext x5.ext
      clear q0 q1 q2 q3 q4 q5 c0 cc HF C2 bc rc xc
      go_wp2_with fail
      go_loop [8] (fun t => ∃ m : Nat, m ≤ 1024 ∧ t = .int .i64 m) (fun t => 1024 - (intOf t).toNat)
      case atStart => exact ⟨0, by omega, rfl⟩
      case round =>
        obtain ⟨m, hm, rfl⟩ := hrel
        have HB := Lib.hid (fun (hm2 : m < 1024) w => rbit_any m (v.getD 2 []) w l2 hm2)
        by_cases hm2 : m < 1024
        · by_cases m1 : (m : Int) < 3 + (I + 1) / 2
          · have hbit := Lib.hid (hgl.out.low m m1)
            have m3' : ¬ (v.length : Int) ≤ m := by omega
            have m3'' : decide ((v.length : Int) ≤ m) = false := by simpa using m3'
            go_wp2_with (go_at_call 40; refine (HB.out hm2 _).mono ?_; rintro e w' ⟨rfl, rfl⟩; rw [hbit.out])
            go_round
            case rel => exact ⟨m + 1, by omega, by go_num⟩
            case measure => simp [intOf]; omega
          · have m1' : decide ((m : Int) < 3 + (I + 1) / 2) = false := by simpa using m1
            by_cases m3 : v.length ≤ m
            · have hbit := Lib.hid (hgl.out.high m hm2 m3)
              have m3' : (v.length : Int) ≤ m := by omega
              go_wp2_with (go_at_call 40; refine (HB.out hm2 _).mono ?_; rintro e w' ⟨rfl, rfl⟩; rw [hbit.out])
              go_round
              case rel => exact ⟨m + 1, by omega, by go_num⟩
              case measure => simp [intOf]; omega
            · have m3' : ¬ (v.length : Int) ≤ m := by omega
              have m3'' : decide ((v.length : Int) ≤ m) = false := by simpa using m3'
              go_wp2_with (go_at_call 40; refine (HB.out hm2 _).mono ?_; rintro e w' ⟨rfl, rfl⟩)
              go_round
              case rel => exact ⟨m + 1, by omega, by go_num⟩
              case measure => simp [intOf]; omega
        · go_wp2_with (first
            | (refine wp_ld_geom (.tmp 6) rfl rfl g _ 68 rfl b5 rfl ?_)
            | (refine wp_st_geom (.tmp 2) (.tmp 77) rfl rfl w.heap.size _ [0, 0, 0, 0, 0, 0] 68 rfl rfl r5 rfl rfl ?_; intro w6 b6 g6))
          have xF := xw5.grown g6 (fun k e => by cases e; exact Nat.le_refl _)
          exact bodyPost_ret (v := .tuple #[geomV v.length I, .int .i64 0]) (results_cell2 Tryz.results39 _ _ _ _ _ _ _ rfl rfl b6 Tryz.underlying68 rfl geomSize) rfl ⟨rfl, xF⟩
end Go.Proofs.YtmcoepkopfcbdaaGreat
/- The document's geometry: Used, Room, Take. -/
namespace Go.Proofs.YtmcoepkopfcbdaaGreat
set_option linter.unusedVariables false
open Go.RowKit

set_option maxHeartbeats 1000000 in
set_option maxRecDepth 100000 in
theorem rused_yes (A : Option Addr) (n c i : Nat) (v : List (List UInt8)) (I : Int) (w : World) (hv : Strs w A n v) (hg : Good v I) (hi : i < v.length) :
    Calls Tryz.prog 13 #[.slice A n c, .int .i64 i] w fun e w' => e = .returned (.bool (bitB (v.getD 2 []) i)) ∧ Ext w w' := by
  have hpl := plan_bd hg.plan
  have HO := Lib.hid (fun w h => rof_yes A n c v I w h hg)
  have hv' := hv
  obtain ⟨rfl, hv2⟩ := hv
  obtain ⟨b, o, rfl, hcell⟩ := hv2 (by omega)
  have l2 : (v.getD 2 []).length = 128 := by rw [List.getD_eq_getElem?_getD, List.getElem?_eq_getElem (by omega)]; exact hg.all 2 (by omega)
  have HB := Lib.hid (fun w => rbit_any i (v.getD 2 []) w l2 (by omega))
  go_enter Tryz.func13, Tryz.ntmps13
  go_wp2_with fail
  refine (HO.out _ hv').mono ?_
  rintro e w1 ⟨rfl, x1⟩
  unfold geomV
  have x2 := x1.alloc (.cells #[.int .i64 v.length, .int .i64 I, .int .i64 1, .int .i64 2, .int .i64 3, .int .i64 (3 + (I + 1) / 2)] 68)
  have c2 : (w1.alloc (.cells #[.int .i64 v.length, .int .i64 I, .int .i64 1, .int .i64 2, .int .i64 3, .int .i64 (3 + (I + 1) / 2)] 68)).cell? ⟨b, o + 2, none⟩ = some (.string (str (v.getD 2 []))) := by
    have := x2.keep (hcell 2 (by omega))
    rw [List.getD_eq_getElem?_getD, List.getElem?_eq_getElem (by omega)]; exact this
  have hi2 : (i : Int) < (v.length : Int) := by omega
  have hn2 : (2 : Int) < (v.length : Int) := by omega
  clear hcell
  go_wp2_with (go_at_call 40; refine (HB.out _).mono ?_; rintro e w' ⟨rfl, rfl⟩)
  go_ret
  exact ⟨rfl, x2⟩
/-- how many blocks aren't taken, among the first ones -/
def roomF (m : List UInt8) : Nat → Nat
  | 0 => 0
  | k + 1 => roomF m k + if bitB m k then 0 else 1
def roomN (v : List (List UInt8)) : Nat := roomF (v.getD 2 []) v.length
theorem roomF_le (m : List UInt8) (k : Nat) : roomF m k ≤ k := by
  induction k with
  | zero => exact Nat.le_refl _
  | succ k ih => simp only [roomF]; split <;> omega
end Go.Proofs.YtmcoepkopfcbdaaGreat
/- The document's geometry: Take. -/
namespace Go.Proofs.YtmcoepkopfcbdaaGreat
set_option linter.unusedVariables false
open Go.RowKit

set_option maxHeartbeats 1000000 in
set_option maxRecDepth 100000 in
theorem rtake_yes (A : Option Addr) (n c i : Nat) (v : List (List UInt8)) (I : Int) (w : World) (hv : Strs w A n v) (hg : Good v I) (hi0 : 3 + (I + 1) / 2 ≤ (i : Int)) (hi1 : i < v.length) (hi2 : bitB (v.getD 2 []) i = false)
    (hi3 : ∀ j : Nat, 3 + (I + 1) / 2 ≤ (j : Int) → j < i → bitB (v.getD 2 []) j = true) :
    Calls Tryz.prog 31 #[.slice A n c] w fun e w' => ∃ u, e = .returned (.tuple #[u, .int .i64 i, .int .i64 0]) ∧ Ext w w' ∧
      w'.ownsRow w.heap.size 9 1 u n (strL (takenV v i)) := by
  have hpl := plan_bd hg.plan
  have HO := Lib.hid (fun w h => rof_yes A n c v I w h hg)
  have hv' := hv
  obtain ⟨rfl, hv2⟩ := hv
  obtain ⟨b, o, rfl, hcell⟩ := hv2 (by omega)
  have l2 : (v.getD 2 []).length = 128 := by rw [List.getD_eq_getElem?_getD, List.getElem?_eq_getElem (by omega)]; exact hg.all 2 (by omega)
  go_enter Tryz.func31, Tryz.ntmps31
  go_wp2_with fail
  refine (HO.out _ hv').mono ?_
  rintro e w1 ⟨rfl, x1⟩
  unfold geomV
  go_wp2_with fail
  have bx := Box.new w1 68 #[.int .i64 v.length, .int .i64 I, .int .i64 1, .int .i64 2, .int .i64 3, .int .i64 (3 + (I + 1) / 2)]
  have x2 := x1.alloc (.cells #[.int .i64 v.length, .int .i64 I, .int .i64 1, .int .i64 2, .int .i64 3, .int .i64 (3 + (I + 1) / 2)] 68)
  generalize w1.alloc (.cells #[.int .i64 v.length, .int .i64 I, .int .i64 1, .int .i64 2, .int .i64 3, .int .i64 (3 + (I + 1) / 2)] 68) = W at bx x2 ⊢
  have d0 : W.cell? ⟨w1.heap.size, 0, none⟩ = some (.int .i64 v.length) := bx.cell 0
  have d5 : W.cell? ⟨w1.heap.size, 5, none⟩ = some (.int .i64 (3 + (I + 1) / 2)) := bx.cell 5
  have c2 : W.cell? ⟨b, o + 2, none⟩ = some (.string (str (v.getD 2 []))) := by
    have := x2.keep (hcell 2 (by omega))
    rw [List.getD_eq_getElem?_getD, List.getElem?_eq_getElem (by omega)]; exact this
  have hn2 : (2 : Int) < (v.length : Int) := by omega
  have HT := Lib.hid (show takenV v i = (v.set 2 (flipL (v.getD 2 []) i)).set i (zs 128) from rfl)
  generalize hm2 : v.getD 2 [] = m2 at *
  clear hm2
  go_loop [7] (fun t => ∃ m : Nat, m ≤ i ∧ 3 + (I + 1) / 2 ≤ (m : Int) ∧ t = .int .i64 m) (fun t => i - (intOf t).toNat)
  case atStart => exact ⟨(3 + (I + 1) / 2).toNat, by omega, by omega, by rw [Int.toNat_of_nonneg (by omega)]⟩
  case round =>
    obtain ⟨m, hm, hm0, rfl⟩ := hrel
    have HB := Lib.hid (fun w => rbit_any m m2 w l2 (by omega))
    have hmv : (m : Int) < (v.length : Int) := by omega
    by_cases hlt : m < i
    · have hbit := Lib.hid (hi3 m hm0 hlt)
      go_wp2_with (go_at_call 40; refine (HB.out _).mono ?_; rintro e w' ⟨rfl, rfl⟩; rw [hbit.out])
      go_round
      case rel => exact ⟨m + 1, by omega, by omega, by go_num⟩
      case measure => simp [intOf]; omega
    · obtain rfl : m = i := by omega
      have hbit := Lib.hid hi2
      have HR := Lib.hid (fun w => rturn_any m m2 w l2 (by omega))
      have HW := Lib.hid (fun w h => rwith_any (some ⟨b, o, none⟩) v.length c 2 v (flipL m2 m) w h (by omega) (by omega))
      have HW2 := Lib.hid (fun g cap w h => rwith_any (some ⟨g, 0, none⟩) v.length cap m (v.set 2 (flipL m2 m)) (zs 128) w h (by simp; omega) (by omega))
      clear hi2 hi3
      go_wp2_with (first
        | (go_at_call 40; refine (HB.out _).mono ?_; rintro e w' ⟨rfl, rfl⟩; rw [hbit.out])
        | (go_at_call 44; refine (HR.out _).mono ?_; rintro e w3 ⟨rfl, x3⟩))
      refine (HW.out _ (hv'.ext (x2.trans x3))).mono ?_
      rintro e w4 ⟨u, rfl, x4, own4⟩
      obtain ⟨g, cap, rfl, hgW, s4⟩ := Strs.own' own4 (by omega)
      go_wp2_with (go_at_call 43; refine (rzeros_any 128 _ (by omega)).mono ?_; rintro e w' ⟨rfl, rfl⟩)
      refine (HW2.out g cap _ s4).mono ?_
      rintro e w6 ⟨u, rfl, x6, own6⟩
      go_wp2_with fail
      go_ret3
      refine ⟨_, rfl, (x2.trans x3).trans (x4.trans x6), ?_⟩
      rw [HT.out]
      exact own_base own6 ((x2.trans x3).trans x4).size
end Go.Proofs.YtmcoepkopfcbdaaGreat
/- The document's geometry: Format of 24 blocks and 6 inodes. -/
namespace Go.Proofs.YtmcoepkopfcbdaaGreat
set_option linter.unusedVariables false
open Go.RowKit

theorem strs_new1 (w : World) (s : List UInt8) : Strs (w.alloc (.cells #[.string (str s)] 9)) (some ⟨w.heap.size, 0, none⟩) 1 [s] := by
  refine ⟨rfl, fun _ => ⟨w.heap.size, 0, rfl, fun j hj => ?_⟩⟩
  rcases (show j = 0 by simpa using hj) with rfl
  exact (Box.new w 9 #[.string (str s)]).cell 0
def bareV (k : Nat) : List (List UInt8) := headL 24 6 :: List.replicate k (zs 128)
def flips (m : List UInt8) : Nat → List UInt8
  | 0 => m
  | k + 1 => flipL (flips m k) k
theorem flips_len (m : List UInt8) (k : Nat) : (flips m k).length = m.length := by
  induction k with
  | zero => rfl
  | succ k ih => rw [flips, flipL_len, ih]
def formatV : List (List UInt8) := (bareV 23).set 2 (flips (zs 128) 6)

set_option maxHeartbeats 1000000 in
set_option maxRecDepth 100000 in
theorem rformat_one (w : World) :
    Calls Tryz.prog 14 #[.int .i64 24, .int .i64 6] w fun e w' => ∃ u, e = .returned (.tuple #[u, .int .i64 0]) ∧ Ext w w' ∧ w'.ownsRow w.heap.size 9 1 u 24 (strL formatV) := by
  have HP := Lib.hid (show planB 24 6 = true by decide)
  have HH := Lib.hid (fun w => rhead_any 24 6 w (by decide))
  have HF := Lib.hid (show formatV = (bareV 23).set 2 (flips (zs 128) 6) from rfl)
  have HS := Lib.hid (fun k => show bareV (k + 1) = bareV k ++ [zs 128] by simp [bareV, List.replicate_succ'])
  have HL := Lib.hid (fun k => show (bareV k).length = k + 1 by simp [bareV])
  have H0 := Lib.hid (show [headL 24 6] = bareV 0 from rfl)
  have H2 := Lib.hid (fun k => show (bareV (k + 2)).getD 2 [] = zs 128 from rfl)
  have HR := Lib.hid (fun (k : Nat) (hk : k < 1024) w => rturn_any k (flips (zs 128) k) w (by rw [flips_len, zs_len]) hk)
  have hn := Lib.hid (fun k => show flips (zs 128) (k + 1) = flipL (flips (zs 128) k) k from rfl)
  unfold geomV at HH
  generalize headL 24 6 = H at HH H0
  go_enter Tryz.func14, Tryz.ntmps14
  go_wp2_with (first
    | (go_at_call 41; refine (rplan_yes _ _ _ HP.out).mono ?_; rintro e w1 ⟨rfl, x1⟩; unfold geomV)
    | (go_at_call 42; refine (HH.out _).mono ?_; rintro e w2 ⟨rfl, x2⟩))
  have o3 : (w2.alloc (.cells #[.string (str H)] 9)).ownsRow w.heap.size 9 1 (.slice (some ⟨w2.heap.size, 0, none⟩) 1 1) 1 (strL (bareV 0)) := by
    rw [← H0.out]; exact World.ownsRow_lit w2 #[.string (str H)] 1 (((x1.alloc _).trans x2).size) (by decide) rfl
  have x3 := ((x1.alloc _).trans x2).alloc (.cells #[.string (str H)] 9)
  have b3 := ((Box.new w1 68 #[.int .i64 24, .int .i64 6, .int .i64 1, .int .i64 2, .int .i64 3, .int .i64 6]).ext x2).ext ((Ext.refl w2).alloc (.cells #[.string (str H)] 9))
  have hlt : w1.heap.size < w2.heap.size := by have := x2.size; simp at this; omega
  generalize w2.alloc (.cells #[.string (str H)] 9) = w3 at o3 x3 b3 ⊢
  generalize w2.heap.size = g2 at *
  generalize w1.heap.size = g1 at *
  clear x1 x2 HP HH H0
  go_loopw [8, 9] (fun u t wx => ∃ k : Nat, 1 ≤ k ∧ k ≤ 24 ∧ t = .int .i64 k ∧ Ext w wx ∧ wx.ownsRow w.heap.size 9 1 u k (strL (bareV (k - 1))) ∧ Box wx g1 68 #[.int .i64 24, .int .i64 6, .int .i64 1, .int .i64 2, .int .i64 3, .int .i64 6]) (fun _ t _ => 24 - (intOf t).toNat)
  case atStart => exact ⟨1, by omega, by omega, rfl, x3, o3, b3⟩
  case round =>
    obtain ⟨k, hk1, hk, rfl, xk, ok, bk⟩ := hrel
    have hxs := xk.size
    have hok := own_ext ok ((Ext.refl wr).alloc (.cells #[.string (str (zs 128))] 9))
    have hst := strs_new1 wr (zs 128)
    by_cases hlt : k < 24
    · have HB := Lib.hid (HS.out (k - 1))
      have hsz : w.heap.size ≤ (wr.alloc (.cells #[.string (str (zs 128))] 9)).heap.size := by simp; omega
      go_wp2_with (first
        | (go_at_call 43; refine (rzeros_any 128 _ (by omega)).mono ?_; rintro e w' ⟨rfl, rfl⟩)
        | (at_builtin; refine wp_app_strs w.heap.size rfl _ _ rfl rfl rfl hok hst (by omega) hsz (by omega) ?_; intro u' w4 own4 g4))
      have nk := own_ne ok bk (by decide)
      have x4 : Ext w w4 := (xk.alloc _).grown g4 (fun j e => own_low ok e)
      go_roundw
      case rel => exact ⟨k + 1, by omega, by omega, by go_num, x4, by rw [show k + 1 - 1 = k - 1 + 1 by omega, HB.out]; exact own4, (bk.ext ((Ext.refl wr).alloc _)).grown g4 nk⟩
      case measure => simp [intOf]; omega
    · obtain rfl : k = 24 := by omega
      rw [show 24 - 1 = 23 from rfl] at ok
      rw [show ((24 : Nat) : Int) = 24 from rfl]
      obtain ⟨g, cap, rfl, hgW, _⟩ := Strs.own' ok (by omega)
      have nk := own_ne ok bk (by decide)
      have hlen := HL.out 23
      have h2 := H2.out 21
      have l2 := zs_len 128
      generalize bareV 23 = B at *
      generalize zs 128 = z at *
      clear hok hst HS HL H2
      go_wp2_with fail
      go_loopw [10] (fun t wx => ∃ i : Nat, i ≤ 6 ∧ t = .int .i64 i ∧ Ext w wx ∧ wx.ownsRow w.heap.size 9 1 (.slice (some ⟨g, 0, none⟩) 24 cap) 24 (strL (B.set 2 (flips z i))) ∧ Box wx g1 68 #[.int .i64 24, .int .i64 6, .int .i64 1, .int .i64 2, .int .i64 3, .int .i64 6]) (fun t _ => 6 - (intOf t).toNat)
      case atStart =>
        refine ⟨0, by omega, rfl, xk, ?_, bk⟩
        rw [show B.set 2 (flips z 0) = B from ?_]
        · exact ok
        · rw [show flips z 0 = B[2]'(by omega) from ?_, List.set_getElem_self]
          rw [← h2, List.getD_eq_getElem?_getD, List.getElem?_eq_getElem (by omega)]; rfl
      case round =>
        obtain ⟨i, hi, rfl, xi, oi, bi⟩ := hrel
        have d5 : wr.cell? ⟨g1, 5, none⟩ = some (.int .i64 6) := bi.cell 5
        have d2 : wr.cell? ⟨g, 2, none⟩ = some (.string (str (flips z i))) := (oi.cellAt 2 (by omega)).trans (by simp [strL, hlen])
        by_cases hlt : i < 6
        · go_wp2_with fail
          refine (HR.out i (by omega) _).mono ?_
          rintro e w5 ⟨rfl, x5⟩
          have o5 := own_ext oi x5
          have e2 := x5.keep d2
          have kf := o5.frozenAt 2
          go_wp2_with fail
          go_roundw
          case rel =>
            refine ⟨i + 1, by omega, by go_num, (xi.trans x5).setCell hgW _, ?_, ?_⟩
            · have hs := (o5.stored 2 (.string (str (flipL (flips z i) i)))).1
              rw [hn.out, show strL (B.set 2 (flipL (flips z i) i)) = (strL (B.set 2 (flips z i))).set 2 (.string (str (flipL (flips z i) i))) by simp [strL, List.map_set]]
              exact hs
            · exact (bi.ext x5).grown (o5.stored 2 _).2 nk
          case measure => simp [intOf]; omega
        · obtain rfl : i = 6 := by omega
          go_wp2_with fail
          go_ret2
          exact ⟨_, rfl, xi, by rw [HF.out]; exact oi⟩
end Go.Proofs.YtmcoepkopfcbdaaGreat
/- The document's inodes: word, two, within. -/
namespace Go.Proofs.YtmcoepkopfcbdaaGreat
set_option linter.unusedVariables false
open Go.RowKit

theorem fnum2 (s : List UInt8) (i : Nat) (h : i + 1 < s.length) : fnum s i 2 = (s[i].toNat : Int) + 256 * (s[i + 1].toNat : Int) := by
  unfold fnum
  rw [List.drop_eq_getElem_cons (by omega), List.drop_eq_getElem_cons (i := i + 1) (by omega)]
  simp only [List.take_succ_cons, List.take_zero, numL]; omega
set_option maxHeartbeats 400000 in
set_option maxRecDepth 100000 in
theorem rword_any (s : List UInt8) (i : Nat) (w : World) (h : i + 1 < s.length) (h2 : s.length ≤ 1000) :
    Calls Tryz.prog 95 #[.string (str s), .int .i64 i] w fun e w' => e = .returned (.int .i64 (fnum s i 2)) ∧ Ext w w' := by
  have hz := str_size
  have H := Lib.hid (fnum2 s i h)
  have t1 : (i : Int) < (s.length : Int) := by omega
  have t2 : (i : Int) + 1 < (s.length : Int) := by omega
  have t3 : ((i : Int) + 1).toNat = i + 1 := by omega
  have a0 : (str s)[i]'(by rw [str_size]; omega) = s[i] := rfl
  have a1 : (str s)[i + 1]'(by rw [str_size]; omega) = s[i + 1] := rfl
  have b0 := s[i].toNat_lt
  have b1 := s[i + 1].toNat_lt
  generalize s[i] = p at *
  generalize s[i + 1] = q at *
  have w0 : IntKind.i64.wrap (p.toNat : Int) = p.toNat := IntWalk.i64_in _ (by omega)
  have w1 : IntKind.i64.wrap (q.toNat : Int) = q.toNat := IntWalk.i64_in _ (by omega)
  go_enter Tryz.func95, Tryz.ntmps95
  go_wp2_with fail
  refine wp_region_later (by kernel_rfl) (by kernel_rfl) ?_
  repeat (go_big_quiet_step (fail))
  refine wpQuiet_nil ?_
  rintro w2 ⟨x, rfl⟩
  go_wp2_with fail
  go_ret
  exact ⟨by rw [H.out]; rfl, x.ext⟩
set_option maxHeartbeats 400000 in
theorem rwithin_any (n m : Int) (w : World) :
    Calls Tryz.prog 96 #[.int .i64 n, .int .i64 m] w fun e w' => e = .returned (.bool (decide (0 ≤ n ∧ n ≤ m))) ∧ w = w' := by
  by_cases h0 : 0 ≤ n
  · go_enter Tryz.func96, Tryz.ntmps96
    go_wp2_with fail
    go_ret
    exact ⟨ret_bool (by simp [h0]), rfl⟩
  · have h1 : decide (0 ≤ n) = false := by simpa using h0
    go_enter Tryz.func96, Tryz.ntmps96
    go_wp2_with fail
    go_ret
    exact ⟨ret_bool (by simp; try omega), rfl⟩
theorem conv_two (w : World) (x y : Int) : (convert 77 9 (.slice (some ⟨w.heap.size, 0, none⟩) 2 2)).run Tryz.prog (w.alloc (.cells #[.int .u8 x, .int .u8 y] 5)) = .ok (.string (str [b8 x, b8 y])) (w.alloc (.cells #[.int .u8 x, .int .u8 y] 5)) :=
  conv_row w [x, y] #[.int .u8 x, .int .u8 y] 5 2 2 rfl (fun i hi => by
    rcases (show i = 0 ∨ i = 1 by simp at hi; omega) with rfl | rfl <;> rfl)
set_option maxHeartbeats 400000 in
set_option maxRecDepth 100000 in
theorem rtwo_any (n : Int) (w : World) (h0 : 0 ≤ n) (h1 : n ≤ 65535) :
    Calls Tryz.prog 97 #[.int .i64 n] w fun e w' => e = .returned (.string (str (putL n 2))) ∧ Ext w w' := by
  have H := Lib.hid (show putL n 2 = [b8 (n % 256), b8 (n / 256 % 256)] from rfl)
  have k1 := conv_two w (n % 256) (n / 256 % 256)
  have u1 : IntKind.u8.wrap (n % 256) = n % 256 := by rw [IntKind.wrap_u8]; omega
  have u2 : IntKind.u8.wrap (n / 256 % 256) = n / 256 % 256 := by rw [IntKind.wrap_u8]; omega
  go_enter Tryz.func97, Tryz.ntmps97
  go_wp2_with fail
  go_ret
  exact ⟨by rw [H.out]; rfl, (Ext.refl _).alloc _⟩
end Go.Proofs.YtmcoepkopfcbdaaGreat
/- The document's inodes: Fits, Bytes. -/
namespace Go.Proofs.YtmcoepkopfcbdaaGreat
set_option linter.unusedVariables false
open Go.RowKit

/-- the twelve numbers of an inode that fits -/
structure FitI (k l o s d0 d1 d2 d3 d4 d5 n e : Int) : Prop where
  k : 0 ≤ k ∧ k ≤ 255
  o : 0 ≤ o ∧ o ≤ 255
  l : 0 ≤ l ∧ l ≤ 65535
  s : 0 ≤ s ∧ s ≤ 4294967295
  n : 0 ≤ n ∧ n ≤ 65535
  e : 0 ≤ e ∧ e ≤ 65535
  d0 : 0 ≤ d0 ∧ d0 ≤ 65535
  d1 : 0 ≤ d1 ∧ d1 ≤ 65535
  d2 : 0 ≤ d2 ∧ d2 ≤ 65535
  d3 : 0 ≤ d3 ∧ d3 ≤ 65535
  d4 : 0 ≤ d4 ∧ d4 ≤ 65535
  d5 : 0 ≤ d5 ∧ d5 ≤ 65535
theorem rwithin_yes (n m : Int) (w : World) (h : 0 ≤ n ∧ n ≤ m) :
    Calls Tryz.prog 96 #[.int .i64 n, .int .i64 m] w fun e w' => e = .returned (.bool true) ∧ w = w' := by
  refine (rwithin_any n m w).mono ?_
  rintro e w' ⟨rfl, rfl⟩
  exact ⟨by rw [decide_eq_true h], rfl⟩
set_option maxHeartbeats 1000000 in
set_option maxRecDepth 100000 in
theorem rfits_yes (k l o s d0 d1 d2 d3 d4 d5 n e : Int) (w : World) (h : FitI k l o s d0 d1 d2 d3 d4 d5 n e) :
    Calls Tryz.prog 65 #[inoV [k, l, o, s, d0, d1, d2, d3, d4, d5, n, e]] w fun r w' => r = .returned (.bool true) ∧ Ext w w' := by
  have H := Lib.hid h
  clear h
  show Calls _ _ #[.agg #[.int .i64 k, .int .i64 l, .int .i64 o, .int .i64 s, .int .i64 d0, .int .i64 d1, .int .i64 d2, .int .i64 d3, .int .i64 d4, .int .i64 d5, .int .i64 n, .int .i64 e]] _ _
  go_enter Tryz.func65, Tryz.ntmps65
  go_wp2_with (go_at_call 96; refine (rwithin_yes _ _ _ (by first | exact H.out.k | exact H.out.o | exact H.out.l | exact H.out.s | exact H.out.n | exact H.out.e | exact H.out.d0 | exact H.out.d1 | exact H.out.d2 | exact H.out.d3 | exact H.out.d4 | exact H.out.d5)).mono ?_; rintro e w' ⟨rfl, rfl⟩)
  refine wp_loop_rounds 7 ?_
  rw [rounds_succ]
  go_wp2_with (go_at_call 96; refine (rwithin_yes _ _ _ (by first | exact H.out.k | exact H.out.o | exact H.out.l | exact H.out.s | exact H.out.n | exact H.out.e | exact H.out.d0 | exact H.out.d1 | exact H.out.d2 | exact H.out.d3 | exact H.out.d4 | exact H.out.d5)).mono ?_; rintro e w' ⟨rfl, rfl⟩)
  rw [rounds_succ]
  go_wp2_with (go_at_call 96; refine (rwithin_yes _ _ _ (by first | exact H.out.k | exact H.out.o | exact H.out.l | exact H.out.s | exact H.out.n | exact H.out.e | exact H.out.d0 | exact H.out.d1 | exact H.out.d2 | exact H.out.d3 | exact H.out.d4 | exact H.out.d5)).mono ?_; rintro e w' ⟨rfl, rfl⟩)
  rw [rounds_succ]
  go_wp2_with (go_at_call 96; refine (rwithin_yes _ _ _ (by first | exact H.out.k | exact H.out.o | exact H.out.l | exact H.out.s | exact H.out.n | exact H.out.e | exact H.out.d0 | exact H.out.d1 | exact H.out.d2 | exact H.out.d3 | exact H.out.d4 | exact H.out.d5)).mono ?_; rintro e w' ⟨rfl, rfl⟩)
  rw [rounds_succ]
  go_wp2_with (go_at_call 96; refine (rwithin_yes _ _ _ (by first | exact H.out.k | exact H.out.o | exact H.out.l | exact H.out.s | exact H.out.n | exact H.out.e | exact H.out.d0 | exact H.out.d1 | exact H.out.d2 | exact H.out.d3 | exact H.out.d4 | exact H.out.d5)).mono ?_; rintro e w' ⟨rfl, rfl⟩)
  rw [rounds_succ]
  go_wp2_with (go_at_call 96; refine (rwithin_yes _ _ _ (by first | exact H.out.k | exact H.out.o | exact H.out.l | exact H.out.s | exact H.out.n | exact H.out.e | exact H.out.d0 | exact H.out.d1 | exact H.out.d2 | exact H.out.d3 | exact H.out.d4 | exact H.out.d5)).mono ?_; rintro e w' ⟨rfl, rfl⟩)
  rw [rounds_succ]
  go_wp2_with (go_at_call 96; refine (rwithin_yes _ _ _ (by first | exact H.out.k | exact H.out.o | exact H.out.l | exact H.out.s | exact H.out.n | exact H.out.e | exact H.out.d0 | exact H.out.d1 | exact H.out.d2 | exact H.out.d3 | exact H.out.d4 | exact H.out.d5)).mono ?_; rintro e w' ⟨rfl, rfl⟩)
  rw [rounds_succ]
  go_wp2_with (go_at_call 96; refine (rwithin_yes _ _ _ (by first | exact H.out.k | exact H.out.o | exact H.out.l | exact H.out.s | exact H.out.n | exact H.out.e | exact H.out.d0 | exact H.out.d1 | exact H.out.d2 | exact H.out.d3 | exact H.out.d4 | exact H.out.d5)).mono ?_; rintro e w' ⟨rfl, rfl⟩)
  go_ret
  exact ⟨rfl, (Ext.refl _).alloc _⟩
end Go.Proofs.YtmcoepkopfcbdaaGreat
/- The document's inodes: Bytes. -/
namespace Go.Proofs.YtmcoepkopfcbdaaGreat
set_option linter.unusedVariables false
open Go.RowKit

theorem conv_box2 (w : World) (g : Nat) (x y : Int) (h : Box w g 5 #[.int .u8 x, .int .u8 y]) : (convert 77 9 (.slice (some ⟨g, 0, none⟩) 2 2)).run Tryz.prog w = .ok (.string (str [b8 x, b8 y])) w := by
  refine run_convert_bytes_arg (P := Tryz.prog) _ 77 5 Tryz.underlying77 Tryz.underlying5 _ _ _ 2 [x, y] rfl (fun i hi => ?_) 9 Tryz.underlying9
  rcases (show i = 0 ∨ i = 1 by simp at hi; omega) with rfl | rfl
  · exact h.cell 0
  · exact h.cell 1
theorem keepA {W : World} {b o : Nat} {v : Value} (ob : Obj) (h : W.cell? ⟨b, o, none⟩ = some v) : (W.alloc ob).cell? ⟨b, o, none⟩ = some v := ((Ext.refl W).alloc ob).keep h
theorem keepAD {W : World} {b o : Nat} {v : Value} (ob : Obj) (h : W.cell? ⟨b, o, none⟩ = some v) : (W.alloc ob).drew.cell? ⟨b, o, none⟩ = some v := keepA ob h
theorem keepD {W : World} {p : Addr} {v : Value} (h : W.cell? p = some v) : W.drew.cell? p = some v := h
theorem putL4 (s : Int) (h : 0 ≤ s) : putL s 4 = putL (s % 65536) 2 ++ putL (s / 65536) 2 := by
  have e1 : s % 65536 % 256 = s % 256 := by omega
  have e2 : s % 65536 / 256 % 256 = s / 256 % 256 := by omega
  have e3 : s / 256 / 256 % 256 = s / 65536 % 256 := by omega
  have e4 : s / 256 / 256 / 256 % 256 = s / 65536 / 256 % 256 := by omega
  simp only [putL, e1, e2, e3, e4, List.cons_append, List.nil_append]
theorem inoB_parts (k l o s d0 d1 d2 d3 d4 d5 n e : Int) (h : FitI k l o s d0 d1 d2 d3 d4 d5 n e) :
    inoB [k, l, o, s, d0, d1, d2, d3, d4, d5, n, e] = [b8 k, b8 o] ++ putL l 2 ++ putL (s % 65536) 2 ++ putL (s / 65536) 2 ++ (putL d0 2 ++ (putL d1 2 ++ (putL d2 2 ++ (putL d3 2 ++ (putL d4 2 ++ (putL d5 2 ++ (putL n 2 ++ putL e 2))))))) := by
  have e1 : k % 256 = k := by have := h.k; omega
  have e2 : o % 256 = o := by have := h.o; omega
  show putL k 1 ++ (putL o 1 ++ (putL l 2 ++ (putL s 4 ++ (putL d0 2 ++ (putL d1 2 ++ (putL d2 2 ++ (putL d3 2 ++ (putL d4 2 ++ (putL d5 2 ++ (putL n 2 ++ (putL e 2 ++ []))))))))))) = _
  rw [putL4 s h.s.1, show putL k 1 = [b8 k] by simp [putL, e1], show putL o 1 = [b8 o] by simp [putL, e2], List.append_nil]
  simp only [List.append_assoc, List.cons_append, List.nil_append]
set_option maxHeartbeats 2000000 in
set_option maxRecDepth 100000 in
theorem rbytes_yes (k l o s d0 d1 d2 d3 d4 d5 n e : Int) (w : World) (h : FitI k l o s d0 d1 d2 d3 d4 d5 n e) :
    Calls Tryz.prog 66 #[inoV [k, l, o, s, d0, d1, d2, d3, d4, d5, n, e]] w fun r w' => r = .returned (.string (str (inoB [k, l, o, s, d0, d1, d2, d3, d4, d5, n, e] ++ zs 40))) ∧ Ext w w' := by
  have H := Lib.hid h
  have HB := Lib.hid (inoB_parts k l o s d0 d1 d2 d3 d4 d5 n e h)
  obtain ⟨hk0, hk1⟩ := h.k; obtain ⟨ho0, ho1⟩ := h.o; obtain ⟨hl0, hl1⟩ := h.l; obtain ⟨hs0, hs1⟩ := h.s
  clear h
  show Calls _ _ #[.agg #[.int .i64 k, .int .i64 l, .int .i64 o, .int .i64 s, .int .i64 d0, .int .i64 d1, .int .i64 d2, .int .i64 d3, .int .i64 d4, .int .i64 d5, .int .i64 n, .int .i64 e]] _ _
  have hap := str_app
  have tm : s.tmod 65536 = s % 65536 := Int.tmod_eq_emod_of_nonneg hs0
  have td : s.tdiv 65536 = s / 65536 := Int.tdiv_eq_ediv_of_nonneg hs0
  have T1 := Lib.hid (fun w => rtwo_any l w (by omega) (by omega))
  have T2 := Lib.hid (fun w => rtwo_any (s % 65536) w (by omega) (by omega))
  have T3 := Lib.hid (fun w => rtwo_any (s / 65536) w (by omega) (by omega))
  have u1 : IntKind.u8.wrap k = k := by rw [IntKind.wrap_u8]; omega
  have u2 : IntKind.u8.wrap o = o := by rw [IntKind.wrap_u8]; omega
  have u3 : IntKind.i64.wrap (s / 65536) = s / 65536 := IntWalk.i64_in _ (by omega)
  go_enter Tryz.func66, Tryz.ntmps66
  go_wp2_with fail
  have b1 := Box.new w 42 #[.int .i64 k, .int .i64 l, .int .i64 o, .int .i64 s, .int .i64 d0, .int .i64 d1, .int .i64 d2, .int .i64 d3, .int .i64 d4, .int .i64 d5, .int .i64 n, .int .i64 e]
  have x1 := (Ext.refl w).alloc (.cells #[.int .i64 k, .int .i64 l, .int .i64 o, .int .i64 s, .int .i64 d0, .int .i64 d1, .int .i64 d2, .int .i64 d3, .int .i64 d4, .int .i64 d5, .int .i64 n, .int .i64 e] 42)
  generalize w.alloc (.cells #[.int .i64 k, .int .i64 l, .int .i64 o, .int .i64 s, .int .i64 d0, .int .i64 d1, .int .i64 d2, .int .i64 d3, .int .i64 d4, .int .i64 d5, .int .i64 n, .int .i64 e] 42) = w1 at b1 x1 ⊢
  generalize w.heap.size = g at b1 ⊢
  have lp1 := putL_len l 2
  have lp2 := putL_len (s % 65536) 2
  have lp3 := putL_len (s / 65536) 2
  have hz := str_size
  generalize putL l 2 = p1 at *
  generalize putL (s % 65536) 2 = p2 at *
  generalize putL (s / 65536) 2 = p3 at *
  go_cut [3] (fun s3 wx => s3 = .string (str ([b8 k, b8 o] ++ p1 ++ p2 ++ p3)) ∧ Ext w1 wx)
  case first =>
    have c0 : w1.cell? ⟨g, 0, none⟩ = some (.int .i64 k) := b1.cell 0
    have c1 : w1.cell? ⟨g, 1, none⟩ = some (.int .i64 l) := b1.cell 1
    have c2 : w1.cell? ⟨g, 2, none⟩ = some (.int .i64 o) := b1.cell 2
    have c3 : w1.cell? ⟨g, 3, none⟩ = some (.int .i64 s) := b1.cell 3
    have q0 : ∀ x : Later w1, x.now.cell? ⟨g, 0, none⟩ = some (.int .i64 k) := fun x => x.ext.keep c0
    have q1 : ∀ x : Later w1, x.now.cell? ⟨g, 1, none⟩ = some (.int .i64 l) := fun x => x.ext.keep c1
    have q2 : ∀ x : Later w1, x.now.cell? ⟨g, 2, none⟩ = some (.int .i64 o) := fun x => x.ext.keep c2
    have q3 : ∀ x : Later w1, x.now.cell? ⟨g, 3, none⟩ = some (.int .i64 s) := fun x => x.ext.keep c3
    clear b1 c0 c1 c2 c3
    refine wp_region_drift 22 6 [0, 1, 2, 3, 4, 5, 8, 9, 10, 12, 13, 14, 15, 17, 18, 19, 20] [7, 11, 16, 21] (fun wx u => ∃ q, u = .slice (some ⟨q, 0, none⟩) 2 2 ∧ Box wx q 5 #[.int .u8 k, .int .u8 o]) (fun u wx wy xy hx => by obtain ⟨q, h1, h2⟩ := hx; exact ⟨q, h1, h2.ext xy⟩) _ (by kernel_rfl) (by kernel_rfl) (by kernel_rfl) (by kernel_rfl) (by decide) (by decide) rfl (by kernel_rfl) rfl rfl (by kernel_rfl) (by kernel_rfl) ?_
    simp only [pickL, List.filterMap_cons, List.filterMap_nil, List.getElem?_cons_succ, List.getElem?_cons_zero, List.drop_succ_cons, List.drop_zero]
    apply wpCalm_then
    case h1 =>
      repeat (refine wpCalm_plain rfl ?_ (fun x => ?_) ?_; rotate_left; (· (go_simp; (first | (with_reducible exact rfl) | (with_reducible exact T1.out _) | (with_reducible exact T2.out _) | (with_reducible exact T3.out _)))); (try dsimp only); (try simp only [Act.put, List.setIfInBounds_toArray, List.set_cons_zero, List.set_cons_succ]))
      exact wpCalm_nil rfl
    case h2 =>
      refine ⟨fun x => ?_, fun u hu => ?_⟩
      · go_simp
        exact ⟨(Ext.refl _).alloc _, Box.new _ _ _⟩
      · obtain ⟨_, q, rfl, _⟩ := hu
        try dsimp only
        simp only [Act.put, List.setIfInBounds_toArray, List.set_cons_zero, List.set_cons_succ]
        apply wpQuiet_then
        case h1 =>
          repeat (refine wpQuiet_plain rfl ?_ (fun wx hx => ?_) ?_; rotate_left; (· (obtain ⟨_, q', e, bx⟩ := hx; cases e; have hq := conv_box2 wx q k o bx; go_simp; (first | (with_reducible exact rfl)))); (try dsimp only); (try simp only [Act.put, List.setIfInBounds_toArray, List.set_cons_zero, List.set_cons_succ]))
          exact wpQuiet_nil rfl
        case h2 =>
          rintro wx ⟨xx, _⟩
          go_wp2_with fail
          go_meet
          exact ⟨by simp, xx⟩
  case rest =>
    obtain ⟨rfl, xc⟩ := hcut
    have bc := b1.ext xc
    have hA : ([b8 k, b8 o] ++ p1 ++ p2 ++ p3).length = 8 := by simp [lp1, lp2, lp3]
    generalize [b8 k, b8 o] ++ p1 ++ p2 ++ p3 = A0 at *
    have xw := x1.trans xc
    clear T1 T2 T3 b1 x1 xc lp1 lp2 lp3
    have D0 := Lib.hid (fun w => rtwo_any d0 w H.out.d0.1 H.out.d0.2)
    have l0 := putL_len d0 2
    generalize putL d0 2 = f0 at *
    have D1 := Lib.hid (fun w => rtwo_any d1 w H.out.d1.1 H.out.d1.2)
    have l1 := putL_len d1 2
    generalize putL d1 2 = f1 at *
    have D2 := Lib.hid (fun w => rtwo_any d2 w H.out.d2.1 H.out.d2.2)
    have l2 := putL_len d2 2
    generalize putL d2 2 = f2 at *
    have D3 := Lib.hid (fun w => rtwo_any d3 w H.out.d3.1 H.out.d3.2)
    have l3 := putL_len d3 2
    generalize putL d3 2 = f3 at *
    have D4 := Lib.hid (fun w => rtwo_any d4 w H.out.d4.1 H.out.d4.2)
    have l4 := putL_len d4 2
    generalize putL d4 2 = f4 at *
    have D5 := Lib.hid (fun w => rtwo_any d5 w H.out.d5.1 H.out.d5.2)
    have l5 := putL_len d5 2
    generalize putL d5 2 = f5 at *
    have DN := Lib.hid (fun w => rtwo_any n w H.out.n.1 H.out.n.2)
    have DE := Lib.hid (fun w => rtwo_any e w H.out.e.1 H.out.e.2)
    have ln := putL_len n 2
    have le := putL_len e 2
    generalize putL n 2 = fn at *
    generalize putL e 2 = fe at *
    go_wp2_with fail
    refine wp_loop_rounds 7 ?_
    have c0 : wc.cell? ⟨g, 4, none⟩ = some (.int .i64 d0) := bc.cell 4
    rw [rounds_succ]
    go_wp2_with (go_at_call 97; refine (D0.out _).mono ?_; rintro ee e0 ⟨rfl, y0⟩)
    have r0 := bc.ext y0
    have z0 := xw.trans y0
    clear bc xw c0 y0
    have c1 : e0.cell? ⟨g, 5, none⟩ = some (.int .i64 d1) := r0.cell 5
    rw [rounds_succ]
    go_wp2_with (go_at_call 97; refine (D1.out _).mono ?_; rintro ee e1 ⟨rfl, y1⟩)
    have r1 := r0.ext y1
    have z1 := z0.trans y1
    clear r0 z0 c1 y1
    have c2 : e1.cell? ⟨g, 6, none⟩ = some (.int .i64 d2) := r1.cell 6
    rw [rounds_succ]
    go_wp2_with (go_at_call 97; refine (D2.out _).mono ?_; rintro ee e2 ⟨rfl, y2⟩)
    have r2 := r1.ext y2
    have z2 := z1.trans y2
    clear r1 z1 c2 y2
    have c3 : e2.cell? ⟨g, 7, none⟩ = some (.int .i64 d3) := r2.cell 7
    rw [rounds_succ]
    go_wp2_with (go_at_call 97; refine (D3.out _).mono ?_; rintro ee e3 ⟨rfl, y3⟩)
    have r3 := r2.ext y3
    have z3 := z2.trans y3
    clear r2 z2 c3 y3
    have c4 : e3.cell? ⟨g, 8, none⟩ = some (.int .i64 d4) := r3.cell 8
    rw [rounds_succ]
    go_wp2_with (go_at_call 97; refine (D4.out _).mono ?_; rintro ee e4 ⟨rfl, y4⟩)
    have r4 := r3.ext y4
    have z4 := z3.trans y4
    clear r3 z3 c4 y4
    have c5 : e4.cell? ⟨g, 9, none⟩ = some (.int .i64 d5) := r4.cell 9
    rw [rounds_succ]
    go_wp2_with (go_at_call 97; refine (D5.out _).mono ?_; rintro ee e5 ⟨rfl, y5⟩)
    have r5 := r4.ext y5
    have z5 := z4.trans y5
    clear r4 z4 c5 y5
    rw [rounds_succ]
    go_wp2_with fail
    have q10 : ∀ x : Later e5, x.now.cell? ⟨g, 10, none⟩ = some (.int .i64 n) := fun x => (r5.ext x.ext).cell 10
    have q11 : ∀ x : Later e5, x.now.cell? ⟨g, 11, none⟩ = some (.int .i64 e) := fun x => (r5.ext x.ext).cell 11
    refine wp_region_later (by kernel_rfl) (by kernel_rfl) ?_
    repeat (go_big_quiet_step ((first | (with_reducible exact later_of (DN.out _)) | (with_reducible exact later_of (DE.out _)))))
    refine wpQuiet_nil ?_
    rintro w9 ⟨x9, rfl⟩
    have xF := z5.trans x9.ext
    clear q10 q11 r5 z5 DN DE
    have hBl : (A0 ++ (f0 ++ (f1 ++ (f2 ++ (f3 ++ (f4 ++ (f5 ++ (fn ++ fe)))))))).length = 24 := by simp [hA, l0, l1, l2, l3, l4, l5, ln, le]
    generalize A0 ++ (f0 ++ (f1 ++ (f2 ++ (f3 ++ (f4 ++ (f5 ++ (fn ++ fe))))))) = B at *
    have hk0 : (⟨#[0]⟩ : ByteArray) = str [0] := rfl
    go_wp2_with fail
    go_loop [3] (fun t => ∃ j : Nat, j ≤ 40 ∧ t = .string (str (B ++ zs j))) (fun t => 64 - sizeS t)
    case atStart => exact ⟨0, by omega, by rw [show zs 0 = [] from rfl, List.append_nil]⟩
    case round =>
      obtain ⟨j, hj, rfl⟩ := hrel
      have hl : (B ++ zs j).length = 24 + j := by rw [List.length_append, hBl, zs_len]
      have HZ := Lib.hid (show B ++ zs j ++ [0] = B ++ zs (j + 1) by rw [List.append_assoc, show zs (j + 1) = zs j ++ [0] from List.replicate_succ'])
      have HL := Lib.hid (show (B ++ zs (j + 1)).length = 24 + (j + 1) by rw [List.length_append, hBl, zs_len])
      have H40 := Lib.hid (fun (h : ¬ j < 40) => show B ++ zs j = B ++ zs 40 by rw [show j = 40 by omega])
      generalize B ++ zs j = Bj at *
      by_cases hlt : j < 40
      · go_wp2_with fail
        go_round
        case rel => exact ⟨j + 1, by omega, by rw [HZ.out]⟩
        case measure => rw [HZ.out]; simp [sizeS, str_size, hl, HL.out]; omega
      · go_wp2_with fail
        go_ret
        exact ⟨by rw [HB.out, ← H40.out hlt]; rfl, xF⟩
end Go.Proofs.YtmcoepkopfcbdaaGreat
/- The document's inodes: Of. -/
namespace Go.Proofs.YtmcoepkopfcbdaaGreat
set_option linter.unusedVariables false
open Go.RowKit

theorem fnum2_bd (s : List UInt8) (i : Nat) : 0 ≤ fnum s i 2 ∧ fnum s i 2 ≤ 65535 := by
  unfold fnum
  have h1 := numL_lt ((s.drop i).take 2)
  have h2 : ((s.drop i).take 2).length ≤ 2 := by simp; omega
  have h3 : 256 ^ ((s.drop i).take 2).length ≤ 256 ^ 2 := Nat.pow_le_pow_right (by decide) h2
  omega
theorem fnum4 (s : List UInt8) (i : Nat) (h : i + 3 < s.length) : fnum s i 4 = fnum s i 2 + 65536 * fnum s (i + 2) 2 := by
  unfold fnum
  rw [List.drop_eq_getElem_cons (by omega), List.drop_eq_getElem_cons (i := i + 1) (by omega), List.drop_eq_getElem_cons (i := i + 1 + 1) (by omega), List.drop_eq_getElem_cons (i := i + 1 + 1 + 1) (by omega)]
  simp only [List.take_succ_cons, List.take_zero, numL]; omega
theorem fnum1 (s : List UInt8) (i : Nat) (h : i < s.length) : fnum s i 1 = (s[i].toNat : Int) := by
  unfold fnum
  rw [List.drop_eq_getElem_cons (by omega)]
  simp only [List.take_succ_cons, List.take_zero, numL]; omega
theorem setCell_grown' (w : World) (g i : Nat) (v : Value) : w.grownBy (w.setCell ⟨g, i, none⟩ v) (some g) :=
  ⟨rfl, rfl, rfl, by simp [World.setCell], fun k _ hne => heap_setCell_other w ⟨g, i, none⟩ k v (fun e => hne (by rw [e]))⟩
theorem results_cell1 {fn : Func} {p : Tmp} {ty : TypeId} (h : fn.results = #[.cell p ty]) (tmps : Array Value) (w : World) (g : Nat) (t : TypeId) (cs : Array Value) (d : TypeDesc)
    (hp : tmps.getD p undef = .pointer (some ⟨g, 0, none⟩)) (hg : Box w g t cs)
    (hu : Tryz.prog.underlying ty = some d) (hd : isAggD d = true) (hi : (Tryz.prog.info? ty).map (·.size) = some cs.size) :
    (results fn tmps).run Tryz.prog w = .ok (.agg cs) w := by
  have hp' : tmps[p]?.getD undef = .pointer (some ⟨g, 0, none⟩) := by simpa using hp
  simp [results, h, hp', asAddr, run_loadVar_row w g t ty cs (0, 0) d hg hu (by cases d <;> first | rfl | cases hd) hi]
set_option maxHeartbeats 2000000 in
set_option maxRecDepth 100000 in
theorem riof_any (s : List UInt8) (w : World) (h : s.length = 64) :
    Calls Tryz.prog 64 #[.string (str s)] w fun r w' => r = .returned (inoV (inoL s 0)) ∧ Ext w w' := by
  have hz : (str s).size = 64 := by rw [str_size, h]
  have W : ∀ i : Nat, i + 1 < 64 → Hid (∀ w, Calls Tryz.prog 95 #[.string (str s), .int .i64 i] w fun e w' => e = .returned (.int .i64 (fnum s i 2)) ∧ Ext w w') := fun i hi => Lib.hid (fun w => rword_any s i w (by omega) (by omega))
  have B := fnum2_bd s
  have HI := Lib.hid (show inoL s 0 = [fnum s 0 1, fnum s 2 2, fnum s 1 1, fnum s 4 2 + 65536 * fnum s 6 2, fnum s 8 2, fnum s 10 2, fnum s 12 2, fnum s 14 2, fnum s 16 2, fnum s 18 2, fnum s 20 2, fnum s 22 2] by unfold inoL; rw [show fnum s (0 + 4) 4 = _ from fnum4 s 4 (by omega)])
  rw [fnum1 s 0 (by omega), fnum1 s 1 (by omega)] at HI
  have a0 : (str s)[0]'(by rw [hz]; decide) = s[0]'(by omega) := rfl
  have a1 : (str s)[1]'(by rw [hz]; decide) = s[1]'(by omega) := rfl
  have g0 := (s[0]'(by omega)).toNat_lt
  have g1 := (s[1]'(by omega)).toNat_lt
  generalize s[0]'(by omega) = c0 at *
  generalize s[1]'(by omega) = c1 at *
  have v0 : IntKind.i64.wrap (c0.toNat : Int) = c0.toNat := IntWalk.i64_in _ (by omega)
  have v1 : IntKind.i64.wrap (c1.toNat : Int) = c1.toNat := IntWalk.i64_in _ (by omega)
  have W2 : Hid (∀ w, Calls Tryz.prog 95 #[.string (str s), .int .i64 2] w fun e w' => e = .returned (.int .i64 (fnum s 2 2)) ∧ Ext w w') := W 2 (by decide)
  have W4 : Hid (∀ w, Calls Tryz.prog 95 #[.string (str s), .int .i64 4] w fun e w' => e = .returned (.int .i64 (fnum s 4 2)) ∧ Ext w w') := W 4 (by decide)
  have W6 : Hid (∀ w, Calls Tryz.prog 95 #[.string (str s), .int .i64 6] w fun e w' => e = .returned (.int .i64 (fnum s 6 2)) ∧ Ext w w') := W 6 (by decide)
  have W8 : Hid (∀ w, Calls Tryz.prog 95 #[.string (str s), .int .i64 8] w fun e w' => e = .returned (.int .i64 (fnum s 8 2)) ∧ Ext w w') := W 8 (by decide)
  have W10 : Hid (∀ w, Calls Tryz.prog 95 #[.string (str s), .int .i64 10] w fun e w' => e = .returned (.int .i64 (fnum s 10 2)) ∧ Ext w w') := W 10 (by decide)
  have W12 : Hid (∀ w, Calls Tryz.prog 95 #[.string (str s), .int .i64 12] w fun e w' => e = .returned (.int .i64 (fnum s 12 2)) ∧ Ext w w') := W 12 (by decide)
  have W14 : Hid (∀ w, Calls Tryz.prog 95 #[.string (str s), .int .i64 14] w fun e w' => e = .returned (.int .i64 (fnum s 14 2)) ∧ Ext w w') := W 14 (by decide)
  have W16 : Hid (∀ w, Calls Tryz.prog 95 #[.string (str s), .int .i64 16] w fun e w' => e = .returned (.int .i64 (fnum s 16 2)) ∧ Ext w w') := W 16 (by decide)
  have W18 : Hid (∀ w, Calls Tryz.prog 95 #[.string (str s), .int .i64 18] w fun e w' => e = .returned (.int .i64 (fnum s 18 2)) ∧ Ext w w') := W 18 (by decide)
  have W20 : Hid (∀ w, Calls Tryz.prog 95 #[.string (str s), .int .i64 20] w fun e w' => e = .returned (.int .i64 (fnum s 20 2)) ∧ Ext w w') := W 20 (by decide)
  have W22 : Hid (∀ w, Calls Tryz.prog 95 #[.string (str s), .int .i64 22] w fun e w' => e = .returned (.int .i64 (fnum s 22 2)) ∧ Ext w w') := W 22 (by decide)
  have B4 := B 4; have B6 := B 6
  clear W B h
  generalize fnum s 2 2 = n2 at *
  generalize fnum s 4 2 = n4 at *
  generalize fnum s 6 2 = n6 at *
  generalize fnum s 8 2 = n8 at *
  generalize fnum s 10 2 = n10 at *
  generalize fnum s 12 2 = n12 at *
  generalize fnum s 14 2 = n14 at *
  generalize fnum s 16 2 = n16 at *
  generalize fnum s 18 2 = n18 at *
  generalize fnum s 20 2 = n20 at *
  generalize fnum s 22 2 = n22 at *
  obtain ⟨B40, B41⟩ := B4
  obtain ⟨B60, B61⟩ := B6
  have v2 : IntKind.i64.wrap (65536 * n6) = 65536 * n6 := IntWalk.i64_in _ (by omega)
  have v3 : IntKind.i64.wrap (n4 + 65536 * n6) = n4 + 65536 * n6 := IntWalk.i64_in _ (by omega)
  go_enter Tryz.func64, Tryz.ntmps64
  go_wp2_with fail
  generalize hw1 : w.alloc _ = w1
  have x1 : Ext w w1 := by rw [← hw1]; exact (Ext.refl _).alloc _
  have r1 : Box w1 w.heap.size 42 (intVals zero12) := by rw [← hw1]; exact Box.new _ _ _
  clear hw1
  refine wp_region_drift 20 19 [0, 1, 2, 3, 4, 5, 6, 7, 8, 9, 10, 11, 12, 13, 14, 15, 16, 17, 18] [] (NewBox w1 42 (intVals zero12)) (NewBox.keep w1 _ _) _ (by kernel_rfl) (by kernel_rfl) (by kernel_rfl) (by kernel_rfl) (by decide) (by decide) rfl (by kernel_rfl) rfl rfl (by kernel_rfl) (by kernel_rfl) ?_
  simp only [pickL, List.filterMap_cons, List.filterMap_nil, List.getElem?_cons_succ, List.getElem?_cons_zero, List.drop_succ_cons, List.drop_zero]
  apply wpCalm_then
  case h1 =>
    repeat (refine wpCalm_plain rfl ?_ (fun x => ?_) ?_; rotate_left; (· (go_simp; (first | (with_reducible exact rfl) | (with_reducible exact W2.out _) | (with_reducible exact W4.out _) | (with_reducible exact W6.out _) | (with_reducible exact W20.out _) | (with_reducible exact W22.out _)))); (try dsimp only); (try simp only [Act.put, List.setIfInBounds_toArray, List.set_cons_zero, List.set_cons_succ]))
    exact wpCalm_nil rfl
  case h2 =>
    refine ⟨fun x => ?_, fun u hu => ?_⟩
    · go_simp
      exact newBox_alloc x _ _
    · obtain ⟨_, q, rfl, hq, _⟩ := hu
      simp only [Act.put, List.setIfInBounds_toArray, List.set_cons_zero, List.set_cons_succ]
      refine wpQuiet_nil ?_
      rintro wx ⟨xx, q', e, _, bx⟩
      cases e
      refine wp_st_ino (.tmp 3) (.tmp 23) rfl rfl q [(c0.toNat : Int), n2, (c1.toNat : Int), n4 + 65536 * n6, 0, 0, 0, 0, 0, 0, n20, n22] zero12 42 rfl rfl bx rfl rfl ?_
      intro e0 b0 g0'
      have z0 : Ext w e0 := (x1.trans xx).grown g0' (fun k e => by cases e; exact Nat.le_trans x1.size hq)
      have rr0 : Box e0 w.heap.size 42 (intVals zero12) := (r1.ext xx).grown g0' (fun e => by have := r1.lt; cases e; omega)
      have hqw : w.heap.size < q := Nat.lt_of_lt_of_le r1.lt hq
      clear bx xx r1 x1 hq g0'
      go_wp2_with fail
      refine wp_loop_rounds 7 ?_
      rw [rounds_succ]
      go_wp2_with (go_at_call 95; with_reducible refine (W8.out _).mono ?_; rintro ee y0 ⟨rfl, xy0⟩; have k0 := (b0.ext xy0).cell 4; have f0 := (b0.ext xy0).frozen 4)
      have b1 : Box (y0.setCell ⟨q, 4, none⟩ (.int .i64 n8)) q 42 (intVals [(c0.toNat : Int), n2, (c1.toNat : Int), n4 + 65536 * n6, n8, 0, 0, 0, 0, 0, n20, n22]) := (b0.ext xy0).set 4 (.int .i64 n8)
      have z1 := (z0.trans xy0).setCell (p := ⟨q, 4, none⟩) (Nat.le_of_lt hqw) (.int .i64 n8)
      have rr1 := (rr0.ext xy0).grown (setCell_grown' y0 q 4 (.int .i64 n8)) (by simp; omega)
      generalize y0.setCell ⟨q, 4, none⟩ (.int .i64 n8) = e1 at b1 z1 rr1 ⊢
      clear b0 z0 rr0 k0 f0 xy0
      rw [rounds_succ]
      go_wp2_with (go_at_call 95; with_reducible refine (W10.out _).mono ?_; rintro ee y1 ⟨rfl, xy1⟩; have k1 := (b1.ext xy1).cell 5; have f1 := (b1.ext xy1).frozen 5)
      have b2 : Box (y1.setCell ⟨q, 5, none⟩ (.int .i64 n10)) q 42 (intVals [(c0.toNat : Int), n2, (c1.toNat : Int), n4 + 65536 * n6, n8, n10, 0, 0, 0, 0, n20, n22]) := (b1.ext xy1).set 5 (.int .i64 n10)
      have z2 := (z1.trans xy1).setCell (p := ⟨q, 5, none⟩) (Nat.le_of_lt hqw) (.int .i64 n10)
      have rr2 := (rr1.ext xy1).grown (setCell_grown' y1 q 5 (.int .i64 n10)) (by simp; omega)
      generalize y1.setCell ⟨q, 5, none⟩ (.int .i64 n10) = e2 at b2 z2 rr2 ⊢
      clear b1 z1 rr1 k1 f1 xy1
      rw [rounds_succ]
      go_wp2_with (go_at_call 95; with_reducible refine (W12.out _).mono ?_; rintro ee y2 ⟨rfl, xy2⟩; have k2 := (b2.ext xy2).cell 6; have f2 := (b2.ext xy2).frozen 6)
      have b3 : Box (y2.setCell ⟨q, 6, none⟩ (.int .i64 n12)) q 42 (intVals [(c0.toNat : Int), n2, (c1.toNat : Int), n4 + 65536 * n6, n8, n10, n12, 0, 0, 0, n20, n22]) := (b2.ext xy2).set 6 (.int .i64 n12)
      have z3 := (z2.trans xy2).setCell (p := ⟨q, 6, none⟩) (Nat.le_of_lt hqw) (.int .i64 n12)
      have rr3 := (rr2.ext xy2).grown (setCell_grown' y2 q 6 (.int .i64 n12)) (by simp; omega)
      generalize y2.setCell ⟨q, 6, none⟩ (.int .i64 n12) = e3 at b3 z3 rr3 ⊢
      clear b2 z2 rr2 k2 f2 xy2
      rw [rounds_succ]
      go_wp2_with (go_at_call 95; with_reducible refine (W14.out _).mono ?_; rintro ee y3 ⟨rfl, xy3⟩; have k3 := (b3.ext xy3).cell 7; have f3 := (b3.ext xy3).frozen 7)
      have b4 : Box (y3.setCell ⟨q, 7, none⟩ (.int .i64 n14)) q 42 (intVals [(c0.toNat : Int), n2, (c1.toNat : Int), n4 + 65536 * n6, n8, n10, n12, n14, 0, 0, n20, n22]) := (b3.ext xy3).set 7 (.int .i64 n14)
      have z4 := (z3.trans xy3).setCell (p := ⟨q, 7, none⟩) (Nat.le_of_lt hqw) (.int .i64 n14)
      have rr4 := (rr3.ext xy3).grown (setCell_grown' y3 q 7 (.int .i64 n14)) (by simp; omega)
      generalize y3.setCell ⟨q, 7, none⟩ (.int .i64 n14) = e4 at b4 z4 rr4 ⊢
      clear b3 z3 rr3 k3 f3 xy3
      rw [rounds_succ]
      go_wp2_with (go_at_call 95; with_reducible refine (W16.out _).mono ?_; rintro ee y4 ⟨rfl, xy4⟩; have k4 := (b4.ext xy4).cell 8; have f4 := (b4.ext xy4).frozen 8)
      have b5 : Box (y4.setCell ⟨q, 8, none⟩ (.int .i64 n16)) q 42 (intVals [(c0.toNat : Int), n2, (c1.toNat : Int), n4 + 65536 * n6, n8, n10, n12, n14, n16, 0, n20, n22]) := (b4.ext xy4).set 8 (.int .i64 n16)
      have z5 := (z4.trans xy4).setCell (p := ⟨q, 8, none⟩) (Nat.le_of_lt hqw) (.int .i64 n16)
      have rr5 := (rr4.ext xy4).grown (setCell_grown' y4 q 8 (.int .i64 n16)) (by simp; omega)
      generalize y4.setCell ⟨q, 8, none⟩ (.int .i64 n16) = e5 at b5 z5 rr5 ⊢
      clear b4 z4 rr4 k4 f4 xy4
      rw [rounds_succ]
      go_wp2_with (go_at_call 95; with_reducible refine (W18.out _).mono ?_; rintro ee y5 ⟨rfl, xy5⟩; have k5 := (b5.ext xy5).cell 9; have f5 := (b5.ext xy5).frozen 9)
      have b6 : Box (y5.setCell ⟨q, 9, none⟩ (.int .i64 n18)) q 42 (intVals [(c0.toNat : Int), n2, (c1.toNat : Int), n4 + 65536 * n6, n8, n10, n12, n14, n16, n18, n20, n22]) := (b5.ext xy5).set 9 (.int .i64 n18)
      have z6 := (z5.trans xy5).setCell (p := ⟨q, 9, none⟩) (Nat.le_of_lt hqw) (.int .i64 n18)
      have rr6 := (rr5.ext xy5).grown (setCell_grown' y5 q 9 (.int .i64 n18)) (by simp; omega)
      generalize y5.setCell ⟨q, 9, none⟩ (.int .i64 n18) = e6 at b6 z6 rr6 ⊢
      clear b5 z5 rr5 k5 f5 xy5
      rw [rounds_succ]
      go_wp2_with (first
        | (refine wp_ld_ino (.tmp 3) rfl rfl q _ 42 rfl b6 rfl ?_)
        | (refine wp_st_ino (.tmp 2) (.tmp 36) rfl rfl w.heap.size [(c0.toNat : Int), n2, (c1.toNat : Int), n4 + 65536 * n6, n8, n10, n12, n14, n16, n18, n20, n22] zero12 42 rfl rfl rr6 rfl rfl ?_; intro e9 b9 g9))
      have xF := z6.grown g9 (fun k e => by cases e; exact Nat.le_refl _)
      refine bodyPost_ret (results_cell1 rfl _ _ w.heap.size _ _ _ rfl b9 Tryz.underlying42 rfl inoSize) rfl ⟨?_, xF⟩
      rw [HI.out]; rfl
end Go.Proofs.YtmcoepkopfcbdaaGreat
/- The document's inodes: Get. -/
namespace Go.Proofs.YtmcoepkopfcbdaaGreat
set_option linter.unusedVariables false
open Go.RowKit

theorem inoL_part (b : List UInt8) (o : Nat) : inoL ((b.drop o).take 64) 0 = inoL b o := by
  have e : ∀ i z : Nat, i + z ≤ 64 → fnum ((b.drop o).take 64) (0 + i) z = fnum b (o + i) z := fun i z h => by
    unfold fnum
    rw [Nat.zero_add, List.drop_take, List.take_take, List.drop_drop, show min z (64 - i) = z by omega]
  unfold inoL
  rw [show fnum ((b.drop o).take 64) 0 1 = fnum b o 1 from e 0 1 (by omega), e 2 2 (by omega), e 1 1 (by omega), e 4 4 (by omega), e 8 2 (by omega), e 10 2 (by omega), e 12 2 (by omega), e 14 2 (by omega), e 16 2 (by omega), e 18 2 (by omega), e 20 2 (by omega), e 22 2 (by omega)]
set_option maxHeartbeats 1000000 in
set_option maxRecDepth 100000 in
theorem riget_yes (A : Option Addr) (n c : Nat) (v : List (List UInt8)) (I k : Int) (w : World) (hv : Strs w A n v) (hg : Good v I) (hk1 : 1 ≤ k) (hk2 : k ≤ I) :
    Calls Tryz.prog 30 #[.slice A n c, .int .i64 k] w fun e w' => e = .returned (.tuple #[.agg (intVals (inoAt v k)), .int .i64 0]) ∧ Ext w w' := by
  have hpl := plan_bd hg.plan
  have HO := Lib.hid (fun w h => rof_yes A n c v I w h hg)
  have hv' := hv
  obtain ⟨rfl, hv2⟩ := hv
  obtain ⟨b, o, rfl, hcell⟩ := hv2 (by omega)
  have hi : (3 + (k - 1) / 2).toNat < v.length := by omega
  have hbl : (v.getD (3 + (k - 1) / 2).toNat []).length = 128 := getD_len hg hi
  have hc0 : w.cell? ⟨b, o + (3 + (k - 1) / 2).toNat, none⟩ = some (.string (str (v.getD (3 + (k - 1) / 2).toNat []))) := by
    rw [hcell _ hi, List.getD_eq_getElem?_getD, List.getElem?_eq_getElem hi]; rfl
  have HE := Lib.hid (show inoAt v k = inoL (((v.getD (3 + (k - 1) / 2).toNat []).drop ((k - 1) % 2 * 64).toNat).take 64) 0 by rw [inoL_part]; rfl)
  generalize v.getD (3 + (k - 1) / 2).toNat [] = bl at *
  have hse := str_ext
  have hz : (str bl).size = 128 := by rw [str_size, hbl]
  have hp : (3 + (k - 1) / 2).toNat = ((3 + (k - 1) / 2).toNat) := rfl
  have HT := Lib.hid (fun w => riof_any ((bl.drop ((k - 1) % 2 * 64).toNat).take 64) w (by simp [hbl]; omega))
  have t1 : IntKind.i64.wrap (k - 1) = k - 1 := IntWalk.i64_in _ (by omega)
  have t2 : (k - 1).tmod 2 = (k - 1) % 2 := Int.tmod_eq_emod_of_nonneg (by omega)
  have t3 : (k - 1).tdiv 2 = (k - 1) / 2 := Int.tdiv_eq_ediv_of_nonneg (by omega)
  have t4 : IntKind.i64.wrap ((k - 1) / 2) = (k - 1) / 2 := IntWalk.i64_in _ (by omega)
  have t5 : IntKind.i64.wrap ((k - 1) % 2 * 64) = (k - 1) % 2 * 64 := IntWalk.i64_in _ (by omega)
  have t6 : IntKind.i64.wrap (3 + (k - 1) / 2) = 3 + (k - 1) / 2 := IntWalk.i64_in _ (by omega)
  have t7 : IntKind.i64.wrap ((k - 1) % 2 * 64 + 64) = (k - 1) % 2 * 64 + 64 := IntWalk.i64_in _ (by omega)
  have s1 : (0 : Int) ≤ (k - 1) % 2 * 64 := by omega
  have s2 : (k - 1) % 2 * 64 + 64 ≤ 128 := by omega
  have s3 : (0 : Int) ≤ 3 + (k - 1) / 2 := by omega
  have s4 : 3 + (k - 1) / 2 < (v.length : Int) := by omega
  have s5 : (k - 1) % 2 * 64 ≤ (k - 1) % 2 * 64 + 64 := by omega
  have s6 : (0 : Int) ≤ (k - 1) % 2 * 64 + 64 := by omega
  have s7 : ((k - 1) % 2 * 64 + 64).toNat - ((k - 1) % 2 * 64).toNat = 64 := by omega
  have d1 : decide (k < 1) = false := by simp; omega
  have d2 : decide (I < k) = false := by simp; omega
  clear hcell hi hp hv2
  go_enter Tryz.func30, Tryz.ntmps30
  go_wp2_with fail
  refine (HO.out _ (hv'.ext ((Ext.refl _).alloc _))).mono ?_
  rintro e w1 ⟨rfl, x1⟩
  rw [geomV_eq]
  have x0 : Ext w w1 := ((Ext.refl w).alloc _).trans x1
  have bR : Box w1 w.heap.size 42 (intVals zero12) := (Box.new w 42 _).ext x1
  have hlt := bR.lt
  clear x1
  go_wp2_with (first
    | (refine wp_st_geom (.tmp 6) (.tmp 12) rfl rfl w1.heap.size _ [0, 0, 0, 0, 0, 0] 68 rfl rfl (Box.new _ _ _) rfl rfl ?_; intro w2 b2 g2; have x2 : Ext w w2 := (x0.alloc _).grown g2 (fun k e => by cases e; exact x0.size); have c1 : w2.cell? ⟨w1.heap.size, 1, none⟩ = some (.int .i64 I) := b2.cell 1; have c4 : w2.cell? ⟨w1.heap.size, 4, none⟩ = some (.int .i64 3) := b2.cell 4; have cb := x2.keep hc0)
    | (go_at_call 64; refine (HT.out _).mono ?_; rintro e w3 ⟨rfl, x3⟩)
    | (refine wp_st_ino (.tmp 4) (.tmp 44) rfl rfl w.heap.size _ zero12 42 rfl rfl (((bR.ext ((Ext.refl _).alloc _)).grown g2 (by simp; omega)).ext x3) rfl rfl ?_; intro w4 b4 g4))
  refine bodyPost_ret (results_cell2 rfl _ _ w.heap.size _ _ _ (.int .i64 0) rfl rfl b4 Tryz.underlying42 rfl inoSize) rfl ⟨by rw [HE.out], ?_⟩
  exact (x2.trans x3).grown g4 (fun k e => by cases e; exact Nat.le_refl _)
end Go.Proofs.YtmcoepkopfcbdaaGreat
/- The document's inodes: Put. -/
namespace Go.Proofs.YtmcoepkopfcbdaaGreat
set_option linter.unusedVariables false
open Go.RowKit

set_option maxHeartbeats 1000000 in
set_option maxRecDepth 100000 in
theorem riput_yes (A : Option Addr) (m c : Nat) (v : List (List UInt8)) (I j : Int) (k l o s d0 d1 d2 d3 d4 d5 n e : Int) (w : World) (hv : Strs w A m v) (hg : Good v I) (hk1 : 1 ≤ j) (hk2 : j ≤ I) (h : FitI k l o s d0 d1 d2 d3 d4 d5 n e) :
    Calls Tryz.prog 32 #[.slice A m c, .int .i64 j, inoV [k, l, o, s, d0, d1, d2, d3, d4, d5, n, e]] w fun r w' => ∃ u, r = .returned (.tuple #[u, .int .i64 0]) ∧ Ext w w' ∧ w'.ownsRow w.heap.size 9 1 u m (strL (putAt v j [k, l, o, s, d0, d1, d2, d3, d4, d5, n, e])) := by
  have hpl := plan_bd hg.plan
  have HO := Lib.hid (fun w h => rof_yes A m c v I w h hg)
  have HF := Lib.hid (fun w => rfits_yes k l o s d0 d1 d2 d3 d4 d5 n e w h)
  have HY := Lib.hid (fun w => rbytes_yes k l o s d0 d1 d2 d3 d4 d5 n e w h)
  clear h
  unfold inoV at HF HY ⊢
  have hv' := hv
  obtain ⟨rfl, hv2⟩ := hv
  obtain ⟨b, ob, rfl, hcell⟩ := hv2 (by omega)
  have hi : (3 + (j - 1) / 2).toNat < v.length := by omega
  have hbl : (v.getD (3 + (j - 1) / 2).toNat []).length = 128 := getD_len hg hi
  have hc0 : w.cell? ⟨b, ob + (3 + (j - 1) / 2).toNat, none⟩ = some (.string (str (v.getD (3 + (j - 1) / 2).toNat []))) := by
    rw [hcell _ hi, List.getD_eq_getElem?_getD, List.getElem?_eq_getElem hi]; rfl
  have HE := Lib.hid (show putAt v j [k, l, o, s, d0, d1, d2, d3, d4, d5, n, e] = v.set (3 + (j - 1) / 2).toNat (overL (v.getD (3 + (j - 1) / 2).toNat []) ((j - 1) % 2 * 64).toNat (inoB [k, l, o, s, d0, d1, d2, d3, d4, d5, n, e])) from rfl)
  have hIl := inoB_len [k, l, o, s, d0, d1, d2, d3, d4, d5, n, e]
  generalize v.getD (3 + (j - 1) / 2).toNat [] = bl at *
  generalize inoB [k, l, o, s, d0, d1, d2, d3, d4, d5, n, e] = IB at *
  have hse := str_ext
  have hap := str_app
  have hzs := str_size
  have t1 : IntKind.i64.wrap (j - 1) = j - 1 := IntWalk.i64_in _ (by omega)
  have t3 : (j - 1).tdiv 2 = (j - 1) / 2 := Int.tdiv_eq_ediv_of_nonneg (by omega)
  have t4 : IntKind.i64.wrap ((j - 1) / 2) = (j - 1) / 2 := IntWalk.i64_in _ (by omega)
  have t6 : IntKind.i64.wrap (3 + (j - 1) / 2) = 3 + (j - 1) / 2 := IntWalk.i64_in _ (by omega)
  have t8 : j.tmod 2 = j % 2 := Int.tmod_eq_emod_of_nonneg (by omega)
  have s3 : (0 : Int) ≤ 3 + (j - 1) / 2 := by omega
  have s4 : 3 + (j - 1) / 2 < (v.length : Int) := by omega
  clear hcell hv2
  have d1' : decide (j < 1) = false := by simp; omega
  have d2' : decide (I < j) = false := by simp; omega
  go_enter Tryz.func32, Tryz.ntmps32
  go_wp2_with fail
  have x0 := (Ext.refl w).alloc (.cells (intVals [k, l, o, s, d0, d1, d2, d3, d4, d5, n, e]) 42)
  have bI := Box.new w 42 (intVals [k, l, o, s, d0, d1, d2, d3, d4, d5, n, e])
  refine (HO.out _ (hv'.ext x0)).mono ?_
  rintro e1 w1 ⟨rfl, x1⟩
  rw [geomV_eq]
  have bJ := bI.ext x1
  have hlt := bJ.lt
  have x2 := x0.trans x1
  clear x0 x1 bI
  go_wp2_with (first
    | (refine wp_st_geom (.tmp 8) (.tmp 15) rfl rfl w1.heap.size _ [0, 0, 0, 0, 0, 0] 68 rfl rfl (Box.new _ _ _) rfl rfl ?_; intro w2 b2 g2; have x3 : Ext w w2 := (x2.alloc _).grown g2 (fun k e => by cases e; exact x2.size); have bK := (bJ.ext ((Ext.refl _).alloc _)).grown g2 (by simp; omega); have c1 : w2.cell? ⟨w1.heap.size, 1, none⟩ = some (.int .i64 I) := b2.cell 1)
    | (refine wp_ld_ino (.tmp 5) rfl rfl w.heap.size _ 42 rfl bK rfl ?_)
    | (go_at_call 65; refine (HF.out _).mono ?_; rintro e w3 ⟨rfl, x4⟩; have o0 : (w3.alloc (.cells #[] 9)).ownsRow w3.heap.size 9 1 (.slice (some ⟨w3.heap.size, 0, none⟩) 0 0) 0 (strL []) := World.ownsRow_lit w3 #[] 0 (Nat.le_refl _) (by decide) rfl; have y0 : Ext w3 (w3.alloc (.cells #[] 9)) := (Ext.refl _).alloc _; have v0 := hv'.ext ((x3.trans x4).trans y0); have hs0 : w3.heap.size ≤ (w3.alloc (.cells #[] 9)).heap.size := by simp)
    | (at_builtin; refine wp_app_strs w3.heap.size rfl _ _ rfl rfl rfl o0 v0 (by omega) hs0 (by omega) ?_; intro u' w5 own5 g5; rw [Nat.zero_add, List.nil_append] at own5; obtain ⟨gr, cap, rfl, hgr, s5⟩ := Strs.own' own5 (by omega); have x5 : Ext w3 w5 := y0.grown g5 (fun g h => by injection (show some w3.heap.size = some g from h) with h; omega); clear o0 v0 g5; have b5 := (b2.ext x4).ext x5; have c4 : w5.cell? ⟨w1.heap.size, 4, none⟩ = some (.int .i64 3) := b5.cell 4))
  all_goals
    have bK5 := (bK.ext x4).ext x5
    have qc : ∀ x : Later w5, x.now.cell? ⟨b, ob + (3 + (j - 1) / 2).toNat, none⟩ = some (.string (str bl)) := fun x => ((((x3.trans x4).trans x5).trans x.ext).keep hc0)
    have q0 : ∀ x : Later w5, x.now.cell? ⟨w.heap.size, 0, none⟩ = some (.int .i64 k) := fun x => (bK5.ext x.ext).cell 0
    have q1 : ∀ x : Later w5, x.now.cell? ⟨w.heap.size, 1, none⟩ = some (.int .i64 l) := fun x => (bK5.ext x.ext).cell 1
    have q2 : ∀ x : Later w5, x.now.cell? ⟨w.heap.size, 2, none⟩ = some (.int .i64 o) := fun x => (bK5.ext x.ext).cell 2
    have q3 : ∀ x : Later w5, x.now.cell? ⟨w.heap.size, 3, none⟩ = some (.int .i64 s) := fun x => (bK5.ext x.ext).cell 3
    have q4 : ∀ x : Later w5, x.now.cell? ⟨w.heap.size, 4, none⟩ = some (.int .i64 d0) := fun x => (bK5.ext x.ext).cell 4
    have q5 : ∀ x : Later w5, x.now.cell? ⟨w.heap.size, 5, none⟩ = some (.int .i64 d1) := fun x => (bK5.ext x.ext).cell 5
    have q6 : ∀ x : Later w5, x.now.cell? ⟨w.heap.size, 6, none⟩ = some (.int .i64 d2) := fun x => (bK5.ext x.ext).cell 6
    have q7 : ∀ x : Later w5, x.now.cell? ⟨w.heap.size, 7, none⟩ = some (.int .i64 d3) := fun x => (bK5.ext x.ext).cell 7
    have q8 : ∀ x : Later w5, x.now.cell? ⟨w.heap.size, 8, none⟩ = some (.int .i64 d4) := fun x => (bK5.ext x.ext).cell 8
    have q9 : ∀ x : Later w5, x.now.cell? ⟨w.heap.size, 9, none⟩ = some (.int .i64 d5) := fun x => (bK5.ext x.ext).cell 9
    have q10 : ∀ x : Later w5, x.now.cell? ⟨w.heap.size, 10, none⟩ = some (.int .i64 n) := fun x => (bK5.ext x.ext).cell 10
    have q11 : ∀ x : Later w5, x.now.cell? ⟨w.heap.size, 11, none⟩ = some (.int .i64 e) := fun x => (bK5.ext x.ext).cell 11
  · refine wp_region_later_tail 12 (by kernel_rfl) (by kernel_rfl) ?_
    simp only [List.take_succ_cons, List.take_zero, List.drop_succ_cons, List.drop_zero]
    repeat (go_big_quiet_step ((exact later_of (HY.out _))))
    refine wpQuiet_nil ?_
    rintro w6 ⟨x6, rfl⟩
    have own6 := own_ext own5 x6.ext
    have k6 : x6.now.cell? ⟨gr, (3 + (j - 1) / 2).toNat, none⟩ = some (.string (str v[(3 + (j - 1) / 2).toNat])) := (own6.cellAt _ (by omega)).trans (by simp [strL, hi])
    have kf := own6.frozenAt (3 + (j - 1) / 2).toNat
    clear qc q0 q1 q2 q3 q4 q5 q6 q7 q8 q9 q10 q11
    go_wp2_with fail
    go_ret2
    refine ⟨_, rfl, ((((x3.trans x4).trans x5).trans x6.ext).setCell (Nat.le_trans (x3.trans x4).size hgr) _), ?_⟩
    rw [HE.out]
    have hq : j % 2 = 1 := by simpa using ‹(j % 2 == 1) = true›
    have hp : (j - 1) % 2 = 0 := by omega
    have hs := own_base (own6.stored (3 + (j - 1) / 2).toNat (.string (str (IB ++ (bl.drop 24).take 104)))).1 (x3.trans x4).size
    rw [hp, show strL (v.set (3 + (j - 1) / 2).toNat (overL bl (0 * 64 : Int).toNat IB)) = (strL v).set (3 + (j - 1) / 2).toNat (.string (str (IB ++ (bl.drop 24).take 104))) by
      rw [List.take_of_length_le (l := bl.drop 24) (by simp; omega)]; simp [strL, List.map_set, overL, hIl]]
    exact hs
  · refine wp_region_later_tail 18 (by kernel_rfl) (by kernel_rfl) ?_
    simp only [List.take_succ_cons, List.take_zero, List.drop_succ_cons, List.drop_zero]
    repeat (go_big_quiet_step ((exact later_of (HY.out _))))
    refine wpQuiet_nil ?_
    rintro w6 ⟨x6, rfl⟩
    have own6 := own_ext own5 x6.ext
    have k6 : x6.now.cell? ⟨gr, (3 + (j - 1) / 2).toNat, none⟩ = some (.string (str v[(3 + (j - 1) / 2).toNat])) := (own6.cellAt _ (by omega)).trans (by simp [strL, hi])
    have kf := own6.frozenAt (3 + (j - 1) / 2).toNat
    clear qc q0 q1 q2 q3 q4 q5 q6 q7 q8 q9 q10 q11
    go_wp2_with fail
    go_ret2
    refine ⟨_, rfl, ((((x3.trans x4).trans x5).trans x6.ext).setCell (Nat.le_trans (x3.trans x4).size hgr) _), ?_⟩
    rw [HE.out]
    have hq : ¬ j % 2 = 1 := by simpa using ‹(j % 2 == 1) = false›
    have hp : (j - 1) % 2 = 1 := by omega
    have hs := own_base (own6.stored (3 + (j - 1) / 2).toNat (.string (str (bl.take 64 ++ (IB ++ (bl.drop 88).take 40))))).1 (x3.trans x4).size
    rw [hp, show strL (v.set (3 + (j - 1) / 2).toNat (overL bl (1 * 64 : Int).toNat IB)) = (strL v).set (3 + (j - 1) / 2).toNat (.string (str (bl.take 64 ++ (IB ++ (bl.drop 88).take 40)))) by
      rw [List.take_of_length_le (l := bl.drop 88) (by simp; omega)]; simp [strL, List.map_set, overL, hIl]]
    exact hs
end Go.Proofs.YtmcoepkopfcbdaaGreat
/- The document's inodes: New on a volume that has a free one. -/
namespace Go.Proofs.YtmcoepkopfcbdaaGreat
set_option linter.unusedVariables false
open Go.RowKit

set_option maxHeartbeats 1000000 in
set_option maxRecDepth 100000 in
theorem rnew_yes (A : Option Addr) (n c j : Nat) (v : List (List UInt8)) (I o : Int) (w : World) (hv : Strs w A n v) (hg : Good v I) (ho0 : 0 ≤ o) (ho1 : o ≤ 15) (hj1 : 1 ≤ j) (hj2 : (j : Int) ≤ I) (hj : (inoAt v j).getD 0 0 = 0)
    (hlow : ∀ i : Nat, 1 ≤ i → i < j → (inoAt v i).getD 0 0 ≠ 0) :
    Calls Tryz.prog 15 #[.slice A n c, .int .i64 1, .int .i64 o] w fun e w' => ∃ u, e = .returned (.tuple #[u, .int .i64 j, .int .i64 0]) ∧ Ext w w' ∧ w'.ownsRow w.heap.size 9 1 u n (strL (putAt v j [1, 1, o, 0, 0, 0, 0, 0, 0, 0, 0, 0])) := by
  have hpl := plan_bd hg.plan
  have HO := Lib.hid (fun w h => rof_yes A n c v I w h hg)
  have HG := Lib.hid (fun (m : Nat) (h1 : 1 ≤ m) (h2 : (m : Int) ≤ I) w h => riget_yes A n c v I m w h hg (by omega) h2)
  have HF : FitI 1 1 o 0 0 0 0 0 0 0 0 0 := by constructor <;> omega
  have HP := Lib.hid (fun w h => riput_yes A n c v I j 1 1 o 0 0 0 0 0 0 0 0 0 w h hg (by omega) hj2 HF)
  have e12 : inoV [1, 1, o, 0, 0, 0, 0, 0, 0, 0, 0, 0] = .agg #[.int .i64 1, .int .i64 1, .int .i64 o, .int .i64 0, .int .i64 0, .int .i64 0, .int .i64 0, .int .i64 0, .int .i64 0, .int .i64 0, .int .i64 0, .int .i64 0] := rfl
  rw [e12] at HP
  clear e12
  have HL := Lib.hid hlow
  have HJ := Lib.hid hj
  have HX := Lib.hid (fun m : Nat => inoAt_len v m)
  clear hlow hj HF
  go_enter Tryz.func15, Tryz.ntmps15
  go_wp2_with fail
  refine (HO.out _ hv).mono ?_
  rintro e w1 ⟨rfl, x1⟩
  rw [geomV_eq]
  go_wp2_with (refine wp_st_geom (.tmp 9) (.tmp 19) rfl rfl w1.heap.size _ [0, 0, 0, 0, 0, 0] 68 rfl rfl (Box.new _ _ _) rfl rfl ?_; intro w2 b2 g2; have x2 : Ext w w2 := (x1.alloc _).grown g2 (fun k e => by cases e; exact x1.size))
  go_loopw [11] (fun t wx => ∃ m : Nat, 1 ≤ m ∧ m ≤ j ∧ t = .int .i64 m ∧ Ext w wx ∧ Box wx w1.heap.size 68 (intVals [v.length, I, 1, 2, 3, 3 + (I + 1) / 2])) (fun t _ => j - (intOf t).toNat)
  case atStart => exact ⟨1, by omega, by omega, rfl, x2, b2⟩
  case round =>
    obtain ⟨m, hm1, hm, rfl, xm, bm⟩ := hrel
    have c1 : wr.cell? ⟨w1.heap.size, 1, none⟩ = some (.int .i64 I) := bm.cell 1
    have dm : (m : Int) ≤ I := by omega
    have hxl := HX.out m
    by_cases hlt : m < j
    · have hk := Lib.hid (HL.out m hm1 hlt)
      have HGm := Lib.hid (HG.out m hm1 dm)
      generalize inoAt v m = x at *
      obtain ⟨kd, HK⟩ : ∃ kd, Hid (x.getD 0 0 = kd) := ⟨_, Lib.hid rfl⟩
      have hb : (kd == 0) = false := by rw [← HK.out]; simpa using hk.out
      go_wp2_with (first
        | (go_at_call 30; refine (HGm.out _ (hv.ext xm)).mono ?_; rintro e w3 ⟨rfl, x3⟩)
        | (refine wp_st_ino (.tmp 12) (.tmp 48) rfl rfl w3.heap.size _ zero12 42 rfl rfl (Box.new _ _ _) hxl rfl ?_; intro w4 b4 g4; have x4 : Ext w w4 := ((xm.trans x3).alloc _).grown g4 (fun k e => by cases e; exact (xm.trans x3).size); have c0 : w4.cell? ⟨w3.heap.size, 0, none⟩ = some (.int .i64 kd) := by rw [← HK.out]; exact b4.at 0 (by omega)))
      have hlt3 := (bm.ext x3).lt
      have b5 : Box w4 w1.heap.size 68 (intVals [v.length, I, 1, 2, 3, 3 + (I + 1) / 2]) := ((bm.ext x3).ext ((Ext.refl _).alloc _)).grown g4 (by simp; omega)
      go_roundw
      case rel => exact ⟨m + 1, by omega, by omega, by go_num, x4, b5⟩
      case measure => simp [intOf]; omega
    · obtain rfl : m = j := by omega
      have hk := Lib.hid HJ.out
      have HGm := Lib.hid (HG.out m hm1 dm)
      generalize inoAt v m = x at *
      obtain ⟨kd, HK⟩ : ∃ kd, Hid (x.getD 0 0 = kd) := ⟨_, Lib.hid rfl⟩
      have hb : (kd == 0) = true := by rw [← HK.out]; simpa using hk.out
      go_wp2_with (first
        | (go_at_call 30; refine (HGm.out _ (hv.ext xm)).mono ?_; rintro e w3 ⟨rfl, x3⟩)
        | (refine wp_st_ino (.tmp 12) (.tmp 48) rfl rfl w3.heap.size _ zero12 42 rfl rfl (Box.new _ _ _) hxl rfl ?_; intro w4 b4 g4; have x4 : Ext w w4 := ((xm.trans x3).alloc _).grown g4 (fun k e => by cases e; exact (xm.trans x3).size); have c0 : w4.cell? ⟨w3.heap.size, 0, none⟩ = some (.int .i64 kd) := by rw [← HK.out]; exact b4.at 0 (by omega))
        | (go_at_call 32; refine (HP.out _ (hv.ext x4)).mono ?_; rintro e w5 ⟨u, rfl, x5, own5⟩))
      go_ret3
      exact ⟨u, rfl, x4.trans x5, own_base own5 x4.size⟩
end Go.Proofs.YtmcoepkopfcbdaaGreat
/- The walk of xattr.Set on a volume that is one. -/
namespace Go.Proofs.YtmcoepkopfcbdaaGreat
set_option linter.unusedVariables false
open Go.RowKit

theorem attL_set : ∀ (l : List Att) (i : Nat) (h : i < l.length) (value : List UInt8), (attL l).set (i * 2 + 1) (.string (str value)) = attL (l.set i (l[i].1, value))
  | x :: l, 0, _, _ => rfl
  | x :: l, i + 1, h, value => by
    have ih := attL_set l i (by simpa using h) value
    have e : attL (x :: l) = Value.string (str x.1) :: Value.string (str x.2) :: attL l := rfl
    rw [e, show (i + 1) * 2 + 1 = i * 2 + 1 + 1 + 1 by omega]
    simp only [List.set_cons_succ, List.getElem_cons_succ]
    rw [ih]; rfl
theorem OwnA.setVal {w : World} {base g cap n : Nat} {l : List Att} (h : OwnA w base (.slice (some ⟨g, 0, none⟩) n cap) l) {i : Nat} (hi : i < l.length) (value : List UInt8) :
    (w.cell? ⟨g, i * 2 + 1, none⟩ = some (.string (str l[i].2)) ∧ w.frozen? ⟨g, i * 2 + 1, none⟩ = false) ∧ OwnA (w.setCell ⟨g, i * 2 + 1, none⟩ (.string (str value))) base (.slice (some ⟨g, 0, none⟩) n cap) (l.set i (l[i].1, value)) := by
  rcases h.2 with ⟨h0, _⟩ | ⟨g', cap', cur, e, hb, hh, hcap, hmax, hsz, htake⟩
  · cases h0
  injection e with e1 e2 e3
  injection e1 with e1
  injection e1 with e1 _
  subst e1; subst e2; subst e3
  have hc : ∀ j, j < l.length * 2 → cur[j]? = (attL l)[j]? := fun j hj => by rw [← htake, List.getElem?_take, if_pos hj]; simp
  refine ⟨⟨?_, frozen_of_row w g _ cur _ hh⟩, ?_⟩
  · rw [cell_of_row w g _ cur _ _ hh, hc _ (by omega)]; exact (attL_at l i hi).2
  · unfold OwnA
    rw [List.length_set]
    refine ⟨by rw [attL_len]; simp, .inr ⟨g, cap, cur.setIfInBounds (i * 2 + 1) (.string (str value)), rfl, hb, Box.set (t := 49) hh _ _, hcap, hmax, by simp [hsz], ?_⟩⟩
    rw [Array.toList_setIfInBounds, ← attL_set l i hi value, ← htake, List.take_set]
theorem val_le_row : ∀ (l : List Att) (x : Att), x ∈ l → x.2.length ≤ (rowA l).length
  | y :: l, x, h => by
    have e : rowA (y :: l) = lenL y.1.length ++ y.1 ++ (lenL y.2.length ++ y.2 ++ rowA l) := by
      unfold rowA
      have : flatA (y :: l) = y.1 :: y.2 :: flatA l := rfl
      rw [this, rowL_cons, rowL_cons]
    rw [e]
    simp only [List.length_append]
    rcases List.mem_cons.1 h with rfl | h
    · omega
    · have := val_le_row l x h; omega
theorem ins_mem (l : List Att) (x : Att) : x ∈ insA l x := by unfold insA; simp
/-- texts that are short -/
def Short (l : List Att) : Prop := ∀ y ∈ l, y.1.length ≤ 128 ∧ y.2.length ≤ 128
theorem sum_short : ∀ (l : List Att), Short l → sumL (flatA l) ≤ 264 * l.length
  | [], _ => by simp [sumL, flatA]
  | x :: l, h => by
    have ih := sum_short l (fun y hy => h y (List.mem_cons_of_mem _ hy))
    have hx := h x (List.mem_cons_self ..)
    have e : flatA (x :: l) = x.1 :: x.2 :: flatA l := rfl
    rw [e]; unfold sumL at *
    simp only [List.map_cons, List.sum_cons, List.length_cons]; omega
theorem pairsA_mem : ∀ (t : List (List UInt8)) (x : Att), x ∈ pairsA t → x.1 ∈ t ∧ x.2 ∈ t
  | a :: b :: l, x, h => by
    rcases List.mem_cons.1 h with rfl | h
    · simp
    · have := pairsA_mem l x h; simp [this.1, this.2]
  | [], x, h => by simp [pairsA] at h
  | [_], x, h => by simp [pairsA] at h
theorem short_attrs (b : List UInt8) : Short (attrsP b) := by
  unfold attrsP
  split
  · rename_i h
    have h1 : numL (b.take 2) ≤ 126 := by unfold attrsB at h; simp only [Bool.and_eq_true, decide_eq_true_eq] at h; exact h.1.1.1.1.1
    have h3 : (rowOf b).length ≤ 126 := by simp [rowOf]; omega
    intro y hy
    have hm := pairsA_mem _ y hy
    have h2 := (textsP_len (rowOf b)).2
    have := h2 _ hm.1
    have := h2 _ hm.2
    omega
  · intro y hy; simp at hy
theorem short_open (v : List (List UInt8)) (I k : Int) : Short (openP v I k).2.1 := by
  unfold openP
  repeat' (split; · intro y hy; simp at hy)
  exact short_attrs _
theorem short_ins {l : List Att} (h : Short l) {x : Att} (h1 : x.1.length ≤ 128) (h2 : x.2.length ≤ 128) : Short (insA l x) := by
  intro y hy
  unfold insA at hy
  rw [List.mem_append, List.mem_cons] at hy
  rcases hy with hy | rfl | hy
  · exact h y (List.mem_filter.1 hy).1
  · exact ⟨h1, h2⟩
  · exact h y (List.mem_filter.1 hy).1
theorem ins_len (l : List Att) (x : Att) : (insA l x).length ≤ 2 * l.length + 1 := by
  unfold insA
  have h1 := List.length_filter_le (fun y : Att => ltB y.1 x.1) l
  have h2 := List.length_filter_le (fun y : Att => ltB x.1 y.1) l
  simp only [List.length_append, List.length_cons]; omega
theorem may_short {s : List UInt8} (h : mayB s = true) : s.length ≤ 24 := by
  unfold mayB at h; simp only [Bool.and_eq_true, decide_eq_true_eq] at h; exact h.1.2
theorem own_lt {w : World} {base size n : Nat} {e : TypeId} {v : Value} {xs : List Value} (h : w.ownsRow base e size v n xs) {k : Nat} (hk : v.ownBlock = some k) : k < w.heap.size := by
  rcases h.2 with ⟨rfl, _⟩ | ⟨g, cap, cur, rfl, _, hh, _⟩
  · simp [Value.ownBlock] at hk
  · have : g = k := by simpa [Value.ownBlock] using hk
    subst this; exact Box.lt (cs := cur) hh
set_option maxHeartbeats 1000000 in
set_option maxRecDepth 100000 in
theorem set_err (A : Option Addr) (n c : Nat) (v : List (List UInt8)) (I k : Int) (name value : List UInt8) (w : World) (hv : Strs w A n v) (hg : Good v I) (he : (openP v I k).2.2 ≠ 0) :
    Calls Tryz.prog 7 #[.slice A n c, .int .i64 k, .string (str name), .string (str value)] w fun e w' => e = .returned (.tuple #[.slice none 0 0, .int .i64 (openP v I k).2.2]) ∧ Ext w w' := by
  have HO := Lib.hid (fun w h => opened_any A n c v I k w h hg)
  have hl := openP_len v I k
  generalize openP v I k = op at *
  have d1 : (op.2.2 != 0) = true := by simpa using he
  clear he
  go_enter Tryz.func7, Tryz.ntmps7
  go_wp2_with fail
  refine (HO.out _ hv).mono ?_
  rintro e w1 ⟨u, rfl, x1, own1⟩
  go_wp2_with (refine wp_st_ino (.tmp 10) (.tmp 21) rfl rfl w1.heap.size _ zero12 42 rfl rfl (Box.new _ _ _) hl rfl ?_; intro w2 b2 g2)
  go_ret2
  exact ⟨rfl, (x1.alloc _).grown g2 (fun k e => by cases e; exact x1.size)⟩
set_option maxHeartbeats 1000000 in
set_option maxRecDepth 100000 in
theorem set_may (A : Option Addr) (n c : Nat) (v : List (List UInt8)) (I k : Int) (name value : List UInt8) (w : World) (hv : Strs w A n v) (hg : Good v I) (he : (openP v I k).2.2 = 0) (hm : mayB name = false) (hn : name.length ≤ 1000000000) :
    Calls Tryz.prog 7 #[.slice A n c, .int .i64 k, .string (str name), .string (str value)] w fun e w' => e = .returned (.tuple #[.slice none 0 0, .int .i64 7]) ∧ Ext w w' := by
  have HO := Lib.hid (fun w h => opened_any A n c v I k w h hg)
  have HM := Lib.hid (fun w => may_any name w hn)
  have hl := openP_len v I k
  rw [he] at HO
  rw [hm] at HM
  generalize openP v I k = op at *
  clear he hm
  go_enter Tryz.func7, Tryz.ntmps7
  go_wp2_with fail
  refine (HO.out _ hv).mono ?_
  rintro e w1 ⟨u, rfl, x1, own1⟩
  go_wp2_with (first
    | (refine wp_st_ino (.tmp 10) (.tmp 21) rfl rfl w1.heap.size _ zero12 42 rfl rfl (Box.new _ _ _) hl rfl ?_; intro w2 b2 g2; have x2 : Ext w w2 := (x1.alloc _).grown g2 (fun k e => by cases e; exact x1.size))
    | (go_at_call 17; refine (HM.out _).mono ?_; rintro e w3 ⟨rfl, x3⟩))
  go_ret2
  exact ⟨rfl, x2.trans x3⟩
set_option maxHeartbeats 1000000 in
set_option maxRecDepth 100000 in
theorem set_long (A : Option Addr) (n c : Nat) (v : List (List UInt8)) (I k : Int) (name value : List UInt8) (w : World) (hv : Strs w A n v) (hg : Good v I) (he : (openP v I k).2.2 = 0) (hm : mayB name = true) (hn : name.length ≤ 1000000000) (hl : 126 < value.length) (hl2 : value.length ≤ 1000000000) :
    Calls Tryz.prog 7 #[.slice A n c, .int .i64 k, .string (str name), .string (str value)] w fun e w' => e = .returned (.tuple #[.slice none 0 0, .int .i64 6]) ∧ Ext w w' := by
  have HO := Lib.hid (fun w h => opened_any A n c v I k w h hg)
  have HM := Lib.hid (fun w => may_any name w hn)
  have hz := str_size
  have hlx := openP_len v I k
  rw [he] at HO
  rw [hm] at HM
  generalize openP v I k = op at *
  clear he hm
  go_enter Tryz.func7, Tryz.ntmps7
  go_wp2_with fail
  refine (HO.out _ hv).mono ?_
  rintro e w1 ⟨u, rfl, x1, own1⟩
  go_wp2_with (first
    | (refine wp_st_ino (.tmp 10) (.tmp 21) rfl rfl w1.heap.size _ zero12 42 rfl rfl (Box.new _ _ _) hlx rfl ?_; intro w2 b2 g2; have x2 : Ext w w2 := (x1.alloc _).grown g2 (fun k e => by cases e; exact x1.size))
    | (go_at_call 17; refine (HM.out _).mono ?_; rintro e w3 ⟨rfl, x3⟩))
  go_ret2
  exact ⟨rfl, x2.trans x3⟩
end Go.Proofs.YtmcoepkopfcbdaaGreat
/- The walk of xattr.Set on a volume that is one: the ways that set. -/
namespace Go.Proofs.YtmcoepkopfcbdaaGreat
set_option linter.unusedVariables false
open Go.RowKit

theorem intVals_set (x : List Int) (i : Nat) (n : Int) : (intVals x).setIfInBounds i (.int .i64 n) = intVals (x.set i n) := by simp [intVals, List.map_set]
/-- where a slice's texts lie: not in block g -/
def FarS (A : Option Addr) (g : Nat) : Prop := ∀ b o, A = some ⟨b, o, none⟩ → b ≠ g
theorem Strs.setFar {w : World} {A : Option Addr} {n : Nat} {ss : List (List UInt8)} (h : Strs w A n ss) {p : Addr} (hp : FarS A p.block) (u : Value) : Strs (w.setCell p u) A n ss :=
  ⟨h.1, fun hn => by
    obtain ⟨b, o, e, hc⟩ := h.2 hn
    exact ⟨b, o, e, fun j hj => (World.cell?_setCell_other w p ⟨b, o + j, none⟩ u (fun e2 => hp b o e (by rw [e2]))).trans (hc j hj)⟩⟩
theorem own_far {w : World} {base g n cap : Nat} {t e : TypeId} {A : Option Addr} {xs : List Value} {cs : Array Value} (h : w.ownsRow base e 1 (.slice A n cap) n xs) (hb : Box w g t cs) (hne : e ≠ t) : FarS A g := by
  intro b o hA e2
  subst hA; subst e2
  exact own_ne h hb hne rfl
set_option maxHeartbeats 2000000 in
set_option maxRecDepth 100000 in
theorem set_main (A : Option Addr) (n c : Nat) (v : List (List UInt8)) (I k : Int) (name value : List UInt8) (w : World) (hv : Strs w A n v) (hg : Good v I) (he : (openP v I k).2.2 = 0) (hm : mayB name = true) (hl : value.length ≤ 126) :
    Calls Tryz.prog 7 #[.slice A n c, .int .i64 k, .string (str name), .string (str value)] w fun e w' => ∃ u, e = .returned (.tuple #[u, .int .i64 (setP v I k name value).2]) ∧ Ext w w' ∧ w'.ownsRow w.heap.size 9 1 u (setP v I k name value).1.length (strL (setP v I k name value).1) := by
  have hms := may_short hm
  have HO := Lib.hid (fun w h => opened_any A n c v I k w h hg)
  have HM := Lib.hid (fun w => may_any name w (by omega))
  have hz := str_size
  have hlx := openP_len v I k
  have hsm := openP_small v I k
  have hri := rising_open v I k
  have hsh := short_open v I k
  have hpl := plan_bd hg.plan
  have hok := open_ok he
  have HSP : Hid (setP v I k name value = if 126 < (rowA (insA (openP v I k).2.1 (name, value))).length then (([] : List (List UInt8)), (6 : Int)) else
      if extraOf (openP v I k).1 ≠ 0 then (v.set (extraOf (openP v I k).1).toNat (blockL (rowA (insA (openP v I k).2.1 (name, value)))), 0) else
      match takeI v I with
      | none => ([], 10)
      | some i => ((putAt (takenV v i) k ((openP v I k).1.set 11 i)).set i (blockL (rowA (insA (openP v I k).2.1 (name, value)))), 0)) := by
    show setP v I k name value = _
    unfold setP
    rw [if_neg (by simpa using he), if_neg (by rw [hm]; simp)]
    rfl
  rw [he] at HO
  rw [hm] at HM
  have hk1 := hok.1
  have hk2 := hok.2.1
  have HX := Lib.hid hok.2.2.1
  have HEX := Lib.hid hok.2.2.2.2
  clear he hm hok
  generalize openP v I k = op at *
  go_enter Tryz.func7, Tryz.ntmps7
  go_wp2_with fail
  refine (HO.out _ hv).mono ?_
  rintro e w1 ⟨u, rfl, x1, own1⟩
  obtain ⟨A2, cap2, rfl, at2⟩ := own1.form
  have HF := Lib.hid (fun w h => of_any A2 op.2.1.length cap2 op.2.1 name w h (by omega))
  have OWN1 := Lib.hid own1
  clear own1
  go_upto_if 37 with (first
    | (refine wp_st_ino (.tmp 10) (.tmp 21) rfl rfl w1.heap.size _ zero12 42 rfl rfl (Box.new _ _ _) hlx rfl ?_; intro w2 b2 g2; have x2 : Ext w w2 := (x1.alloc _).grown g2 (fun k e => by cases e; exact x1.size); have hx12 : Ext w1 w2 := ((Ext.refl w1).alloc _).grown g2 (fun k e => by cases e; exact Nat.le_refl _))
    | (go_at_call 17; refine (HM.out _).mono ?_; rintro e w3 ⟨rfl, x3⟩)
    | (go_at_call 18; refine (HF.out _ (at2.ext (hx12.trans x3))).mono ?_; rintro e w4 ⟨rfl, x4⟩))
  have own4 : OwnA w4 w.heap.size (.slice A2 op.2.1.length cap2) op.2.1 := OwnA.ext OWN1.out ((hx12.trans x3).trans x4)
  have b4 := (b2.ext x3).ext x4
  have xw4 : Ext w w4 := (x2.trans x3).trans x4
  have at4 := at2.ext ((hx12.trans x3).trans x4)
  have HIC := Lib.hid (idxA_cases op.2.1 name)
  have O4 := Lib.hid own4
  have AT4 := Lib.hid at4
  clear own4 at4 OWN1 at2 HF HM HO g2 x2 x3 x4 hx12 b2
  obtain ⟨i0, hi, hz0, hz1, hz2⟩ := info_parts attInfo
  generalize idxA op.2.1 name = ix at *
  go_cut [11] (fun s wx => ∃ (g cap : Nat) (l1 : List Att), s = .slice (some ⟨g, 0, none⟩) l1.length cap ∧ OwnA wx w.heap.size (.slice (some ⟨g, 0, none⟩) l1.length cap) l1 ∧ l1.Perm (insA op.2.1 (name, value)) ∧ Ext w wx ∧ Box wx w1.heap.size 42 (intVals op.1))
  case first =>
    rcases HIC.out with ⟨rfl, hnone⟩ | ⟨i, hil, rfl, hname⟩
    · have HN := Lib.hid hnone
      clear hnone HIC
      go_wp2_with (at_builtin; refine wpList_append_own _ rfl _ _ 43 rfl w.heap.size 49 i0 _ 2 32 Tryz.underlying43 hi hz0 hz1 hz2 rfl (by decide) _ _ _ rfl (own_ext O4.out ((Ext.refl w4).alloc _)) ⟨w4.heap.size, 0, none⟩ 1 1 [.string (str name), .string (str value)] rfl rfl (new_cells _ _ _ _ rfl) (all_one rfl) (by unfold maxLen; omega) (by omega) (by have := xw4.size; simp; omega) ?_; intro v' w5 own5 hg5 _; obtain ⟨g5, cap5, rfl, hgb⟩ := own_form own5 (by omega))
      go_meet
      refine ⟨g5, cap5, op.2.1 ++ [(name, value)], by simp, ?_, ins_perm HN.out, (xw4.alloc _).grown hg5 (fun k e => own_low O4.out e), (b4.ext ((Ext.refl _).alloc _)).grown hg5 (own_ne O4.out b4 (by decide))⟩
      unfold OwnA
      rw [attL_append, List.length_append]
      exact own5
    · obtain ⟨g, rfl, hgb, _⟩ := O4.out.blk (by omega)
      obtain ⟨⟨q1, q2⟩, own5⟩ := O4.out.setVal hil value
      have HI := Lib.hid (ins_set (value := value) hri hil hname)
      have HNM := Lib.hid hname
      rw [hname] at own5
      have O5 := Lib.hid own5
      have hne := own_ne O4.out b4 (by decide)
      have hne' : w1.heap.size ≠ g := fun e => hne (by rw [e]; rfl)
      clear HIC own5 hname hne
      generalize op.2.1[i] = at1 at q1
      go_wp2_with fail
      go_meet
      refine ⟨g, cap2, op.2.1.set i (name, value), by simp, ?_, by rw [HI.out], xw4.setCell (p := ⟨g, i * 2 + 1, none⟩) hgb _, b4.far (p := ⟨g, i * 2 + 1, none⟩) hne' _⟩
      rw [List.length_set]
      exact O5.out
  case rest =>
    obtain ⟨g, cap, l1, rfl, own1, hperm, xc, bc⟩ := hcut
    have hl1 : l1.length ≤ 1000 := by have := hperm.length_eq; have := ins_len op.2.1 (name, value); omega
    have HS := Lib.hid (sort_any w.heap.size g cap l1 wc own1 (by omega))
    have HPM := Lib.hid hperm
    have O1 := Lib.hid own1
    have hgb : w.heap.size ≤ g := own_low own1 rfl
    have hne := own_ne own1 bc (by decide)
    clear own1 hperm HIC O4 AT4 b4 xw4
    go_wp2_with fail
    refine HS.out.mono ?_
    rintro e w5 ⟨rfl, l', hp', hs', own5, hg5⟩
    have hl' : l' = insA op.2.1 (name, value) := sorted_ins hri HPM.out hp' hs'
    subst hl'
    clear hp' hs'
    have hll := HPM.out.length_eq
    have b5 := bc.grown hg5 hne
    have x5 : Ext w w5 := xc.grown hg5 (fun k e => by cases e; exact hgb)
    have at5 : Atts w5 (some ⟨g, 0, none⟩) l1.length (insA op.2.1 (name, value)) := by
      obtain ⟨A', cap', e, h⟩ := own5.form
      injection e with e1 e2 e3
      rw [e1, hll]; exact h
    have hshI := short_ins (x := (name, value)) hsh (by simp only; omega) (by simp only; omega)
    have hsumI := sum_short _ hshI
    have HR := Lib.hid (fun w h => xrow_any (some ⟨g, 0, none⟩) l1.length cap (insA op.2.1 (name, value)) w h (by omega) (by omega))
    clear HS O1 own5 hg5 bc xc hne
    have hlen : Hid (sumL (flatA (insA op.2.1 (name, value))) ≤ 1000000) := by show _ ≤ _; omega
    have hrl : (rowA (insA op.2.1 (name, value))).length ≤ 3000000 := by
      have := rowL_len (flatA (insA op.2.1 (name, value)))
      have := hlen
      unfold Hid at this
      unfold rowA; omega
    clear hlen hsumI hshI
    generalize hL : insA op.2.1 (name, value) = L at *
    clear hL
    generalize hrr : rowA L = r at *
    clear hrr hll
    by_cases c1 : 126 < r.length
    · have HV := Lib.hid (show setP v I k name value = ([], 6) from HSP.out.trans (if_pos c1))
      clear HSP
      go_wp2_with (go_at_call 22; refine (HR.out _ at5).mono ?_; rintro e w6 ⟨rfl, x6⟩)
      go_ret2
      rw [HV.out]
      exact ⟨_, rfl, x5.trans x6, World.ownsRow_nil _ _ _ _⟩
    have HSP2 := Lib.hid (HSP.out.trans (if_neg c1))
    have hrs : r.length ≤ 126 := by omega
    clear HSP
    by_cases c2 : extraOf op.1 ≠ 0
    · have HV := Lib.hid (show setP v I k name value = (v.set (extraOf op.1).toNat (blockL r), 0) from HSP2.out.trans (if_pos c2))
      have hxx := HX.out
      have hex2 := HEX.out
      rw [← hxx] at hex2
      obtain ⟨_, hd, hu, _⟩ := hex2.resolve_left (fun h => c2 h.1)
      have hext : 0 ≤ extraOf op.1 ∧ extraOf op.1 < v.length := by
        unfold usedB at hu
        simp only [Bool.and_eq_true, decide_eq_true_eq] at hu
        exact hu.1
      have he5 := b5.at 11 (by omega)
      unfold extraOf at *
      obtain ⟨q, hq⟩ := Int.eq_ofNat_of_zero_le hext.1
      rw [hq] at he5 HV c2 hext
      have d2 : ((q : Int) != 0) = true := by simpa using c2
      have HCH := Lib.hid (fun w h => changed_any A n c q v r w h (by omega) (by have := hv.1; omega) hrs)
      clear HSP2 HX HEX hxx hex2 hd hu c2 hq
      go_wp2_with (first
        | (go_at_call 22; refine (HR.out _ at5).mono ?_; rintro e w6 ⟨rfl, x6⟩; have he6 := x6.keep he5)
        | (go_at_call 23; refine (HCH.out _ (hv.ext (x5.trans x6))).mono ?_; rintro e w7 ⟨u7, rfl, x7, own7⟩))
      go_ret2
      rw [HV.out]
      refine ⟨u7, rfl, (x5.trans x6).trans x7, ?_⟩
      have := own_base own7 (x5.trans x6).size
      rw [show (v.set ((q : Int)).toNat (blockL r), (0 : Int)).1.length = n by simp; exact hv.1.symm]
      exact this
    · have c2' : extraOf op.1 = 0 := Decidable.of_not_not c2
      have HSP3 := Lib.hid (HSP2.out.trans (if_neg c2))
      have he5 := b5.at 11 (by omega)
      have hf5 := b5.frozen 11
      unfold extraOf at c2'
      rw [c2'] at he5
      have hxx := HX.out
      have hfit : fitsB op.1 = true := by rw [hxx]; exact fits_ino _ _
      clear HSP2 HEX c2 c2' HX hxx
      cases ht : takeI v I with
      | none =>
        have HV := Lib.hid (show setP v I k name value = ([], 10) by rw [HSP3.out, ht])
        have HT := Lib.hid (fun w h => take_full A n c v I w h hg (takeI_none ht))
        clear HSP3 ht hfit
        go_wp2_with (first
          | (go_at_call 22; refine (HR.out _ at5).mono ?_; rintro e w6 ⟨rfl, x6⟩; have he6 := x6.keep he5)
          | (go_at_call 24; refine (HT.out _ (hv.ext (x5.trans x6))).mono ?_; rintro e w7 ⟨rfl, x7⟩))
        go_ret2
        rw [HV.out]
        exact ⟨_, rfl, (x5.trans x6).trans x7, World.ownsRow_nil _ _ _ _⟩
      | some i =>
        have HV := Lib.hid (show setP v I k name value = ((putAt (takenV v i) k (op.1.set 11 i)).set i (blockL r), 0) by rw [HSP3.out, ht])
        obtain ⟨t1, t2, t3, t4⟩ := takeI_some ht
        have HT := Lib.hid (fun w h => take_yes A n c i v I w h hg t1 t2 t3 t4)
        have hg2 := hg.taken ht
        have hn : n = v.length := hv.1
        have hlx2 : (op.1.set 11 (i : Int)).length = 12 := by rw [List.length_set, hlx]
        have hfit2 := fits_set hfit hlx (i := (i : Int)) (by omega) (by omega)
        have HP := Lib.hid (fun A c w h => iput_yes A v.length c (takenV v i) I k (op.1.set 11 (i : Int)) w h hg2 hk1 hk2 hlx2 (i64_of_fits hfit2 hlx2) hfit2)
        have hg3 := hg2.putAt hk1 hk2 (op.1.set 11 (i : Int))
        have hvl : (putAt (takenV v i) k (op.1.set 11 (i : Int))).length = v.length := by rw [putAt_len, takenV_len]
        have HCH := Lib.hid (fun A c w h => changed_any A v.length c i (putAt (takenV v i) k (op.1.set 11 (i : Int))) r w h (by omega) (by omega) hrs)
        have hn0 : 0 < n := by omega
        have HVL := Lib.hid hvl
        have HNV := Lib.hid hn
        clear HSP3 ht hfit hfit2 t3 t4 hvl hn
        go_wp2_with (first
          | (go_at_call 22; refine (HR.out _ at5).mono ?_; rintro e w6 ⟨rfl, x6⟩; have he6 := x6.keep he5)
          | (go_at_call 24; refine (HT.out _ (hv.ext (x5.trans x6))).mono ?_; rintro e w7 ⟨u7, rfl, x7, own7⟩; have b7 := (b5.ext x6).ext x7; have he7 := x7.keep he6; have hf7 := b7.frozen 11; obtain ⟨A7, cap7, rfl, st7⟩ := own_strs (ss := takenV v i) own7; have b8 := b7.set 11 (.int .i64 (i : Int)); rw [intVals_set] at b8; have xs8 := ((x5.trans x6).trans x7).setCell (p := ⟨w1.heap.size, 11, none⟩) x1.size (.int .i64 (i : Int)); have st8 := st7.setFar (p := ⟨w1.heap.size, 11, none⟩) (own_far own7 b7 (by decide)) (.int .i64 (i : Int)))
          | (refine wp_ld_ino (.tmp 10) rfl rfl w1.heap.size _ 42 rfl b8 hlx2 ?_)
          | (go_at_call 25; refine (HP.out _ _ _ st8).mono ?_; rintro e w9 ⟨u9, rfl, x9, own9⟩; obtain ⟨A9, cap9, rfl, st9⟩ := own_strs own9)
          | (go_at_call 23; refine (HCH.out _ _ _ st9).mono ?_; rintro e w10 ⟨u10, rfl, x10, own10⟩))
        go_ret2
        rw [HV.out]
        have xF := xs8.trans x9
        refine ⟨u10, rfl, xF.trans x10, ?_⟩
        have := own_base own10 xF.size
        rw [show (((putAt (takenV v i) k (op.1.set 11 (i : Int))).set i (blockL r), (0 : Int))).1.length = v.length by simp only [List.length_set]; exact HVL.out]
        exact this
/-- xattr.Set on a volume that is one -/
theorem set_any (A : Option Addr) (n c : Nat) (v : List (List UInt8)) (I k : Int) (name value : List UInt8) (w : World) (hv : Strs w A n v) (hg : Good v I) (hn : name.length ≤ 1000000) (hl : value.length ≤ 1000000) :
    Calls Tryz.prog 7 #[.slice A n c, .int .i64 k, .string (str name), .string (str value)] w fun e w' => ∃ u, e = .returned (.tuple #[u, .int .i64 (setP v I k name value).2]) ∧ Ext w w' ∧ w'.ownsRow w.heap.size 9 1 u (setP v I k name value).1.length (strL (setP v I k name value).1) := by
  by_cases he : (openP v I k).2.2 = 0
  · cases hm : mayB name with
    | false =>
      have e : setP v I k name value = ([], 7) := by unfold setP; rw [if_neg (by simpa using he), if_pos hm]
      rw [e]
      exact (set_may A n c v I k name value w hv hg he hm (by omega)).mono fun _ _ ⟨he, hx⟩ => ⟨_, he, hx, World.ownsRow_nil _ _ _ _⟩
    | true =>
      by_cases h2 : value.length ≤ 126
      · exact set_main A n c v I k name value w hv hg he hm h2
      · have hr := val_le_row _ _ (ins_mem (openP v I k).2.1 (name, value))
        have e : setP v I k name value = ([], 6) := by unfold setP; rw [if_neg (by simpa using he), if_neg (by rw [hm]; simp), if_pos (by simp only at hr; omega)]
        rw [e]
        exact (set_long A n c v I k name value w hv hg he hm (by omega) (by omega) (by omega)).mono fun _ _ ⟨he, hx⟩ => ⟨_, he, hx, World.ownsRow_nil _ _ _ _⟩
  · have e : setP v I k name value = ([], (openP v I k).2.2) := by unfold setP; rw [if_pos he]
    rw [e]
    exact (set_err A n c v I k name value w hv hg he).mono fun _ _ ⟨he, hx⟩ => ⟨_, he, hx, World.ownsRow_nil _ _ _ _⟩
end Go.Proofs.YtmcoepkopfcbdaaGreat
/- The walk of xattr.Drop on a volume that is one: all ways but that which leaves others. -/
namespace Go.Proofs.YtmcoepkopfcbdaaGreat
set_option linter.unusedVariables false
open Go.RowKit

set_option maxHeartbeats 1000000 in
set_option maxRecDepth 100000 in
theorem drop_err (A : Option Addr) (n c : Nat) (v : List (List UInt8)) (I k : Int) (name : List UInt8) (w : World) (hv : Strs w A n v) (hg : Good v I) (he : (openP v I k).2.2 ≠ 0) :
    Calls Tryz.prog 9 #[.slice A n c, .int .i64 k, .string (str name)] w fun e w' => e = .returned (.tuple #[.slice none 0 0, .int .i64 (openP v I k).2.2]) ∧ Ext w w' := by
  have HO := Lib.hid (fun w h => opened_any A n c v I k w h hg)
  have hl := openP_len v I k
  generalize openP v I k = op at *
  have d1 : (op.2.2 != 0) = true := by simpa using he
  clear he
  go_enter Tryz.func9, Tryz.ntmps9
  go_wp2_with fail
  refine (HO.out _ hv).mono ?_
  rintro e w1 ⟨u, rfl, x1, own1⟩
  go_wp2_with (refine wp_st_ino (.tmp 8) (.tmp 17) rfl rfl w1.heap.size _ zero12 42 rfl rfl (Box.new _ _ _) hl rfl ?_; intro w2 b2 g2)
  go_ret2
  exact ⟨rfl, (x1.alloc _).grown g2 (fun k e => by cases e; exact x1.size)⟩
set_option maxHeartbeats 1000000 in
set_option maxRecDepth 100000 in
theorem drop_none (A : Option Addr) (n c : Nat) (v : List (List UInt8)) (I k : Int) (name : List UInt8) (w : World) (hv : Strs w A n v) (hg : Good v I) (he : (openP v I k).2.2 = 0) (hi : idxA (openP v I k).2.1 name < 0) :
    Calls Tryz.prog 9 #[.slice A n c, .int .i64 k, .string (str name)] w fun e w' => e = .returned (.tuple #[.slice none 0 0, .int .i64 9]) ∧ Ext w w' := by
  have HO := Lib.hid (fun w h => opened_any A n c v I k w h hg)
  have hl := openP_len v I k
  have hsm := openP_small v I k
  rw [he] at HO
  generalize openP v I k = op at *
  clear he
  go_enter Tryz.func9, Tryz.ntmps9
  go_wp2_with fail
  refine (HO.out _ hv).mono ?_
  rintro e w1 ⟨u, rfl, x1, own1⟩
  obtain ⟨A2, cap2, rfl, at2⟩ := own1.form
  have HF := Lib.hid (fun w h => of_any A2 op.2.1.length cap2 op.2.1 name w h (by omega))
  have hlo := Lib.hid own1
  clear own1
  generalize idxA op.2.1 name = ix at *
  go_wp2_with (first
    | (refine wp_st_ino (.tmp 8) (.tmp 17) rfl rfl w1.heap.size _ zero12 42 rfl rfl (Box.new _ _ _) hl rfl ?_; intro w2 b2 g2; have x2 : Ext w1 w2 := ((Ext.refl w1).alloc _).grown g2 (fun k e => by cases e; exact Nat.le_refl _))
    | (go_at_call 18; refine (HF.out _ (at2.ext x2)).mono ?_; rintro e w3 ⟨rfl, x3⟩))
  go_ret2
  exact ⟨rfl, x1.trans (x2.trans x3)⟩
theorem Good.given {v : List (List UInt8)} {I : Int} (h : Good v I) {i : Nat} (h1 : dataOf I ≤ (i : Int)) (h2 : i < v.length) : Good (givenV v i) I := h.flip h1 h2
theorem givenV_len (v : List (List UInt8)) (i : Nat) : (givenV v i).length = v.length := by simp [givenV]
set_option maxHeartbeats 2000000 in
set_option maxRecDepth 100000 in
theorem drop_one (A : Option Addr) (n c : Nat) (v : List (List UInt8)) (I k : Int) (name : List UInt8) (w : World) (hv : Strs w A n v) (hg : Good v I) (he : (openP v I k).2.2 = 0) (hi : 0 ≤ idxA (openP v I k).2.1 name) (h1 : (openP v I k).2.1.length ≤ 1) :
    Calls Tryz.prog 9 #[.slice A n c, .int .i64 k, .string (str name)] w fun e w' => ∃ u, e = .returned (.tuple #[u, .int .i64 0]) ∧ Ext w w' ∧
      w'.ownsRow w.heap.size 9 1 u v.length (strL (putAt (givenV v (extraOf (openP v I k).1).toNat) k ((openP v I k).1.set 11 0))) := by
  have HO := Lib.hid (fun w h => opened_any A n c v I k w h hg)
  have hlx := openP_len v I k
  have hpl := plan_bd hg.plan
  have hok := open_ok he
  have hib := idxA_bd (openP v I k).2.1 name
  have hne : extraOf (inoAt v k) ≠ 0 := fun h0 => by
    rcases hok.2.2.2.2 with ⟨_, hl⟩ | h
    · rw [hl] at hib hi; simp at hib; omega
    · exact h.1 h0
  obtain ⟨_, hd, hu, hrest⟩ := hok.2.2.2.2.resolve_left (fun h => hne h.1)
  clear hrest
  have hk1 := hok.1
  have hk2 := hok.2.1
  have hxx := hok.2.2.1
  rw [← hxx] at hd hu hne
  have hfit : fitsB (openP v I k).1 = true := by rw [hxx]; exact fits_ino _ _
  clear hxx hok
  rw [he] at HO
  clear he
  generalize openP v I k = op at *
  have hext : 0 ≤ extraOf op.1 ∧ extraOf op.1 < v.length ∧ bitB (v.getD 2 []) (extraOf op.1).toNat = true := by
    unfold usedB at hu
    simp only [Bool.and_eq_true, decide_eq_true_eq] at hu
    exact ⟨hu.1.1, hu.1.2, hu.2⟩
  obtain ⟨q, hq⟩ := Int.eq_ofNat_of_zero_le hext.1
  have hq11 : op.1.getD 11 0 = (q : Int) := hq
  rw [hq] at hext hd hne ⊢
  rw [show ((q : Int)).toNat = q from rfl] at hext ⊢
  have HG := Lib.hid (fun w h => give_yes A n c q v I w h hg (by unfold dataOf at hd; exact hd) (by omega) hext.2.2)
  have hg2 := hg.given hd (show q < v.length by omega)
  have hlx2 : (op.1.set 11 (0 : Int)).length = 12 := by rw [List.length_set, hlx]
  have hfit2 := fits_set hfit hlx (i := (0 : Int)) (by omega) (by omega)
  have HP := Lib.hid (fun A c w h => iput_yes A v.length c (givenV v q) I k (op.1.set 11 (0 : Int)) w h hg2 hk1 hk2 hlx2 (i64_of_fits hfit2 hlx2) hfit2)
  have hsm : op.2.1.length ≤ 126 := by omega
  have d1 : ¬ (1 : Int) < (op.2.1.length : Int) := by omega
  clear hu hfit hfit2 hext hne hq
  go_enter Tryz.func9, Tryz.ntmps9
  go_wp2_with fail
  refine (HO.out _ hv).mono ?_
  rintro e w1 ⟨u, rfl, x1, own1⟩
  obtain ⟨A2, cap2, rfl, at2⟩ := own1.form
  have HF := Lib.hid (fun w h => of_any A2 op.2.1.length cap2 op.2.1 name w h (by omega))
  have hlo := Lib.hid own1
  clear own1
  generalize idxA op.2.1 name = ix at *
  go_wp2_with (first
    | (refine wp_st_ino (.tmp 8) (.tmp 17) rfl rfl w1.heap.size _ zero12 42 rfl rfl (Box.new _ _ _) hlx rfl ?_; intro w2 b2 g2; have x2 : Ext w1 w2 := ((Ext.refl w1).alloc _).grown g2 (fun k e => by cases e; exact Nat.le_refl _); have xw2 := x1.trans x2)
    | (go_at_call 18; refine (HF.out _ (at2.ext x2)).mono ?_; rintro e w3 ⟨rfl, x3⟩; have b3 := b2.ext x3; have c3 := (b3.at 11 (by omega)).trans (congrArg (fun z => some (Value.int .i64 z)) hq11); have f3 := b3.frozen 11)
    | (go_at_call 36; refine (HG.out _ (hv.ext (xw2.trans x3))).mono ?_; rintro e w7 ⟨u7, rfl, x7, own7⟩; have b7 := b3.ext x7; have he7 := x7.keep c3; have hf7 := b7.frozen 11; obtain ⟨A7, cap7, rfl, st7⟩ := own_strs (ss := givenV v q) own7; have b8 := b7.set 11 (.int .i64 0); rw [intVals_set] at b8; have xs8 := ((xw2.trans x3).trans x7).setCell (p := ⟨w1.heap.size, 11, none⟩) x1.size (.int .i64 0); have st8 := st7.setFar (p := ⟨w1.heap.size, 11, none⟩) (own_far own7 b7 (by decide)) (.int .i64 0))
    | (refine wp_ld_ino (.tmp 8) rfl rfl w1.heap.size _ 42 rfl b8 hlx2 ?_)
    | (go_at_call 25; refine (HP.out _ _ _ st8).mono ?_; rintro e w9 ⟨u9, rfl, x9, own9⟩))
  go_ret2
  exact ⟨u9, rfl, xs8.trans x9, own_base own9 xs8.size⟩
end Go.Proofs.YtmcoepkopfcbdaaGreat
