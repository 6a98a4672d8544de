/- image.readSpace: the pages of a process's row. -/
import Derived.Test.YtfaplefkakpgcaaGreatDoorWc24
import Derived.Test.YtfaplefkakpgcaaGreatDoorWc14
import Derived.Test.YtfaplefkakpgcaaGreatDoorWc20
import Derived.BigQuiet
import Derived.Test.YtfaplefkakpgcaaGreatDoorWc7
import Derived.Test.YtfaplefkakpgcaaGreatDoorWc17
namespace Go.Proofs.YtfaplefkakpgcaaGreatDoor
set_option linter.unusedVariables false
set_option linter.unusedSimpArgs false
open Go.RowKit
def spQ (s : List UInt8) (k : Nat) : PrT := { (default : PrT) with
 pis := fun i => if i < k then !(byteAt s (2 * i) == 0) else false
 pwr := fun i => if i < k then byteAt s (2 * i) == 2 else false
 pfr := fun i => if i < k then (if byteAt s (2 * i) = 0 then 0 else byteAt s (2 * i + 1)) else 0 }
def spC (s : List UInt8) (k : Nat) : Array Value := (spaceL (spQ s k)).toArray
def spZ : Array Value := (spaceL default).toArray
theorem upto16 {k : Nat} (h : k < 16) : k = 0 ∨ k = 1 ∨ k = 2 ∨ k = 3 ∨ k = 4 ∨ k = 5 ∨ k = 6 ∨ k = 7 ∨ k = 8 ∨ k = 9 ∨ k = 10 ∨ k = 11 ∨ k = 12 ∨ k = 13 ∨ k = 14 ∨ k = 15 := by omega
theorem spC_size (s : List UInt8) (k : Nat) : (spC s k).size = 48 := rfl
set_option maxRecDepth 100000 in
theorem spC_put (s : List UInt8) {k : Nat} (h : k < 16) : (((spC s k).setIfInBounds (k * 3) (.bool (!(byteAt s (2 * k) == 0)))).setIfInBounds (k * 3 + 1) (.bool (byteAt s (2 * k) == 2))).setIfInBounds (k * 3 + 2) (.int .i64 (if byteAt s (2 * k) = 0 then 0 else byteAt s (2 * k + 1))) = spC s (k + 1) := by
 rcases upto16 h with rfl | rfl | rfl | rfl | rfl | rfl | rfl | rfl | rfl | rfl | rfl | rfl | rfl | rfl | rfl | rfl <;> kernel_rfl
theorem spC_skip (s : List UInt8) {k : Nat} (h : k < 16) (h0 : byteAt s (2 * k) = 0) : spC s k = spC s (k + 1) := by
 have e : ∀ i < 16, pteL (spQ s k) i = pteL (spQ s (k + 1)) i := by
  intro i _
  unfold pteL spQ
  by_cases hk : i < k
  ·simp [hk, show i < k + 1 by omega]
  ·by_cases hi : i = k
   ·subst hi; simp [h0]
   ·simp [hk, show ¬ i < k + 1 by omega]
 unfold spC spaceL
 rw [List.flatMap_def, List.flatMap_def, map_congr16 16 e]
section
variable {ops : Array Oper} {rest : List Oper} {o : Oper} {a : Act} {w : World} {Q : Exit → Act → World → Prop}
theorem wp_st_three (T : TypeId) (x y : Operand) (hgd : o.guard = none) (ho : o.op = .store T x y) (g off : Nat) (cs ds : Array Value) (v0 v1 v2 : Value) (t : TypeId) (hx : a.eval x = .pointer (some ⟨g, off, none⟩)) (hy : a.eval y = .agg #[v0, v1, v2])
  (hi : (Tryz.prog.info? T).map (·.size) = some 3) (o0 : v0.oneCell' = true) (o1 : v1.oneCell' = true) (o2 : v2.oneCell' = true) (hb : Box w g t cs) (hof : off + 3 ≤ cs.size) (hds : ((cs.setIfInBounds off v0).setIfInBounds (off + 1) v1).setIfInBounds (off + 2) v2 = ds)
  (hK : ∀ w', Box w' g t ds → w.grownBy w' (some g) → wpList Tryz.prog ops Q rest (a.put o.dst undef) w') : wpList Tryz.prog ops Q (o :: rest) a w := by
 refine wpList_store_mid hgd _ x y ho g off #[v0, v1, v2] hx hy (fun j hj => ?_) hi (all_oneCell_toArray (cs := [v0, v1, v2]) (fun v hv => by simp only [List.mem_cons, List.not_mem_nil, or_false] at hv; rcases hv with rfl | rfl | rfl <;> assumption)) (hK _ ?_ (grown_cells _ off w))
 ·refine ⟨?_, hb.frozen (off + j)⟩
  rw [hb.cell (off + j)]
  have hj3 : j < 3 := hj
  rw [Array.getElem?_eq_getElem (by omega)]; rfl
 ·rw [← hds]
  exact ((hb.set off v0).set (off + 1) v1).set (off + 2) v2
end
theorem i64_byte {n : Int} (h0 : 0 ≤ n) (h1 : n < 256) : IntKind.i64.wrap n = n := by
 have : n % 2 ^ 64 = n := Int.emod_eq_of_lt h0 (by omega)
 unfold IntKind.wrap
 simp only [IntKind.bits, IntKind.signed, this]
 rw [if_neg]
 simp; omega
theorem idx_byte (l : List UInt8) (k : Nat) (h : k < l.length) (w : World) : (Instr.index 9 (.string (str l)) (.int .i64 (k : Int))).run Tryz.prog w = .ok (.int .u8 (byteAt l k)) w := by
 rw [run_index_string w 9 (str l) .i64 (k : Int) Tryz.underlying9, dif_pos ⟨by omega, by rw [str_size]; omega⟩]
 unfold byteAt
 rw [List.getD_eq_getElem?_getD, List.getElem?_eq_getElem h]
 rfl
theorem byteAt_is (s : List UInt8) (i : Nat) : 0 ≤ byteAt s i ∧ byteAt s i < 256 := by
 unfold byteAt
 have := (s.getD i 0).toNat_lt
 omega
theorem spaceB_of {s : List UInt8} (h : ∀ i < 16, pteB (byteAt s (2 * i)) (byteAt s (2 * i + 1)) = true) : spaceB s = true := by
 unfold spaceB
 rw [List.all_eq_true]
 exact fun i hi => h i (List.mem_range.1 hi)
theorem spaceB_not {s : List UInt8} {i : Nat} (hi : i < 16) (h : pteB (byteAt s (2 * i)) (byteAt s (2 * i + 1)) = false) : spaceB s = false := by
 cases hq : spaceB s
 ·rfl
 ·unfold spaceB at hq
  rw [List.all_eq_true] at hq
  rw [hq i (List.mem_range.2 hi)] at h
  cases h
def SpaceR (s : List UInt8) (w : World) (e : Ending) (w' : World) : Prop := ((spaceB s = true ∧ e = .returned (.agg (spC s 16))) ∨ (spaceB s = false ∧ e = Bent)) ∧ Ext w w'
theorem spaceSz : (Tryz.prog.info? 52).map (·.size) = some (spC [] 16).size := spaceSize
theorem spC_one {s : List UInt8} {k : Nat} : (spC s k).all (·.oneCell') = true := all_oneCell_toArray (fun v hv => by
 simp only [spaceL, pteL, List.mem_flatMap, List.mem_cons, List.not_mem_nil, or_false] at hv
 obtain ⟨i, _, h | h | h⟩ := hv <;> (subst h; rfl))
set_option maxHeartbeats 4000000 in
set_option maxRecDepth 100000 in
theorem readSpace_any (s : List UInt8) (w : World) (hs : s.length = 32) :
  Calls Tryz.prog 192 #[.string (str s)] w (SpaceR s w) := by
 go_enter Tryz.func192, Tryz.ntmps192
 go_upto_region 2 with fail
 have b0 := Box.new w 52 spZ
 have x0 : Ext w (w.alloc (.cells spZ 52)) := (Ext.refl w).alloc _
 have z0 : (w.alloc (.cells spZ 52)).heap.size = w.heap.size + 1 := World.size_alloc _ _
 change Code.wp _ _ _ _ ((w.alloc (.cells spZ 52)).alloc (.cells spZ 52))
 generalize w.alloc (.cells spZ 52) = wa at b0 x0 z0 ⊢
 have b1 := Box.new wa 52 spZ
 have x1 : Ext w (wa.alloc (.cells spZ 52)) := x0.alloc _
 have b2 := b0.ext ((Ext.refl wa).alloc (.cells spZ 52))
 rw [z0] at b1
 generalize wa.alloc (.cells spZ 52) = W0 at b1 x1 b2 ⊢
 clear b0 x0 z0
 clear wa
 go_wp2_with fail
 go_loopw [4, 5, 6, 7, 22, 29] (fun _ _ _ i _ _ wx => ∃ k : Nat, k ≤ 16 ∧ i = .int .i64 k ∧ Box wx (w.heap.size + 1) 52 (spC s k) ∧ Box wx w.heap.size 52 spZ ∧ Ext w wx ∧ Hid (∀ j < k, pteB (byteAt s (2 * j)) (byteAt s (2 * j + 1)) = true)) (fun _ _ _ i _ _ _ => 16 - (intOf i).toNat)
 case atStart => exact ⟨0, by omega, rfl, b1, b2, x1, Lib.hid (fun j h => by omega)⟩
 case round =>
  clear b1 b2 x1
  obtain ⟨k, hk, rfl, bs, br, xk, hok⟩ := hrel
  by_cases hlt : k < 16
  ·have hki : (k : Int) < 16 := by omega
   have i1 : ∀ w, (Instr.index 9 (.string (str s)) (.int .i64 (2 * (k : Int)))).run Tryz.prog w = .ok (.int .u8 (byteAt s (2 * k))) w := fun w => idx_byte s (2 * k) (by omega) w
   have i2 : ∀ w, (Instr.index 9 (.string (str s)) (.int .i64 (2 * (k : Int) + 1))).run Tryz.prog w = .ok (.int .u8 (byteAt s (2 * k + 1))) w := fun w => idx_byte s (2 * k + 1) (by omega) w
   have HP := Lib.hid (spC_put s hlt)
   have HS := Lib.hid (spC_skip s hlt)
   have q1 := byteAt_is s (2 * k)
   have q2 := byteAt_is s (2 * k + 1)
   have HN := Lib.hid (fun h => spaceB_not (s := s) hlt h)
   have HO := Lib.hid (show pteB (byteAt s (2 * k)) (byteAt s (2 * k + 1)) = true → ∀ j < k + 1, pteB (byteAt s (2 * j)) (byteAt s (2 * j + 1)) = true from fun h j hj => by
    by_cases hjk : j = k
    ·subst hjk; exact h
    ·exact hok.out j (by omega))
   generalize byteAt s (2 * k) = c at *
   generalize byteAt s (2 * k + 1) = f at *
   have hw1 := i64_byte q2.1 q2.2
   clear hs
   go_wp2_with fail
   go_quiet (fail)
   have xq := xk.drewN nq
   have bs2 := bs.ext ((Ext.refl wr).drewN nq)
   have br2 := br.ext ((Ext.refl wr).drewN nq)
   clear bs br xk i1 i2
   generalize wr.drewN nq = w2 at *
   by_cases h0 : c = 0 ∧ f = 0
   ·obtain ⟨rfl, rfl⟩ := h0
    clear q1 q2 hw1
    go_wp2_with fail
    go_roundw
    case rel => exact ⟨k + 1, by omega, by go_num, by rw [← HS.out rfl]; exact bs2, br2, xq, Lib.hid (HO.out rfl)⟩
    case measure => simp [intOf]; omega
   ·by_cases h1 : c = 1
    ·subst h1
     go_wp2_with (refine wp_st_three _ (.tmp 41) (.tmp 40) rfl rfl (w.heap.size + 1) (k * 3) _ _ _ _ _ _ rfl rfl pteSize rfl rfl rfl bs2 (by rw [spC_size]; omega) HP.out ?_; intro w3 b3 g3)
     go_roundw
     case rel => exact ⟨k + 1, by omega, by go_num, b3, br2.grown g3 (by simp), xq.grown g3 (fun j e => by cases e; omega), Lib.hid (HO.out rfl)⟩
     case measure => simp [intOf]; omega
    ·by_cases h2 : c = 2
     ·subst h2
      go_wp2_with (refine wp_st_three _ (.tmp 41) (.tmp 40) rfl rfl (w.heap.size + 1) (k * 3) _ _ _ _ _ _ rfl rfl pteSize rfl rfl rfl bs2 (by rw [spC_size]; omega) HP.out ?_; intro w3 b3 g3)
      go_roundw
      case rel => exact ⟨k + 1, by omega, by go_num, b3, br2.grown g3 (by simp), xq.grown g3 (fun j e => by cases e; omega), Lib.hid (HO.out rfl)⟩
      case measure => simp [intOf]; omega
     ·have k1 : (c == 1) = false := by simpa using h1
      have k2 : (c == 2) = false := by simpa using h2
      have hb : Hid (spaceB s = false) := Lib.hid (HN.out (by
       unfold pteB
       rw [k1, k2]
       cases e0 : (c == 0)
       ·rfl
       ·have e1 : c = 0 := by simpa using e0
        have e2 : (f == 0) = false := by simp; intro e3; exact h0 ⟨e1, e3⟩
        rw [e2]; rfl))
      cases e0 : (c == 0)
      ·go_wp2_with fail
       exact ⟨rfl, .inr ⟨hb.out, rfl⟩, xq⟩
      ·have e2 : (f == 0) = false := by
        have e1 : c = 0 := by simpa using e0
        simp; intro e3; exact h0 ⟨e1, e3⟩
       go_wp2_with fail
       exact ⟨rfl, .inr ⟨hb.out, rfl⟩, xq⟩
  ·obtain rfl : k = 16 := by omega
   have hb := Lib.hid (spaceB_of (s := s) hok.out)
   go_wp2_with (first
    | (refine wp_ld _ (.tmp 3) rfl rfl (w.heap.size + 1) _ _ _ rfl bs Tryz.underlying52 rfl spaceSz ?_)
    | (refine wp_st _ (.tmp 2) (.tmp 43) rfl rfl w.heap.size _ _ _ rfl rfl br spaceSz rfl spC_one ?_; intro w3 b3 g3))
   exact bodyPost_ret (results_cell1 rfl _ _ w.heap.size _ _ _ rfl b3 Tryz.underlying52 rfl spaceSz) rfl ⟨.inl ⟨hb.out, rfl⟩, xk.grown g3 (fun j e => by cases e; exact Nat.le_refl _)⟩
end Go.Proofs.YtfaplefkakpgcaaGreatDoor
/- image.readWrites: the writes of a row. -/
namespace Go.Proofs.YtfaplefkakpgcaaGreatDoor
set_option linter.unusedVariables false
set_option linter.unusedSimpArgs false
open Go.RowKit
theorem wp_app_w {ops : Array Oper} {rest : List Oper} {o : Oper} {a : Act} {w : World} {Q : Exit → Act → World → Prop} {B g n : Nat} {u : Value} {l : List WrT} (y : WrT) (hgd : o.guard = none) (sl x : Operand)
  (ho : o.op = .call { callee := .builtin .append, args := #[sl, x], argTypes := #[34, 34] }) (hs : a.eval sl = u) (hx : a.eval x = .slice (some ⟨g, 0, none⟩) 1 1)
  (h0 : w.ownsRow B 92 2 u n (l.flatMap wrL)) (hb : Box w g 92 (wrL y).toArray) (hn : n ≤ 1000000000) (hB : B ≤ w.heap.size)
  (hK : ∀ u' w', w'.ownsRow B 92 2 u' (n + 1) ((l ++ [y]).flatMap wrL) → w.grownBy w' u.ownBlock → wpList Tryz.prog ops Q rest (a.put o.dst u') w') : wpList Tryz.prog ops Q (o :: rest) a w := by
 refine wpList_plain hgd fun K hK' => ?_
 obtain ⟨i, hi, hz, h1, h2⟩ := info_parts wrInfo
 obtain ⟨v', w', hr, ho2, hg, _, _⟩ := run_append_own_at (P := Tryz.prog) w B 34 o.type 92 i _ 2 24 Tryz.underlying34 hi hz h1 h2 rfl (by decide) u n (l.flatMap wrL) h0 ⟨g, 0, none⟩ 1 1 (wrL y) rfl (fun j u hj => by
  have ha : (⟨g, 0, none⟩ : Addr).add j = ⟨g, j, none⟩ := by unfold Addr.add; split <;> simp_all
  rw [ha, hb.cell j]; simpa using hj) (wrL_one y) (by unfold maxLen; omega) (by omega) hB
 unfold Oper.wp execOp
 simp only [ho, resolve, invoke, builtin, Sem.run_bind, Sem.run_pure, Result.andThen_ok, List.map_toArray, List.map_cons, List.map_nil, hs, hx, hr]
 refine hK' _ _ (hK v' w' ?_ hg)
 rw [List.flatMap_append]
 simpa using ho2
theorem trow_grown {w w' : World} {A : Option Addr} {n m base z : Nat} {ss : List (List UInt8)} {u : Value} {xs : List Value} {t : TypeId} (h : TRow w A n ss) (hg : w.grownBy w' u.ownBlock) (o : w.ownsRow base t z u m xs) (ht : 9 ≠ t) : TRow w' A n ss := ⟨h.1, fun hn => by
 obtain ⟨g, i, cur, fz, e, h1, hc⟩ := h.2 hn
 have hlt : g < w.heap.size := (Array.getElem?_eq_some_iff.1 h1).1
 have hne : some g ≠ u.ownBlock := fun e2 => by
  rcases o.2 with ⟨rfl, _⟩ | ⟨g', cap, cur', rfl, _, hh, _⟩
  ·simp [Value.ownBlock] at e2
  ·have : g = g' := by simpa [Value.ownBlock] using e2
   subst this
   rw [h1] at hh
   injection hh with hh
   injection hh with _ hh
   exact ht hh
 refine ⟨g, i, cur, fz, e, (hg.block g hlt hne).trans h1, fun j hj => ?_⟩
 rw [← hc j hj]
 exact World.cell?_of_block (w := w) (hg.block g hlt hne)⟩
theorem CurIn.grown {w w' : World} {b m base z : Nat} {L : List (List UInt8)} {u : Value} {xs : List Value} {t : TypeId} (h : CurIn w b L) (hg : w.grownBy w' u.ownBlock) (o : w.ownsRow base t z u m xs) (h1 : 9 ≠ t) (h2 : t ≠ 253) : CurIn w' b L := by
 obtain ⟨A, n, c, k1, k2, k3⟩ := h
 exact ⟨A, n, c, k1.grown hg (own_ne o k1 h2), trow_grown k2 hg o h1, k3⟩
theorem CurIn.but {w w' : World} {b b' : Nat} {L L' : List (List UInt8)} (h : CurIn w b L) (hk : But b' w w') (h' : CurIn w b' L') (hne : b ≠ b') : CurIn w' b L := by
 obtain ⟨A, n, c, k1, k2, k3⟩ := h
 obtain ⟨_, _, _, j1, _, _⟩ := h'
 exact ⟨A, n, c, hk.box k1 hne, k2.but hk j1 (by decide), k3⟩
theorem CurIn.own {w w' : World} {b base z n : Nat} {u : Value} {xs : List Value} {t : TypeId} {L : List (List UInt8)} (h : CurIn w b L) (hk : But b w w') (o : w.ownsRow base t z u n xs) (ht : t ≠ 253) : w'.ownsRow base t z u n xs := by
 obtain ⟨_, _, _, j1, _, _⟩ := h
 exact own_but o hk j1 ht
theorem CurIn.lt {w : World} {b : Nat} {L : List (List UInt8)} (h : CurIn w b L) : b < w.heap.size := by
 obtain ⟨_, _, _, j1, _, _⟩ := h
 exact j1.lt
theorem openT_len {z : Nat} {s : List UInt8} {l : List (List UInt8)} (h : openT (some z) s = some l) : l.length = z := by
 unfold openT at h
 split at h
 ·rename_i h1
  injection h with h
  subst h
  exact h1.2 z rfl
 ·cases h
theorem openT_few {z : Option Nat} {s : List UInt8} {l : List (List UInt8)} (h : openT z s = some l) : ∀ t ∈ l, t.length ≤ s.length := by
 unfold openT at h
 split at h
 ·injection h with h
  subst h
  exact (textsP_len s).2
 ·cases h
theorem two_of {α : Type} {l : List α} (h : l.length = 2) : ∃ a b, l = [a, b] := by
 match l, h with
 | [a, b], _ => exact ⟨a, b, rfl⟩
def lenS : Value → Nat | .slice _ n _ => n | _ => 0
theorem own_lenS {w : World} {base z n : Nat} {u : Value} {xs : List Value} {t : TypeId} (o : w.ownsRow base t z u n xs) : lenS u = n := by
 rcases o.2 with ⟨rfl, h⟩ | ⟨_, _, _, rfl, _⟩
 ·exact h.symm
 ·rfl
theorem own_isSl {w : World} {base z n : Nat} {u : Value} {xs : List Value} {t : TypeId} (o : w.ownsRow base t z u n xs) : ∃ A c, u = .slice A n c := by
 rcases o.2 with ⟨rfl, rfl⟩ | ⟨g, cap, _, rfl, _⟩
 ·exact ⟨none, 0, rfl⟩
 ·exact ⟨_, cap, rfl⟩
def WritesR (s : List UInt8) (w : World) (e : Ending) (w' : World) : Prop :=
 (∃ l u, writesP s = some l ∧ e = .returned u ∧ w'.ownsRow w.heap.size 92 2 u l.length (l.flatMap wrL) ∧ Ext w w') ∨ (writesP s = none ∧ e = Bent ∧ Ext w w')
set_option maxHeartbeats 4000000 in
set_option maxRecDepth 100000 in
theorem readWrites_any (s : List UInt8) (w : World) (hs : s.length ≤ 100000000) (hD : Dec10 w) :
  Calls Tryz.prog 130 #[.string (str s)] w (WritesR s w) := by
 have HO := Lib.hid (open_any s none w (by omega) (fun n h => by cases h))
 have hsl := textsP_len s
 go_enter Tryz.func130, Tryz.ntmps130
 go_upto_region 2 with fail
 cases hP : openT none s with
 | none =>
  have HO2 := Lib.hid (HO.out.mono (fun e w' h => by
   rcases h with ⟨l, b, h, _⟩ | ⟨_, h1, h2⟩
   ·rw [hP] at h; cases h
   ·exact (⟨h1, h2⟩ : e = Bent ∧ Ext w w')))
  have hR : writesP s = none := by unfold writesP; rw [hP]; rfl
  clear HO hP
  go_wp2_with (go_at_call 125; refine HO2.out.mono ?_; rintro e w1 ⟨he, x1⟩; simp only [Bent] at he; subst he)
  exact ⟨rfl, .inr ⟨hR, rfl, x1⟩⟩
 | some T =>
  have hT : T = (textsP s).1 := by
   unfold openT at hP
   split at hP
   ·injection hP with hP; exact hP.symm
   ·cases hP
  have hTl : ∀ x ∈ T, x.length ≤ 100000000 := fun x hx => Nat.le_trans (hsl.2 x (hT ▸ hx)) hs
  have hTn : T.length ≤ 100000000 := by rw [hT]; exact Nat.le_trans hsl.1 hs
  have HO2 := Lib.hid (HO.out.mono (fun e w' h => by
   rcases h with ⟨l, b, h, h1, h2, h3, h4⟩ | ⟨h, _⟩
   ·have h := Option.some.inj (hP.symm.trans h)
    subst h
    exact (⟨b, h1, h2, h3, h4⟩ : ∃ b, e = .returned (.pointer (some ⟨b, 0, none⟩)) ∧ w.heap.size ≤ b ∧ CurIn w' b T ∧ Ext w w')
   ·exact absurd (hP.symm.trans h) (by simp)))
  have hR : Hid (writesP s = allP writeQ T) := Lib.hid (by unfold writesP; rw [hP]; rfl)
  clear HO hP hT hsl hs
  have HTl := Lib.hid hTl
  clear hTl
  go_wp2_with (go_at_call 125; refine HO2.out.mono ?_; rintro e w1 ⟨cb, rfl, hcb, hc1, x1⟩)
  have HC1 := Lib.hid hc1
  have HX1 := Lib.hid x1
  clear hc1 x1 HO2
  go_loopw [3, 5, 6] (fun l _ _ wx => ∃ done rest, wx.ownsRow w.heap.size 92 2 l done.length (done.flatMap wrL) ∧ CurIn wx cb rest ∧ Ext w wx ∧ Hid (allP writeQ T = (allP writeQ rest).map (done ++ ·)) ∧ Hid (done.length + rest.length = T.length) ∧ Hid (∀ x ∈ rest, x.length ≤ 100000000)) (fun l _ _ _ => T.length - lenS l)
  case atStart => exact ⟨[], T, ⟨rfl, .inl ⟨rfl, rfl⟩⟩, HC1.out, HX1.out, Lib.hid (allP_start writeQ T), Lib.hid (by simp), HTl⟩
  case round =>
   obtain ⟨done, rest, o1, hc1, x1, hA, hl1, hb1⟩ := hrel
   have HM := Lib.hid (more_any cb rest wr hc1)
   have HTx := Lib.hid (text_any cb rest wr hc1)
   have hL3 := Lib.hid (own_lenS o1)
   have HO1 := Lib.hid o1
   have HX := Lib.hid x1
   have HCb := Lib.hid hc1
   have hD1 := Lib.hid hD
   have hlt := Lib.hid hc1.lt
   clear HC1 HX1 hD
   cases rest with
   | nil =>
    have hE : Hid (WritesR s w (.returned u3) wr) := Lib.hid (.inl ⟨done, _, by rw [hR.out]; exact allP_stop hA.out, rfl, o1, x1⟩)
    clear o1 hc1 x1 hcb hTn
    go_wp2_with (go_at_call 131; refine HM.out.mono ?_; rintro e w2 ⟨rfl, rfl⟩)
    go_ret
    exact hE.out
   | cons x rest =>
    have HT2 := Lib.hid (HTx.out.mono (fun e w' h => (⟨h.1, h.2.1, h.2.2⟩ : e = .returned (.string (str x)) ∧ CurIn w' cb rest ∧ But cb wr w')))
    have hx : x.length ≤ 100000000 := hb1.out x List.mem_cons_self
    have HOx := Lib.hid (fun w => open_any x (some 2) w (by omega) (fun n h => by cases h; decide))
    have hF : Hid (writeQ x = none → ∀ w', Ext w w' → WritesR s w Bent w') := Lib.hid (fun h w' x => .inr ⟨by rw [hR.out]; exact allP_fail hA.out h, rfl, x⟩)
    clear HTx o1 hc1 x1
    cases hP : openT (some 2) x with
    | none =>
     have hw : Hid (writeQ x = none) := Lib.hid (by unfold writeQ; rw [hP]; rfl)
     have HOy := Lib.hid (fun w => (HOx.out w).mono (fun e w' h => by
      rcases h with ⟨l, b, h, _⟩ | ⟨_, h1, h2⟩
      ·rw [hP] at h; cases h
      ·exact (⟨h1, h2⟩ : e = Bent ∧ Ext w w')))
     clear hP HOx hx hTn
     go_wp2_with (first
      | (go_at_call 131; refine HM.out.mono ?_; rintro e w2 ⟨rfl, rfl⟩)
      | (go_at_call 126; refine HT2.out.mono ?_; rintro e w2 ⟨rfl, k1, k2⟩)
      | (go_at_call 125; refine (HOy.out _).mono ?_; rintro e w3 ⟨he, x3⟩; simp only [Bent] at he; subst he))
     exact ⟨rfl, hF.out hw.out _ ((k2.past HX.out hcb).trans x3)⟩
    | some l =>
     have hl2 : l.length = 2 := openT_len hP
     obtain ⟨t0, t1, rfl⟩ := two_of hl2
     have hq0 : t0.length ≤ 281474976710656 := by have := openT_few hP t0 (by simp); omega
     have hW : Hid (writeQ x = (intP t0).map fun n => (n, t1)) := Lib.hid (by unfold writeQ; rw [hP]; rfl)
     have HOy := Lib.hid (fun w => (HOx.out w).mono (fun e w' h => by
      rcases h with ⟨l, b, h, h1, h2, h3, h4⟩ | ⟨h, _⟩
      ·have h := Option.some.inj (hP.symm.trans h)
       subst h
       exact (⟨b, h1, h2, h3, h4⟩ : ∃ b, e = .returned (.pointer (some ⟨b, 0, none⟩)) ∧ w.heap.size ≤ b ∧ CurIn w' b [t0, t1] ∧ Ext w w')
      ·exact absurd (hP.symm.trans h) (by simp)))
     have HDec := Lib.hid (fun b w' h hD' => cdec_any b [t0, t1] w' h hD' (by
      intro s hs
      rcases List.mem_cons.1 hs with rfl | hs
      ·exact hq0
      ·rw [List.mem_singleton.1 hs]; have := openT_few hP t1 (by simp); omega))
     clear hP HOx hq0 hl2
     cases hi : intP t0 with
     | none =>
      have hw : Hid (writeQ x = none) := Lib.hid (by rw [hW.out, hi]; rfl)
      have HDy := Lib.hid (fun b w' h hD' => (HDec.out b w' h hD').mono (fun e w2 h => (⟨h.1.trans (by rw [hi]), h.2.1, h.2.2⟩ : e = Bent ∧ CurIn w2 b [t1] ∧ But b w' w2)))
      clear hi HDec hx hTn
      go_wp2_with (first
       | (go_at_call 131; refine HM.out.mono ?_; rintro e w2 ⟨rfl, rfl⟩)
       | (go_at_call 126; refine HT2.out.mono ?_; rintro e w2 ⟨rfl, k1, k2⟩)
       | (go_at_call 125; refine (HOy.out _).mono ?_; rintro e w3 ⟨ob, rfl, hob, hc3, x3⟩; have y3 := Lib.hid ((k2.past HX.out hcb).trans x3); have hob2 := Lib.hid (Nat.le_trans (k2.past HX.out hcb).size hob))
       | (go_at_call 128; refine (HDy.out ob _ hc3 (fun w' k => hD1.out.ext (k.past y3.out hob2.out))).mono ?_; rintro e w4 ⟨he, k4, b4⟩; simp only [Bent] at he; subst he))
      exact ⟨rfl, hF.out hw.out _ (b4.past y3.out hob2.out)⟩
     | some n =>
      have hw : Hid (writeQ x = some (n, t1)) := Lib.hid (by rw [hW.out, hi]; rfl)
      have HDy := Lib.hid (fun b w' h hD' => (HDec.out b w' h hD').mono (fun e w2 h => (⟨h.1.trans (by rw [hi]), h.2.1, h.2.2⟩ : e = .returned (.int .i64 n) ∧ CurIn w2 b [t1] ∧ But b w' w2)))
      have HT3 := Lib.hid (fun b w' h => (text_any b [t1] w' h).mono (fun e w2 h => (⟨h.1, h.2.1, h.2.2⟩ : e = .returned (.string (str t1)) ∧ CurIn w2 b [] ∧ But b w' w2)))
      have hdn : done.length ≤ 1000000000 := by have := hl1.out; omega
      have HDn := Lib.hid hdn
      have HCb2 := Lib.hid hcb
      clear hi HDec hx hTn hdn hcb
      go_wp2_with (first
       | (go_at_call 131; refine HM.out.mono ?_; rintro e w2 ⟨rfl, rfl⟩)
       | (go_at_call 126; refine (HT3.out ob _ k4).mono ?_; rintro e w5 ⟨rfl, k5, b5⟩; have HO5 := Lib.hid (k4.own b5 HO4.out (by decide)); have HC5 := Lib.hid (HC4.out.but b5 k4 hne.out); have y5 := Lib.hid (b5.past (b4.past y3.out hob2.out) hob2.out))
       | (go_at_call 126; refine HT2.out.mono ?_; rintro e w2 ⟨rfl, k1, k2⟩; have HO2 := Lib.hid (HCb.out.own k2 HO1.out (by decide)))
       | (go_at_call 125; refine (HOy.out _).mono ?_; rintro e w3 ⟨ob, rfl, hob, hc3, x3⟩; have y3 := Lib.hid ((k2.past HX.out HCb2.out).trans x3); have hob2 := Lib.hid (Nat.le_trans (k2.past HX.out HCb2.out).size hob); have HO3 := Lib.hid (own_ext HO2.out x3); have HC3 := Lib.hid (k1.ext x3); have hne := Lib.hid (Nat.ne_of_lt (Nat.lt_of_lt_of_le k1.lt hob)))
       | (go_at_call 128; refine (HDy.out ob _ hc3 (fun w' k => hD1.out.ext (k.past y3.out hob2.out))).mono ?_; rintro e w4 ⟨rfl, k4, b4⟩; have HO4 := Lib.hid (hc3.own b4 HO3.out (by decide)); have HC4 := Lib.hid (HC3.out.but b4 hc3 hne.out))
       | (refine wp_app_w (n, t1) rfl (.tmp 16) (.tmp 21) rfl rfl rfl (own_ext HO5.out ((Ext.refl _).alloc _)) (Box.new _ _ _) HDn.out (y5.out.alloc _).size ?_; intro u6 w6 o6 g6))
      have oz := own_ext HO5.out ((Ext.refl _).alloc (.cells #[.int .i64 n, .string (str t1)] 92))
      have y6 := Lib.hid (Below.grown (y5.out.alloc _) g6 (y5.out.alloc _).size (fun k hk => own_low oz hk))
      have HC6 := Lib.hid ((HC5.out.ext ((Ext.refl _).alloc _)).grown g6 oz (by decide) (by decide))
      go_roundw
      case rel => exact ⟨done ++ [(n, t1)], rest, (by rw [List.length_append]; exact o6), HC6.out, y6.out, Lib.hid (allP_step hA.out hw.out), Lib.hid (by have := hl1.out; simp only [List.length_append, List.length_cons, List.length_nil] at *; omega), Lib.hid (fun x hx => hb1.out x (List.mem_cons_of_mem _ hx))⟩
      case measure =>
       have e1 := own_lenS o6
       have e2 := hL3.out
       have e3 := hl1.out
       simp only [List.length_cons] at e3
       omega
end Go.Proofs.YtfaplefkakpgcaaGreatDoor
/- image.readProc: a process of its row. -/
namespace Go.Proofs.YtfaplefkakpgcaaGreatDoor
set_option linter.unusedVariables false
set_option linter.unusedSimpArgs false
open Go.RowKit
theorem cdec_yes {b : Nat} {w : World} {t : List UInt8} {L : List (List UInt8)} {n : Int} (h : CurIn w b (t :: L)) (hi : intP t = some n) (hD : ∀ w', But b w w' → Dec10 w') (hL : ∀ s ∈ t :: L, s.length ≤ 281474976710656) :
  Calls Tryz.prog 128 #[.pointer (some ⟨b, 0, none⟩)] w fun e w' => e = .returned (.int .i64 n) ∧ CurIn w' b L ∧ But b w w' :=
 (cdec_any b (t :: L) w h hD hL).mono (fun e w' h => ⟨h.1.trans (by rw [hi]), h.2⟩)
theorem text_yes {b : Nat} {w : World} {t : List UInt8} {L : List (List UInt8)} (h : CurIn w b (t :: L)) :
  Calls Tryz.prog 126 #[.pointer (some ⟨b, 0, none⟩)] w fun e w' => e = .returned (.string (str t)) ∧ CurIn w' b L ∧ But b w w' :=
 (text_any b (t :: L) w h).mono (fun e w' h => ⟨h.1, h.2⟩)
theorem fixed_yes {b z : Nat} {w : World} {t t' : List UInt8} {L : List (List UInt8)} (h : CurIn w b (t :: L)) (hz : z ≤ 1000) (hi : fixP z t = some t') :
  Calls Tryz.prog 190 #[.pointer (some ⟨b, 0, none⟩), .int .i64 z] w fun e w' => e = .returned (.string (str t')) ∧ CurIn w' b L ∧ But b w w' :=
 (fixed_any z b (t :: L) w h hz).mono (fun e w' h => ⟨h.1.trans (by rw [hi]), h.2⟩)
theorem bytes_yes {b z : Nat} {w : World} {t : List UInt8} {L : List (List UInt8)} {n : Int} (h : CurIn w b (t :: L)) (hz : z = 4 ∨ z = 8) (hi : numP z t = some n) :
  Calls Tryz.prog 127 #[.pointer (some ⟨b, 0, none⟩), .int .i64 z] w fun e w' => e = .returned (.int .u64 n) ∧ CurIn w' b L ∧ But b w w' :=
 (bytes_any z b (t :: L) w h hz).mono (fun e w' h => ⟨h.1.trans (by rw [hi]), h.2⟩)
theorem cflag_yes {b : Nat} {w : World} {t : List UInt8} {L : List (List UInt8)} {n : Bool} (h : CurIn w b (t :: L)) (hi : flagP t = some n) :
  Calls Tryz.prog 129 #[.pointer (some ⟨b, 0, none⟩)] w fun e w' => e = .returned (.bool n) ∧ CurIn w' b L ∧ But b w w' :=
 (cflag_any b (t :: L) w h).mono (fun e w' h => ⟨h.1.trans (by rw [hi]), h.2⟩)
theorem open_yes {s : List UInt8} {z : Option Nat} {l : List (List UInt8)} (h : openT z s = some l) (w : World) (hs : s.length ≤ 1000000000) (hz : ∀ n, z = some n → n ≤ 1000) :
  Calls Tryz.prog 125 #[.string (str s), .int .i64 (zI z)] w fun e w' => ∃ b, e = .returned (.pointer (some ⟨b, 0, none⟩)) ∧ w.heap.size ≤ b ∧ CurIn w' b l ∧ Ext w w' :=
 (open_any s z w hs hz).mono (fun e w' k => by
  rcases k with ⟨l', b, h1, h2, h3, h4, h5⟩ | ⟨h1, _⟩
  ·have h6 := Option.some.inj (h.symm.trans h1)
   subst h6
   exact ⟨b, h2, h3, h4, h5⟩
  ·rw [h] at h1; cases h1)
theorem space_yes {s s' : List UInt8} (h : spaceP s = some s') (w : World) : s' = s ∧ Calls Tryz.prog 192 #[.string (str s)] w fun e w' => e = .returned (.agg (spC s 16)) ∧ Ext w w' := by
 unfold spaceP at h
 split at h
 ·rename_i k
  injection h with h
  refine ⟨h.symm, (readSpace_any s w k.1).mono (fun e w' q => ⟨?_, q.2⟩)⟩
  rcases q.1 with ⟨_, q⟩ | ⟨q, _⟩
  ·exact q
  ·rw [k.2] at q; cases q
 ·cases h
theorem CurIn.butT {w w' : World} {b b' : Nat} {L : List (List UInt8)} {T : TypeId} {cs : Array Value} (h : CurIn w b L) (hk : But b' w w') (hb : Box w b' T cs) (h1 : 9 ≠ T) (hne : b ≠ b') : CurIn w' b L := by
 obtain ⟨A, n, c, k1, k2, k3⟩ := h
 exact ⟨A, n, c, hk.box k1 hne, k2.but hk hb h1, k3⟩
abbrev prZ : PrT := default
structure PS (w W : World) (rb pb cb : Nat) (y : PrT) (L : List (List UInt8)) : Prop where
 box : Box W pb 57 (prL y).toArray
 res : Box W rb 57 (prL prZ).toArray
 cur : CurIn W cb L
 ext : Ext w W
 ne : rb ≠ pb
 nec : pb ≠ cb
 ner : rb ≠ cb
 lr : w.heap.size ≤ rb
 lp : w.heap.size ≤ pb
 lc : w.heap.size ≤ cb
namespace PS
variable {w W W' : World} {rb pb cb : Nat} {y : PrT} {L L' : List (List UInt8)}
theorem call (h : PS w W rb pb cb y L) (k : CurIn W' cb L') (b : But cb W W') : PS w W' rb pb cb y L' :=
 ⟨b.box h.box h.nec, b.box h.res h.ner, k, b.past h.ext h.lc, h.ne, h.nec, h.ner, h.lr, h.lp, h.lc⟩
theorem more (h : PS w W rb pb cb y L) (x : Ext W W') : PS w W' rb pb cb y L :=
 ⟨h.box.ext x, h.res.ext x, h.cur.ext x, h.ext.trans x, h.ne, h.nec, h.ner, h.lr, h.lp, h.lc⟩
theorem but (h : PS w W rb pb cb y L) (b : But pb W W') (y' : PrT) (hb : Box W' pb 57 (prL y').toArray) : PS w W' rb pb cb y' L :=
 ⟨hb, b.box h.res h.ne, h.cur.butT b h.box (by decide) (Ne.symm h.nec), b.past h.ext h.lp, h.ne, h.nec, h.ner, h.lr, h.lp, h.lc⟩
theorem set (h : PS w W rb pb cb y L) (i : Nat) (v : Value) (y' : PrT) (e : (prL y).toArray.setIfInBounds i v = (prL y').toArray) : PS w (W.setCell ⟨pb, i, none⟩ v) rb pb cb y' L :=
 h.but ((But.refl pb W).setCell i v) y' (e ▸ h.box.set i v)
theorem dec (h : PS w W rb pb cb y L) (hD : Dec10 w) : ∀ W', But cb W W' → Dec10 W' := fun W' b => hD.ext (b.past h.ext h.lc)
end PS
theorem ten_of {l : List (List UInt8)} (h : l.length = 10) : ∃ a b c d e f g i j k, l = [a, b, c, d, e, f, g, i, j, k] := by
 match l, h with
 | [a, b, c, d, e, f, g, i, j, k], _ => exact ⟨a, b, c, d, e, f, g, i, j, k, rfl⟩
theorem procP_parts {s : List UInt8} {y : PrT} (h : procP s = some y) : ∃ t0 t1 t2 t3 t4 t5 t6 t7 t8 t9 pid par st mask code why num, openT (some 10) s = some [t0, t1, t2, t3, t4, t5, t6, t7, t8, t9] ∧ intP t0 = some pid ∧ intP t1 = some par ∧ intP t2 = some st ∧ fixP 68 t3 = some t3 ∧ spaceP t4 = some t4 ∧ fixP 136 t5 = some t5 ∧ flagP t6 = some mask ∧ numP 4 t7 = some code ∧ intP t8 = some why ∧ numP 8 t9 = some num ∧ y = mkProc pid par st t3 t4 t5 mask code why num := by
 unfold procP at h
 cases h1 : openT (some 10) s with
 | none => rw [h1] at h; cases h
 | some l =>
  obtain ⟨t0, t1, t2, t3, t4, t5, t6, t7, t8, t9, rfl⟩ := ten_of (openT_len h1)
  rw [h1] at h
  simp only [Option.bind_some, List.getD_cons_zero, List.getD_cons_succ] at h
  cases e0 : intP t0 with | none => rw [e0] at h; cases h | some pid =>
  cases e1 : intP t1 with | none => rw [e0, e1] at h; cases h | some par =>
  cases e2 : intP t2 with | none => rw [e0, e1, e2] at h; cases h | some st =>
  cases e3 : fixP 68 t3 with | none => rw [e0, e1, e2, e3] at h; cases h | some cpu =>
  cases e4 : spaceP t4 with | none => rw [e0, e1, e2, e3, e4] at h; cases h | some sp =>
  cases e5 : fixP 136 t5 with | none => rw [e0, e1, e2, e3, e4, e5] at h; cases h | some fds =>
  cases e6 : flagP t6 with | none => rw [e0, e1, e2, e3, e4, e5, e6] at h; cases h | some mask =>
  cases e7 : numP 4 t7 with | none => rw [e0, e1, e2, e3, e4, e5, e6, e7] at h; cases h | some code =>
  cases e8 : intP t8 with | none => rw [e0, e1, e2, e3, e4, e5, e6, e7, e8] at h; cases h | some why =>
  cases e9 : numP 8 t9 with | none => rw [e0, e1, e2, e3, e4, e5, e6, e7, e8, e9] at h; cases h | some num =>
  rw [e0, e1, e2, e3, e4, e5, e6, e7, e8, e9] at h
  simp only [Option.bind_some, Option.map_some] at h
  injection h with h
  have f3 : cpu = t3 := by unfold fixP at e3; split at e3; · injection e3 with e3; exact e3.symm
                           ·cases e3
  have f5 : fds = t5 := by unfold fixP at e5; split at e5; · injection e5 with e5; exact e5.symm
                           ·cases e5
  have f4 : sp = t4 := by unfold spaceP at e4; split at e4; · injection e4 with e4; exact e4.symm
                          ·cases e4
  subst f3 f4 f5
  exact ⟨t0, t1, t2, cpu, sp, fds, t6, t7, t8, t9, pid, par, st, mask, code, why, num, rfl, e0, e1, e2, e3, e4, e5, e6, e7, e8, e9, h.symm⟩
def prR (y : PrT) (f : Nat → Int) (k : Nat) : PrT := { y with reg := fun i => if i < k then f i else 0 }
def prF (y : PrT) (f g h : Nat → Int) (k : Nat) : PrT := { y with
 fk := fun i => if i < k then f i else 0
 fn := fun i => if i < k then g i else 0
 fp := fun i => if i < k then h i else 0 }
theorem upto8 {k : Nat} (h : k < 8) : k = 0 ∨ k = 1 ∨ k = 2 ∨ k = 3 ∨ k = 4 ∨ k = 5 ∨ k = 6 ∨ k = 7 := by omega
set_option maxRecDepth 100000 in
theorem prR_put (y : PrT) (f : Nat → Int) {k : Nat} (h : k < 16) : (prL (prR y f k)).toArray.setIfInBounds (3 + k) (.int .u32 (f k)) = (prL (prR y f (k + 1))).toArray := by
 rcases upto16 h with rfl | rfl | rfl | rfl | rfl | rfl | rfl | rfl | rfl | rfl | rfl | rfl | rfl | rfl | rfl | rfl <;> kernel_rfl
theorem set_app {α : Type} (a b : List α) (i : Nat) (v : α) (h : a.length = i) (j : Nat) : (a ++ b).toArray.setIfInBounds (i + j) v = (a ++ (b.toArray.setIfInBounds j v).toList).toArray := by
 apply Array.toList_inj.1
 rw [Array.toList_setIfInBounds, List.set_append_right _ _ (by omega), Array.toList_setIfInBounds, show i + j - a.length = j by omega]
set_option maxRecDepth 100000 in
theorem fds_put (y : PrT) (f g h : Nat → Int) {k : Nat} (hk : k < 8) : (((fdsL (prF y f g h k)).toArray.setIfInBounds (k * 3) (.int .i64 (f k))).setIfInBounds (k * 3 + 1) (.int .i64 (g k))).setIfInBounds (k * 3 + 2) (.int .i64 (h k)) = (fdsL (prF y f g h (k + 1))).toArray := by
 rcases upto8 hk with rfl | rfl | rfl | rfl | rfl | rfl | rfl | rfl <;> kernel_rfl
theorem set_left {α : Type} (a b : List α) (j : Nat) (v : α) (h : j < a.length) : (a ++ b).toArray.setIfInBounds j v = ((a.toArray.setIfInBounds j v).toList ++ b).toArray := by
 apply Array.toList_inj.1
 rw [Array.toList_setIfInBounds, List.set_append_left _ _ h, Array.toList_setIfInBounds]
theorem prL_cut (y : PrT) : (prL y).toArray = ((prL y).take 68 ++ (fdsL y ++ [Value.bool y.mask, Value.int .u32 y.code, Value.int .i64 y.why, Value.int .u64 y.num])).toArray := by
 conv => lhs; rw [← List.take_append_drop 68 (prL y)]
 rfl
theorem prF_put (y : PrT) (f g h : Nat → Int) {k : Nat} (hk : k < 8) : (((prL (prF y f g h k)).toArray.setIfInBounds (68 + k * 3) (.int .i64 (f k))).setIfInBounds (68 + k * 3 + 1) (.int .i64 (g k))).setIfInBounds (68 + k * 3 + 2) (.int .i64 (h k)) = (prL (prF y f g h (k + 1))).toArray := by
 have hl : ((prL y).take 68).length = 68 := rfl
 have hf : (fdsL (prF y f g h k)).length = 24 := rfl
 rw [prL_cut, prL_cut (prF y f g h (k + 1)), show (prL (prF y f g h k)).take 68 = (prL y).take 68 from rfl, show (prL (prF y f g h (k + 1))).take 68 = (prL y).take 68 from rfl]
 rw [show 68 + k * 3 + 1 = 68 + (k * 3 + 1) from rfl, show 68 + k * 3 + 2 = 68 + (k * 3 + 2) from rfl, set_app _ _ 68 _ hl, set_app _ _ 68 _ hl, set_app _ _ 68 _ hl]
 simp only [Array.toArray_toList]
 rw [set_left _ _ _ _ (by rw [hf]; omega), set_left _ _ _ _ (by rw [Array.length_toList, Array.size_setIfInBounds, List.size_toArray, hf]; omega)]
 simp only [Array.toArray_toList]
 rw [set_left _ _ _ _ (by rw [Array.length_toList, Array.size_setIfInBounds, Array.size_setIfInBounds, List.size_toArray, hf]; omega)]
 simp only [Array.toArray_toList]
 rw [fds_put y f g h hk]
 rfl
end Go.Proofs.YtfaplefkakpgcaaGreatDoor
/- image.readProc: the walk. -/
namespace Go.Proofs.YtfaplefkakpgcaaGreatDoor
set_option linter.unusedVariables false
set_option linter.unusedSimpArgs false
open Go.RowKit
theorem PS.eq {w W : World} {rb pb cb : Nat} {y y' : PrT} {L : List (List UInt8)} (h : PS w W rb pb cb y L) (e : prL y = prL y') : PS w W rb pb cb y' L :=
 ⟨e ▸ h.box, h.res, h.cur, h.ext, h.ne, h.nec, h.ner, h.lr, h.lp, h.lc⟩
section
variable {ops : Array Oper} {rest : List Oper} {o : Oper} {a : Act} {w0 W : World} {Q : Exit → Act → World → Prop} {rb pb cb : Nat} {y : PrT} {L : List (List UInt8)}
theorem wp_st_ps (S : PS w0 W rb pb cb y L) (y' : PrT) (T : TypeId) (x z : Operand) (hgd : o.guard = none) (ho : o.op = .store T x z) (i : Nat) (v : Value) (hx : a.eval x = .pointer (some ⟨pb, i, none⟩)) (hy : a.eval z = v) (hv : v.oneCell' = true)
  (hi : (Tryz.prog.info? T).map (·.size) = some 1) (hlt : i < 96) (he : (prL y).toArray.setIfInBounds i v = (prL y').toArray)
  (hK : ∀ W', PS w0 W' rb pb cb y' L → wpList Tryz.prog ops Q rest (a.put o.dst undef) W') : wpList Tryz.prog ops Q (o :: rest) a W :=
 wp_st_cell T x z hgd ho pb i v _ _ _ hx hy hv hi S.box hlt he (fun W' b d => hK W' (S.but d y' b))
end
theorem extract_at (s : List UInt8) (i z : Nat) : (str s).extract i (i + z) = str ((s.drop i).take z) := by rw [str_ext, show i + z - i = z by omega]
theorem get_at (s : List UInt8) (i z : Nat) (hz : z = 4 ∨ z = 8) (h : i + z ≤ s.length) (w : World) :
  Calls Tryz.prog 164 #[.string ((str s).extract i (i + z))] w fun e w' => e = .returned (.int .u64 (numAtT s i z)) ∧ w = w' := by
 rw [extract_at]
 have hl : ((s.drop i).take z).length = z := by rw [List.length_take, List.length_drop]; omega
 exact get_48 _ w (by rw [hl]; exact hz)
theorem numL_few : ∀ l : List UInt8, numL l < 256 ^ l.length
 | [] => by decide
 | c :: l => by
  have := numL_few l
  have h2 := c.toNat_lt
  rw [List.length_cons, Nat.pow_succ]
  show c.toNat + 256 * numL l < _
  omega
theorem numAt_fits (s : List UInt8) (i z : Nat) : 0 ≤ numAtT s i z ∧ numAtT s i z < ((256 ^ z : Nat) : Int) := by
 unfold numAtT
 refine ⟨Int.natCast_nonneg _, ?_⟩
 have h := numL_few ((s.drop i).take z)
 have h2 : 256 ^ ((s.drop i).take z).length ≤ 256 ^ z := Nat.pow_le_pow_right (by decide) (by rw [List.length_take]; exact Nat.min_le_left _ _)
 omega
theorem numAt_piece (s : List UInt8) (o n i z : Nat) (h : i + z ≤ n) : numAtT ((s.drop o).take n) i z = numAtT s (o + i) z := by
 unfold numAtT
 rw [List.drop_take, List.take_take, List.drop_drop, Nat.min_eq_left (by omega)]
theorem byteAt_piece (s : List UInt8) (o n i : Nat) (h : i < n) : byteAt ((s.drop o).take n) i = byteAt s (o + i) := by
 unfold byteAt
 simp [List.getD_eq_getElem?_getD, List.getElem?_take, List.getElem?_drop, h]
theorem prF_zero (y : PrT) (hz : ∀ i, y.fk i = 0 ∧ y.fn i = 0 ∧ y.fp i = 0) (f g h : Nat → Int) : prL y = prL (prF y f g h 0) :=
 prL_congr rfl rfl rfl (fun _ _ => rfl) rfl (fun _ _ => ⟨rfl, rfl, rfl⟩) (fun i _ => ⟨by simp [prF, (hz i).1], by simp [prF, (hz i).2.1], by simp [prF, (hz i).2.2]⟩) rfl rfl rfl rfl
theorem space_fix {s : List UInt8} (h : spaceP s = some s) : fixP 32 s = some s := by
 unfold spaceP at h
 split at h
 ·rename_i k; exact if_pos k.1
 ·cases h
theorem num_u32 {t : List UInt8} {n : Int} (h : numP 4 t = some n) : IntKind.u32.wrap n = n := by
 unfold numP at h
 split at h
 ·rename_i hl
  injection h with h
  subst h
  have := numL_few t
  rw [hl] at this
  rw [IntKind.wrap_u32']
  have h2 : (256 : Nat) ^ 4 = 4294967296 := by decide
  omega
 ·cases h
theorem but_grown {w w' : World} {g : Nat} (h : w.grownBy w' (some g)) : But g w w' := ⟨h.os, h.tape, h.output, h.size, fun k hk hne => h.block k hk (fun e => hne (by injection e))⟩
theorem proc_done (pid par st : Int) (t3 t4 t5 : List UInt8) (mask : Bool) (code why num : Int) :
  prL { (prF (({ (prR { prZ with pid := pid, parent := par, state := st } (fun i => numAtT t3 (4 * i) 4) 16) with pc := numAtT t3 64 4 } : PrT).pages (spQ t4 16)) (fun i => byteAt t5 (17 * i)) (fun i => wrap64 (numAtT t5 (17 * i + 1) 8)) (fun i => wrap64 (numAtT t5 (17 * i + 9) 8)) 8) with mask := mask, code := code, why := why, num := num }
   = prL (mkProc pid par st t3 t4 t5 mask code why num) :=
 prL_congr rfl rfl rfl (fun i hi => by simp [prF, PrT.pages, prR, mkProc, hi]) rfl (fun i hi => ⟨by simp [prF, PrT.pages, spQ, mkProc, hi], by simp [prF, PrT.pages, spQ, mkProc, hi], by simp [prF, PrT.pages, spQ, mkProc, hi]⟩) (fun i hi => ⟨by simp [prF, mkProc, hi], by simp [prF, mkProc, hi], by simp [prF, mkProc, hi]⟩) rfl rfl rfl rfl
theorem u32_at (s : List UInt8) (i : Nat) : IntKind.u32.wrap (numAtT s i 4) = numAtT s i 4 := by
 have h := numAt_fits s i 4
 rw [IntKind.wrap_u32']
 omega
set_option maxHeartbeats 8000000 in
set_option maxRecDepth 100000 in
theorem readProc_yes (s : List UInt8) (y : PrT) (w : World) (hP : procP s = some y) (hs : s.length ≤ 100000000) (hD : Dec10 w) :
  Calls Tryz.prog 132 #[.string (str s)] w fun e w' => e = .returned (.agg (prL y).toArray) ∧ Ext w w' := by
 obtain ⟨t0, t1, t2, t3, t4, t5, t6, t7, t8, t9, pid, par, st, mask, code, why, num, p0, p1, p2, p3, p4, p5, p6, p7, p8, p9, p10, rfl⟩ := procP_parts hP
 have hfew : ∀ t ∈ [t0, t1, t2, t3, t4, t5, t6, t7, t8, t9], t.length ≤ 281474976710656 := fun t ht => by have := openT_few p0 t ht; omega
 have HO := Lib.hid (fun w => open_yes p0 w (by omega) (fun n h => by cases h; decide))
 have H0 := Lib.hid p1
 have H1 := Lib.hid p2
 have H2 := Lib.hid p3
 have H3 := Lib.hid p4
 have H4 := Lib.hid p5
 have H5 := Lib.hid p6
 have H6 := Lib.hid p7
 have H7 := Lib.hid p8
 have H8 := Lib.hid p9
 have H9 := Lib.hid p10
 have HL0 := Lib.hid hfew
 have HL1 := Lib.hid (fun t ht => hfew t (List.mem_cons_of_mem _ ht))
 have HL2 := Lib.hid (fun t ht => HL1.out t (List.mem_cons_of_mem _ ht))
 have HL8 := Lib.hid (show ∀ t ∈ [t8, t9], t.length ≤ 281474976710656 from fun t ht => hfew t (by simp only [List.mem_cons, List.not_mem_nil, or_false] at ht ⊢; rcases ht with rfl | rfl <;> simp))
 have HDD := Lib.hid hD
 clear p0 p1 p2 p3 p4 p5 p6 p7 p8 p9 p10 hfew hs hD hP
 go_enter Tryz.func132, Tryz.ntmps132
 go_upto_region 1 with fail
 have b0 := Box.new w 57 (prL prZ).toArray
 have x0 : Ext w (w.alloc (.cells (prL prZ).toArray 57)) := (Ext.refl w).alloc _
 have z0 : (w.alloc (.cells (prL prZ).toArray 57)).heap.size = w.heap.size + 1 := World.size_alloc _ _
 change Code.wp _ _ _ _ (w.alloc (.cells (prL prZ).toArray 57))
 generalize w.alloc (.cells (prL prZ).toArray 57) = w0 at b0 x0 z0 ⊢
 go_upto_region 2 with (go_at_call 125; refine (HO.out _).mono ?_; rintro e w1 ⟨cb, rfl, hcb, hc1, x1⟩)
 have b1 := b0.ext x1
 have x1' := x0.trans x1
 have hw1 : w.heap.size + 1 ≤ w1.heap.size := by rw [← z0]; exact x1.size
 have hcb1 := hc1.lt
 rw [z0] at hcb
 clear b0 x0 z0 x1 HO
 clear w0
 go_upto_region 3 with fail
 have S : PS w (w1.alloc (.cells (prL prZ).toArray 57)) w.heap.size w1.heap.size cb prZ [t0, t1, t2, t3, t4, t5, t6, t7, t8, t9] :=
  ⟨Box.new w1 _ _, b1.ext ((Ext.refl _).alloc _), hc1.ext ((Ext.refl _).alloc _), x1'.alloc _, by omega, by omega, by omega, Nat.le_refl _, by omega, by omega⟩
 change Code.wp _ _ _ _ (w1.alloc (.cells (prL prZ).toArray 57))
 generalize w1.alloc (.cells (prL prZ).toArray 57) = W0 at S ⊢
 generalize w1.heap.size = pb at S ⊢
 generalize hrb : w.heap.size = rb at S ⊢
 clear b1 x1' hw1 hcb hcb1 hc1
 clear w1
 go_upto_region 4 with (first
  | (go_at_call 128; refine (cdec_yes S2.cur H2.out (S2.dec HDD.out) HL2.out).mono ?_; rintro e w3 ⟨rfl, k3, d3⟩; have S3 := S2.call k3 d3)
  | (go_at_call 128; refine (cdec_yes S1.cur H1.out (S1.dec HDD.out) HL1.out).mono ?_; rintro e w2 ⟨rfl, k2, d2⟩; have S2 := S1.call k2 d2)
  | (go_at_call 128; refine (cdec_yes S.cur H0.out (S.dec HDD.out) HL0.out).mono ?_; rintro e w1 ⟨rfl, k1, d1⟩; have S1 := S.call k1 d1)
  | (refine wp_st_ps S3 { prZ with pid := pid } _ _ _ rfl rfl 0 _ rfl rfl rfl szInt (by decide) rfl ?_; intro w4 S4)
  | (refine wp_st_ps S4 { prZ with pid := pid, parent := par } _ _ _ rfl rfl 1 _ rfl rfl rfl szInt (by decide) rfl ?_; intro w5 S5)
  | (refine wp_st_ps S5 { prZ with pid := pid, parent := par, state := st } _ _ _ rfl rfl 2 _ rfl rfl rfl szInt (by decide) rfl ?_; intro w6 S6))
 clear S S1 S2 S3 S4 S5 k1 k2 k3 d1 d2 d3 H0 H1 H2 HL0 HL1 HL2
 clear w1 w2 w3 w4 w5
 clear W0
 go_upto_region 5 with (go_at_call 190; refine (fixed_yes S6.cur (by decide) H3.out).mono ?_; rintro e w7 ⟨rfl, k7, d7⟩; have S7 := S6.call k7 d7)
 have S8 := S7.eq (show _ = prL (prR { prZ with pid := pid, parent := par, state := st } (fun i => numAtT t3 (4 * i) 4) 0) from rfl)
 clear S6 S7 k7 d7
 clear w6
 generalize hy3 : ({ prZ with pid := pid, parent := par, state := st } : PrT) = y3 at S8
 have HY3 := Lib.hid hy3
 clear hy3
 have hl3 : (str t3).size = 68 := by
  rw [str_size]
  have := H3.out
  unfold fixP at this
  split at this
  ·assumption
  ·cases this
 have hl5 : (str t5).size = 136 := by
  rw [str_size]
  have := H5.out
  unfold fixP at this
  split at this
  ·assumption
  ·cases this
 have hn3 : t3.length = 68 := by rw [str_size] at hl3; exact hl3
 have hn5 : t5.length = 136 := by rw [str_size] at hl5; exact hl5
 go_wp2_with fail
 go_loopw [6, 23] (fun _ i wx => ∃ k : Nat, k ≤ 16 ∧ i = .int .i64 k ∧ PS w wx rb pb cb (prR y3 (fun i => numAtT t3 (4 * i) 4) k) [t4, t5, t6, t7, t8, t9]) (fun _ i _ => 16 - (intOf i).toNat)
 case atStart => exact ⟨0, by omega, rfl, S8⟩
 case round =>
  clear S8
  obtain ⟨k, hk, rfl, S1⟩ := hrel
  by_cases hlt : k < 16
  ·have hki : (k : Int) < 16 := by omega
   have HP : Hid ((prL (prR y3 (fun i => numAtT t3 (4 * i) 4) k)).toArray.setIfInBounds (3 + k) (.int .u32 (numAtT t3 (4 * k) 4)) = (prL (prR y3 (fun i => numAtT t3 (4 * i) 4) (k + 1))).toArray) := Lib.hid (prR_put y3 (fun i => numAtT t3 (4 * i) 4) hlt)
   have HG := Lib.hid (get_at t3 (4 * k) 4 (.inl rfl) (by omega))
   have hu := u32_at t3 (4 * k)
   generalize numAtT t3 (4 * k) 4 = r at *
   clear hn3
   go_wp2_with (first
    | (go_at_call 164; refine (HG.out _).mono ?_; rintro e w2 ⟨rfl, rfl⟩)
    | (refine wp_st_ps S1 _ _ _ _ rfl rfl (3 + k) _ rfl rfl rfl szU32 (by omega) HP.out ?_; intro w3 S2))
   go_roundw
   case rel => exact ⟨k + 1, by omega, by go_num, S2⟩
   case measure => simp [intOf]; omega
  ·obtain rfl : k = 16 := by omega
   have HG := Lib.hid (get_at t3 64 4 (.inl rfl) (by omega))
   have hu := u32_at t3 64
   have HPC : Hid ((prL (prR y3 (fun i => numAtT t3 (4 * i) 4) 16)).toArray.setIfInBounds 19 (.int .u32 (numAtT t3 64 4)) = (prL { (prR y3 (fun i => numAtT t3 (4 * i) 4) 16) with pc := numAtT t3 64 4 }).toArray) := Lib.hid rfl
   generalize hpc : numAtT t3 64 4 = pc at *
   generalize hyR : prR y3 (fun i => numAtT t3 (4 * i) 4) 16 = yR at *
   have HPc := Lib.hid hpc
   have HYR := Lib.hid hyR
   clear hpc hyR hn3
   go_upto_region 11 with (first
    | (go_at_call 164; refine (HG.out _).mono ?_; rintro e w2 ⟨rfl, rfl⟩)
    | (refine wp_st_ps S1 { yR with pc := pc } _ _ _ rfl rfl 19 _ rfl rfl rfl szU32 (by decide) HPC.out ?_; intro w3 S2))
   generalize hyP : ({ yR with pc := pc } : PrT) = yP at *
   have HYP := Lib.hid hyP
   clear hyP S1 HG hu HPC hlt hk
   clear wr
   have HSp := Lib.hid (fun w => (space_yes H4.out w).2)
   have HF4 := Lib.hid (space_fix H4.out)
   unfold spC at HSp
   generalize hyq : spQ t4 16 = q at *
   have HQ := Lib.hid hyq
   clear hyq
   go_upto_region 12 with (first
    | (go_at_call 190; refine (fixed_yes S2.cur (by decide) HF4.out).mono ?_; rintro e w4 ⟨rfl, k4, d4⟩; have S4 := S2.call k4 d4)
    | (go_at_call 192; refine (HSp.out _).mono ?_; rintro e w5 ⟨rfl, x5⟩; have S5 := S4.more x5)
    | (refine wp_st_space _ _ rfl rfl pb yP q _ rfl rfl S5.box ?_; intro w6 b6 d6; have S6 := S5.but d6 _ b6))
   generalize hyS : yP.pages q = yS at *
   have HYS := Lib.hid hyS
   clear hyS S2 S4 S5 k4 d4 x5 d6 b6 HSp HF4
   clear w3 w4 w5
   have HZ := Lib.hid (show ∀ i, yS.fk i = 0 ∧ yS.fn i = 0 ∧ yS.fp i = 0 from fun i => by rw [← HYS.out, ← HYP.out, ← HYR.out, ← HY3.out]; exact ⟨rfl, rfl, rfl⟩)
   go_upto_region 13 with (go_at_call 190; refine (fixed_yes S6.cur (by decide) H5.out).mono ?_; rintro e w7 ⟨rfl, k7, d7⟩; have S7 := S6.call k7 d7)
   have S8 := S7.eq (prF_zero yS HZ.out (fun i => byteAt t5 (17 * i)) (fun i => wrap64 (numAtT t5 (17 * i + 1) 8)) (fun i => wrap64 (numAtT t5 (17 * i + 9) 8)))
   clear S6 S7 k7 d7
   clear w6
   go_wp2_with fail
   go_loopw [8, 9, 52] (fun _ _ i wx => ∃ k : Nat, k ≤ 8 ∧ i = .int .i64 k ∧ PS w wx rb pb cb (prF yS (fun i => byteAt t5 (17 * i)) (fun i => wrap64 (numAtT t5 (17 * i + 1) 8)) (fun i => wrap64 (numAtT t5 (17 * i + 9) 8)) k) [t6, t7, t8, t9]) (fun _ _ i _ => 8 - (intOf i).toNat)
   case atStart => exact ⟨0, by omega, rfl, S8⟩
   case round =>
    clear S8
    obtain ⟨k, hk, rfl, S1⟩ := hrel
    by_cases hlt : k < 8
    ·have hki : (k : Int) < 8 := by omega
     have HP : Hid ((((prL (prF yS (fun i => byteAt t5 (17 * i)) (fun i => wrap64 (numAtT t5 (17 * i + 1) 8)) (fun i => wrap64 (numAtT t5 (17 * i + 9) 8)) k)).toArray.setIfInBounds (68 + k * 3) (.int .i64 (byteAt t5 (17 * k)))).setIfInBounds (68 + k * 3 + 1) (.int .i64 (wrap64 (numAtT t5 (17 * k + 1) 8)))).setIfInBounds (68 + k * 3 + 2) (.int .i64 (wrap64 (numAtT t5 (17 * k + 9) 8))) = (prL (prF yS (fun i => byteAt t5 (17 * i)) (fun i => wrap64 (numAtT t5 (17 * i + 1) 8)) (fun i => wrap64 (numAtT t5 (17 * i + 9) 8)) (k + 1))).toArray) := Lib.hid (prF_put yS (fun i => byteAt t5 (17 * i)) (fun i => wrap64 (numAtT t5 (17 * i + 1) 8)) (fun i => wrap64 (numAtT t5 (17 * i + 9) 8)) hlt)
     have HX : (str t5).extract (17 * k) (17 * (k + 1)) = str ((t5.drop (17 * k)).take 17) := by rw [str_ext, show 17 * (k + 1) - 17 * k = 17 by omega]
     have e0 := byteAt_piece t5 (17 * k) 17 0 (by decide)
     have e1 := numAt_piece t5 (17 * k) 17 1 8 (by decide)
     have e2 := numAt_piece t5 (17 * k) 17 9 8 (by decide)
     have hpl : ((t5.drop (17 * k)).take 17).length = 17 := by rw [List.length_take, List.length_drop]; omega
     go_wp2_with fail
     rw [HX]
     clear HX
     generalize (t5.drop (17 * k)).take 17 = p at *
     rw [Nat.add_zero] at e0
     rw [← e0, ← e1, ← e2] at HP
     clear e0 e1 e2
     have hps : (str p).size = 17 := by rw [str_size]; exact hpl
     have i0 : ∀ w, (Instr.index 9 (.string (str p)) (.int .i64 0)).run Tryz.prog w = .ok (.int .u8 (byteAt p 0)) w := fun w => idx_byte p 0 (by omega) w
     have HG1 := Lib.hid (fun w => get_at p 1 8 (.inr rfl) (by omega) w)
     have HG2 := Lib.hid (fun w => get_at p 9 8 (.inr rfl) (by omega) w)
     have q0 := byteAt_is p 0
     have hw0 := i64_byte q0.1 q0.2
     clear q0
     generalize byteAt p 0 = c0 at *
     generalize numAtT p 1 8 = c1 at *
     generalize numAtT p 9 8 = c2 at *
     refine wp_region_later_tail 15 (by kernel_rfl) (by kernel_rfl) ?_
     simp only [List.take_succ_cons, List.take_zero, List.drop_succ_cons, List.drop_zero]
     repeat (go_big_quiet_step ((first | (with_reducible exact later_of_same (HG1.out _)) | (with_reducible exact later_of_same (HG2.out _)))))
     refine wpQuiet_nil ?_
     rintro w2 ⟨x2, rfl⟩
     have S2 := S1.more x2.ext
     generalize x2.now = w2 at *
     go_wp2_with (refine wp_st_three _ _ _ rfl rfl pb (68 + k * 3) _ _ _ _ _ _ rfl rfl fdSize rfl rfl rfl S2.box (by rw [List.size_toArray, prL_len]; omega) HP.out ?_; intro w3 b3 g3)
     go_roundw
     case rel => exact ⟨k + 1, by omega, by go_num, S2.but (but_grown g3) _ b3⟩
     case measure => simp [intOf]; omega
    ·obtain rfl : k = 8 := by omega
     have hcu := num_u32 H7.out
     have HDone := Lib.hid (proc_done pid par st t3 t4 t5 mask code why num)
     rw [HY3.out, HYR.out, HPc.out, HYP.out, HQ.out, HYS.out] at HDone
     generalize hyF : prF yS (fun i => byteAt t5 (17 * i)) (fun i => wrap64 (numAtT t5 (17 * i + 1) 8)) (fun i => wrap64 (numAtT t5 (17 * i + 9) 8)) 8 = yF at *
     clear hyF HY3 HYR HPc HYP HQ HYS HZ hl3 hl5 hn5 hlt hk
     go_upto_region 20 with (first
      | (go_at_call 129; refine (cflag_yes S1.cur H6.out).mono ?_; rintro e w2 ⟨rfl, k2, d2⟩; have S2 := S1.call k2 d2)
      | (refine wp_st_ps S2 { yF with mask := mask } _ _ _ rfl rfl 92 _ rfl rfl rfl szBool (by decide) rfl ?_; intro w3 S3))
     go_upto_region 21 with (first
      | (go_at_call 127; refine (bytes_yes S3.cur (.inl rfl) H7.out).mono ?_; rintro e w4 ⟨rfl, k4, d4⟩; have S4 := S3.call k4 d4)
      | (refine wp_st_ps S4 { yF with mask := mask, code := code } _ _ _ rfl rfl 93 _ rfl rfl rfl szU32 (by decide) rfl ?_; intro w5 S5))
     go_upto_region 22 with (first
      | (go_at_call 128; refine (cdec_yes S5.cur H8.out (S5.dec HDD.out) HL8.out).mono ?_; rintro e w6 ⟨rfl, k6, d6⟩; have S6 := S5.call k6 d6)
      | (refine wp_st_ps S6 { yF with mask := mask, code := code, why := why } _ _ _ rfl rfl 94 _ rfl rfl rfl szInt (by decide) rfl ?_; intro w7 S7))
     go_upto_region 23 with (first
      | (go_at_call 127; refine (bytes_yes S7.cur (.inr rfl) H9.out).mono ?_; rintro e w8 ⟨rfl, k8, d8⟩; have S8 := S7.call k8 d8)
      | (refine wp_st_ps S8 { yF with mask := mask, code := code, why := why, num := num } _ _ _ rfl rfl 95 _ rfl rfl rfl szU64 (by decide) rfl ?_; intro w9 S9))
     generalize hyZ : ({ yF with mask := mask, code := code, why := why, num := num } : PrT) = yZ at *
     have h0 := S9.lr
     go_wp2_with (first
      | (refine wp_ld_pr _ rfl rfl pb 0 yZ rfl (box_range S9.box (fun j v h => by rw [Nat.zero_add, List.getElem?_toArray]; exact h)) ?_)
      | (refine wp_st_pr _ _ rfl rfl rb yZ _ _ rfl rfl S9.res (by rw [List.size_toArray, prL_len]) ?_; intro w10 b10 g10))
     refine bodyPost_ret (results_cell1 rfl _ _ rb _ _ _ rfl b10 Tryz.underlying57 rfl (by rw [List.size_toArray, prL_len]; exact prSize)) rfl ⟨by rw [HDone.out], S9.ext.grown g10 (fun j e => by cases e; exact h0)⟩
end Go.Proofs.YtfaplefkakpgcaaGreatDoor
/- Plain: the numbers of a machine that may be fit the texts of its image. -/
namespace Go.Proofs.YtfaplefkakpgcaaGreatDoor
set_option linter.unusedVariables false
set_option linter.unusedSimpArgs false
structure MacFit (m : Mac) (d : MacD) : Prop where
 clock : 0 ≤ m.clock ∧ m.clock < 18446744073709551616
 told : 0 ≤ m.told ∧ m.told < 18446744073709551616
 dleft : N64 m.dleft
 cur : N64 m.cur
 pr : ∀ y ∈ d.pr, (∀ i < 16, 0 ≤ y.reg i ∧ y.reg i < 4294967296) ∧ (0 ≤ y.pc ∧ y.pc < 4294967296) ∧ (0 ≤ y.code ∧ y.code < 4294967296) ∧ (0 ≤ y.num ∧ y.num < 18446744073709551616)
theorem i64_of {n b : Int} (h0 : 0 ≤ n) (h1 : n ≤ b) (hb : b ≤ 9223372036854775807) : N64 n := ⟨by omega, by omega⟩
theorem pipe_fit {m : Mac} {l : List WrT} (h : PipesK m l l.length) (hn : m.newPipe ≤ 1000000000) : ∀ y ∈ l, 1 ≤ y.1 ∧ y.1 ≤ 1000000000 ∧ y.2.length ≤ 64 := by
 intro y hy
 obtain ⟨i, hi, rfl⟩ := List.getElem_of_mem hy
 obtain ⟨h1, h2, h3, _⟩ := h i hi hi
 exact ⟨h1, by omega, h3⟩
theorem lives_fit {m : Mac} {d : MacD} (h : ProcsK m d d.pr.length) (hn : m.next ≤ 1000000000) {n : Int} (hl : LivesP d.pr n) : 1 ≤ n ∧ n ≤ 1000000000 := by
 obtain ⟨y, hy, rfl, _⟩ := hl
 obtain ⟨i, hi, rfl⟩ := List.getElem_of_mem hy
 have := (h i hi hi).1.pid
 omega
theorem proc_fit {m : Mac} {d : MacD} (h : RestOk m d) (hw : MacFit m d) : ∀ y ∈ d.pr, PrFit y := by
 intro y hy
 have hf := hw.pr y hy
 obtain ⟨i, hi, rfl⟩ := List.getElem_of_mem hy
 have k := (h.pr i hi hi).1
 have hn := h.nums.next.2
 refine ⟨?_, ?_, ?_, ?_, hf.1, hf.2.1, hf.2.2.1, hf.2.2.2, ?_, ?_, ?_, ?_⟩
 ·have := k.pid; exact i64_of (b := 1000000000) (by omega) (by omega) (by omega)
 ·rcases k.par with hl | ⟨_, e⟩
  ·have := lives_fit h.pr hn hl; exact i64_of (b := 1000000000) (by omega) (by omega) (by omega)
  ·rw [e]; exact ⟨by omega, by omega⟩
 ·have := k.state; exact i64_of (b := 3) (by omega) (by omega) (by omega)
 ·have := k.why; exact i64_of (b := 5) (by omega) (by omega) (by omega)
 ·intro j hj
  have hp := k.page j hj
  have hr := h.frn
  rcases hp with ⟨e1, e2, e3⟩ | ⟨e1, _, e3, e4, _⟩
  ·exact ⟨by omega, by omega, fun _ => ⟨e2, e3⟩⟩
  ·exact ⟨e3, by omega, fun e => by rw [e1] at e; cases e⟩
 ·intro j hj
  rcases (k.fd j hj).1 with ⟨e, _, _⟩ | ⟨e, _⟩ | ⟨e, _, _⟩ <;> omega
 ·intro j hj
  rcases (k.fd j hj).1 with ⟨_, e, _⟩ | ⟨_, e1, e2, _⟩ | ⟨_, _, y, hy, e⟩
  ·omega
  ·omega
  ·have := pipe_fit h.pi h.nums.newPipe.2 y hy
   omega
 ·intro j hj
  rcases (k.fd j hj).1 with ⟨_, _, e⟩ | ⟨_, _, _, e1, e2⟩ | ⟨_, e, _⟩ <;> omega
theorem rest_fit {m : Mac} {d : MacD} (h : StateOk m d) (hw : MacFit m d) (hpr : d.pr.length = m.pr.n) (hpi : d.pi.length = m.pi.n) (hpe : d.pe.length ≤ 1000) : RestFit m d := by
 have hr := h.rest
 obtain ⟨hj, hd1, hd2, _⟩ := h.disk
 have hd := drvOk_of hj
 have n1 := hr.nums.quantum
 have n2 := hr.nums.left
 have n3 := hr.nums.next
 have n4 := hr.nums.newPipe
 have hm := hd.most
 have hrn := hr.prn
 have hin := hr.pin
 refine ⟨hw.clock, hw.told, i64_of (b := 1000) (by omega) n1.2 (by omega), hw.cur, ?_, ?_, ?_, hw.dleft, ?_, ?_, ?_, ?_, ?_, proc_fit hr hw, hpe, by omega, by omega, by omega⟩
 ·exact i64_of (b := 1000) n2.1 (by omega) (by omega)
 ·exact i64_of (b := 1000000000) (by omega) n3.2 (by omega)
 ·exact i64_of (b := 1000000000) (by omega) n4.2 (by omega)
 ·have := hr.texts.2; omega
 ·have := hr.texts.1; omega
 ·intro x hx
  have := hd.pend x hx
  exact ⟨i64_of (b := 256) this.1 (by omega) (by omega), by omega⟩
 ·intro x hx
  obtain ⟨i, hi, rfl⟩ := List.getElem_of_mem hx
  obtain ⟨k1, k2, k3, _⟩ := hd2 i hi
  exact ⟨i64_of (b := 256) k1 (by omega) (by omega), by omega⟩
 ·intro x hx
  obtain ⟨k1, k2, k3⟩ := pipe_fit hr.pi n4.2 x hx
  exact ⟨i64_of (b := 1000000000) (by omega) k2 (by omega), by omega⟩
end Go.Proofs.YtfaplefkakpgcaaGreatDoor
/- Plain: a process brought into a machine. -/
namespace Go.Proofs.YtfaplefkakpgcaaGreatDoor
set_option linter.unusedVariables false
set_option linter.unusedSimpArgs false
def livingP (l : List PrT) (pid : Int) : Option PrT := l.find? fun p => p.pid == pid && (p.state == 1 || p.state == 2)
def cntIs (y : PrT) : Nat → Nat
 | 0 => 0
 | j + 1 => cntIs y j + (if y.pis j = true then 1 else 0)
def freeP (n : Nat) (l : List PrT) : List Nat := (List.range n).filter fun i => usersK l (i : Int) l.length == 0
def frK (src : List (List UInt8)) (y : PrT) (free : List Nat) (fr : List (List UInt8)) : Nat → List (List UInt8)
 | 0 => fr
 | j + 1 => if y.pis j = true then (frK src y free fr j).set (free.getD (cntIs y j) 0) (src.getD (y.pfr j).toNat []) else frK src y free fr j
def newPr (y : PrT) (next : Int) (free : List Nat) (fds : Nat → Int × Int × Int) (j : Nat) : PrT where
 pid := next
 parent := 0
 state := 1
 reg := y.reg
 pc := y.pc
 pis := fun i => decide (i < j) && y.pis i
 pwr := fun i => decide (i < j) && (y.pis i && y.pwr i)
 pfr := fun i => if i < j ∧ y.pis i = true then (free.getD (cntIs y i) 0 : Nat) else 0
 fk := fun i => (fds i).1
 fn := fun i => (fds i).2.1
 fp := fun i => (fds i).2.2
 mask := y.mask
 code := 0
 why := 0
 num := 0
def bringD (src : List (List UInt8)) (y : PrT) (next : Int) (n : Nat) (d : MacD) (fds : Nat → Int × Int × Int) : MacD :=
 { d with fr := frK src y (freeP n d.pr) d.fr 16, pr := d.pr ++ [newPr y next (freeP n d.pr) fds 16] }
theorem cntIs_mono (y : PrT) : ∀ {i j : Nat}, i ≤ j → cntIs y i ≤ cntIs y j := by
 intro i j h
 induction h with
 | refl => exact Nat.le_refl _
 | step _ ih => exact Nat.le_trans ih (Nat.le_add_right _ _)
theorem cntIs_lt {y : PrT} {i j : Nat} (h : i < j) (hi : y.pis i = true) : cntIs y i < cntIs y j := by
 have := cntIs_mono y (show i + 1 ≤ j from h)
 rw [cntIs, if_pos hi] at this
 omega
theorem freeP_mem {n : Nat} {l : List PrT} {f : Nat} : f ∈ freeP n l ↔ f < n ∧ usersK l (f : Int) l.length = 0 := by
 unfold freeP
 rw [List.mem_filter, List.mem_range, beq_iff_eq]
theorem freeP_nodup (n : Nat) (l : List PrT) : (freeP n l).Nodup := (List.nodup_range).filter _
theorem getD_inj {l : List Nat} (h : l.Nodup) {a b : Nat} (ha : a < l.length) (hb : b < l.length) (e : l.getD a 0 = l.getD b 0) : a = b := by
 rw [List.getD_eq_getElem?_getD, List.getD_eq_getElem?_getD, List.getElem?_eq_getElem ha, List.getElem?_eq_getElem hb] at e
 exact (List.getElem_inj h).1 e
theorem freeP_at {n : Nat} {l : List PrT} {c : Nat} (h : c < (freeP n l).length) : (freeP n l).getD c 0 < n ∧ usersK l (((freeP n l).getD c 0 : Nat) : Int) l.length = 0 := by
 rw [List.getD_eq_getElem?_getD, List.getElem?_eq_getElem h]
 exact freeP_mem.1 (List.getElem_mem h)
theorem frK_len (src : List (List UInt8)) (y : PrT) (free : List Nat) (fr : List (List UInt8)) : ∀ j, (frK src y free fr j).length = fr.length
 | 0 => rfl
 | j + 1 => by
  rw [frK]
  split
  ·rw [List.length_set]; exact frK_len src y free fr j
  ·exact frK_len src y free fr j
theorem frK_all {src : List (List UInt8)} {y : PrT} {free : List Nat} {fr : List (List UInt8)} (h : ∀ b ∈ fr, b.length = 128) (hs : ∀ b ∈ src, b.length = 128) (hp : ∀ j < 16, y.pis j = true → (y.pfr j).toNat < src.length) : ∀ j, j ≤ 16 → ∀ b ∈ frK src y free fr j, b.length = 128
 | 0, _ => h
 | j + 1, hj => by
  rw [frK]
  split
  ·rename_i c
   intro b hb
   rcases List.mem_or_eq_of_mem_set hb with hb | rfl
   ·exact frK_all h hs hp j (by omega) b hb
   ·have := hp j (by omega) c
    rw [List.getD_eq_getElem?_getD, List.getElem?_eq_getElem this]
    exact hs _ (List.getElem_mem this)
  ·exact frK_all h hs hp j (by omega)
theorem frK_at {src : List (List UInt8)} {y : PrT} {free : List Nat} {fr : List (List UInt8)} (hn : free.Nodup) (hl : cntIs y 16 ≤ free.length) (hr : ∀ f ∈ free, f < fr.length) {i : Nat} (hi : y.pis i = true) : ∀ j, i < j → j ≤ 16 → (frK src y free fr j).getD (free.getD (cntIs y i) 0) [] = src.getD (y.pfr i).toNat []
 | 0, h, _ => absurd h (Nat.not_lt_zero _)
 | j + 1, h, hj => by
  have hci : cntIs y i < free.length := Nat.lt_of_lt_of_le (cntIs_lt (show i < 16 by omega) hi) hl
  have hf : free.getD (cntIs y i) 0 < fr.length := by
   rw [List.getD_eq_getElem?_getD, List.getElem?_eq_getElem hci]
   exact hr _ (List.getElem_mem hci)
  rw [frK]
  by_cases e : i = j
  ·subst e
   rw [if_pos hi, List.getD_eq_getElem?_getD, List.getElem?_set_self (by rw [frK_len]; exact hf)]
   rfl
  ·have ih := frK_at (src := src) hn hl hr hi j (by omega) (by omega)
   split
   ·rename_i c
    have hcj : cntIs y j < free.length := Nat.lt_of_lt_of_le (cntIs_lt (show j < 16 by omega) c) hl
    have hne : free.getD (cntIs y j) 0 ≠ free.getD (cntIs y i) 0 := fun e2 => by
     have := getD_inj hn hcj hci e2
     have := cntIs_lt (show i < j by omega) hi
     omega
    rw [List.getD_eq_getElem?_getD, List.getElem?_set_ne hne, ← List.getD_eq_getElem?_getD]
    exact ih
   ·exact ih
theorem cntFr_new {y : PrT} {next : Int} {free : List Nat} {fds : Nat → Int × Int × Int} (hn : free.Nodup) (hl : cntIs y 16 ≤ free.length) {c : Nat} (hc : c < free.length) : ∀ j, j ≤ 16 → cntFr (newPr y next free fds 16) ((free.getD c 0 : Nat) : Int) j = if c < cntIs y j then 1 else 0
 | 0, _ => by rw [cntFr, cntIs, if_neg (Nat.not_lt_zero _)]
 | j + 1, hj => by
  rw [cntFr, cntIs, cntFr_new (next := next) (fds := fds) hn hl hc j (by omega)]
  have hd : decide (j < 16) = true := decide_eq_true (by omega)
  by_cases h : y.pis j = true
  ·have hcj : cntIs y j < free.length := Nat.lt_of_lt_of_le (cntIs_lt (show j < 16 by omega) h) hl
   rw [if_pos h]
   by_cases e : c = cntIs y j
   ·subst e
    rw [if_neg (Nat.lt_irrefl _), if_pos ⟨by show (decide (j < 16) && y.pis j) = true; rw [hd, h]; rfl, by show (if j < 16 ∧ y.pis j = true then ((free.getD (cntIs y j) 0 : Nat) : Int) else 0) = _; rw [if_pos ⟨by omega, h⟩]⟩, if_pos (Nat.lt_succ_self _)]
   ·have hne : ¬ (newPr y next free fds 16).pfr j = ((free.getD c 0 : Nat) : Int) := by
     show ¬ (if j < 16 ∧ y.pis j = true then ((free.getD (cntIs y j) 0 : Nat) : Int) else 0) = _
     rw [if_pos ⟨by omega, h⟩]
     intro e2
     exact e (getD_inj hn hc hcj (Int.ofNat.inj e2.symm))
    have hn2 : ¬ ((newPr y next free fds 16).pis j = true ∧ (newPr y next free fds 16).pfr j = ((free.getD c 0 : Nat) : Int)) := fun k => hne k.2
    rw [if_neg hn2]
    by_cases e2 : c < cntIs y j
    ·rw [if_pos e2, if_pos (by omega)]
    ·rw [if_neg e2, if_neg (by omega)]
  ·have hn2 : ¬ ((newPr y next free fds 16).pis j = true ∧ (newPr y next free fds 16).pfr j = ((free.getD c 0 : Nat) : Int)) := fun k => h (by
    have k1 : (decide (j < 16) && y.pis j) = true := k.1
    rw [hd] at k1; simpa using k1)
   rw [if_neg h, if_neg hn2]
   rfl
theorem cntFr_pos {y : PrT} {fr : Int} : ∀ {n : Nat}, 0 < cntFr y fr n → ∃ j < n, y.pis j = true ∧ y.pfr j = fr
 | 0, h => by rw [cntFr] at h; exact absurd h (Nat.lt_irrefl _)
 | n + 1, h => by
  rw [cntFr] at h
  by_cases c : y.pis n = true ∧ y.pfr n = fr
  ·exact ⟨n, Nat.lt_succ_self _, c.1, c.2⟩
  ·rw [if_neg c] at h
   obtain ⟨j, hj, h1, h2⟩ := cntFr_pos (n := n) (by omega)
   exact ⟨j, by omega, h1, h2⟩
theorem usersK_app (l : List PrT) (q : PrT) (fr : Int) : ∀ k, k ≤ l.length → usersK (l ++ [q]) fr k = usersK l fr k
 | 0, _ => rfl
 | k + 1, hk => by
  rw [usersK, usersK, usersK_app l q fr k (by omega)]
  have e : (l ++ [q]).getD k default = l.getD k default := by
   rw [List.getD_eq_getElem?_getD, List.getElem?_append_left (by omega), ← List.getD_eq_getElem?_getD]
  rw [e]
theorem usersK_last (l : List PrT) (q : PrT) (fr : Int) : usersK (l ++ [q]) fr (l ++ [q]).length = usersK l fr l.length + cntFr q fr 16 := by
 rw [List.length_append, List.length_singleton, usersK, usersK_app l q fr _ (Nat.le_refl _)]
 have e : (l ++ [q]).getD l.length default = q := by
  rw [List.getD_eq_getElem?_getD, List.getElem?_append_right (Nat.le_refl _), Nat.sub_self]; rfl
 rw [e]
def FdNew (f : Int × Int × Int) : Prop := (f.1 = 0 ∧ f.2.1 = 0 ∧ f.2.2 = 0) ∨ ((f.1 = 1 ∨ f.1 = 2) ∧ f.2.1 = 0 ∧ f.2.2 = 0) ∨ (f.1 = 3 ∧ 1 ≤ f.2.1 ∧ f.2.1 ≤ 64 ∧ 0 ≤ f.2.2 ∧ f.2.2 ≤ 8960)
theorem livingP_some {l : List PrT} {pid : Int} {y : PrT} (h : livingP l pid = some y) : y ∈ l ∧ y.pid = pid ∧ (y.state = 1 ∨ y.state = 2) := by
 unfold livingP at h
 have h1 := List.find?_some h
 have h2 := List.mem_of_find?_eq_some h
 simp only [Bool.and_eq_true, Bool.or_eq_true, beq_iff_eq] at h1
 exact ⟨h2, h1.1, h1.2⟩
theorem StateOk.proc {m : Mac} {d : MacD} (h : StateOk m d) {y : PrT} (hy : y ∈ d.pr) : ProcOk m d y := by
 obtain ⟨i, hi, rfl⟩ := List.getElem_of_mem hy
 exact (h.rest.pr i hi hi).1
theorem bring_ok {m1 m2 z : Mac} {d1 d2 : MacD} (h1 : StateOk m1 d1) (h2 : StateOk m2 d2) (hf1 : m1.fr.n = d1.fr.length) {y : PrT} (hy : y ∈ d1.pr) (hnx : m2.next ≤ 900000000) (hf2 : m2.fr.n = d2.fr.length)
  (hn8 : d2.pr.length < 8) (hc : cntIs y 16 ≤ (freeP m2.fr.n d2.pr).length) {fds : Nat → Int × Int × Int} (hfd : ∀ i < 8, FdNew (fds i))
  (e1 : z.quantum = m2.quantum) (e2 : z.left = m2.left) (e3 : z.cur = m2.cur) (e4 : z.next = m2.next + 1) (e5 : z.newPipe = m2.newPipe) (e6 : z.fr.n = m2.fr.n) (e7 : z.pr.n = d2.pr.length + 1) (e8 : z.pi.n = m2.pi.n) (e9 : z.inn = m2.inn) (e10 : z.init = m2.init) :
  StateOk z (bringD d1.fr y m2.next m2.fr.n d2 fds) := by
 have hp := h1.proc hy
 have hfree := freeP_nodup m2.fr.n d2.pr
 have hold : ∀ (k : Nat) (hk : k < d2.pr.length) (j : Nat), j < 16 → (d2.pr[k]).pis j = true → cntFr (newPr y m2.next (freeP m2.fr.n d2.pr) fds 16) ((d2.pr[k]).pfr j) 16 = 0 := by
  intro k hk j hj hpi
  rcases Nat.eq_zero_or_pos (cntFr (newPr y m2.next (freeP m2.fr.n d2.pr) fds 16) ((d2.pr[k]).pfr j) 16) with h | h
  ·exact h
  ·exfalso
   obtain ⟨i, hi, h3, h4⟩ := cntFr_pos h
   have h5 : y.pis i = true := by
    have h3' : (decide (i < 16) && y.pis i) = true := h3
    rw [decide_eq_true hi] at h3'
    simpa using h3'
   have h6 : ((freeP m2.fr.n d2.pr).getD (cntIs y i) 0 : Int) = (d2.pr[k]).pfr j := by
    have h4' : (if i < 16 ∧ y.pis i = true then (((freeP m2.fr.n d2.pr).getD (cntIs y i) 0 : Nat) : Int) else 0) = (d2.pr[k]).pfr j := h4
    rw [if_pos ⟨hi, h5⟩] at h4'
    exact h4'
   have h7 := (freeP_at (n := m2.fr.n) (l := d2.pr) (Nat.lt_of_lt_of_le (cntIs_lt hi h5) hc)).2
   rw [h6] at h7
   have h8 := ((h2.rest.pr k hk hk).1.page j hj)
   rcases h8 with ⟨h9, _⟩ | ⟨_, _, _, _, h9⟩
   ·rw [hpi] at h9; cases h9
   ·omega
 have hlives : ∀ pid, LivesP d2.pr pid → LivesP (d2.pr ++ [newPr y m2.next (freeP m2.fr.n d2.pr) fds 16]) pid := fun pid ⟨q, hq, h⟩ => ⟨q, List.mem_append_left _ hq, h⟩
 refine ⟨⟨⟨?_, ?_, ?_, ?_, ?_⟩, ?_, ?_, ?_, ?_, ?_, ?_, ?_⟩, ?_⟩
 ·rw [e1]; exact h2.rest.nums.quantum
 ·rw [e1, e2]; exact h2.rest.nums.left
 ·rw [e3]; exact h2.rest.nums.cur
 ·rw [e4]; have := h2.rest.nums.next; omega
 ·rw [e5]; exact h2.rest.nums.newPipe
 ·rw [e6]; exact h2.rest.frn
 ·refine frK_all h2.rest.fr h1.rest.fr (fun j hj hpi => ?_) 16 (Nat.le_refl _)
  rcases hp.page j hj with ⟨h9, _⟩ | ⟨_, _, h9, h10, _⟩
  ·rw [hpi] at h9; cases h9
  ·omega
 ·rw [e7]; omega
 ·intro i hi _
  have hi2 : i < d2.pr.length + 1 := by
   have := hi
   simp only [bringD, List.length_append, List.length_singleton] at this
   exact this
  by_cases hk : i < d2.pr.length
  ·have ei : (bringD d1.fr y m2.next m2.fr.n d2 fds).pr[i] = d2.pr[i] := by
    simp only [bringD]
    rw [List.getElem_append_left hk]
   rw [ei]
   obtain ⟨a, b⟩ := h2.rest.pr i hk hk
   refine ⟨⟨?_, a.state, a.reg, ?_, a.why, a.code, fun j hj => ?_, a.fd⟩, fun h0 => ?_⟩
   ·rw [e4]; have := a.pid; omega
   ·exact a.par.elim (fun h => .inl (hlives _ h)) .inr
   ·rcases a.page j hj with h | ⟨c1, c2, c3, c4, c5⟩
    ·exact .inl h
    ·refine .inr ⟨c1, c2, c3, by rw [e6]; exact c4, ?_⟩
     simp only [bringD]
     rw [usersK_last, hold i hk j hj c1, c5]
   ·have e0 : (bringD d1.fr y m2.next m2.fr.n d2 fds).pr[i - 1]'(by omega) = d2.pr[i - 1]'(by omega) := by
     simp only [bringD]
     rw [List.getElem_append_left (by omega)]
    rw [e0]
    exact b h0
  ·obtain rfl : i = d2.pr.length := by omega
   have ei : (bringD d1.fr y m2.next m2.fr.n d2 fds).pr[d2.pr.length] = newPr y m2.next (freeP m2.fr.n d2.pr) fds 16 := by
    simp only [bringD]
    rw [List.getElem_append_right (Nat.le_refl _)]
    simp
   rw [ei]
   have hnn := h2.rest.nums.next
   refine ⟨⟨⟨by show 1 ≤ m2.next; omega, by rw [e4]; show m2.next < m2.next + 1; omega⟩, .inl rfl, hp.reg, .inr ⟨by show (1 : Int) ≠ 3; omega, rfl⟩, .inr ⟨by show (1 : Int) ≠ 2; omega, rfl, rfl⟩, .inr rfl, fun j hj => ?_, fun j hj => ⟨?_, fun h => by have h' : (1 : Int) = 3 := h; omega⟩⟩, fun h0 => ?_⟩
   ·by_cases hpi : y.pis j = true
    ·have hcl := Nat.lt_of_lt_of_le (cntIs_lt hj hpi) hc
     have hfa := freeP_at (n := m2.fr.n) (l := d2.pr) hcl
     have epf : (newPr y m2.next (freeP m2.fr.n d2.pr) fds 16).pfr j = (((freeP m2.fr.n d2.pr).getD (cntIs y j) 0 : Nat) : Int) := by
      show (if j < 16 ∧ y.pis j = true then (((freeP m2.fr.n d2.pr).getD (cntIs y j) 0 : Nat) : Int) else 0) = _
      rw [if_pos ⟨hj, hpi⟩]
     refine .inr ⟨by show (decide (j < 16) && y.pis j) = true; rw [decide_eq_true hj, hpi]; rfl, by show (1 : Int) ≠ 3; omega, by rw [epf]; omega, by rw [epf, e6]; have := hfa.1; omega, ?_⟩
     rw [epf]
     simp only [bringD]
     rw [usersK_last, hfa.2, cntFr_new hfree hc hcl 16 (Nat.le_refl _), if_pos (cntIs_lt hj hpi)]
    ·have hpf : y.pis j = false := by simpa using hpi
     refine .inl ⟨?_, ?_, ?_⟩
     ·show (decide (j < 16) && y.pis j) = false
      rw [hpf, Bool.and_false]
     ·show (decide (j < 16) && (y.pis j && y.pwr j)) = false
      rw [hpf, Bool.false_and, Bool.and_false]
     ·show (if j < 16 ∧ y.pis j = true then (((freeP m2.fr.n d2.pr).getD (cntIs y j) 0 : Nat) : Int) else 0) = 0
      rw [if_neg (fun h => hpi h.2)]
   ·have := hfd j hj
    show FdP d2.pi (fds j).1 (fds j).2.1 (fds j).2.2
    rcases this with ⟨a, b, c⟩ | ⟨a, b, c⟩ | h
    ·exact .inl ⟨.inl a, b, c⟩
    ·exact .inl ⟨.inr a, b, c⟩
    ·exact .inr (.inl h)
   ·have e0 : (bringD d1.fr y m2.next m2.fr.n d2 fds).pr[d2.pr.length - 1]'(by omega) = d2.pr[d2.pr.length - 1]'(by omega) := by
     simp only [bringD]
     rw [List.getElem_append_left (by omega)]
    rw [e0]
    exact (h2.rest.pr (d2.pr.length - 1) (by omega) (by omega)).1.pid.2
 ·rw [e8]; exact h2.rest.pin
 ·intro i hi hk
  rw [e5]
  exact h2.rest.pi i hi hk
 ·rw [e9, e10]; exact h2.rest.texts
 ·exact h2.disk
theorem bring_living {m2 : Mac} {d2 : MacD} (h2 : StateOk m2 d2) (src : List (List UInt8)) (y : PrT) (fds : Nat → Int × Int × Int) :
  livingP (bringD src y m2.next m2.fr.n d2 fds).pr m2.next = some (newPr y m2.next (freeP m2.fr.n d2.pr) fds 16) := by
 unfold livingP bringD
 simp only
 rw [List.find?_append]
 have h : d2.pr.find? (fun p => p.pid == m2.next && (p.state == 1 || p.state == 2)) = none := by
  rw [List.find?_eq_none]
  intro p hp h
  simp only [Bool.and_eq_true, beq_iff_eq] at h
  have := (h2.proc hp).pid
  omega
 rw [h]
 simp [newPr]
theorem bring_fit {m1 m2 z : Mac} {d1 d2 : MacD} (f1 : MacFit m1 d1) (f2 : MacFit m2 d2) {y : PrT} (hy : y ∈ d1.pr) (n : Nat) (fds : Nat → Int × Int × Int) (e1 : z.clock = m2.clock) (e2 : z.told = m2.told) (e3 : z.dleft = m2.dleft) (e4 : z.cur = m2.cur) :
  MacFit z (bringD d1.fr y m2.next n d2 fds) := by
 refine ⟨by rw [e1]; exact f2.clock, by rw [e2]; exact f2.told, by rw [e3]; exact f2.dleft, by rw [e4]; exact f2.cur, fun q hq => ?_⟩
 rcases List.mem_append.1 hq with hq | hq
 ·exact f2.pr q hq
 ·rw [List.mem_singleton.1 hq]
  obtain ⟨a, b, _, _⟩ := f1.pr y hy
  exact ⟨a, b, ⟨Int.le_refl _, by show (0 : Int) < 4294967296; omega⟩, ⟨Int.le_refl _, by show (0 : Int) < 18446744073709551616; omega⟩⟩
end Go.Proofs.YtfaplefkakpgcaaGreatDoor
/- state.Check on a machine that may be: what it asks of a process and of an open file. -/
namespace Go.Proofs.YtfaplefkakpgcaaGreatDoor
set_option linter.unusedVariables false
set_option linter.unusedSimpArgs false
open Go.RowKit
section
variable {ops : Array Oper} {rest : List Oper} {o : Oper} {a : Act} {w : World} {Q : Exit → Act → World → Prop}
theorem pr_range1 {w : World} {g : Nat} {t : TypeId} {p : PrT} (h : Box w g t (prL p).toArray) : w.rangeAt g 0 (prL p) := fun j v hj => by
 rw [Nat.zero_add]; exact (h.cell j).trans (by rw [← hj]; simp)
theorem wp_ld_pr_g (x : Operand) (hw : Region.wanted o (yielded ops a.tmps) = true) (ho : o.op = .load 57 x) (g : Nat) (p : PrT) (t : TypeId) (hx : a.eval x = .pointer (some ⟨g, 0, none⟩))
  (hb : Box w g t (prL p).toArray) (hK : wpList Tryz.prog ops Q rest (a.put o.dst (.agg (prL p).toArray)) w) : wpList Tryz.prog ops Q (o :: rest) a w := by
 unfold wpList
 rw [if_pos hw]
 exact .inl (wp_load_mid _ x ho g 0 hx _ _ (pr_range1 hb) Tryz.underlying57 rfl (by rw [prL_len]; exact prSize) hK)
end
set_option maxHeartbeats 400000 in
set_option maxRecDepth 100000 in
theorem stlives_any (y : PrT) (w : World) :
  Calls Tryz.prog 158 #[.agg (prL y).toArray] w fun e w' => e = .returned (.bool (y.state == 1 || y.state == 2)) ∧ Ext w w' := by
 have b0 := Box.new w 57 (prL y).toArray
 have x0 := (Ext.refl w).alloc (.cells (prL y).toArray 57)
 go_enter Tryz.func158, Tryz.ntmps158
 go_upto_region 1 with fail
 generalize w.alloc (.cells (prL y).toArray 57) = w1 at *
 have c2 : w1.cell? ⟨w.heap.size, 2, none⟩ = some (.int .i64 y.state) := b0.cell 2
 clear b0
 rcases Bool.eq_false_or_eq_true (y.state == 1) with h1 | h1 <;> rcases Bool.eq_false_or_eq_true (y.state == 2) with h2 | h2 <;> go_wp2_with fail
 all_goals
  go_ret
  exact ⟨by rw [h1, h2]; rfl, x0⟩
set_option maxHeartbeats 1000000 in
set_option maxRecDepth 100000 in
theorem fields_ok (m : Mac) (d : MacD) (y : PrT) (w : World) (h : ProcOk m d y) :
  Calls Tryz.prog 90 #[.agg (prL y).toArray] w fun e w' => e = .returned (.bool true) ∧ Ext w w' := by
 have HL := Lib.hid (fun w => stlives_any y w)
 have b0 := Box.new w 57 (prL y).toArray
 have x0 := (Ext.refl w).alloc (.cells (prL y).toArray 57)
 have hreg := h.reg
 have hst := h.state
 have hwhy := h.why
 have hcode := h.code
 clear h
 go_enter Tryz.func90, Tryz.ntmps90
 go_upto_region 1 with fail
 generalize w.alloc (.cells (prL y).toArray 57) = w1 at *
 generalize w.heap.size = G at *
 have cf : ∀ wx, Ext w1 wx → wx.cell? ⟨G, 2, none⟩ = some (.int .i64 y.state) ∧ wx.cell? ⟨G, 3, none⟩ = some (.int .u32 0) ∧ wx.cell? ⟨G, 93, none⟩ = some (.int .u32 y.code) ∧ wx.cell? ⟨G, 94, none⟩ = some (.int .i64 y.why) ∧ wx.cell? ⟨G, 95, none⟩ = some (.int .u64 y.num) := fun wx x =>
  ⟨(b0.ext x).cell 2, by rw [← hreg]; exact (b0.ext x).cell 3, (b0.ext x).cell 93, (b0.ext x).cell 94, (b0.ext x).cell 95⟩
 have CF := Lib.hid cf
 clear cf hreg
 have HL2 := HL.out
 generalize y.state = s at *
 have HLs := Lib.hid HL2
 clear HL HL2
 generalize y.why = wy at *
 generalize y.num = nm at *
 generalize y.code = cd at *
 rcases hst with rfl | rfl | rfl
 ·obtain ⟨rfl, rfl⟩ : wy = 0 ∧ nm = 0 := by omega
  obtain rfl : cd = 0 := by omega
  clear hwhy hcode
  go_wp2_with (first
   | (refine wp_ld_pr (.tmp 1) rfl rfl G 0 y rfl (pr_range1 b0) ?_)
   | (go_at_call 158; refine (HLs.out _).mono ?_; rintro e w2 ⟨rfl, x2⟩; obtain ⟨c2, c3, c93, c94, c95⟩ := CF.out _ x2))
  go_ret
  exact ⟨rfl, x0.trans x2⟩
 ·obtain ⟨hw1, hw2⟩ : 1 ≤ wy ∧ wy ≤ 5 := by omega
  have e1 : decide (wy < 1) = false := by simp; omega
  have e2 : decide (5 < wy) = false := by simp; omega
  obtain rfl : cd = 0 := by omega
  clear hwhy hcode
  go_wp2_with (first
   | (refine wp_ld_pr (.tmp 1) rfl rfl G 0 y rfl (pr_range1 b0) ?_)
   | (go_at_call 158; refine (HLs.out _).mono ?_; rintro e w2 ⟨rfl, x2⟩; obtain ⟨c2, c3, c93, c94, c95⟩ := CF.out _ x2))
  go_ret
  exact ⟨rfl, x0.trans x2⟩
 ·obtain ⟨rfl, rfl⟩ : wy = 0 ∧ nm = 0 := by omega
  clear hwhy hcode
  go_wp2_with (first
   | (refine wp_ld_pr (.tmp 1) rfl rfl G 0 y rfl (pr_range1 b0) ?_)
   | (go_at_call 158; refine (HLs.out _).mono ?_; rintro e w2 ⟨rfl, x2⟩; obtain ⟨c2, c3, c93, c94, c95⟩ := CF.out _ x2))
  go_ret
  exact ⟨rfl, x0.trans x2⟩
set_option maxHeartbeats 400000 in
set_option maxRecDepth 100000 in
theorem place1_any (i : Int) (s : ByteArray) (g : Nat) (id : Int) (w : World) (h : Box w g 3 #[.int .i64 id]) :
  Calls Tryz.prog 208 #[.agg #[.int .i64 i, .string s], .pointer (some ⟨g, 0, none⟩)] w fun e w' => e = .returned (.bool (i == id)) ∧ Ext w w' := by
 have x0 := (Ext.refl w).alloc (.cells #[.int .i64 i, .string s] 95)
 have c0 : (w.alloc (.cells #[.int .i64 i, .string s] 95)).cell? ⟨g, 0, none⟩ = some (.int .i64 id) := (h.ext x0).cell 0
 clear h
 go_enter Tryz.func208, Tryz.ntmps208
 go_wp2_with fail
 go_ret
 exact ⟨rfl, x0⟩
set_option maxHeartbeats 1000000 in
set_option maxRecDepth 100000 in
theorem pidx_yes (A : Option Addr) (n c : Nat) (l : List WrT) (g : Nat) (id : Int) (w : World) (hv : Wrs w A n l) (hn : n ≤ 4000) (hb : Box w g 3 #[.int .i64 id]) (hy : ∃ y ∈ l, y.1 = id) :
  Calls Tryz.prog 207 #[.slice A n c, .func (.func 208) #[] #[.pointer (some ⟨g, 0, none⟩)]] w fun e w' => (∃ k : Nat, k ≤ 4000 ∧ e = .returned (.int .i64 k)) ∧ Ext w w' := by
 have HP := Lib.hid (fun i s w h => place1_any i s g id w h)
 obtain ⟨rfl, hv2⟩ := hv
 have HY := Lib.hid hy
 clear hy
 go_enter Tryz.func207, Tryz.ntmps207
 go_wp2_with fail
 go_loopw [8] (fun i wx => ∃ k : Nat, k ≤ l.length ∧ i = .int .i64 k ∧ Ext w wx ∧ ∀ (j : Nat) (h : j < l.length), j < k → l[j].1 ≠ id) (fun i _ => l.length - (intOf i).toNat)
 case atStart => exact ⟨0, by omega, rfl, Ext.refl _, fun j h hk => by omega⟩
 case round =>
  obtain ⟨k, hk, rfl, xk, hno⟩ := hrel
  have HNO := Lib.hid hno
  clear hno
  by_cases hlt : k < l.length
  ·obtain ⟨b, o, rfl, hcell⟩ := hv2 (by omega)
   have e1 := xk.keep (hcell k hlt).1
   have e2 := xk.keep (hcell k hlt).2
   have hki : (k : Int) < (l.length : Int) := by omega
   have hbk := hb.ext xk
   have HD := Lib.hid (fun (h : l[k].1 ≠ id) => show ∀ (j : Nat) (h : j < l.length), j < k + 1 → l[j].1 ≠ id from fun j hj hjk => by
    by_cases e : j < k
    ·exact HNO.out j hj e
    ·obtain rfl : j = k := by omega
     exact h)
   generalize l[k] = y at *
   clear hcell
   rcases Bool.eq_false_or_eq_true (y.1 == id) with hd | hd
   ·go_wp2_with (go_at_call 208; refine (HP.out _ _ _ hbk).mono ?_; rintro e w2 ⟨rfl, x2⟩)
    go_ret
    exact ⟨⟨k, by omega, rfl⟩, xk.trans x2⟩
   ·go_wp2_with (go_at_call 208; refine (HP.out _ _ _ hbk).mono ?_; rintro e w2 ⟨rfl, x2⟩)
    go_roundw
    case rel => exact ⟨k + 1, by omega, by go_num, xk.trans x2, HD.out (by simpa using hd)⟩
    case measure => simp [intOf]; omega
  ·exfalso
   obtain ⟨y, hy, he⟩ := HY.out
   obtain ⟨j, hj, rfl⟩ := List.getElem_of_mem hy
   exact HNO.out j hj (by omega) he
set_option maxHeartbeats 1000000 in
set_option maxRecDepth 100000 in
theorem place_yes (m : Mac) (d : MacD) (id : Int) (w : World) (h : MacIn w m d) (hn : m.pi.n ≤ 4000) (hy : ∃ y ∈ d.pi, y.1 = id) :
  Calls Tryz.prog 161 #[.agg m.cells, .int .i64 id] w fun e w' => (∃ k : Nat, k ≤ 4000 ∧ e = .returned (.int .i64 k)) ∧ Ext w w' := by
 have hmf : ∀ (fn : Fn) (first cap : Array Value) (w : World), (Instr.makeFunc fn first cap).run Tryz.prog w = .ok (.func fn first cap) w := fun _ _ _ _ => rfl
 have x1 : Ext w (w.alloc (.cells m.cells 38)) := (Ext.refl _).alloc _
 have x2 := x1.alloc (.cells #[.int .i64 id] 3)
 have ba := (Box.new w 38 m.cells).ext ((Ext.refl _).alloc (.cells #[.int .i64 id] 3))
 have bi := Box.new (w.alloc (.cells m.cells 38)) 3 #[.int .i64 id]
 rw [World.size_alloc] at bi
 have q8 : ((w.alloc (.cells m.cells 38)).alloc (.cells #[.int .i64 id] 3)).cell? ⟨w.heap.size, 8, none⟩ = some (.slice m.pi.A m.pi.n m.pi.c) := ba.cell 8
 have HV := Lib.hid (h.pi.wrs.ext x2)
 have HP := Lib.hid (fun wx h1 h2 => pidx_yes m.pi.A m.pi.n m.pi.c d.pi (w.heap.size + 1) id wx h1 hn h2 hy)
 clear h hy x1
 go_enter Tryz.func161, Tryz.ntmps161
 go_upto_region 1 with fail
 generalize (w.alloc (.cells m.cells 38)).alloc (.cells #[.int .i64 id] 3) = w2 at *
 generalize w.heap.size = G at *
 go_wp2_with (go_at_call 207; refine (HP.out _ HV.out bi).mono ?_; rintro e w3 ⟨⟨k, hk, rfl⟩, x3⟩)
 go_ret
 exact ⟨⟨k, hk, rfl⟩, x2.trans x3⟩
end Go.Proofs.YtfaplefkakpgcaaGreatDoor
/- state.Check on a machine that may be: parents, open files, numbers, frames, pipes, texts. -/
namespace Go.Proofs.YtfaplefkakpgcaaGreatDoor
set_option linter.unusedVariables false
set_option linter.unusedSimpArgs false
open Go.RowKit
set_option maxHeartbeats 1000000 in
set_option maxRecDepth 100000 in
theorem parent1_any (q y : PrT) (g : Nat) (w : World) (h : Box w g 57 (prL y).toArray) :
  Calls Tryz.prog 160 #[.agg (prL q).toArray, .pointer (some ⟨g, 0, none⟩)] w fun e w' => e = .returned (.bool (q.pid == y.parent && (q.state == 1 || q.state == 2))) ∧ Ext w w' := by
 have HL := Lib.hid (fun w => stlives_any q w)
 have b0 := Box.new w 57 (prL q).toArray
 have x0 := (Ext.refl w).alloc (.cells (prL q).toArray 57)
 have c1 : (w.alloc (.cells (prL q).toArray 57)).cell? ⟨g, 1, none⟩ = some (.int .i64 y.parent) := (h.ext x0).cell 1
 clear h
 go_enter Tryz.func160, Tryz.ntmps160
 go_upto_region 1 with fail
 generalize w.alloc (.cells (prL q).toArray 57) = w1 at *
 have c0 : w1.cell? ⟨w.heap.size, 0, none⟩ = some (.int .i64 q.pid) := b0.cell 0
 rcases Bool.eq_false_or_eq_true (q.pid == y.parent) with h1 | h1
 ·go_wp2_with (first
   | (refine wp_ld_pr_g (.tmp 2) rfl rfl w.heap.size q 57 rfl b0 ?_)
   | (go_at_call 158; refine (HL.out _).mono ?_; rintro e w2 ⟨rfl, x2⟩))
  go_ret
  exact ⟨by rw [h1]; rfl, x0.trans x2⟩
 ·go_wp2_with fail
  go_ret
  exact ⟨by rw [h1]; rfl, x0⟩
set_option maxHeartbeats 1000000 in
set_option maxRecDepth 100000 in
theorem pridx_yes (A : Option Addr) (n c : Nat) (l : List PrT) (g : Nat) (p : PrT) (w : World) (hv : RowOf prL w A n l) (hn : n ≤ 4000) (hb : Box w g 57 (prL p).toArray) (hy : LivesP l p.parent) :
  Calls Tryz.prog 206 #[.slice A n c, .func (.func 160) #[] #[.pointer (some ⟨g, 0, none⟩)]] w fun e w' => (∃ k : Nat, k ≤ 4000 ∧ e = .returned (.int .i64 k)) ∧ Ext w w' := by
 have HP := Lib.hid (fun q w h => parent1_any q p g w h)
 obtain ⟨rfl, hv2⟩ := hv
 have HY := Lib.hid hy
 clear hy
 go_enter Tryz.func206, Tryz.ntmps206
 go_wp2_with fail
 go_loopw [8] (fun i wx => ∃ k : Nat, k ≤ l.length ∧ i = .int .i64 k ∧ Ext w wx ∧ ∀ (j : Nat) (h : j < l.length), j < k → ¬ (l[j].pid = p.parent ∧ (l[j].state = 1 ∨ l[j].state = 2))) (fun i _ => l.length - (intOf i).toNat)
 case atStart => exact ⟨0, by omega, rfl, Ext.refl _, fun j h hk => by omega⟩
 case round =>
  obtain ⟨k, hk, rfl, xk, hno⟩ := hrel
  have HNO := Lib.hid hno
  clear hno
  by_cases hlt : k < l.length
  ·obtain ⟨b, o, rfl, hcell⟩ := hv2 (by omega)
   have r1 := range_ext (pr_range hcell hlt) xk
   have hki : (k : Int) < (l.length : Int) := by omega
   have hbk := hb.ext xk
   have HD := Lib.hid (fun (h : ¬ (l[k].pid = p.parent ∧ (l[k].state = 1 ∨ l[k].state = 2))) => show ∀ (j : Nat) (h : j < l.length), j < k + 1 → ¬ (l[j].pid = p.parent ∧ (l[j].state = 1 ∨ l[j].state = 2)) from fun j hj hjk => by
    by_cases e : j < k
    ·exact HNO.out j hj e
    ·obtain rfl : j = k := by omega
     exact h)
   generalize l[k] = y at *
   clear hcell
   rcases Bool.eq_false_or_eq_true (y.pid == p.parent && (y.state == 1 || y.state == 2)) with hd | hd
   ·go_wp2_with (first
     | (refine wp_ld_pr (.tmp 14) rfl rfl b (o + k * 96) y rfl r1 ?_)
     | (go_at_call 160; refine (HP.out _ _ hbk).mono ?_; rintro e w2 ⟨rfl, x2⟩))
    go_ret
    exact ⟨⟨k, by omega, rfl⟩, xk.trans x2⟩
   ·go_wp2_with (first
     | (refine wp_ld_pr (.tmp 14) rfl rfl b (o + k * 96) y rfl r1 ?_)
     | (go_at_call 160; refine (HP.out _ _ hbk).mono ?_; rintro e w2 ⟨rfl, x2⟩))
    go_roundw
    case rel => exact ⟨k + 1, by omega, by go_num, xk.trans x2, HD.out (by
     rintro ⟨h1, h2⟩
     rw [show (y.pid == p.parent) = true by simpa using h1, Bool.true_and] at hd
     rcases h2 with h2 | h2 <;> simp [h2] at hd)⟩
    case measure => simp [intOf]; omega
  ·exfalso
   obtain ⟨y, hy, he⟩ := HY.out
   obtain ⟨j, hj, rfl⟩ := List.getElem_of_mem hy
   exact HNO.out j hj (by omega) he
set_option maxHeartbeats 1000000 in
set_option maxRecDepth 100000 in
theorem prcont_yes (A : Option Addr) (n c : Nat) (l : List PrT) (g : Nat) (p : PrT) (w : World) (hv : RowOf prL w A n l) (hn : n ≤ 4000) (hb : Box w g 57 (prL p).toArray) (hy : LivesP l p.parent) :
  Calls Tryz.prog 159 #[.slice A n c, .func (.func 160) #[] #[.pointer (some ⟨g, 0, none⟩)]] w fun e w' => e = .returned (.bool true) ∧ Ext w w' := by
 have HP := Lib.hid (fun w h1 h2 => pridx_yes A n c l g p w h1 hn h2 hy)
 go_enter Tryz.func159, Tryz.ntmps159
 have d : ∀ k : Nat, decide ((0 : Int) ≤ (k : Int)) = true := fun k => by simp
 go_wp2_with (go_at_call 206; refine (HP.out _ hv hb).mono ?_; rintro e w2 ⟨⟨k, hk, rfl⟩, x2⟩)
 go_ret
 exact ⟨rfl, x2⟩
set_option maxHeartbeats 1000000 in
set_option maxRecDepth 100000 in
theorem parent_ok' (m : Mac) (d : MacD) (y : PrT) (w : World) (hi : MacIn w m d) (hn : m.pr.n ≤ 4000) (hst : y.state = 1 ∨ y.state = 2 ∨ y.state = 3) (hpar : LivesP d.pr y.parent ∨ (y.state ≠ 3 ∧ y.parent = 0)) :
  Calls Tryz.prog 91 #[.agg m.cells, .agg (prL y).toArray] w fun e w' => e = .returned (.bool true) ∧ Ext w w' := by
 have hmf : ∀ (fn : Fn) (first cap : Array Value) (w : World), (Instr.makeFunc fn first cap).run Tryz.prog w = .ok (.func fn first cap) w := fun _ _ _ _ => rfl
 have HL := Lib.hid (fun w => stlives_any y w)
 have x0 := ((Ext.refl w).alloc (.cells m.cells 38)).alloc (.cells (prL y).toArray 57)
 have bm := (Box.new w 38 m.cells).ext ((Ext.refl _).alloc (.cells (prL y).toArray 57))
 have bp := Box.new (w.alloc (.cells m.cells 38)) 57 (prL y).toArray
 rw [World.size_alloc] at bp
 have HR := Lib.hid (hi.pr.ext x0)
 clear hi
 go_enter Tryz.func91, Tryz.ntmps91
 go_upto_region 1 with fail
 generalize (w.alloc (.cells m.cells 38)).alloc (.cells (prL y).toArray 57) = w1 at *
 generalize w.heap.size = G at *
 have c1 : w1.cell? ⟨G + 1, 1, none⟩ = some (.int .i64 y.parent) := bp.cell 1
 have HC := Lib.hid (fun w h1 h2 hy => prcont_yes m.pr.A m.pr.n m.pr.c d.pr (G + 1) y w h1 hn h2 hy)
 have q5 : ∀ wx, Ext w1 wx → wx.cell? ⟨G, 5, none⟩ = some (.slice m.pr.A m.pr.n m.pr.c) := fun wx x => (bm.ext x).cell 5
 have HQ := Lib.hid q5
 clear q5
 have hcase : (y.parent = 0 ∧ (y.state == 1 || y.state == 2) = true) ∨ (LivesP d.pr y.parent ∧ (y.parent ≠ 0 ∨ (y.state == 1 || y.state == 2) = false)) := by
  by_cases e : y.parent = 0 ∧ (y.state == 1 || y.state == 2) = true
  ·exact .inl e
  ·refine .inr ⟨?_, ?_⟩
   ·rcases hpar with h | ⟨h1, h2⟩
    ·exact h
    ·refine absurd ⟨h2, ?_⟩ e
     rcases hst with h | h | h
     ·simp [h]
     ·simp [h]
     ·exact absurd h h1
   ·by_cases e0 : y.parent = 0
    ·right; simpa [e0] using e
    ·exact .inl e0
 clear hst hpar
 rcases hcase with ⟨h1, h2⟩ | ⟨h1, h2⟩
 ·have e1 : (y.parent == 0) = true := by simpa using h1
  clear h1
  go_wp2_with (first
   | (refine wp_ld_pr_g (.tmp 3) rfl rfl (G + 1) y 57 rfl bp ?_)
   | (go_at_call 158; refine (HL.out _).mono ?_; rintro e w2 ⟨rfl, x2⟩))
  go_ret
  exact ⟨rfl, x0.trans x2⟩
 ·have HY := Lib.hid h1
  clear h1
  rcases Bool.eq_false_or_eq_true (y.parent == 0) with e1 | e1
  ·have h3 : (y.state == 1 || y.state == 2) = false := by
    rcases h2 with h2 | h2
    ·exact absurd (by simpa using e1) h2
    ·exact h2
   clear h2
   go_wp2_with (first
    | (refine wp_ld_pr_g (.tmp 3) rfl rfl (G + 1) y 57 rfl bp ?_)
    | (go_at_call 158; refine (HL.out _).mono ?_; rintro e w2 ⟨rfl, x2⟩; have q5 := HQ.out _ x2)
    | (go_at_call 159; refine (HC.out _ (HR.out.ext x2) (bp.ext x2) HY.out).mono ?_; rintro e w3 ⟨rfl, x3⟩))
   go_ret
   exact ⟨rfl, (x0.trans x2).trans x3⟩
  ·clear h2
   have q5 := HQ.out _ (Ext.refl _)
   go_wp2_with (first
    | (go_at_call 159; refine (HC.out _ HR.out bp HY.out).mono ?_; rintro e w3 ⟨rfl, x3⟩))
   go_ret
   exact ⟨rfl, x0.trans x3⟩
theorem parent_ok (m : Mac) (d : MacD) (y : PrT) (w : World) (hi : MacIn w m d) (hn : m.pr.n ≤ 4000) (h : ProcOk m d y) :
  Calls Tryz.prog 91 #[.agg m.cells, .agg (prL y).toArray] w fun e w' => e = .returned (.bool true) ∧ Ext w w' := parent_ok' m d y w hi hn h.state h.par
set_option maxHeartbeats 1000000 in
set_option maxRecDepth 100000 in
theorem file_ok (m : Mac) (d : MacD) (k n p : Int) (w : World) (hi : MacIn w m d) (hn : m.pi.n ≤ 4000) (h : FdP d.pi k n p) (h0 : k ≠ 0) :
  Calls Tryz.prog 92 #[.agg m.cells, .agg #[.int .i64 k, .int .i64 n, .int .i64 p]] w fun e w' => e = .returned (.bool true) ∧ Ext w w' := by
 have HP := Lib.hid (fun id w h hy => place_yes m d id w h hn hy)
 have x0 := ((Ext.refl w).alloc (.cells m.cells 38)).alloc (.cells #[.int .i64 k, .int .i64 n, .int .i64 p] 54)
 have bm := (Box.new w 38 m.cells).ext ((Ext.refl _).alloc (.cells #[.int .i64 k, .int .i64 n, .int .i64 p] 54))
 have HM := Lib.hid (hi.ext x0)
 clear hi
 have dk : ∀ k : Nat, decide ((0 : Int) ≤ (k : Int)) = true := fun k => by simp
 go_enter Tryz.func92, Tryz.ntmps92
 rcases h with ⟨h1, rfl, rfl⟩ | ⟨rfl, h1, h2, h3, h4⟩ | ⟨h1, rfl, hy⟩
 ·rcases h1 with rfl | rfl | rfl
  ·exact absurd rfl h0
  ·go_wp2_with fail
   go_ret
   exact ⟨rfl, x0⟩
  ·go_wp2_with fail
   go_ret
   exact ⟨rfl, x0⟩
 ·have e1 : decide (1 ≤ n) = true := decide_eq_true h1
  have e2 : decide (n ≤ 64) = true := decide_eq_true h2
  have e3 : decide (0 ≤ p) = true := decide_eq_true h3
  have e4 : decide (p ≤ 8960) = true := decide_eq_true h4
  clear h1 h2 h3 h4
  go_wp2_with fail
  go_ret
  exact ⟨rfl, x0⟩
 ·have HY := Lib.hid hy
  clear hy
  rcases h1 with rfl | rfl <;> go_wp2_with (first
   | (refine wp_ld_mac_g (.tmp 2) rfl rfl w.heap.size m 38 rfl bm ?_)
   | (go_at_call 161; refine (HP.out _ _ HM.out HY.out).mono ?_; rintro e w2 ⟨⟨q, hq, rfl⟩, x2⟩))
  all_goals
   go_ret
   exact ⟨rfl, x0.trans x2⟩
end Go.Proofs.YtfaplefkakpgcaaGreatDoor
/- Plain: why a machine may not be: the error, point by point. -/
namespace Go.Proofs.YtfaplefkakpgcaaGreatDoor
set_option linter.unusedVariables false
set_option linter.unusedSimpArgs false
def FieldsP (y : PrT) : Prop := (y.state = 1 ∨ y.state = 2 ∨ y.state = 3) ∧ y.reg 0 = 0 ∧ ((y.state = 2 ∧ 1 ≤ y.why ∧ y.why ≤ 5) ∨ (y.state ≠ 2 ∧ y.why = 0 ∧ y.num = 0)) ∧ (y.state = 3 ∨ y.code = 0)
def ParP (d : MacD) (y : PrT) : Prop := LivesP d.pr y.parent ∨ (y.state ≠ 3 ∧ y.parent = 0)
def PageW (m : Mac) (y : PrT) (j : Nat) : Prop :=
 (y.pis j = false ∧ y.pwr j = false ∧ y.pfr j = 0) ∨ (y.pis j = true ∧ y.state ≠ 3 ∧ 0 ≤ y.pfr j ∧ y.pfr j < (m.fr.n : Int))
def FdW (d : MacD) (y : PrT) (j : Nat) : Prop := FdP d.pi (y.fk j) (y.fn j) (y.fp j) ∧ (y.state = 3 → y.fk j = 0)
structure ProcW (m : Mac) (d : MacD) (y : PrT) : Prop where
 pid : 1 ≤ y.pid ∧ y.pid < m.next
 fields : FieldsP y
 par : ParP d y
 page : ∀ j < 16, PageW m y j
 fd : ∀ j < 8, FdW d y j
def pidB (l : List PrT) (k : Nat) : Int := if 0 < k then (l.getD (k - 1) default).pid else 0
def RowsW (m : Mac) (d : MacD) (k : Nat) : Prop := (∀ i, i < k → i < d.pr.length → ProcW m d (d.pr.getD i default) ∧ pidB d.pr i < (d.pr.getD i default).pid) ∧ ∀ fr, usersK d.pr fr k ≤ 1
theorem RowsW.zero (m : Mac) (d : MacD) : RowsW m d 0 := ⟨fun _ h => absurd h (Nat.not_lt_zero _), fun _ => by rw [usersK]; omega⟩
theorem RowsW.next {m : Mac} {d : MacD} {k : Nat} (h : RowsW m d k) (hp : ProcW m d (d.pr.getD k default)) (hl : pidB d.pr k < (d.pr.getD k default).pid) (hu : ∀ fr, usersK d.pr fr k + cntFr (d.pr.getD k default) fr 16 ≤ 1) : RowsW m d (k + 1) := by
 refine ⟨fun i hi hil => ?_, fun fr => by rw [usersK]; exact hu fr⟩
 by_cases e : i < k
 ·exact h.1 i e hil
 ·obtain rfl : i = k := by omega
  exact ⟨hp, hl⟩
theorem cnt_has {y : PrT} {j : Nat} (h : y.pis j = true) : ∀ {n : Nat}, j < n → 1 ≤ cntFr y (y.pfr j) n := by
 intro n hn
 have h1 : cntFr y (y.pfr j) (j + 1) ≤ cntFr y (y.pfr j) n := cnt_mono _ _ hn
 rw [cntFr, if_pos ⟨h, rfl⟩] at h1
 omega
theorem users_has {l : List PrT} {k j : Nat} (hk : k < l.length) (hj : j < 16) (h : (l.getD k default).pis j = true) : 1 ≤ usersK l ((l.getD k default).pfr j) l.length := by
 have h1 : usersK l ((l.getD k default).pfr j) (k + 1) ≤ usersK l ((l.getD k default).pfr j) l.length := users_mono l _ hk
 rw [usersK] at h1
 have := cnt_has h hj
 omega
theorem RowsW.all {m : Mac} {d : MacD} (h : RowsW m d d.pr.length) : ProcsK m d d.pr.length := by
 intro i hi _
 have e : d.pr.getD i default = d.pr[i] := by rw [List.getD_eq_getElem?_getD, List.getElem?_eq_getElem hi]; rfl
 obtain ⟨hp, hl⟩ := h.1 i hi hi
 refine ⟨?_, fun h0 => ?_⟩
 ·rw [← e]
  refine ⟨hp.pid, hp.fields.1, hp.fields.2.1, hp.par, hp.fields.2.2.1, hp.fields.2.2.2, fun j hj => ?_, hp.fd⟩
  rcases hp.page j hj with h1 | ⟨h1, h2, h3, h4⟩
  ·exact .inl h1
  ·refine .inr ⟨h1, h2, h3, h4, ?_⟩
   have a1 := h.2 ((d.pr.getD i default).pfr j)
   have a2 := users_has hi hj h1
   omega
 ·rw [pidB, if_pos h0, e] at hl
  rw [List.getD_eq_getElem?_getD, List.getElem?_eq_getElem (by omega)] at hl
  exact hl
theorem ProcsK.at {m : Mac} {d : MacD} (h : ProcsK m d d.pr.length) {k : Nat} (hk : k < d.pr.length) : ProcOk m d (d.pr.getD k default) ∧ pidB d.pr k < (d.pr.getD k default).pid := by
 obtain ⟨h1, h2⟩ := h k hk hk
 have e : d.pr.getD k default = d.pr[k] := by rw [List.getD_eq_getElem?_getD, List.getElem?_eq_getElem hk]; rfl
 rw [e]
 refine ⟨h1, ?_⟩
 unfold pidB
 split
 ·rename_i h0
  rw [List.getD_eq_getElem?_getD, List.getElem?_eq_getElem (by omega)]
  exact h2 h0
 ·have := h1.pid.1; omega
theorem PageP.w {m : Mac} {d : MacD} {y : PrT} {j : Nat} (h : PageP m d y j) : PageW m y j := h.elim .inl fun h => .inr ⟨h.1, h.2.1, h.2.2.1, h.2.2.2.1⟩
theorem users_step {l : List PrT} {k j : Nat} (h : ∀ fr, usersK l fr k + cntFr (l.getD k default) fr j ≤ 1) (hm : (l.getD k default).pis j = true → ¬ Met l k j ((l.getD k default).pfr j)) : ∀ fr, usersK l fr k + cntFr (l.getD k default) fr (j + 1) ≤ 1 := by
 intro fr
 rw [cntFr]
 split
 ·rename_i c
  have h1 := hm c.1
  rw [c.2] at h1
  unfold Met at h1
  omega
 ·exact h fr
def PagesW (m : Mac) (l : List PrT) (k j : Nat) : Prop := (∀ i, i < j → PageW m (l.getD k default) i) ∧ ∀ fr, usersK l fr k + cntFr (l.getD k default) fr j ≤ 1
theorem PagesW.zero {m : Mac} {d : MacD} {k : Nat} (h : RowsW m d k) : PagesW m d.pr k 0 := ⟨fun _ h => absurd h (Nat.not_lt_zero _), fun fr => by rw [cntFr]; exact h.2 fr⟩
theorem PagesW.next {m : Mac} {l : List PrT} {k j : Nat} (h : PagesW m l k j) (hp : PageW m (l.getD k default) j) (hm : (l.getD k default).pis j = true → ¬ Met l k j ((l.getD k default).pfr j)) : PagesW m l k (j + 1) := by
 refine ⟨fun i hi => ?_, users_step h.2 hm⟩
 by_cases e : i < j
 ·exact h.1 i e
 ·obtain rfl : i = j := by omega
  exact hp
def FdsW (d : MacD) (y : PrT) (j : Nat) : Prop := ∀ i, i < j → FdW d y i
theorem FdsW.next {d : MacD} {y : PrT} {j : Nat} (h : FdsW d y j) (hp : FdW d y j) : FdsW d y (j + 1) := by
 intro i hi
 by_cases e : i < j
 ·exact h i e
 ·obtain rfl : i = j := by omega
  exact hp
noncomputable def errB (p : Prop) (c : Int) : Int := @ite Int p (Classical.propDecidable p) 0 c
theorem errB_yes {p : Prop} (h : p) (c : Int) : errB p c = 0 := if_pos h
theorem errB_no {p : Prop} (h : ¬ p) (c : Int) : errB p c = c := if_neg h
theorem errB_zero {p : Prop} {c : Int} (hc : c ≠ 0) : errB p c = 0 ↔ p := ⟨fun h => by
 rcases Classical.em p with hp | hp
 ·exact hp
 ·rw [errB_no hp] at h; exact absurd h hc, fun h => errB_yes h c⟩
def orE (a b : Int) : Int := if a = 0 then b else a
theorem orE_zero {a b : Int} : orE a b = 0 ↔ a = 0 ∧ b = 0 := by unfold orE; split <;> simp_all
theorem orE_l {a : Int} (h : a ≠ 0) (b : Int) : orE a b = a := if_neg h
theorem orE_r (b : Int) : orE 0 b = b := if_pos rfl
noncomputable def numE (m : Mac) : Int := errB (NumsOk m) 2
noncomputable def frE (m : Mac) (d : MacD) : Int := orE (errB (1 ≤ m.fr.n ∧ m.fr.n ≤ 64) 6) (errB (∀ b ∈ d.fr, b.length = 128) 3)
noncomputable def prE (m : Mac) (d : MacD) : Int := orE (errB (m.pr.n ≤ 8) 6) (errB (ProcsK m d d.pr.length) 3)
noncomputable def piE (m : Mac) (d : MacD) : Int := orE (errB (m.pi.n ≤ 64) 6) (errB (PipesK m d.pi d.pi.length) 3)
noncomputable def teE (m : Mac) : Int := errB (m.inn.length ≤ 65536 ∧ m.init.length ≤ 128) 6
def DirtyK (n : Nat) (l : List WrT) (k : Nat) : Prop := ∀ (i : Nat) (h : i < l.length), i < k → 0 ≤ l[i].1 ∧ l[i].1 < (n : Int) ∧ l[i].2.length = 128 ∧ (0 < i → (l[i - 1]'(by omega)).1 < l[i].1)
noncomputable def voE (d : MacD) : Int := orE (drvE d.bl d.pe) (orE (errB (33 < d.bl.length) 3) (orE (errB (d.di.length ≤ 32) 6) (orE (errB (DirtyK (d.bl.length - 33) d.di d.di.length) 3) (errB (∃ I, Good (viewP d.bl d.pe d.di) I) 3))))
noncomputable def chkE (m : Mac) (d : MacD) : Int := orE (numE m) (orE (frE m d) (orE (prE m d) (orE (piE m d) (orE (teE m) (voE d)))))
theorem voE_zero {d : MacD} : voE d = 0 ↔ DiskOk d := by
 unfold voE DiskOk
 simp only [orE_zero, errB_zero (show (3 : Int) ≠ 0 by omega), errB_zero (show (6 : Int) ≠ 0 by omega)]
 unfold jrnE
 constructor
 ·rintro ⟨h1, h2, h3, h4, h5⟩
  exact ⟨by rw [if_neg (by omega), if_neg (by omega)], h3, fun i h => h4 i h h, h5⟩
 ·rintro ⟨h1, h3, h4, h5⟩
  split at h1
  ·exact absurd h1 ‹_›
  ·split at h1
   ·cases h1
   ·exact ⟨Decidable.of_not_not ‹_›, by omega, h3, fun i h _ => h4 i h, h5⟩
theorem chkE_zero {m : Mac} {d : MacD} : chkE m d = 0 ↔ StateOk m d := by
 unfold chkE numE frE prE piE teE
 simp only [orE_zero, errB_zero (show (2 : Int) ≠ 0 by omega), errB_zero (show (3 : Int) ≠ 0 by omega), errB_zero (show (6 : Int) ≠ 0 by omega), voE_zero]
 constructor
 ·rintro ⟨h1, ⟨h2, h3⟩, ⟨h4, h5⟩, ⟨h6, h7⟩, h8, h9⟩
  exact ⟨⟨h1, h2, h3, h4, h5, h6, h7, h8⟩, h9⟩
 ·rintro ⟨⟨h1, h2, h3, h4, h5, h6, h7, h8⟩, h9⟩
  exact ⟨h1, ⟨h2, h3⟩, ⟨h4, h5⟩, ⟨h6, h7⟩, h8, h9⟩
end Go.Proofs.YtfaplefkakpgcaaGreatDoor
/- state.Check of any machine: what it asks of a process and of an open file. -/
namespace Go.Proofs.YtfaplefkakpgcaaGreatDoor
set_option linter.unusedVariables false
set_option linter.unusedSimpArgs false
open Go.RowKit
def IsB (e : Ending) (p : Prop) : Prop := ∃ b, e = .returned (.bool b) ∧ (b = true ↔ p)
theorem IsB.yes {p : Prop} (h : p) : IsB (.returned (.bool true)) p := ⟨true, rfl, fun _ => h, fun _ => rfl⟩
theorem IsB.no {p : Prop} (h : ¬ p) : IsB (.returned (.bool false)) p := ⟨false, rfl, (fun h => by cases h), fun h2 => absurd h2 h⟩
theorem IsB.out_yes {e : Ending} {p : Prop} (h : IsB e p) (hp : p) : e = .returned (.bool true) := by
 obtain ⟨b, rfl, hb⟩ := h
 rw [hb.2 hp]
theorem IsB.out_no {e : Ending} {p : Prop} (h : IsB e p) (hp : ¬ p) : e = .returned (.bool false) := by
 obtain ⟨b, rfl, hb⟩ := h
 cases b
 ·rfl
 ·exact absurd (hb.1 rfl) hp
set_option maxHeartbeats 4000000 in
set_option maxRecDepth 100000 in
theorem sfields_any (y : PrT) (w : World) :
  Calls Tryz.prog 90 #[.agg (prL y).toArray] w fun e w' => IsB e (FieldsP y) ∧ Ext w w' := by
 have HL := Lib.hid (fun w => stlives_any y w)
 have b0 := Box.new w 57 (prL y).toArray
 have x0 := (Ext.refl w).alloc (.cells (prL y).toArray 57)
 obtain ⟨P, hP⟩ : ∃ P, P = FieldsP y := ⟨_, rfl⟩
 rw [← hP]
 have HPP := Lib.hid hP
 clear hP
 go_enter Tryz.func90, Tryz.ntmps90
 go_upto_region 1 with fail
 generalize w.alloc (.cells (prL y).toArray 57) = w1 at *
 generalize w.heap.size = G at *
 have cf : ∀ wx, Ext w1 wx → wx.cell? ⟨G, 2, none⟩ = some (.int .i64 y.state) ∧ wx.cell? ⟨G, 3, none⟩ = some (.int .u32 (y.reg 0)) ∧ wx.cell? ⟨G, 93, none⟩ = some (.int .u32 y.code) ∧ wx.cell? ⟨G, 94, none⟩ = some (.int .i64 y.why) ∧ wx.cell? ⟨G, 95, none⟩ = some (.int .u64 y.num) := fun wx x =>
  ⟨(b0.ext x).cell 2, (b0.ext x).cell 3, (b0.ext x).cell 93, (b0.ext x).cell 94, (b0.ext x).cell 95⟩
 have CF := Lib.hid cf
 clear cf
 have HL2 := HL.out
 have HF := HPP.out
 unfold FieldsP at HF
 have hcase : y.state = 1 ∨ y.state = 2 ∨ y.state = 3 ∨ ((y.state == 1) = false ∧ (y.state == 2) = false ∧ (y.state != 3) = true ∧ ¬ P) := by
  by_cases h1 : y.state = 1
  ·exact .inl h1
  ·by_cases h2 : y.state = 2
   ·exact .inr (.inl h2)
   ·by_cases h3 : y.state = 3
    ·exact .inr (.inr (.inl h3))
    ·exact .inr (.inr (.inr ⟨by simpa using h1, by simpa using h2, by simpa using h3, fun h => by rw [HF] at h; rcases h.1 with h | h | h <;> contradiction⟩))
 have HFF := Lib.hid HF
 clear HF HPP HL
 generalize y.state = s at *
 generalize y.why = wy at *
 generalize y.num = nm at *
 generalize y.code = cd at *
 generalize y.reg 0 = rg at *
 have HLs := Lib.hid HL2
 clear HL2
 have r0 := Bool.eq_false_or_eq_true (rg != 0)
 have r1 := Bool.eq_false_or_eq_true (cd == 0)
 have r2 := Bool.eq_false_or_eq_true (wy != 0)
 have r3 := Bool.eq_false_or_eq_true (nm != 0)
 have r4 := Bool.eq_false_or_eq_true (decide (wy < 1))
 have r5 := Bool.eq_false_or_eq_true (decide (5 < wy))
 have HFin := Lib.hid (fun (b : Bool) (h : b = true ↔ P) => show IsB (.returned (.bool b)) P from ⟨b, rfl, h⟩)
 rcases hcase with rfl | rfl | rfl | ⟨s1, s2, s3, hnp⟩
 ·clear r4 r5
  rcases r0 with r0 | r0
  ·clear r1 r2 r3
   go_wp2_with (first
    | (refine wp_ld_pr (.tmp 1) rfl rfl G 0 y rfl (pr_range1 b0) ?_)
    | (go_at_call 158; refine (HLs.out _).mono ?_; rintro e w2 ⟨rfl, x2⟩; obtain ⟨c2, c3, c93, c94, c95⟩ := CF.out _ x2))
   go_ret
   refine ⟨HFin.out _ ?_, x0.trans x2⟩
   rw [HFF.out]
   simp at r0; simp; omega
  ·rcases r2 with r2 | r2
   ·clear r1 r3
    go_wp2_with (first
     | (refine wp_ld_pr (.tmp 1) rfl rfl G 0 y rfl (pr_range1 b0) ?_)
     | (go_at_call 158; refine (HLs.out _).mono ?_; rintro e w2 ⟨rfl, x2⟩; obtain ⟨c2, c3, c93, c94, c95⟩ := CF.out _ x2))
    go_ret
    refine ⟨HFin.out _ ?_, x0.trans x2⟩
    rw [HFF.out]
    simp at r2; simp; omega
   ·rcases r3 with r3 | r3
    ·clear r1
     go_wp2_with (first
      | (refine wp_ld_pr (.tmp 1) rfl rfl G 0 y rfl (pr_range1 b0) ?_)
      | (go_at_call 158; refine (HLs.out _).mono ?_; rintro e w2 ⟨rfl, x2⟩; obtain ⟨c2, c3, c93, c94, c95⟩ := CF.out _ x2))
     go_ret
     refine ⟨HFin.out _ ?_, x0.trans x2⟩
     rw [HFF.out]
     simp at r3; simp; omega
    ·go_wp2_with (first
      | (refine wp_ld_pr (.tmp 1) rfl rfl G 0 y rfl (pr_range1 b0) ?_)
      | (go_at_call 158; refine (HLs.out _).mono ?_; rintro e w2 ⟨rfl, x2⟩; obtain ⟨c2, c3, c93, c94, c95⟩ := CF.out _ x2))
     go_ret
     refine ⟨HFin.out _ ?_, x0.trans x2⟩
     rw [HFF.out]
     simp at r0 r2 r3; simp; omega
 ·clear r2 r3
  rcases r0 with r0 | r0
  ·clear r1 r4 r5
   go_wp2_with (first
    | (refine wp_ld_pr (.tmp 1) rfl rfl G 0 y rfl (pr_range1 b0) ?_)
    | (go_at_call 158; refine (HLs.out _).mono ?_; rintro e w2 ⟨rfl, x2⟩; obtain ⟨c2, c3, c93, c94, c95⟩ := CF.out _ x2))
   go_ret
   refine ⟨HFin.out _ ?_, x0.trans x2⟩
   rw [HFF.out]
   simp at r0; simp; omega
  ·rcases r4 with r4 | r4
   ·clear r1 r5
    go_wp2_with (first
     | (refine wp_ld_pr (.tmp 1) rfl rfl G 0 y rfl (pr_range1 b0) ?_)
     | (go_at_call 158; refine (HLs.out _).mono ?_; rintro e w2 ⟨rfl, x2⟩; obtain ⟨c2, c3, c93, c94, c95⟩ := CF.out _ x2))
    go_ret
    refine ⟨HFin.out _ ?_, x0.trans x2⟩
    rw [HFF.out]
    simp at r4; simp; omega
   ·rcases r5 with r5 | r5
    ·clear r1
     go_wp2_with (first
      | (refine wp_ld_pr (.tmp 1) rfl rfl G 0 y rfl (pr_range1 b0) ?_)
      | (go_at_call 158; refine (HLs.out _).mono ?_; rintro e w2 ⟨rfl, x2⟩; obtain ⟨c2, c3, c93, c94, c95⟩ := CF.out _ x2))
     go_ret
     refine ⟨HFin.out _ ?_, x0.trans x2⟩
     rw [HFF.out]
     simp at r5; simp; omega
    ·go_wp2_with (first
      | (refine wp_ld_pr (.tmp 1) rfl rfl G 0 y rfl (pr_range1 b0) ?_)
      | (go_at_call 158; refine (HLs.out _).mono ?_; rintro e w2 ⟨rfl, x2⟩; obtain ⟨c2, c3, c93, c94, c95⟩ := CF.out _ x2))
     go_ret
     refine ⟨HFin.out _ ?_, x0.trans x2⟩
     rw [HFF.out]
     simp at r0 r4 r5; simp; omega
 ·clear r1 r4 r5
  rcases r0 with r0 | r0
  ·clear r2 r3
   go_wp2_with (first
    | (refine wp_ld_pr (.tmp 1) rfl rfl G 0 y rfl (pr_range1 b0) ?_)
    | (go_at_call 158; refine (HLs.out _).mono ?_; rintro e w2 ⟨rfl, x2⟩; obtain ⟨c2, c3, c93, c94, c95⟩ := CF.out _ x2))
   go_ret
   refine ⟨HFin.out _ ?_, x0.trans x2⟩
   rw [HFF.out]
   simp at r0; simp; omega
  ·rcases r2 with r2 | r2
   ·clear r3
    go_wp2_with (first
     | (refine wp_ld_pr (.tmp 1) rfl rfl G 0 y rfl (pr_range1 b0) ?_)
     | (go_at_call 158; refine (HLs.out _).mono ?_; rintro e w2 ⟨rfl, x2⟩; obtain ⟨c2, c3, c93, c94, c95⟩ := CF.out _ x2))
    go_ret
    refine ⟨HFin.out _ ?_, x0.trans x2⟩
    rw [HFF.out]
    simp at r2; simp; omega
   ·rcases r3 with r3 | r3
    ·go_wp2_with (first
      | (refine wp_ld_pr (.tmp 1) rfl rfl G 0 y rfl (pr_range1 b0) ?_)
      | (go_at_call 158; refine (HLs.out _).mono ?_; rintro e w2 ⟨rfl, x2⟩; obtain ⟨c2, c3, c93, c94, c95⟩ := CF.out _ x2))
     go_ret
     refine ⟨HFin.out _ ?_, x0.trans x2⟩
     rw [HFF.out]
     simp at r3; simp; omega
    ·go_wp2_with (first
      | (refine wp_ld_pr (.tmp 1) rfl rfl G 0 y rfl (pr_range1 b0) ?_)
      | (go_at_call 158; refine (HLs.out _).mono ?_; rintro e w2 ⟨rfl, x2⟩; obtain ⟨c2, c3, c93, c94, c95⟩ := CF.out _ x2))
     go_ret
     refine ⟨HFin.out _ ?_, x0.trans x2⟩
     rw [HFF.out]
     simp at r0 r2 r3; simp; omega
 ·have HNP := Lib.hid hnp
  clear hnp r0 r1 r2 r3 r4 r5
  go_wp2_with (first
   | (refine wp_ld_pr (.tmp 1) rfl rfl G 0 y rfl (pr_range1 b0) ?_)
   | (go_at_call 158; refine (HLs.out _).mono ?_; rintro e w2 ⟨rfl, x2⟩; obtain ⟨c2, c3, c93, c94, c95⟩ := CF.out _ x2))
  go_ret
  exact ⟨HFin.out _ ⟨(fun h => by cases h), fun h => absurd h HNP.out⟩, x0.trans x2⟩
set_option maxHeartbeats 1000000 in
set_option maxRecDepth 100000 in
theorem pidx_no (A : Option Addr) (n c : Nat) (l : List WrT) (g : Nat) (id : Int) (w : World) (hv : Wrs w A n l) (hn : n ≤ 4000) (hb : Box w g 3 #[.int .i64 id]) (hy : ¬ ∃ y ∈ l, y.1 = id) :
  Calls Tryz.prog 207 #[.slice A n c, .func (.func 208) #[] #[.pointer (some ⟨g, 0, none⟩)]] w fun e w' => e = .returned (.int .i64 (-1)) ∧ Ext w w' := by
 have HP := Lib.hid (fun i s w h => place1_any i s g id w h)
 obtain ⟨rfl, hv2⟩ := hv
 have HY := Lib.hid hy
 clear hy
 go_enter Tryz.func207, Tryz.ntmps207
 go_wp2_with fail
 go_loopw [8] (fun i wx => ∃ k : Nat, k ≤ l.length ∧ i = .int .i64 k ∧ Ext w wx) (fun i _ => l.length - (intOf i).toNat)
 case atStart => exact ⟨0, by omega, rfl, Ext.refl _⟩
 case round =>
  obtain ⟨k, hk, rfl, xk⟩ := hrel
  by_cases hlt : k < l.length
  ·obtain ⟨b, o, rfl, hcell⟩ := hv2 (by omega)
   have e1 := xk.keep (hcell k hlt).1
   have e2 := xk.keep (hcell k hlt).2
   have hki : (k : Int) < (l.length : Int) := by omega
   have hbk := hb.ext xk
   have hd : (l[k].1 == id) = false := by
    have : l[k].1 ≠ id := fun h => HY.out ⟨_, List.getElem_mem hlt, h⟩
    simpa using this
   generalize l[k] = y at *
   clear hcell
   go_wp2_with (go_at_call 208; refine (HP.out _ _ _ hbk).mono ?_; rintro e w2 ⟨rfl, x2⟩)
   go_roundw
   case rel => exact ⟨k + 1, by omega, by go_num, xk.trans x2⟩
   case measure => simp [intOf]; omega
  ·have hlt2 : ¬ (k : Int) < (l.length : Int) := by omega
   go_wp2_with fail
   go_ret
   exact ⟨rfl, xk⟩
set_option maxHeartbeats 1000000 in
set_option maxRecDepth 100000 in
theorem place_no (m : Mac) (d : MacD) (id : Int) (w : World) (h : MacIn w m d) (hn : m.pi.n ≤ 4000) (hy : ¬ ∃ y ∈ d.pi, y.1 = id) :
  Calls Tryz.prog 161 #[.agg m.cells, .int .i64 id] w fun e w' => e = .returned (.int .i64 (-1)) ∧ Ext w w' := by
 have hmf : ∀ (fn : Fn) (first cap : Array Value) (w : World), (Instr.makeFunc fn first cap).run Tryz.prog w = .ok (.func fn first cap) w := fun _ _ _ _ => rfl
 have x1 : Ext w (w.alloc (.cells m.cells 38)) := (Ext.refl _).alloc _
 have x2 := x1.alloc (.cells #[.int .i64 id] 3)
 have ba := (Box.new w 38 m.cells).ext ((Ext.refl _).alloc (.cells #[.int .i64 id] 3))
 have bi := Box.new (w.alloc (.cells m.cells 38)) 3 #[.int .i64 id]
 rw [World.size_alloc] at bi
 have q8 : ((w.alloc (.cells m.cells 38)).alloc (.cells #[.int .i64 id] 3)).cell? ⟨w.heap.size, 8, none⟩ = some (.slice m.pi.A m.pi.n m.pi.c) := ba.cell 8
 have HV := Lib.hid (h.pi.wrs.ext x2)
 have HP := Lib.hid (fun wx h1 h2 => pidx_no m.pi.A m.pi.n m.pi.c d.pi (w.heap.size + 1) id wx h1 hn h2 hy)
 clear h hy x1
 go_enter Tryz.func161, Tryz.ntmps161
 go_upto_region 1 with fail
 generalize (w.alloc (.cells m.cells 38)).alloc (.cells #[.int .i64 id] 3) = w2 at *
 generalize w.heap.size = G at *
 go_wp2_with (go_at_call 207; refine (HP.out _ HV.out bi).mono ?_; rintro e w3 ⟨rfl, x3⟩)
 go_ret
 exact ⟨rfl, x2.trans x3⟩
set_option maxHeartbeats 1000000 in
set_option maxRecDepth 100000 in
theorem file_no (m : Mac) (d : MacD) (k n p : Int) (w : World) (hi : MacIn w m d) (hn : m.pi.n ≤ 4000) (h : ¬ FdP d.pi k n p) :
  Calls Tryz.prog 92 #[.agg m.cells, .agg #[.int .i64 k, .int .i64 n, .int .i64 p]] w fun e w' => e = .returned (.bool false) ∧ Ext w w' := by
 have HP := Lib.hid (fun id w h hy => place_no m d id w h hn hy)
 have x0 := ((Ext.refl w).alloc (.cells m.cells 38)).alloc (.cells #[.int .i64 k, .int .i64 n, .int .i64 p] 54)
 have bm := (Box.new w 38 m.cells).ext ((Ext.refl _).alloc (.cells #[.int .i64 k, .int .i64 n, .int .i64 p] 54))
 have HM := Lib.hid (hi.ext x0)
 clear hi
 go_enter Tryz.func92, Tryz.ntmps92
 unfold FdP at h
 by_cases k1 : k = 1
 ·subst k1
  by_cases hn0 : n = 0
  ·subst hn0
   have hp : (p == 0) = false := by
    have : p ≠ 0 := fun h2 => h (.inl ⟨by omega, rfl, h2⟩)
    simpa using this
   clear h
   go_wp2_with fail
   go_ret
   exact ⟨rfl, x0⟩
  ·have hp : (n == 0) = false := by simpa using hn0
   clear h hn0
   go_wp2_with fail
   go_ret
   exact ⟨rfl, x0⟩
 ·by_cases k2 : k = 2
  ·subst k2
   by_cases hn0 : n = 0
   ·subst hn0
    have hp : (p == 0) = false := by
     have : p ≠ 0 := fun h2 => h (.inl ⟨by omega, rfl, h2⟩)
     simpa using this
    clear h k1
    go_wp2_with fail
    go_ret
    exact ⟨rfl, x0⟩
   ·have hp : (n == 0) = false := by simpa using hn0
    clear h hn0 k1
    go_wp2_with fail
    go_ret
    exact ⟨rfl, x0⟩
  ·by_cases k3 : k = 3
   ·subst k3
    have h4 : ¬ (1 ≤ n ∧ n ≤ 64 ∧ 0 ≤ p ∧ p ≤ 8960) := fun h2 => h (.inr (.inl ⟨rfl, h2⟩))
    clear h k1 k2
    by_cases a1 : 1 ≤ n
    ·have e1 : decide (1 ≤ n) = true := decide_eq_true a1
     by_cases a2 : n ≤ 64
     ·have e2 : decide (n ≤ 64) = true := decide_eq_true a2
      by_cases a3 : 0 ≤ p
      ·have e3 : decide (0 ≤ p) = true := decide_eq_true a3
       have e4 : decide (p ≤ 8960) = false := decide_eq_false (fun h => h4 ⟨a1, a2, a3, h⟩)
       clear a1 a2 a3 h4
       go_wp2_with fail
       go_ret
       exact ⟨rfl, x0⟩
      ·have e3 : decide (0 ≤ p) = false := decide_eq_false a3
       clear a1 a2 a3 h4
       go_wp2_with fail
       go_ret
       exact ⟨rfl, x0⟩
     ·have e2 : decide (n ≤ 64) = false := decide_eq_false a2
      clear a1 a2 h4
      go_wp2_with fail
      go_ret
      exact ⟨rfl, x0⟩
    ·have e1 : decide (1 ≤ n) = false := decide_eq_false a1
     clear a1 h4
     go_wp2_with fail
     go_ret
     exact ⟨rfl, x0⟩
   ·by_cases k45 : k = 4 ∨ k = 5
    ·by_cases hp0 : p = 0
     ·subst hp0
      have HY := Lib.hid (show ¬ ∃ y ∈ d.pi, y.1 = n from fun h2 => h (.inr (.inr ⟨k45, rfl, h2⟩)))
      clear h k1 k2 k3
      rcases k45 with rfl | rfl <;> go_wp2_with (first
       | (refine wp_ld_mac_g (.tmp 2) rfl rfl w.heap.size m 38 rfl bm ?_)
       | (go_at_call 161; refine (HP.out _ _ HM.out HY.out).mono ?_; rintro e w2 ⟨rfl, x2⟩))
      all_goals
       go_ret
       exact ⟨rfl, x0.trans x2⟩
     ·have hp : (p == 0) = false := by simpa using hp0
      clear h k1 k2 k3 hp0
      rcases k45 with rfl | rfl <;> go_wp2_with fail
      all_goals
       go_ret
       exact ⟨rfl, x0⟩
    ·have e1 : (k == 1) = false := by simpa using k1
     have e2 : (k == 2) = false := by simpa using k2
     have e3 : (k == 3) = false := by simpa using k3
     have e4 : (k == 4) = false := by have : k ≠ 4 := fun h => k45 (.inl h); simpa using this
     have e5 : (k == 5) = false := by have : k ≠ 5 := fun h => k45 (.inr h); simpa using this
     clear h k1 k2 k3 k45
     go_wp2_with fail
     go_ret
     exact ⟨rfl, x0⟩
end Go.Proofs.YtfaplefkakpgcaaGreatDoor
