/- image's writer: dec, flag, writeRows. -/
import Derived.Test.YtfaplefkakpgcaaGreatDoorWc12
import Derived.Test.YtfaplefkakpgcaaGreatDoorWc20
import Derived.Test.YtfaplefkakpgcaaGreatDoorWc21
import Derived.Test.YtfaplefkakpgcaaGreatDoorWc4
import Derived.Test.YtfaplefkakpgcaaGreatDoorWc7
import Derived.Test.YtfaplefkakpgcaaGreatDoorWc14
namespace Go.Proofs.YtfaplefkakpgcaaGreatDoor
set_option linter.unusedVariables false
set_option linter.unusedSimpArgs false
open Go.RowKit
theorem strs_ofBox {w : World} {g : Nat} {t : TypeId} {ss : List (List UInt8)} (h : Box w g t (strL ss).toArray) : Strs w (some ⟨g, 0, none⟩) ss.length ss := ⟨rfl, fun _ => ⟨g, 0, rfl, fun j hj => by
 rw [Nat.zero_add, h.cell j]; simp [strL, hj]⟩⟩
theorem own_asSl {w : World} {base z n : Nat} {u : Value} {xs : List Value} {t : TypeId} (o : w.ownsRow base t z u n xs) : ∃ A c, u = .slice A n c := by
 rcases o.2 with ⟨rfl, rfl⟩ | ⟨g, cap, _, rfl, _⟩
 ·exact ⟨none, 0, rfl⟩
 ·exact ⟨_, cap, rfl⟩
theorem sumL_few (z : Nat) (l : List (List UInt8)) (h : ∀ s ∈ l, s.length ≤ z) : sumL l ≤ l.length * (z + 4) := by
 induction l with
 | nil => simp [sumL]
 | cons s l ih =>
  have h1 := h s List.mem_cons_self
  have h2 := ih (fun x hx => h x (List.mem_cons_of_mem _ hx))
  unfold sumL at *
  rw [List.map_cons, List.sum_cons, List.length_cons, Nat.succ_mul]; omega
theorem idec_any (n : Int) (w : World) (h : N64 n) (hD : Dec10 w) :
  Calls Tryz.prog 102 #[.int .i64 n] w fun e w' => e = .returned (.string (str (Lib.itoa n))) ∧ Ext w w' := by
 have HD := Lib.hid (dec_any n w h hD)
 clear h hD
 go_enter Tryz.func102, Tryz.ntmps102
 go_wp2_with (go_at_call 174; refine HD.out.mono ?_; rintro e w1 ⟨rfl, x1⟩)
 go_ret
 exact ⟨rfl, x1⟩
theorem iflag_any (b : Bool) (w : World) : Calls Tryz.prog 105 #[.bool b] w fun e w' => e = .returned (.string (str (flagT b))) ∧ Ext w w' := by
 cases b
 all_goals
  go_enter Tryz.func105, Tryz.ntmps105
  go_wp2_with fail
  go_ret
  exact ⟨rfl, Ext.refl _⟩
set_option maxHeartbeats 4000000 in
set_option maxRecDepth 100000 in
theorem wrows_any (A : Option Addr) (n c : Nat) (l : List WrT) (w : World) (h : RowOf wrL w A n l) (hf : WrFit l) (hl : l.length ≤ 1000) (hD : Dec10 w) :
  Calls Tryz.prog 106 #[.slice A n c] w fun e w' => e = .returned (.string (str (writesT l))) ∧ Ext w w' := by
 have hn : n = l.length := h.1
 subst hn
 have HR := Lib.hid h
 have HF := Lib.hid hf
 have HD := Lib.hid hD
 clear h hf hD
 go_enter Tryz.func106, Tryz.ntmps106
 generalize hG : w.heap.size = G at *
 go_upto_region 2 with (refine wp_make0 (c := l.length) G rfl _ _ rfl rfl rfl (by omega) (Nat.le_of_eq hG.symm) ?_; intro w1 o1 x1)
 rw [hG] at o1
 go_upto_region 3 with fail
 go_loopw [3, 11] (fun u i wx => ∃ k : Nat, k ≤ l.length ∧ i = .int .i64 k ∧ Ext w wx ∧ wx.ownsRow G 9 1 u k (strL ((l.take k).map writeT))) (fun _ i _ => l.length - (intOf i).toNat)
 case atStart => exact ⟨0, by omega, rfl, x1, o1⟩
 case round =>
  clear x1 o1
  obtain ⟨k, hk, rfl, xk, ok⟩ := hrel
  obtain ⟨uL, huL⟩ : ∃ v : Value, v = u3 := ⟨_, rfl⟩
  subst huL
  by_cases hlt : k < l.length
  ·obtain ⟨b2, o2, hA, hcell⟩ := (HR.out.ext xk).wrs.2 (by show 0 < l.length; omega)
   subst hA
   have e1 := (hcell k hlt).1
   have e2 := (hcell k hlt).2
   have hki : (k : Int) < (l.length : Int) := by omega
   have HY := Lib.hid (HF.out l[k] (List.getElem_mem _))
   have HT1 := Lib.hid (show (l.take (k + 1)).map writeT = (l.take k).map writeT ++ [writeT l[k]] by rw [List.take_succ_eq_append_getElem hlt, List.map_append]; rfl)
   clear hcell
   generalize l[k] = y at *
   have HN := Lib.hid HY.out.1
   have HSum := Lib.hid (show sumL [Lib.itoa y.1, y.2] ≤ 1000000000 by
    have h1 := itoa_len HY.out.1.1 HY.out.1.2
    have h2 := HY.out.2
    simp only [sumL, List.map_cons, List.map_nil, List.sum_cons, List.sum_nil]; omega)
   clear HY
   go_upto_region 5 with fail
   have y5 : Ext wr (wr.alloc (.cells #[.int .i64 y.1, .string (str y.2)] 92)) := (Ext.refl wr).alloc _
   have bw := Box.new wr 92 #[.int .i64 y.1, .string (str y.2)]
   have ok5 := own_ext ok y5
   have xk7 := xk.trans y5
   have z7 : G ≤ (wr.alloc (.cells #[.int .i64 y.1, .string (str y.2)] 92)).heap.size := by rw [← hG]; exact xk7.size
   clear ok e1 e2 xk y5
   generalize wr.alloc (.cells #[.int .i64 y.1, .string (str y.2)] 92) = w7 at *
   generalize wr.heap.size = gw at *
   refine wp_region_web' 9 [[], [], [1], [2], [], [4], [3, 5], [6], [7]] (listV [isV (uL), isV (.pointer (some ⟨gw, 0, none⟩)), isV (.int .i64 ((y.1 : Int))), isV (.string (str (Lib.itoa y.1))), isV (.pointer (some ⟨gw, 1, none⟩)), isV (.string (str (y.2))), rowV 2 9 #[.string (str (Lib.itoa y.1)), .string (str (y.2))], isV (.string (str (writeT y))), rowV 1 9 #[.string (str (writeT y))]]) (by kernel_rfl) (by kernel_rfl) (listV_ext (fun p hp => by simp only [List.mem_cons, List.not_mem_nil, or_false] at hp; rcases hp with rfl | rfl | rfl | rfl | rfl | rfl | rfl | rfl | rfl <;> first | exact lasts_is _ | exact lasts_row _ _ _)) (fun us => ?_)
   simp only [List.take_succ_cons, List.take_zero, List.drop_succ_cons, List.drop_zero]
   rw [webWalk]
   refine And.intro (fun w' hx hd => ?_) ?_
   ·clear hd
    refine web_of_list 15 rfl (by simp) rfl ?_
    go_wp2_with fail
    exact ⟨Ext.refl _, rfl⟩
   simp only [Act.put, List.setIfInBounds_toArray, List.set_cons_zero, List.set_cons_succ]
   rw [webWalk]
   refine And.intro (fun w' hx hd => ?_) ?_
   ·clear hd
    refine web_of_list 16 rfl (by simp [Act.put]) rfl ?_
    go_wp2_with fail
    exact ⟨Ext.refl _, rfl⟩
   simp only [Act.put, List.setIfInBounds_toArray, List.set_cons_zero, List.set_cons_succ]
   rw [webWalk]
   refine And.intro (fun w' hx hd => ?_) ?_
   ·have h1 := hd 1 (by simp)
    clear hd
    generalize us 1 = u1 at *
    obtain rfl : u1 = .pointer (some ⟨gw, 0, none⟩) := h1
    have q0 := (bw.ext hx).cell 0
    refine web_of_list 17 rfl (by simp [Act.put]) rfl ?_
    go_wp2_with fail
    exact ⟨Ext.refl _, rfl⟩
   simp only [Act.put, List.setIfInBounds_toArray, List.set_cons_zero, List.set_cons_succ]
   rw [webWalk]
   refine And.intro (fun w' hx hd => ?_) ?_
   ·have h2 := hd 2 (by simp)
    clear hd
    generalize us 2 = u2 at *
    obtain rfl : u2 = .int .i64 (y.1 : Int) := h2
    refine web_of_list 18 rfl (by simp [Act.put]) rfl ?_
    go_wp2_with (go_at_call 102; refine (idec_any y.1 _ HN.out (HD.out.ext (xk7.trans hx))).mono ?_; rintro e w2 ⟨rfl, x2⟩)
    first | exact ⟨x2, rfl⟩ | exact rfl
   simp only [Act.put, List.setIfInBounds_toArray, List.set_cons_zero, List.set_cons_succ]
   rw [webWalk]
   refine And.intro (fun w' hx hd => ?_) ?_
   ·clear hd
    refine web_of_list 19 rfl (by simp [Act.put]) rfl ?_
    go_wp2_with fail
    exact ⟨Ext.refl _, rfl⟩
   simp only [Act.put, List.setIfInBounds_toArray, List.set_cons_zero, List.set_cons_succ]
   rw [webWalk]
   refine And.intro (fun w' hx hd => ?_) ?_
   ·have h4 := hd 4 (by simp)
    clear hd
    generalize us 4 = u4 at *
    obtain rfl : u4 = .pointer (some ⟨gw, 1, none⟩) := h4
    have q0 := (bw.ext hx).cell 1
    refine web_of_list 20 rfl (by simp [Act.put]) rfl ?_
    go_wp2_with fail
    exact ⟨Ext.refl _, rfl⟩
   simp only [Act.put, List.setIfInBounds_toArray, List.set_cons_zero, List.set_cons_succ]
   rw [webWalk]
   refine And.intro (fun w' hx hd => ?_) ?_
   ·have h3 := hd 3 (by simp)
    have h5 := hd 5 (by simp)
    clear hd
    generalize us 3 = u3 at *
    generalize us 5 = u5 at *
    obtain rfl : u3 = .string (str (Lib.itoa y.1)) := h3
    obtain rfl : u5 = .string (str (y.2)) := h5
    refine web_of_list 21 rfl (by simp [Act.put]) rfl ?_
    go_wp2_with fail
    exact ⟨(Ext.refl w').alloc _, _, rfl, Box.new _ _ _⟩
   simp only [Act.put, List.setIfInBounds_toArray, List.set_cons_zero, List.set_cons_succ]
   rw [webWalk]
   refine And.intro (fun w' hx hd => ?_) ?_
   ·have h6 := hd 6 (by simp)
    clear hd
    generalize us 6 = u6 at *
    obtain ⟨g21, rfl, bg21⟩ := h6
    have HS := Lib.hid (strs_ofBox (ss := [Lib.itoa y.1, y.2]) bg21)
    clear bg21
    refine web_of_list 22 rfl (by simp [Act.put]) rfl ?_
    go_wp2_with (go_at_call 101; refine (row_any (some ⟨g21, 0, none⟩) 2 2 [Lib.itoa y.1, y.2] _ HS.out HSum.out (by decide)).mono ?_; rintro e w2 ⟨rfl, x2⟩)
    first | exact ⟨x2, rfl⟩ | exact rfl
   simp only [Act.put, List.setIfInBounds_toArray, List.set_cons_zero, List.set_cons_succ]
   rw [webWalk]
   refine And.intro (fun w' hx hd => ?_) ?_
   ·have h7 := hd 7 (by simp)
    clear hd
    generalize us 7 = u7 at *
    obtain rfl : u7 = .string (str (writeT y)) := h7
    refine web_of_list 23 rfl (by simp [Act.put]) rfl ?_
    go_wp2_with fail
    exact ⟨(Ext.refl w').alloc _, _, rfl, Box.new _ _ _⟩
   simp only [Act.put, List.setIfInBounds_toArray, List.set_cons_zero, List.set_cons_succ]
   rw [webWalk]
   intro w' hx hv
   have h0 := hv 0 (by omega)
   have h8 := hv 8 (by omega)
   clear hv
   generalize us 0 = u0 at *
   generalize us 1 = u1 at *
   generalize us 2 = u2 at *
   generalize us 3 = u3 at *
   generalize us 4 = u4 at *
   generalize us 5 = u5 at *
   generalize us 6 = u6 at *
   generalize us 7 = u7 at *
   generalize us 8 = u8 at *
   obtain rfl : u0 = uL := h0
   obtain ⟨g23, rfl, bg23⟩ := h8
   have v6 := strs_ofBox (ss := [writeT y]) bg23
   have o5' := own_ext ok5 hx
   have x5' := xk7.trans hx
   have z5' := Nat.le_trans z7 hx.size
   go_wp2_with (refine wp_app_strs G rfl _ _ rfl rfl rfl o5' v6 (by omega) z5' (by decide) ?_; intro u6 w6 o6 g6)
   have x6 : Ext w w6 := x5'.grown g6 (fun k e => by rw [hG]; exact own_low o5' e)
   go_roundw
   case rel => exact ⟨k + 1, by omega, by go_num, x6, by rw [HT1.out]; exact o6⟩
   case measure => simp [intOf]; omega
  ·obtain rfl : k = l.length := by omega
   rw [List.take_length] at ok
   have hsum : sumL (l.map writeT) ≤ 1000000000 := by
    have := sumL_few 1028 (l.map writeT) (fun s hs => by
     obtain ⟨x, hx, rfl⟩ := List.mem_map.1 hs
     exact writeT_len (HF.out x hx).1 (HF.out x hx).2)
    rw [List.length_map] at this
    omega
   obtain ⟨A3, c3, e3⟩ := own_asSl ok
   subst e3
   have HS := Lib.hid (Strs.own ok)
   have HSum := Lib.hid hsum
   clear ok hsum
   go_wp2_with (go_at_call 101; refine (row_any A3 l.length c3 (l.map writeT) _ HS.out HSum.out (by omega)).mono ?_; rintro e w2 ⟨rfl, x2⟩)
   go_ret
   exact ⟨rfl, xk.trans x2⟩
end Go.Proofs.YtfaplefkakpgcaaGreatDoor
/- image.procRow: the row of a process. -/
namespace Go.Proofs.YtfaplefkakpgcaaGreatDoor
set_option linter.unusedVariables false
set_option linter.unusedSimpArgs false
open Go.RowKit
def regsL (p : PrT) : List Value := (List.range 16).map fun i => .int .u32 (p.reg i)
theorem pr_regs (p : PrT) : ∀ j v, (regsL p)[j]? = some v → (prL p).toArray[3 + j]? = some v := fun j v hv => by
 have hj : j < 16 := by have := (List.getElem?_eq_some_iff.1 hv).1; exact this
 rw [List.getElem?_toArray]
 have e : (prL p).drop 3 = regsL p ++ ([.int .u32 p.pc] ++ spaceL p ++ fdsL p ++ [.bool p.mask, .int .u32 p.code, .int .i64 p.why, .int .u64 p.num]) := rfl
 rw [← List.getElem?_drop, e, List.getElem?_append_left (by exact hj)]; exact hv
theorem regsSize : (Tryz.prog.info? 46).map (·.size) = some 16 := by kernel_rfl
theorem run_index_cell {P : Program} {t e n : Nat} {cs : Array Value} {v : Value} {i : Nat} {d : TypeDesc} (w : World) (hu : P.underlying t = some (.array n e)) (he : P.underlying e = some d) (hd : d.isRow = false) (hs : (P.info? e).map (·.size) = some 1) (hin : i < n) (hv : cs[i]? = some v) :
  (Instr.index t (.agg cs) (.int .i64 (i : Int))).run P w = .ok v w := by
 cases hq : P.info? e with
 | none => simp [hq] at hs
 | some j =>
  have hz : j.size = 1 := by simpa [hq] using hs
  have hagg : (isAgg e).run P w = .ok false w := by
   unfold isAgg
   rw [Sem.run_bind, run_underlying he w]
   cases d <;> simp_all
  have h1 : (i : Int) < (n : Int) := by omega
  simp [Instr.index, asIntOf, run_underlying hu, h1, sizeOf, typeInfo, hq, part, Sem.run_bind, hagg, hz, hv]
  intro hc; exact absurd hc (by omega)
section
variable {ops : Array Oper} {rest : List Oper} {o : Oper} {a : Act} {w : World} {Q : Exit → Act → World → Prop}
theorem wp_ld_regs (x : Operand) (hgd : o.guard = none) (ho : o.op = .load 46 x) (g : Nat) (t : TypeId) (p : PrT) (hx : a.eval x = .pointer (some ⟨g, 3, none⟩))
  (hb : Box w g t (prL p).toArray) (hK : wpList Tryz.prog ops Q rest (a.put o.dst (.agg (regsL p).toArray)) w) : wpList Tryz.prog ops Q (o :: rest) a w :=
 wpList_load_mid hgd _ x ho g 3 hx _ _ (box_range hb (pr_regs p)) Tryz.underlying46 rfl (by exact regsSize) hK
theorem u32Size : (Tryz.prog.info? 45).map (·.size) = some 1 := by kernel_rfl
theorem wp_idx_reg (x y : Operand) (hgd : o.guard = none) (ho : o.op = .index 46 x y) (p : PrT) (i : Nat) (hx : a.eval x = .agg (regsL p).toArray) (hy : a.eval y = .int .i64 (i : Int)) (hi : i < 16)
  (hK : wpList Tryz.prog ops Q rest (a.put o.dst (.int .u32 (p.reg i))) w) : wpList Tryz.prog ops Q (o :: rest) a w := by
 refine wpList_plain hgd fun K hK' => ?_
 unfold Oper.wp execOp
 have := run_index_cell (P := Tryz.prog) (cs := (regsL p).toArray) (v := .int .u32 (p.reg i)) (i := i) w Tryz.underlying46 Tryz.underlying45 rfl u32Size hi (by simp [regsL, hi])
 simp only [ho, hx, hy, this, Sem.run_bind, Sem.run_pure, Result.andThen_ok]
 exact hK' _ _ hK
theorem wp_app_bytes {B g m n : Nat} {u : Value} {l : List UInt8} (p : List UInt8) (hgd : o.guard = none) (sl x : Operand)
  (ho : o.op = .call { callee := .builtin .append, args := #[sl, x], argTypes := #[167, 167] }) (hs : a.eval sl = u) (hx : a.eval x = .slice (some ⟨g, 0, none⟩) m m)
  (cs : Array Value) (hcs : cs = (byteL p).toArray) (h0 : w.ownsRow B 5 1 u n (byteL l)) (hb : Box w g 5 cs) (hm : m = p.length) (hn : n + p.length ≤ 1000000) (hB : B ≤ w.heap.size)
  (hK : ∀ u' w', w'.ownsRow B 5 1 u' (n + p.length) (byteL (l ++ p)) → w.grownBy w' u.ownBlock → wpList Tryz.prog ops Q rest (a.put o.dst u') w') : wpList Tryz.prog ops Q (o :: rest) a w := by
 subst hm
 subst hcs
 refine wpList_plain hgd fun K hK' => ?_
 obtain ⟨i, hi, hz, h1, h2⟩ := info_parts byteInfo
 obtain ⟨v', w', hr, ho2, hg, _, _⟩ := run_append_own_at (P := Tryz.prog) w B 167 o.type 5 i _ 1 1 Tryz.underlying167 hi hz h1 h2 rfl (by decide) u n (byteL l) h0 ⟨g, 0, none⟩ p.length p.length (byteL p) (by simp [byteL]) (fun j u hj => by
  have ha : (⟨g, 0, none⟩ : Addr).add j = ⟨g, j, none⟩ := by unfold Addr.add; split <;> simp_all
  rw [ha, hb.cell j]; simpa using hj) (fun v hv => by
  simp only [byteL, List.mem_map] at hv
  obtain ⟨s, _, rfl⟩ := hv; rfl) (by unfold maxLen; omega) (by omega) hB
 unfold Oper.wp execOp
 simp only [ho, resolve, invoke, builtin, Sem.run_bind, Sem.run_pure, Result.andThen_ok, List.map_toArray, List.map_cons, List.map_nil, hs, hx, hr]
 refine hK' _ _ (hK v' w' ?_ hg)
 rw [show byteL (l ++ p) = byteL l ++ byteL p by simp [byteL]]
 exact ho2
end
theorem bytes_one (a : UInt8) : (#[.int .u8 (a.toNat : Int)] : Array Value) = (byteL [a]).toArray := rfl
theorem bytes_00 : (#[.int .u8 0, .int .u8 0] : Array Value) = (byteL [0, 0]).toArray := by kernel_rfl
theorem bytes_1 (b : UInt8) : (#[.int .u8 1, .int .u8 (b.toNat : Int)] : Array Value) = (byteL [1, b]).toArray := by kernel_rfl
theorem bytes_2 (b : UInt8) : (#[.int .u8 2, .int .u8 (b.toNat : Int)] : Array Value) = (byteL [2, b]).toArray := by kernel_rfl
theorem range_more (f : Nat → List UInt8) (k : Nat) : (List.range (k + 1)).flatMap f = (List.range k).flatMap f ++ f k := by
 rw [List.range_succ, List.flatMap_append]; simp
theorem u8_b8 {n : Int} (h0 : 0 ≤ n) (h1 : n < 256) : IntKind.u8.wrap n = ((b8 n).toNat : Int) := by
 rw [b8_natT h0 h1, IntKind.wrap_u8']; omega
set_option maxHeartbeats 8000000 in
set_option maxRecDepth 100000 in
theorem prow_any (y : PrT) (w : World) (hf : PrFit y) (hD : Dec10 w) :
  Calls Tryz.prog 103 #[.agg (prL y).toArray] w fun e w' => e = .returned (.string (str (procT y))) ∧ Ext w w' := by
 have HF := Lib.hid hf
 have HD := Lib.hid hD
 have HSum := Lib.hid (show sumL (procL y) ≤ 1000000000 by
  have := sumL_few 136 (procL y) (procL_few hf)
  rw [procL_len] at this; omega)
 have HUC := Lib.hid (show IntKind.u64.wrap y.code = y.code by rw [IntKind.wrap_u64]; have := hf.code; omega)
 clear hf hD
 go_enter Tryz.func103, Tryz.ntmps103
 go_upto_region 2 with fail
 have b0 := Box.new w 57 (prL y).toArray
 have x0 : Ext w (w.alloc (.cells (prL y).toArray 57)) := (Ext.refl w).alloc _
 generalize w.alloc (.cells (prL y).toArray 57) = w0 at b0 x0 ⊢
 generalize w.heap.size = G at b0 ⊢
 go_upto_region 3 with (refine wp_ld_regs _ rfl rfl G _ y rfl b0 ?_)
 generalize hG1 : w0.heap.size = G1
 go_loopw [3, 7, 15] (fun u _ i wx => ∃ k : Nat, k ≤ 16 ∧ i = .int .i64 k ∧ Ext w0 wx ∧ wx.ownsRow G1 5 1 u (4 * k) (byteL ((List.range k).flatMap fun i => putL (y.reg i) 4))) (fun _ _ i _ => 16 - (intOf i).toNat)
 case atStart => exact ⟨0, by omega, rfl, Ext.refl _, World.ownsRow_nil _ _ _ _⟩
 case round =>
  obtain ⟨k, hk, rfl, xk, ok⟩ := hrel
  obtain ⟨uL, huL⟩ : ∃ v : Value, v = u3 := ⟨_, rfl⟩
  subst huL
  by_cases hlt : k < 16
  ·have hki : (k : Int) < 16 := by omega
   have HT := Lib.hid (range_more (fun i => putL (y.reg i) 4) k)
   have hr := HF.out.reg k hlt
   have z5 : G1 ≤ wr.heap.size := by rw [← hG1]; exact xk.size
   have hu : IntKind.u64.wrap (y.reg k) = y.reg k := by rw [IntKind.wrap_u64]; omega
   have hr0 := hr.1
   have hr1 := hr.2
   clear hr
   go_wp2_with (first
    | (refine wp_idx_reg (.tmp 14) (.tmp 15) rfl rfl y k rfl rfl hlt ?_)
    | (go_at_call 104; refine (put_4 (y.reg k) _ hr0 hr1).mono ?_; rintro e w2 ⟨rfl, x2⟩)
    | (refine wp_app_str rfl _ _ rfl rfl rfl (own_ext ok x2) (by rw [putL_len]; omega) (Nat.le_trans z5 x2.size) ?_; intro u6 w6 o6 g6))
   have ok2 := own_ext ok x2
   have x6 : Ext w0 w6 := (xk.trans x2).grown g6 (fun j e => by rw [hG1]; exact own_low ok2 e)
   rw [putL_len, show 4 * k + 4 = 4 * (k + 1) by omega] at o6
   go_roundw
   case rel => exact ⟨k + 1, by omega, by go_num, x6, by rw [HT.out]; exact o6⟩
   case measure => simp [intOf]; omega
  ·obtain rfl : k = 16 := by omega
   have hu : IntKind.u64.wrap y.pc = y.pc := by rw [IntKind.wrap_u64]; have := HF.out.pc; omega
   have hr0 := HF.out.pc.1
   have hr1 := HF.out.pc.2
   have z5 : G1 ≤ wr.heap.size := by rw [← hG1]; exact xk.size
   have bk := b0.ext xk
   have q : wr.cell? ⟨G, 19, none⟩ = some (.int .u32 y.pc) := bk.cell 19
   go_upto_region 8 with (first
    | (go_at_call 104; refine (put_4 y.pc _ hr0 hr1).mono ?_; rintro e w2 ⟨rfl, x2⟩)
    | (refine wp_app_str rfl _ _ rfl rfl rfl (own_ext ok x2) (by rw [putL_len]; omega) (Nat.le_trans z5 x2.size) ?_; intro uC w6 o6 g6))
   have x6 : Ext w0 w6 := (xk.trans x2).grown g6 (fun j e => by rw [hG1]; exact own_low ok e)
   rw [putL_len] at o6
   have oC : w6.ownsRow G1 5 1 uC 68 (byteL (cpuT y)) := o6
   have bC := b0.ext x6
   have xC := x0.trans x6
   clear b0 x0 x6 g6 o6 x2 ok xk bk q hG1 z5 hr0 hr1 hu hk hlt
   go_upto_region 9 with (refine wp_ld_space _ rfl rfl G _ y rfl bC ?_)
   generalize hG2 : w6.heap.size = G2
   go_loopw [4, 33] (fun u i wx => ∃ k : Nat, k ≤ 16 ∧ i = .int .i64 k ∧ Ext w6 wx ∧ wx.ownsRow G2 5 1 u (2 * k) (byteL ((List.range k).flatMap (pteT y)))) (fun _ i _ => 16 - (intOf i).toNat)
   case atStart => exact ⟨0, by omega, rfl, Ext.refl _, World.ownsRow_nil _ _ _ _⟩
   case round =>
    obtain ⟨k, hk, rfl, xk, ok⟩ := hrel
    obtain ⟨uM, huM⟩ : ∃ v : Value, v = u4 := ⟨_, rfl⟩
    subst huM
    by_cases hlt : k < 16
    ·have hki : (k : Int) < 16 := by omega
     have HT := Lib.hid (range_more (pteT y) k)
     have hn : 2 * (k + 1) = 2 * k + 2 := by omega
     have z5 : G2 ≤ wr.heap.size := by rw [← hG2]; exact xk.size
     have hu := u8_b8 (HF.out.page k hlt).1 (HF.out.page k hlt).2.1
     have hfrb := (HF.out.page k hlt).2.1
     go_upto_region 12 with (refine wp_idx_pte (.tmp 32) (.tmp 33) rfl rfl y k rfl rfl hlt ?_)
     have bq := Box.new wr 50 #[.bool (y.pis k), .bool (y.pwr k), .int .i64 (y.pfr k)]
     have xq := xk.alloc (.cells #[.bool (y.pis k), .bool (y.pwr k), .int .i64 (y.pfr k)] 50)
     have oq := own_ext ok ((Ext.refl wr).alloc (.cells #[.bool (y.pis k), .bool (y.pwr k), .int .i64 (y.pfr k)] 50))
     generalize wr.alloc (.cells #[.bool (y.pis k), .bool (y.pwr k), .int .i64 (y.pfr k)] 50) = wq at bq xq oq ⊢
     generalize wr.heap.size = gq at bq ⊢
     have zq : G2 ≤ wq.heap.size := by rw [← hG2]; exact xq.size
     have q0 : wq.cell? ⟨gq, 0, none⟩ = some (.bool (y.pis k)) := bq.cell 0
     have q1 : wq.cell? ⟨gq, 1, none⟩ = some (.bool (y.pwr k)) := bq.cell 1
     have q2 : wq.cell? ⟨gq, 2, none⟩ = some (.int .i64 (y.pfr k)) := bq.cell 2
     clear bq xk ok z5
     cases e1 : y.pis k with
     | false =>
      rw [e1] at q0
      have hp : pteT y k = [0, 0] := by unfold pteT; rw [if_pos e1]
      go_wp2_with (refine wp_app_bytes [0, 0] rfl _ _ rfl rfl rfl _ bytes_00 (own_ext oq ((Ext.refl wq).alloc _)) (Box.new _ _ _) rfl (by simp only [List.length_cons, List.length_nil]; omega) (Nat.le_trans zq ((Ext.refl wq).alloc _).size) ?_; intro u7 w7 o7 g7)
      have x7 : Ext w6 w7 := (xq.alloc _).grown g7 (fun j e => by rw [hG2]; exact own_low oq e)
      go_roundw
      case rel => exact ⟨k + 1, by omega, by go_num, x7, by rw [HT.out, hp, hn]; exact o7⟩
      case measure => simp [intOf]; omega
     | true =>
      cases e2 : y.pwr k with
      | true =>
       rw [e1] at q0
       rw [e2] at q1
       have hp : pteT y k = [2, b8 (y.pfr k)] := by unfold pteT; rw [if_neg (by rw [e1]; decide), if_pos e2]
       go_wp2_with (refine wp_app_bytes [2, b8 (y.pfr k)] rfl _ _ rfl rfl rfl _ (bytes_2 _) (own_ext oq ((Ext.refl wq).alloc _)) (Box.new _ _ _) rfl (by simp only [List.length_cons, List.length_nil]; omega) (Nat.le_trans zq ((Ext.refl wq).alloc _).size) ?_; intro u7 w7 o7 g7)
       have x7 : Ext w6 w7 := (xq.alloc _).grown g7 (fun j e => by rw [hG2]; exact own_low oq e)
       go_roundw
       case rel => exact ⟨k + 1, by omega, by go_num, x7, by rw [HT.out, hp, hn]; exact o7⟩
       case measure => simp [intOf]; omega
      | false =>
       rw [e1] at q0
       rw [e2] at q1
       have hp : pteT y k = [1, b8 (y.pfr k)] := by unfold pteT; rw [if_neg (by rw [e1]; decide), if_neg (by rw [e2]; decide)]
       go_wp2_with (refine wp_app_bytes [1, b8 (y.pfr k)] rfl _ _ rfl rfl rfl _ (bytes_1 _) (own_ext oq ((Ext.refl wq).alloc _)) (Box.new _ _ _) rfl (by simp only [List.length_cons, List.length_nil]; omega) (Nat.le_trans zq ((Ext.refl wq).alloc _).size) ?_; intro u7 w7 o7 g7)
       have x7 : Ext w6 w7 := (xq.alloc _).grown g7 (fun j e => by rw [hG2]; exact own_low oq e)
       go_roundw
       case rel => exact ⟨k + 1, by omega, by go_num, x7, by rw [HT.out, hp, hn]; exact o7⟩
       case measure => simp [intOf]; omega
    ·obtain rfl : k = 16 := by omega
     have oS : wr.ownsRow G2 5 1 uM 32 (byteL (spaceT y)) := ok
     have oC2 := own_ext oC xk
     have bC2 := bC.ext xk
     have xC2 := xC.trans xk
     clear ok oC bC xC xk hG2 hk hlt
     go_upto_region 18 with (refine wp_ld_fds _ rfl rfl G _ y rfl bC2 ?_)
     obtain ⟨wS, hwS⟩ : ∃ v : World, v = wr := ⟨_, rfl⟩
     subst hwS
     generalize hG3 : wS.heap.size = G3
     go_loopw [5, 61] (fun u i wx => ∃ k : Nat, k ≤ 8 ∧ i = .int .i64 k ∧ Ext wS wx ∧ wx.ownsRow G3 5 1 u (17 * k) (byteL ((List.range k).flatMap (fdT y)))) (fun _ i _ => 8 - (intOf i).toNat)
     case atStart => exact ⟨0, by omega, rfl, Ext.refl _, World.ownsRow_nil _ _ _ _⟩
     case round =>
      obtain ⟨k, hk, rfl, xk, ok⟩ := hrel
      obtain ⟨uN, huN⟩ : ∃ v : Value, v = u5 := ⟨_, rfl⟩
      subst huN
      by_cases hlt : k < 8
      ·have hki : (k : Int) < 8 := by omega
       have HT := Lib.hid (range_more (fdT y) k)
       have hu := u8_b8 (HF.out.fk k hlt).1 (HF.out.fk k hlt).2
       have f0 := (HF.out.fn k hlt).1
       have f1 := (HF.out.fn k hlt).2
       have f2 := (HF.out.fp k hlt).1
       have f3 := (HF.out.fp k hlt).2
       have hv1 : IntKind.u64.wrap (y.fn k) = y.fn k := by rw [IntKind.wrap_u64]; omega
       have hv2 : IntKind.u64.wrap (y.fp k) = y.fp k := by rw [IntKind.wrap_u64]; omega
       go_upto_region 20 with (refine wp_idx_fd (.tmp 60) (.tmp 61) rfl rfl y k rfl rfl hlt ?_)
       have bq := Box.new wr 54 #[.int .i64 (y.fk k), .int .i64 (y.fn k), .int .i64 (y.fp k)]
       have xq := xk.alloc (.cells #[.int .i64 (y.fk k), .int .i64 (y.fn k), .int .i64 (y.fp k)] 54)
       have oq := own_ext ok ((Ext.refl wr).alloc (.cells #[.int .i64 (y.fk k), .int .i64 (y.fn k), .int .i64 (y.fp k)] 54))
       generalize wr.alloc (.cells #[.int .i64 (y.fk k), .int .i64 (y.fn k), .int .i64 (y.fp k)] 54) = wq at bq xq oq ⊢
       generalize wr.heap.size = gq at bq ⊢
       have zq : G3 ≤ wq.heap.size := by rw [← hG3]; exact xq.size
       have q0 := bq.cell 0
       go_upto_region 21 with (refine wp_app_bytes [b8 (y.fk k)] rfl _ _ rfl rfl rfl _ (bytes_one _) (own_ext oq ((Ext.refl wq).alloc _)) (Box.new _ _ _) rfl (by simp only [List.length_cons, List.length_nil]; omega) (Nat.le_trans zq ((Ext.refl wq).alloc _).size) ?_; intro u7 w7 o7 g7)
       have b7 := (bq.ext ((Ext.refl wq).alloc _)).grown g7 (own_ne oq bq (by decide))
       have x7 : Ext wS w7 := (xq.alloc _).grown g7 (fun j e => by rw [hG3]; exact own_low oq e)
       have z7 : G3 ≤ w7.heap.size := by rw [← hG3]; exact x7.size
       clear bq xq oq q0 zq g7 xk ok
       have q1 := b7.cell 1
       go_upto_region 22 with (first
        | (go_at_call 104; refine (put_8 (y.fn k) _ f0 (by omega)).mono ?_; rintro e w8 ⟨rfl, x8⟩)
        | (refine wp_app_str rfl _ _ rfl rfl rfl (own_ext o7 x8) (by rw [putL_len]; simp only [List.length_cons, List.length_nil]; omega) (Nat.le_trans z7 x8.size) ?_; intro u9 w9 o9 g9))
       have b9 := (b7.ext x8).grown g9 (own_ne (own_ext o7 x8) (b7.ext x8) (by decide))
       have x9 : Ext wS w9 := (x7.trans x8).grown g9 (fun j e => by rw [hG3]; exact own_low o7 e)
       have z9 : G3 ≤ w9.heap.size := by rw [← hG3]; exact x9.size
       clear b7 x7 q1 z7 g9 o7 x8
       have q2 := b9.cell 2
       rw [putL_len] at o9
       go_wp2_with (first
        | (go_at_call 104; refine (put_8 (y.fp k) _ f2 (by omega)).mono ?_; rintro e w10 ⟨rfl, x10⟩)
        | (refine wp_app_str rfl _ _ rfl rfl rfl (own_ext o9 x10) (by rw [putL_len]; simp only [List.length_cons, List.length_nil]; omega) (Nat.le_trans z9 x10.size) ?_; intro u11 w11 o11 g11))
       have x11 : Ext wS w11 := (x9.trans x10).grown g11 (fun j e => by rw [hG3]; exact own_low o9 e)
       rw [putL_len, show 17 * k + [b8 (y.fk k)].length + 8 + 8 = 17 * (k + 1) by simp only [List.length_cons, List.length_nil]; omega] at o11
       go_roundw
       case rel => exact ⟨k + 1, by omega, by go_num, x11, by rw [HT.out]; simpa [fdT, List.append_assoc] using o11⟩
       case measure => simp [intOf]; omega
      ·obtain rfl : k = 8 := by omega
       have oF : wr.ownsRow G3 5 1 uN 136 (byteL (fdsT y)) := ok
       have oC := own_ext oC2 xk
       have oS' := own_ext oS xk
       clear oS
       have oS := oS'
       have bC := bC2.ext xk
       have xC := xC2.trans xk
       clear oS' ok oC2 bC2 xC2 xk hG3 hk hlt
       go_wp2_with fail
       refine wp_region_web' 29 [[], [0], [1], [], [3], [4], [], [6], [7], [], [9], [], [11], [], [13], [], [15], [16], [], [18], [19], [20], [], [22], [23], [], [25], [26], [2, 5, 8, 10, 12, 14, 17, 21, 24, 27]] (listV [isV (.pointer (some ⟨G, 0, none⟩)), isV (.int .i64 ((y.pid : Int))), isV (.string (str (Lib.itoa y.pid))), isV (.pointer (some ⟨G, 1, none⟩)), isV (.int .i64 ((y.parent : Int))), isV (.string (str (Lib.itoa y.parent))), isV (.pointer (some ⟨G, 2, none⟩)), isV (.int .i64 ((y.state : Int))), isV (.string (str (Lib.itoa y.state))), isV (uC), isV (.string (str (cpuT y))), isV (uM), isV (.string (str (spaceT y))), isV (uN), isV (.string (str (fdsT y))), isV (.pointer (some ⟨G, 92, none⟩)), isV (.bool y.mask), isV (.string (str (flagT y.mask))), isV (.pointer (some ⟨G, 93, none⟩)), isV (.int .u32 (y.code : Int)), isV (.int .u64 (y.code : Int)), isV (.string (str (putL y.code 4))), isV (.pointer (some ⟨G, 94, none⟩)), isV (.int .i64 ((y.why : Int))), isV (.string (str (Lib.itoa y.why))), isV (.pointer (some ⟨G, 95, none⟩)), isV (.int .u64 (y.num : Int)), isV (.string (str (putL y.num 8))), rowV 10 9 #[.string (str (Lib.itoa y.pid)), .string (str (Lib.itoa y.parent)), .string (str (Lib.itoa y.state)), .string (str (cpuT y)), .string (str (spaceT y)), .string (str (fdsT y)), .string (str (flagT y.mask)), .string (str (putL y.code 4)), .string (str (Lib.itoa y.why)), .string (str (putL y.num 8))]]) (by kernel_rfl) (by kernel_rfl) (listV_ext (fun p hp => by simp only [List.mem_cons, List.not_mem_nil, or_false] at hp; rcases hp with rfl | rfl | rfl | rfl | rfl | rfl | rfl | rfl | rfl | rfl | rfl | rfl | rfl | rfl | rfl | rfl | rfl | rfl | rfl | rfl | rfl | rfl | rfl | rfl | rfl | rfl | rfl | rfl | rfl <;> first | exact lasts_is _ | exact lasts_row _ _ _)) (fun us => ?_)
       simp only [List.take_succ_cons, List.take_zero, List.drop_succ_cons, List.drop_zero]
       rw [webWalk]
       refine And.intro (fun w' hx hd => ?_) ?_
       ·clear hd
        refine web_of_list 83 rfl (by simp) rfl ?_
        go_wp2_with fail
        exact ⟨Ext.refl _, rfl⟩
       simp only [Act.put, List.setIfInBounds_toArray, List.set_cons_zero, List.set_cons_succ]
       rw [webWalk]
       refine And.intro (fun w' hx hd => ?_) ?_
       ·have h0 := hd 0 (by simp)
        clear hd
        generalize us 0 = u0 at *
        obtain rfl : u0 = .pointer (some ⟨G, 0, none⟩) := h0
        have q0 : w'.cell? ⟨G, 0, none⟩ = some (.int .i64 y.pid) := (bC.ext hx).cell 0
        refine web_of_list 84 rfl (by simp [Act.put]) rfl ?_
        go_wp2_with fail
        exact ⟨Ext.refl _, rfl⟩
       simp only [Act.put, List.setIfInBounds_toArray, List.set_cons_zero, List.set_cons_succ]
       rw [webWalk]
       refine And.intro (fun w' hx hd => ?_) ?_
       ·have h1 := hd 1 (by simp)
        clear hd
        generalize us 1 = u1 at *
        obtain rfl : u1 = .int .i64 (y.pid : Int) := h1
        refine web_of_list 85 rfl (by simp [Act.put]) rfl ?_
        go_wp2_with (go_at_call 102; refine (idec_any y.pid _ HF.out.pid (HD.out.ext (xC.trans hx))).mono ?_; rintro e w2 ⟨rfl, x2⟩)
        first | exact ⟨x2, rfl⟩ | exact rfl
       simp only [Act.put, List.setIfInBounds_toArray, List.set_cons_zero, List.set_cons_succ]
       rw [webWalk]
       refine And.intro (fun w' hx hd => ?_) ?_
       ·clear hd
        refine web_of_list 86 rfl (by simp [Act.put]) rfl ?_
        go_wp2_with fail
        exact ⟨Ext.refl _, rfl⟩
       simp only [Act.put, List.setIfInBounds_toArray, List.set_cons_zero, List.set_cons_succ]
       rw [webWalk]
       refine And.intro (fun w' hx hd => ?_) ?_
       ·have h3 := hd 3 (by simp)
        clear hd
        generalize us 3 = u3 at *
        obtain rfl : u3 = .pointer (some ⟨G, 1, none⟩) := h3
        have q0 : w'.cell? ⟨G, 1, none⟩ = some (.int .i64 y.parent) := (bC.ext hx).cell 1
        refine web_of_list 87 rfl (by simp [Act.put]) rfl ?_
        go_wp2_with fail
        exact ⟨Ext.refl _, rfl⟩
       simp only [Act.put, List.setIfInBounds_toArray, List.set_cons_zero, List.set_cons_succ]
       rw [webWalk]
       refine And.intro (fun w' hx hd => ?_) ?_
       ·have h4 := hd 4 (by simp)
        clear hd
        generalize us 4 = u4 at *
        obtain rfl : u4 = .int .i64 (y.parent : Int) := h4
        refine web_of_list 88 rfl (by simp [Act.put]) rfl ?_
        go_wp2_with (go_at_call 102; refine (idec_any y.parent _ HF.out.parent (HD.out.ext (xC.trans hx))).mono ?_; rintro e w2 ⟨rfl, x2⟩)
        first | exact ⟨x2, rfl⟩ | exact rfl
       simp only [Act.put, List.setIfInBounds_toArray, List.set_cons_zero, List.set_cons_succ]
       rw [webWalk]
       refine And.intro (fun w' hx hd => ?_) ?_
       ·clear hd
        refine web_of_list 89 rfl (by simp [Act.put]) rfl ?_
        go_wp2_with fail
        exact ⟨Ext.refl _, rfl⟩
       simp only [Act.put, List.setIfInBounds_toArray, List.set_cons_zero, List.set_cons_succ]
       rw [webWalk]
       refine And.intro (fun w' hx hd => ?_) ?_
       ·have h6 := hd 6 (by simp)
        clear hd
        generalize us 6 = u6 at *
        obtain rfl : u6 = .pointer (some ⟨G, 2, none⟩) := h6
        have q0 : w'.cell? ⟨G, 2, none⟩ = some (.int .i64 y.state) := (bC.ext hx).cell 2
        refine web_of_list 90 rfl (by simp [Act.put]) rfl ?_
        go_wp2_with fail
        exact ⟨Ext.refl _, rfl⟩
       simp only [Act.put, List.setIfInBounds_toArray, List.set_cons_zero, List.set_cons_succ]
       rw [webWalk]
       refine And.intro (fun w' hx hd => ?_) ?_
       ·have h7 := hd 7 (by simp)
        clear hd
        generalize us 7 = u7 at *
        obtain rfl : u7 = .int .i64 (y.state : Int) := h7
        refine web_of_list 91 rfl (by simp [Act.put]) rfl ?_
        go_wp2_with (go_at_call 102; refine (idec_any y.state _ HF.out.state (HD.out.ext (xC.trans hx))).mono ?_; rintro e w2 ⟨rfl, x2⟩)
        first | exact ⟨x2, rfl⟩ | exact rfl
       simp only [Act.put, List.setIfInBounds_toArray, List.set_cons_zero, List.set_cons_succ]
       rw [webWalk]
       refine And.intro (fun w' hx hd => ?_) ?_
       ·clear hd
        refine web_of_list 92 rfl (by simp [Act.put]) rfl ?_
        go_wp2_with fail
        exact ⟨Ext.refl _, rfl⟩
       simp only [Act.put, List.setIfInBounds_toArray, List.set_cons_zero, List.set_cons_succ]
       rw [webWalk]
       refine And.intro (fun w' hx hd => ?_) ?_
       ·have h9 := hd 9 (by simp)
        clear hd
        generalize us 9 = u9 at *
        obtain rfl : u9 = uC := h9
        have cv := conv_own (own_ext oC hx) (by decide)
        refine web_of_list 93 rfl (by simp [Act.put]) rfl ?_
        go_wp2_with fail
        exact ⟨Ext.refl _, rfl⟩
       simp only [Act.put, List.setIfInBounds_toArray, List.set_cons_zero, List.set_cons_succ]
       rw [webWalk]
       refine And.intro (fun w' hx hd => ?_) ?_
       ·clear hd
        refine web_of_list 94 rfl (by simp [Act.put]) rfl ?_
        go_wp2_with fail
        exact ⟨Ext.refl _, rfl⟩
       simp only [Act.put, List.setIfInBounds_toArray, List.set_cons_zero, List.set_cons_succ]
       rw [webWalk]
       refine And.intro (fun w' hx hd => ?_) ?_
       ·have h11 := hd 11 (by simp)
        clear hd
        generalize us 11 = u11 at *
        obtain rfl : u11 = uM := h11
        have cv := conv_own (own_ext oS hx) (by decide)
        refine web_of_list 95 rfl (by simp [Act.put]) rfl ?_
        go_wp2_with fail
        exact ⟨Ext.refl _, rfl⟩
       simp only [Act.put, List.setIfInBounds_toArray, List.set_cons_zero, List.set_cons_succ]
       rw [webWalk]
       refine And.intro (fun w' hx hd => ?_) ?_
       ·clear hd
        refine web_of_list 96 rfl (by simp [Act.put]) rfl ?_
        go_wp2_with fail
        exact ⟨Ext.refl _, rfl⟩
       simp only [Act.put, List.setIfInBounds_toArray, List.set_cons_zero, List.set_cons_succ]
       rw [webWalk]
       refine And.intro (fun w' hx hd => ?_) ?_
       ·have h13 := hd 13 (by simp)
        clear hd
        generalize us 13 = u13 at *
        obtain rfl : u13 = uN := h13
        have cv := conv_own (own_ext oF hx) (by decide)
        refine web_of_list 97 rfl (by simp [Act.put]) rfl ?_
        go_wp2_with fail
        exact ⟨Ext.refl _, rfl⟩
       simp only [Act.put, List.setIfInBounds_toArray, List.set_cons_zero, List.set_cons_succ]
       rw [webWalk]
       refine And.intro (fun w' hx hd => ?_) ?_
       ·clear hd
        refine web_of_list 98 rfl (by simp [Act.put]) rfl ?_
        go_wp2_with fail
        exact ⟨Ext.refl _, rfl⟩
       simp only [Act.put, List.setIfInBounds_toArray, List.set_cons_zero, List.set_cons_succ]
       rw [webWalk]
       refine And.intro (fun w' hx hd => ?_) ?_
       ·have h15 := hd 15 (by simp)
        clear hd
        generalize us 15 = u15 at *
        obtain rfl : u15 = .pointer (some ⟨G, 92, none⟩) := h15
        have q0 : w'.cell? ⟨G, 92, none⟩ = some (.bool y.mask) := (bC.ext hx).cell 92
        refine web_of_list 99 rfl (by simp [Act.put]) rfl ?_
        go_wp2_with fail
        exact ⟨Ext.refl _, rfl⟩
       simp only [Act.put, List.setIfInBounds_toArray, List.set_cons_zero, List.set_cons_succ]
       rw [webWalk]
       refine And.intro (fun w' hx hd => ?_) ?_
       ·have h16 := hd 16 (by simp)
        clear hd
        generalize us 16 = u16 at *
        obtain rfl : u16 = .bool y.mask := h16
        refine web_of_list 100 rfl (by simp [Act.put]) rfl ?_
        go_wp2_with (go_at_call 105; refine (iflag_any y.mask _).mono ?_; rintro e w2 ⟨rfl, x2⟩)
        first | exact ⟨x2, rfl⟩ | exact rfl
       simp only [Act.put, List.setIfInBounds_toArray, List.set_cons_zero, List.set_cons_succ]
       rw [webWalk]
       refine And.intro (fun w' hx hd => ?_) ?_
       ·clear hd
        refine web_of_list 101 rfl (by simp [Act.put]) rfl ?_
        go_wp2_with fail
        exact ⟨Ext.refl _, rfl⟩
       simp only [Act.put, List.setIfInBounds_toArray, List.set_cons_zero, List.set_cons_succ]
       rw [webWalk]
       refine And.intro (fun w' hx hd => ?_) ?_
       ·have h18 := hd 18 (by simp)
        clear hd
        generalize us 18 = u18 at *
        obtain rfl : u18 = .pointer (some ⟨G, 93, none⟩) := h18
        have q0 : w'.cell? ⟨G, 93, none⟩ = some (.int .u32 y.code) := (bC.ext hx).cell 93
        refine web_of_list 102 rfl (by simp [Act.put]) rfl ?_
        go_wp2_with fail
        exact ⟨Ext.refl _, rfl⟩
       simp only [Act.put, List.setIfInBounds_toArray, List.set_cons_zero, List.set_cons_succ]
       rw [webWalk]
       refine And.intro (fun w' hx hd => ?_) ?_
       ·have h19 := hd 19 (by simp)
        clear hd
        generalize us 19 = u19 at *
        obtain rfl : u19 = .int .u32 (y.code : Int) := h19
        have hu := HUC.out
        refine web_of_list 103 rfl (by simp [Act.put]) rfl ?_
        go_wp2_with fail
        exact ⟨Ext.refl _, rfl⟩
       simp only [Act.put, List.setIfInBounds_toArray, List.set_cons_zero, List.set_cons_succ]
       rw [webWalk]
       refine And.intro (fun w' hx hd => ?_) ?_
       ·have h20 := hd 20 (by simp)
        clear hd
        generalize us 20 = u20 at *
        obtain rfl : u20 = .int .u64 (y.code : Int) := h20
        refine web_of_list 104 rfl (by simp [Act.put]) rfl ?_
        go_wp2_with (go_at_call 104; refine (put_4 y.code _ HF.out.code.1 HF.out.code.2).mono ?_; rintro e w2 ⟨rfl, x2⟩)
        first | exact ⟨x2, rfl⟩ | exact rfl
       simp only [Act.put, List.setIfInBounds_toArray, List.set_cons_zero, List.set_cons_succ]
       rw [webWalk]
       refine And.intro (fun w' hx hd => ?_) ?_
       ·clear hd
        refine web_of_list 105 rfl (by simp [Act.put]) rfl ?_
        go_wp2_with fail
        exact ⟨Ext.refl _, rfl⟩
       simp only [Act.put, List.setIfInBounds_toArray, List.set_cons_zero, List.set_cons_succ]
       rw [webWalk]
       refine And.intro (fun w' hx hd => ?_) ?_
       ·have h22 := hd 22 (by simp)
        clear hd
        generalize us 22 = u22 at *
        obtain rfl : u22 = .pointer (some ⟨G, 94, none⟩) := h22
        have q0 : w'.cell? ⟨G, 94, none⟩ = some (.int .i64 y.why) := (bC.ext hx).cell 94
        refine web_of_list 106 rfl (by simp [Act.put]) rfl ?_
        go_wp2_with fail
        exact ⟨Ext.refl _, rfl⟩
       simp only [Act.put, List.setIfInBounds_toArray, List.set_cons_zero, List.set_cons_succ]
       rw [webWalk]
       refine And.intro (fun w' hx hd => ?_) ?_
       ·have h23 := hd 23 (by simp)
        clear hd
        generalize us 23 = u23 at *
        obtain rfl : u23 = .int .i64 (y.why : Int) := h23
        refine web_of_list 107 rfl (by simp [Act.put]) rfl ?_
        go_wp2_with (go_at_call 102; refine (idec_any y.why _ HF.out.why (HD.out.ext (xC.trans hx))).mono ?_; rintro e w2 ⟨rfl, x2⟩)
        first | exact ⟨x2, rfl⟩ | exact rfl
       simp only [Act.put, List.setIfInBounds_toArray, List.set_cons_zero, List.set_cons_succ]
       rw [webWalk]
       refine And.intro (fun w' hx hd => ?_) ?_
       ·clear hd
        refine web_of_list 108 rfl (by simp [Act.put]) rfl ?_
        go_wp2_with fail
        exact ⟨Ext.refl _, rfl⟩
       simp only [Act.put, List.setIfInBounds_toArray, List.set_cons_zero, List.set_cons_succ]
       rw [webWalk]
       refine And.intro (fun w' hx hd => ?_) ?_
       ·have h25 := hd 25 (by simp)
        clear hd
        generalize us 25 = u25 at *
        obtain rfl : u25 = .pointer (some ⟨G, 95, none⟩) := h25
        have q0 : w'.cell? ⟨G, 95, none⟩ = some (.int .u64 y.num) := (bC.ext hx).cell 95
        refine web_of_list 109 rfl (by simp [Act.put]) rfl ?_
        go_wp2_with fail
        exact ⟨Ext.refl _, rfl⟩
       simp only [Act.put, List.setIfInBounds_toArray, List.set_cons_zero, List.set_cons_succ]
       rw [webWalk]
       refine And.intro (fun w' hx hd => ?_) ?_
       ·have h26 := hd 26 (by simp)
        clear hd
        generalize us 26 = u26 at *
        obtain rfl : u26 = .int .u64 (y.num : Int) := h26
        refine web_of_list 110 rfl (by simp [Act.put]) rfl ?_
        go_wp2_with (go_at_call 104; refine (put_8 y.num _ HF.out.num.1 HF.out.num.2).mono ?_; rintro e w2 ⟨rfl, x2⟩)
        first | exact ⟨x2, rfl⟩ | exact rfl
       simp only [Act.put, List.setIfInBounds_toArray, List.set_cons_zero, List.set_cons_succ]
       rw [webWalk]
       refine And.intro (fun w' hx hd => ?_) ?_
       ·have h2 := hd 2 (by simp)
        have h5 := hd 5 (by simp)
        have h8 := hd 8 (by simp)
        have h10 := hd 10 (by simp)
        have h12 := hd 12 (by simp)
        have h14 := hd 14 (by simp)
        have h17 := hd 17 (by simp)
        have h21 := hd 21 (by simp)
        have h24 := hd 24 (by simp)
        have h27 := hd 27 (by simp)
        clear hd
        generalize us 2 = u2 at *
        generalize us 5 = u5 at *
        generalize us 8 = u8 at *
        generalize us 10 = u10 at *
        generalize us 12 = u12 at *
        generalize us 14 = u14 at *
        generalize us 17 = u17 at *
        generalize us 21 = u21 at *
        generalize us 24 = u24 at *
        generalize us 27 = u27 at *
        obtain rfl : u2 = .string (str (Lib.itoa y.pid)) := h2
        obtain rfl : u5 = .string (str (Lib.itoa y.parent)) := h5
        obtain rfl : u8 = .string (str (Lib.itoa y.state)) := h8
        obtain rfl : u10 = .string (str (cpuT y)) := h10
        obtain rfl : u12 = .string (str (spaceT y)) := h12
        obtain rfl : u14 = .string (str (fdsT y)) := h14
        obtain rfl : u17 = .string (str (flagT y.mask)) := h17
        obtain rfl : u21 = .string (str (putL y.code 4)) := h21
        obtain rfl : u24 = .string (str (Lib.itoa y.why)) := h24
        obtain rfl : u27 = .string (str (putL y.num 8)) := h27
        refine web_of_list 111 rfl (by simp [Act.put]) rfl ?_
        go_wp2_with fail
        exact ⟨(Ext.refl w').alloc _, _, rfl, Box.new _ _ _⟩
       simp only [Act.put, List.setIfInBounds_toArray, List.set_cons_zero, List.set_cons_succ]
       rw [webWalk]
       intro w' hx hv
       have h28 := hv 28 (by omega)
       clear hv
       generalize us 0 = u0 at *
       generalize us 1 = u1 at *
       generalize us 2 = u2 at *
       generalize us 3 = u3 at *
       generalize us 4 = u4 at *
       generalize us 5 = u5 at *
       generalize us 6 = u6 at *
       generalize us 7 = u7 at *
       generalize us 8 = u8 at *
       generalize us 9 = u9 at *
       generalize us 10 = u10 at *
       generalize us 11 = u11 at *
       generalize us 12 = u12 at *
       generalize us 13 = u13 at *
       generalize us 14 = u14 at *
       generalize us 15 = u15 at *
       generalize us 16 = u16 at *
       generalize us 17 = u17 at *
       generalize us 18 = u18 at *
       generalize us 19 = u19 at *
       generalize us 20 = u20 at *
       generalize us 21 = u21 at *
       generalize us 22 = u22 at *
       generalize us 23 = u23 at *
       generalize us 24 = u24 at *
       generalize us 25 = u25 at *
       generalize us 26 = u26 at *
       generalize us 27 = u27 at *
       generalize us 28 = u28 at *
       obtain ⟨g111, rfl, bg111⟩ := h28
       have HS := Lib.hid (strs_ofBox (ss := procL y) bg111)
       clear bg111
       go_wp2_with (go_at_call 101; refine (row_any (some ⟨g111, 0, none⟩) 10 10 (procL y) _ HS.out HSum.out (by decide)).mono ?_; rintro e w2 ⟨rfl, x2⟩)
       go_ret
       exact ⟨rfl, (xC.trans hx).trans x2⟩
end Go.Proofs.YtfaplefkakpgcaaGreatDoor
/- image.restOf: all of a machine but its pages and blocks, as a row. -/
namespace Go.Proofs.YtfaplefkakpgcaaGreatDoor
set_option linter.unusedVariables false
set_option linter.unusedSimpArgs false
open Go.RowKit
set_option maxHeartbeats 8000000 in
set_option maxRecDepth 100000 in
theorem restOf_any (m : Mac) (d : MacD) (w : World) (hf : RestFit m d) (hi : MacIn w m d) (hD0 : Dec10 w) :
  Calls Tryz.prog 54 #[.agg m.cells] w fun e w' => e = .returned (.string (str (restT m d))) ∧ Ext w w' := by
 have HSum := Lib.hid (show sumL (restL m d) ≤ 1000000000 by
  have := sumL_few 1404000 (restL m d) (restL_few hf)
  rw [show (restL m d).length = 16 from rfl] at this; omega)
 have hpi := hi.pi
 have hpr := hi.pr
 have hpe := hi.pe
 have hdi := hi.di
 have HF := Lib.hid hf
 have x0 := (Ext.refl w).alloc (.cells m.cells 38)
 have b0 := Box.new w 38 m.cells
 have HD := Lib.hid (hD0.ext x0)
 clear hf hi hD0
 go_enter Tryz.func54, Tryz.ntmps54
 go_upto_region 1 with fail
 replace hpi := hpi.ext x0
 replace hpr := hpr.ext x0
 replace hpe := hpe.ext x0
 replace hdi := hdi.ext x0
 generalize w.alloc (.cells m.cells 38) = w0 at *
 generalize w.heap.size = Gb at *
 obtain ⟨clock, quantum, cur, left, ⟨fA, fn, fc⟩, ⟨rA, rn, rc⟩, next, init, ⟨A, n, c⟩, newPipe, inn, fin, told, ⟨bA, bn, bc⟩, ⟨pA, pn, pc⟩, dleft, ⟨dA, dn, dc⟩⟩ := m
 obtain ⟨dfr, dpr, l, dbl, dpe, ddi⟩ := d
 simp only at hpi hpr hpe hdi
 obtain rfl : n = l.length := hpi.1
 obtain rfl : rn = dpr.length := hpr.1
 obtain rfl : pn = dpe.length := hpe.1
 obtain rfl : dn = ddi.length := hdi.1
 have HR := Lib.hid hpi
 have HPr := Lib.hid hpr
 have HPe := Lib.hid hpe
 have HDi := Lib.hid hdi
 clear hpi hpr hpe hdi
 have hl : l.length ≤ 1000 := HF.out.pil
 have hlr : dpr.length ≤ 1000 := HF.out.prl
 have HF0 := HF
 clear HF
 have HF := Lib.hid HF0.out.pi
 simp only at HF
 have q8 : w0.cell? ⟨Gb, 8, none⟩ = some (.slice A l.length c) := b0.cell 8
 generalize hG : w0.heap.size = G
 go_upto_region 2 with (refine wp_make0 (c := l.length) G rfl _ _ rfl rfl rfl (by omega) (Nat.le_of_eq hG.symm) ?_; intro w1 o1 x1)
 rw [hG] at o1
 have q8' : w1.cell? ⟨Gb, 8, none⟩ = some (.slice A l.length c) := (b0.ext x1).cell 8
 clear q8
 go_upto_region 3 with fail
 go_loopw [3, 16] (fun u i wx => ∃ k : Nat, k ≤ l.length ∧ i = .int .i64 k ∧ Ext w0 wx ∧ wx.ownsRow G 9 1 u k (strL ((l.take k).map writeT))) (fun _ i _ => l.length - (intOf i).toNat)
 case atStart => exact ⟨0, by omega, rfl, x1, o1⟩
 case round =>
  clear x1 o1 q8'
  obtain ⟨k, hk, rfl, xk, ok⟩ := hrel
  obtain ⟨uL, huL⟩ : ∃ v : Value, v = u3 := ⟨_, rfl⟩
  subst huL
  by_cases hlt : k < l.length
  ·obtain ⟨b2, o2, hA, hcell⟩ := (HR.out.ext xk).wrs.2 (by show 0 < l.length; omega)
   subst hA
   have e1 := (hcell k hlt).1
   have e2 := (hcell k hlt).2
   have hki : (k : Int) < (l.length : Int) := by omega
   have HY := Lib.hid (HF.out l[k] (List.getElem_mem _))
   have HT1 := Lib.hid (show (l.take (k + 1)).map writeT = (l.take k).map writeT ++ [writeT l[k]] by rw [List.take_succ_eq_append_getElem hlt, List.map_append]; rfl)
   clear hcell
   generalize l[k] = y at *
   have HN := Lib.hid HY.out.1
   have HSum := Lib.hid (show sumL [Lib.itoa y.1, y.2] ≤ 1000000000 by
    have h1 := itoa_len HY.out.1.1 HY.out.1.2
    have h2 := HY.out.2
    simp only [sumL, List.map_cons, List.map_nil, List.sum_cons, List.sum_nil]; omega)
   clear HY
   go_upto_region 5 with fail
   have y5 : Ext wr (wr.alloc (.cells #[.int .i64 y.1, .string (str y.2)] 95)) := (Ext.refl wr).alloc _
   have bw := Box.new wr 95 #[.int .i64 y.1, .string (str y.2)]
   have ok5 := own_ext ok y5
   have xk7 := xk.trans y5
   have z7 : G ≤ (wr.alloc (.cells #[.int .i64 y.1, .string (str y.2)] 95)).heap.size := by rw [← hG]; exact xk7.size
   clear ok e1 e2 xk y5
   generalize wr.alloc (.cells #[.int .i64 y.1, .string (str y.2)] 95) = w7 at *
   generalize wr.heap.size = gw at *
   refine wp_region_web' 9 [[], [], [1], [2], [], [4], [3, 5], [6], [7]] (listV [isV (uL), isV (.pointer (some ⟨gw, 0, none⟩)), isV (.int .i64 ((y.1 : Int))), isV (.string (str (Lib.itoa y.1))), isV (.pointer (some ⟨gw, 1, none⟩)), isV (.string (str (y.2))), rowV 2 9 #[.string (str (Lib.itoa y.1)), .string (str (y.2))], isV (.string (str (writeT y))), rowV 1 9 #[.string (str (writeT y))]]) (by kernel_rfl) (by kernel_rfl) (listV_ext (fun p hp => by simp only [List.mem_cons, List.not_mem_nil, or_false] at hp; rcases hp with rfl | rfl | rfl | rfl | rfl | rfl | rfl | rfl | rfl <;> first | exact lasts_is _ | exact lasts_row _ _ _)) (fun us => ?_)
   simp only [List.take_succ_cons, List.take_zero, List.drop_succ_cons, List.drop_zero]
   rw [webWalk]
   refine And.intro (fun w' hx hd => ?_) ?_
   ·clear hd
    refine web_of_list 20 rfl (by simp) rfl ?_
    go_wp2_with fail
    exact ⟨Ext.refl _, rfl⟩
   simp only [Act.put, List.setIfInBounds_toArray, List.set_cons_zero, List.set_cons_succ]
   rw [webWalk]
   refine And.intro (fun w' hx hd => ?_) ?_
   ·clear hd
    refine web_of_list 21 rfl (by simp [Act.put]) rfl ?_
    go_wp2_with fail
    exact ⟨Ext.refl _, rfl⟩
   simp only [Act.put, List.setIfInBounds_toArray, List.set_cons_zero, List.set_cons_succ]
   rw [webWalk]
   refine And.intro (fun w' hx hd => ?_) ?_
   ·have h1 := hd 1 (by simp)
    clear hd
    generalize us 1 = u1 at *
    obtain rfl : u1 = .pointer (some ⟨gw, 0, none⟩) := h1
    have q0 := (bw.ext hx).cell 0
    refine web_of_list 22 rfl (by simp [Act.put]) rfl ?_
    go_wp2_with fail
    exact ⟨Ext.refl _, rfl⟩
   simp only [Act.put, List.setIfInBounds_toArray, List.set_cons_zero, List.set_cons_succ]
   rw [webWalk]
   refine And.intro (fun w' hx hd => ?_) ?_
   ·have h2 := hd 2 (by simp)
    clear hd
    generalize us 2 = u2 at *
    obtain rfl : u2 = .int .i64 (y.1 : Int) := h2
    refine web_of_list 23 rfl (by simp [Act.put]) rfl ?_
    go_wp2_with (go_at_call 102; refine (idec_any y.1 _ HN.out (HD.out.ext (xk7.trans hx))).mono ?_; rintro e w2 ⟨rfl, x2⟩)
    first | exact ⟨x2, rfl⟩ | exact rfl
   simp only [Act.put, List.setIfInBounds_toArray, List.set_cons_zero, List.set_cons_succ]
   rw [webWalk]
   refine And.intro (fun w' hx hd => ?_) ?_
   ·clear hd
    refine web_of_list 24 rfl (by simp [Act.put]) rfl ?_
    go_wp2_with fail
    exact ⟨Ext.refl _, rfl⟩
   simp only [Act.put, List.setIfInBounds_toArray, List.set_cons_zero, List.set_cons_succ]
   rw [webWalk]
   refine And.intro (fun w' hx hd => ?_) ?_
   ·have h4 := hd 4 (by simp)
    clear hd
    generalize us 4 = u4 at *
    obtain rfl : u4 = .pointer (some ⟨gw, 1, none⟩) := h4
    have q0 := (bw.ext hx).cell 1
    refine web_of_list 25 rfl (by simp [Act.put]) rfl ?_
    go_wp2_with fail
    exact ⟨Ext.refl _, rfl⟩
   simp only [Act.put, List.setIfInBounds_toArray, List.set_cons_zero, List.set_cons_succ]
   rw [webWalk]
   refine And.intro (fun w' hx hd => ?_) ?_
   ·have h3 := hd 3 (by simp)
    have h5 := hd 5 (by simp)
    clear hd
    generalize us 3 = u3 at *
    generalize us 5 = u5 at *
    obtain rfl : u3 = .string (str (Lib.itoa y.1)) := h3
    obtain rfl : u5 = .string (str (y.2)) := h5
    refine web_of_list 26 rfl (by simp [Act.put]) rfl ?_
    go_wp2_with fail
    exact ⟨(Ext.refl w').alloc _, _, rfl, Box.new _ _ _⟩
   simp only [Act.put, List.setIfInBounds_toArray, List.set_cons_zero, List.set_cons_succ]
   rw [webWalk]
   refine And.intro (fun w' hx hd => ?_) ?_
   ·have h6 := hd 6 (by simp)
    clear hd
    generalize us 6 = u6 at *
    obtain ⟨g26, rfl, bg26⟩ := h6
    have HS := Lib.hid (strs_ofBox (ss := [Lib.itoa y.1, y.2]) bg26)
    clear bg26
    refine web_of_list 27 rfl (by simp [Act.put]) rfl ?_
    go_wp2_with (go_at_call 101; refine (row_any (some ⟨g26, 0, none⟩) 2 2 [Lib.itoa y.1, y.2] _ HS.out HSum.out (by decide)).mono ?_; rintro e w2 ⟨rfl, x2⟩)
    first | exact ⟨x2, rfl⟩ | exact rfl
   simp only [Act.put, List.setIfInBounds_toArray, List.set_cons_zero, List.set_cons_succ]
   rw [webWalk]
   refine And.intro (fun w' hx hd => ?_) ?_
   ·have h7 := hd 7 (by simp)
    clear hd
    generalize us 7 = u7 at *
    obtain rfl : u7 = .string (str (writeT y)) := h7
    refine web_of_list 28 rfl (by simp [Act.put]) rfl ?_
    go_wp2_with fail
    exact ⟨(Ext.refl w').alloc _, _, rfl, Box.new _ _ _⟩
   simp only [Act.put, List.setIfInBounds_toArray, List.set_cons_zero, List.set_cons_succ]
   rw [webWalk]
   intro w' hx hv
   have h0 := hv 0 (by omega)
   have h8 := hv 8 (by omega)
   clear hv
   generalize us 0 = u0 at *
   generalize us 1 = u1 at *
   generalize us 2 = u2 at *
   generalize us 3 = u3 at *
   generalize us 4 = u4 at *
   generalize us 5 = u5 at *
   generalize us 6 = u6 at *
   generalize us 7 = u7 at *
   generalize us 8 = u8 at *
   obtain rfl : u0 = uL := h0
   obtain ⟨g28, rfl, bg28⟩ := h8
   have v6 := strs_ofBox (ss := [writeT y]) bg28
   have o5' := own_ext ok5 hx
   have x5' := xk7.trans hx
   have z5' := Nat.le_trans z7 hx.size
   go_wp2_with (refine wp_app_strs G rfl _ _ rfl rfl rfl o5' v6 (by omega) z5' (by decide) ?_; intro u6 w6 o6 g6)
   have x6 : Ext w0 w6 := x5'.grown g6 (fun k e => by rw [hG]; exact own_low o5' e)
   go_roundw
   case rel => exact ⟨k + 1, by omega, by go_num, x6, by rw [HT1.out]; exact o6⟩
   case measure => simp [intOf]; omega
  ·obtain rfl : k = l.length := by omega
   rw [List.take_length] at ok
   obtain ⟨wA, hwA⟩ : ∃ v : World, v = wr := ⟨_, rfl⟩
   subst hwA
   have hsum : sumL (l.map writeT) ≤ 1000000000 := by
    have := sumL_few 1028 (l.map writeT) (fun s hs => by
     obtain ⟨x, hx, rfl⟩ := List.mem_map.1 hs
     exact writeT_len (HF.out x hx).1 (HF.out x hx).2)
    rw [List.length_map] at this
    omega
   obtain ⟨A3, c3, e3⟩ := own_asSl ok
   subst e3
   have s3 := Strs.own ok
   have HM3 := Lib.hid hsum
   have hb := b0.ext xk
   have q5 : wA.cell? ⟨Gb, 5, none⟩ = some (.slice rA dpr.length rc) := hb.cell 5
   generalize hG2 : wA.heap.size = G2
   go_upto_region 8 with (refine wp_make0 (c := dpr.length) G2 rfl _ _ rfl rfl rfl (by omega) (Nat.le_of_eq hG2.symm) ?_; intro w2 o2 x2)
   rw [hG2] at o2
   have q5' : w2.cell? ⟨Gb, 5, none⟩ = some (.slice rA dpr.length rc) := (hb.ext x2).cell 5
   clear q5 hsum ok HR HF
   go_upto_region 9 with fail
   go_loopw [6, 38] (fun u i wx => ∃ k : Nat, k ≤ dpr.length ∧ i = .int .i64 k ∧ Ext wA wx ∧ wx.ownsRow G2 9 1 u k (strL ((dpr.take k).map procT))) (fun _ i _ => dpr.length - (intOf i).toNat)
   case atStart => exact ⟨0, by omega, rfl, x2, o2⟩
   case round =>
    clear x2 o2 q5'
    obtain ⟨k, hk, rfl, xj, oj⟩ := hrel
    obtain ⟨uM, huM⟩ : ∃ v : Value, v = u6 := ⟨_, rfl⟩
    subst huM
    by_cases hlt : k < dpr.length
    ·obtain ⟨b2, o2, hA, hcell⟩ := HPr.out.2 (by omega)
     subst hA
     have r1 := range_ext (pr_range hcell hlt) (xk.trans xj)
     clear hcell
     have hki : (k : Int) < (dpr.length : Int) := by omega
     have HY := Lib.hid (HF0.out.pr dpr[k] (List.getElem_mem _))
     have HT1 := Lib.hid (show (dpr.take (k + 1)).map procT = (dpr.take k).map procT ++ [procT dpr[k]] by rw [List.take_succ_eq_append_getElem hlt, List.map_append]; rfl)
     generalize dpr[k] = y at *
     have z5 : G2 ≤ wr.heap.size := by rw [← hG2]; exact xj.size
     go_upto_region 11 with (first
      | (refine wp_ld_pr (.tmp 40) rfl rfl b2 (o2 + k * 96) y rfl r1 ?_)
      | (refine wp_st_pr (.tmp 8) (.tmp 41) rfl rfl wr.heap.size y _ 57 rfl rfl (Box.new _ _ _) rfl ?_; intro w3 b3 g3))
     have x3 : Ext wr w3 := ((Ext.refl wr).alloc _).grown g3 (fun j e => by cases e; exact Nat.le_refl _)
     have oj3 := own_ext oj x3
     have xj3 := xj.trans x3
     have z3 := Nat.le_trans z5 x3.size
     have HPR := Lib.hid (prow_any y w3 HY.out (HD.out.ext (xk.trans xj3)))
     have HLD : w3.rangeAt wr.heap.size 0 (prL y) := box_range b3 (fun j v h => by rw [Nat.zero_add, List.getElem?_toArray]; exact h)
     clear r1 oj g3 x3 b3 HY
     generalize wr.heap.size = gy at *
     generalize procT y = T at *
     go_wp2_with (refine wp_ld_pr (.tmp 8) rfl rfl gy 0 y rfl HLD ?_)
     refine HPR.out.mono ?_
     rintro e w4 ⟨rfl, x4⟩
     have ok4 := own_ext oj3 (x4.alloc (.cells #[.string (str T)] 9))
     have z4 := Nat.le_trans z3 (x4.alloc (.cells #[.string (str T)] 9)).size
     have s4 : Strs (w4.alloc (.cells #[.string (str T)] 9)) (some ⟨w4.heap.size, 0, none⟩) 1 [T] := strs_ofBox (ss := [T]) (Box.new w4 9 #[.string (str T)])
     go_wp2_with (refine wp_app_strs G2 rfl _ _ rfl rfl rfl ok4 s4 (by omega) z4 (by omega) ?_; intro u7 w7 o7 g7)
     have x7 : Ext wA w7 := ((xj3.trans x4).alloc _).grown g7 (fun j e => by rw [hG2]; exact own_low oj3 e)
     go_roundw
     case rel => exact ⟨k + 1, by omega, by go_num, x7, by rw [HT1.out]; exact o7⟩
     case measure => simp [intOf]; omega
    ·obtain rfl : k = dpr.length := by omega
     rw [List.take_length] at oj
     have hsum : sumL (dpr.map procT) ≤ 1000000000 := by
      have := sumL_few 1400 (dpr.map procT) (fun s hs => by
       obtain ⟨x, hx, rfl⟩ := List.mem_map.1 hs
       exact procT_len (HF0.out.pr x hx))
      rw [List.length_map] at this
      omega
     obtain ⟨A4, c4, e4⟩ := own_asSl oj
     subst e4
     have HS4 := Lib.hid (Strs.own oj)
     have HM4 := Lib.hid hsum
     have HS3 := Lib.hid (s3.ext xj)
     have bC := hb.ext xj
     have xC := xk.trans xj
     have XW := Lib.hid (x0.trans xC)
     have HF := HF0
     clear HF0 hsum oj s3 hb xj xk HPr hl hlr hlt hk
     go_wp2_with fail
     refine wp_region_web' 44 [[], [0], [1], [], [3], [4], [], [6], [7], [], [9], [10], [], [12], [13], [], [15], [], [17], [18], [], [20], [], [22], [23], [], [25], [26], [], [28], [29], [30], [], [32], [33], [34], [], [36], [37], [], [39], [], [41], [2, 5, 8, 11, 14, 16, 19, 21, 24, 27, 31, 35, 38, 40, 42]] (listV [isV (.pointer (some ⟨Gb, 0, none⟩)), isV (.int .u64 (clock : Int)), isV (.string (str (putL clock 8))), isV (.pointer (some ⟨Gb, 1, none⟩)), isV (.int .i64 ((quantum : Int))), isV (.string (str (Lib.itoa quantum))), isV (.pointer (some ⟨Gb, 2, none⟩)), isV (.int .i64 ((cur : Int))), isV (.string (str (Lib.itoa cur))), isV (.pointer (some ⟨Gb, 3, none⟩)), isV (.int .i64 ((left : Int))), isV (.string (str (Lib.itoa left))), isV (.pointer (some ⟨Gb, 6, none⟩)), isV (.int .i64 ((next : Int))), isV (.string (str (Lib.itoa next))), isV (.pointer (some ⟨Gb, 7, none⟩)), isV (.string (str (init))), isV (.pointer (some ⟨Gb, 9, none⟩)), isV (.int .i64 ((newPipe : Int))), isV (.string (str (Lib.itoa newPipe))), isV (.pointer (some ⟨Gb, 10, none⟩)), isV (.string (str (inn))), isV (.pointer (some ⟨Gb, 11, none⟩)), isV (.bool fin), isV (.string (str (flagT fin))), isV (.pointer (some ⟨Gb, 12, none⟩)), isV (.int .u64 (told : Int)), isV (.string (str (putL told 8))), isV (.pointer (some ⟨Gb, 13, none⟩)), isV (.pointer (some ⟨Gb, 15, none⟩)), isV (.int .i64 ((dleft : Int))), isV (.string (str (Lib.itoa dleft))), isV (.pointer (some ⟨Gb, 13, none⟩)), isV (.pointer (some ⟨Gb, 14, none⟩)), isV (.slice pA dpe.length pc), isV (.string (str (writesT dpe))), isV (.pointer (some ⟨Gb, 16, none⟩)), isV (.slice dA ddi.length dc), isV (.string (str (writesT ddi))), isV (.slice A3 l.length c3), isV (.string (str (rowL (l.map writeT)))), isV (.slice A4 dpr.length c4), isV (.string (str (rowL (dpr.map procT)))), rowV 16 9 #[.string (str [104, 105, 98, 50]), .string (str (putL clock 8)), .string (str (Lib.itoa quantum)), .string (str (Lib.itoa cur)), .string (str (Lib.itoa left)), .string (str (Lib.itoa next)), .string (str (init)), .string (str (Lib.itoa newPipe)), .string (str (inn)), .string (str (flagT fin)), .string (str (putL told 8)), .string (str (Lib.itoa dleft)), .string (str (writesT dpe)), .string (str (writesT ddi)), .string (str (rowL (l.map writeT))), .string (str (rowL (dpr.map procT)))]]) (by kernel_rfl) (by kernel_rfl) (listV_ext (fun p hp => by simp only [List.mem_cons, List.not_mem_nil, or_false] at hp; rcases hp with rfl | rfl | rfl | rfl | rfl | rfl | rfl | rfl | rfl | rfl | rfl | rfl | rfl | rfl | rfl | rfl | rfl | rfl | rfl | rfl | rfl | rfl | rfl | rfl | rfl | rfl | rfl | rfl | rfl | rfl | rfl | rfl | rfl | rfl | rfl | rfl | rfl | rfl | rfl | rfl | rfl | rfl | rfl | rfl <;> first | exact lasts_is _ | exact lasts_row _ _ _)) (fun us => ?_)
     simp only [List.take_succ_cons, List.take_zero, List.drop_succ_cons, List.drop_zero]
     rw [webWalk]
     refine And.intro (fun w' hx hd => ?_) ?_
     ·clear hd
      refine web_of_list 48 rfl (by simp) rfl ?_
      go_wp2_with fail
      exact ⟨Ext.refl _, rfl⟩
     simp only [Act.put, List.setIfInBounds_toArray, List.set_cons_zero, List.set_cons_succ]
     rw [webWalk]
     refine And.intro (fun w' hx hd => ?_) ?_
     ·have h0 := hd 0 (by simp)
      clear hd
      generalize us 0 = u0 at *
      obtain rfl : u0 = .pointer (some ⟨Gb, 0, none⟩) := h0
      have q0 : w'.cell? ⟨Gb, 0, none⟩ = some (.int .u64 clock) := (bC.ext hx).cell 0
      refine web_of_list 49 rfl (by simp [Act.put]) rfl ?_
      go_wp2_with fail
      exact ⟨Ext.refl _, rfl⟩
     simp only [Act.put, List.setIfInBounds_toArray, List.set_cons_zero, List.set_cons_succ]
     rw [webWalk]
     refine And.intro (fun w' hx hd => ?_) ?_
     ·have h1 := hd 1 (by simp)
      clear hd
      generalize us 1 = u1 at *
      obtain rfl : u1 = .int .u64 (clock : Int) := h1
      refine web_of_list 50 rfl (by simp [Act.put]) rfl ?_
      go_wp2_with (go_at_call 104; refine (put_8 clock _ HF.out.clock.1 HF.out.clock.2).mono ?_; rintro e w2 ⟨rfl, x2⟩)
      first | exact ⟨x2, rfl⟩ | exact rfl
     simp only [Act.put, List.setIfInBounds_toArray, List.set_cons_zero, List.set_cons_succ]
     rw [webWalk]
     refine And.intro (fun w' hx hd => ?_) ?_
     ·clear hd
      refine web_of_list 51 rfl (by simp [Act.put]) rfl ?_
      go_wp2_with fail
      exact ⟨Ext.refl _, rfl⟩
     simp only [Act.put, List.setIfInBounds_toArray, List.set_cons_zero, List.set_cons_succ]
     rw [webWalk]
     refine And.intro (fun w' hx hd => ?_) ?_
     ·have h3 := hd 3 (by simp)
      clear hd
      generalize us 3 = u3 at *
      obtain rfl : u3 = .pointer (some ⟨Gb, 1, none⟩) := h3
      have q0 : w'.cell? ⟨Gb, 1, none⟩ = some (.int .i64 quantum) := (bC.ext hx).cell 1
      refine web_of_list 52 rfl (by simp [Act.put]) rfl ?_
      go_wp2_with fail
      exact ⟨Ext.refl _, rfl⟩
     simp only [Act.put, List.setIfInBounds_toArray, List.set_cons_zero, List.set_cons_succ]
     rw [webWalk]
     refine And.intro (fun w' hx hd => ?_) ?_
     ·have h4 := hd 4 (by simp)
      clear hd
      generalize us 4 = u4 at *
      obtain rfl : u4 = .int .i64 (quantum : Int) := h4
      refine web_of_list 53 rfl (by simp [Act.put]) rfl ?_
      go_wp2_with (go_at_call 102; refine (idec_any quantum _ HF.out.quantum (HD.out.ext (xC.trans hx))).mono ?_; rintro e w2 ⟨rfl, x2⟩)
      first | exact ⟨x2, rfl⟩ | exact rfl
     simp only [Act.put, List.setIfInBounds_toArray, List.set_cons_zero, List.set_cons_succ]
     rw [webWalk]
     refine And.intro (fun w' hx hd => ?_) ?_
     ·clear hd
      refine web_of_list 54 rfl (by simp [Act.put]) rfl ?_
      go_wp2_with fail
      exact ⟨Ext.refl _, rfl⟩
     simp only [Act.put, List.setIfInBounds_toArray, List.set_cons_zero, List.set_cons_succ]
     rw [webWalk]
     refine And.intro (fun w' hx hd => ?_) ?_
     ·have h6 := hd 6 (by simp)
      clear hd
      generalize us 6 = u6 at *
      obtain rfl : u6 = .pointer (some ⟨Gb, 2, none⟩) := h6
      have q0 : w'.cell? ⟨Gb, 2, none⟩ = some (.int .i64 cur) := (bC.ext hx).cell 2
      refine web_of_list 55 rfl (by simp [Act.put]) rfl ?_
      go_wp2_with fail
      exact ⟨Ext.refl _, rfl⟩
     simp only [Act.put, List.setIfInBounds_toArray, List.set_cons_zero, List.set_cons_succ]
     rw [webWalk]
     refine And.intro (fun w' hx hd => ?_) ?_
     ·have h7 := hd 7 (by simp)
      clear hd
      generalize us 7 = u7 at *
      obtain rfl : u7 = .int .i64 (cur : Int) := h7
      refine web_of_list 56 rfl (by simp [Act.put]) rfl ?_
      go_wp2_with (go_at_call 102; refine (idec_any cur _ HF.out.cur (HD.out.ext (xC.trans hx))).mono ?_; rintro e w2 ⟨rfl, x2⟩)
      first | exact ⟨x2, rfl⟩ | exact rfl
     simp only [Act.put, List.setIfInBounds_toArray, List.set_cons_zero, List.set_cons_succ]
     rw [webWalk]
     refine And.intro (fun w' hx hd => ?_) ?_
     ·clear hd
      refine web_of_list 57 rfl (by simp [Act.put]) rfl ?_
      go_wp2_with fail
      exact ⟨Ext.refl _, rfl⟩
     simp only [Act.put, List.setIfInBounds_toArray, List.set_cons_zero, List.set_cons_succ]
     rw [webWalk]
     refine And.intro (fun w' hx hd => ?_) ?_
     ·have h9 := hd 9 (by simp)
      clear hd
      generalize us 9 = u9 at *
      obtain rfl : u9 = .pointer (some ⟨Gb, 3, none⟩) := h9
      have q0 : w'.cell? ⟨Gb, 3, none⟩ = some (.int .i64 left) := (bC.ext hx).cell 3
      refine web_of_list 58 rfl (by simp [Act.put]) rfl ?_
      go_wp2_with fail
      exact ⟨Ext.refl _, rfl⟩
     simp only [Act.put, List.setIfInBounds_toArray, List.set_cons_zero, List.set_cons_succ]
     rw [webWalk]
     refine And.intro (fun w' hx hd => ?_) ?_
     ·have h10 := hd 10 (by simp)
      clear hd
      generalize us 10 = u10 at *
      obtain rfl : u10 = .int .i64 (left : Int) := h10
      refine web_of_list 59 rfl (by simp [Act.put]) rfl ?_
      go_wp2_with (go_at_call 102; refine (idec_any left _ HF.out.left (HD.out.ext (xC.trans hx))).mono ?_; rintro e w2 ⟨rfl, x2⟩)
      first | exact ⟨x2, rfl⟩ | exact rfl
     simp only [Act.put, List.setIfInBounds_toArray, List.set_cons_zero, List.set_cons_succ]
     rw [webWalk]
     refine And.intro (fun w' hx hd => ?_) ?_
     ·clear hd
      refine web_of_list 60 rfl (by simp [Act.put]) rfl ?_
      go_wp2_with fail
      exact ⟨Ext.refl _, rfl⟩
     simp only [Act.put, List.setIfInBounds_toArray, List.set_cons_zero, List.set_cons_succ]
     rw [webWalk]
     refine And.intro (fun w' hx hd => ?_) ?_
     ·have h12 := hd 12 (by simp)
      clear hd
      generalize us 12 = u12 at *
      obtain rfl : u12 = .pointer (some ⟨Gb, 6, none⟩) := h12
      have q0 : w'.cell? ⟨Gb, 6, none⟩ = some (.int .i64 next) := (bC.ext hx).cell 6
      refine web_of_list 61 rfl (by simp [Act.put]) rfl ?_
      go_wp2_with fail
      exact ⟨Ext.refl _, rfl⟩
     simp only [Act.put, List.setIfInBounds_toArray, List.set_cons_zero, List.set_cons_succ]
     rw [webWalk]
     refine And.intro (fun w' hx hd => ?_) ?_
     ·have h13 := hd 13 (by simp)
      clear hd
      generalize us 13 = u13 at *
      obtain rfl : u13 = .int .i64 (next : Int) := h13
      refine web_of_list 62 rfl (by simp [Act.put]) rfl ?_
      go_wp2_with (go_at_call 102; refine (idec_any next _ HF.out.next (HD.out.ext (xC.trans hx))).mono ?_; rintro e w2 ⟨rfl, x2⟩)
      first | exact ⟨x2, rfl⟩ | exact rfl
     simp only [Act.put, List.setIfInBounds_toArray, List.set_cons_zero, List.set_cons_succ]
     rw [webWalk]
     refine And.intro (fun w' hx hd => ?_) ?_
     ·clear hd
      refine web_of_list 63 rfl (by simp [Act.put]) rfl ?_
      go_wp2_with fail
      exact ⟨Ext.refl _, rfl⟩
     simp only [Act.put, List.setIfInBounds_toArray, List.set_cons_zero, List.set_cons_succ]
     rw [webWalk]
     refine And.intro (fun w' hx hd => ?_) ?_
     ·have h15 := hd 15 (by simp)
      clear hd
      generalize us 15 = u15 at *
      obtain rfl : u15 = .pointer (some ⟨Gb, 7, none⟩) := h15
      have q0 : w'.cell? ⟨Gb, 7, none⟩ = some (.string (str init)) := (bC.ext hx).cell 7
      refine web_of_list 64 rfl (by simp [Act.put]) rfl ?_
      go_wp2_with fail
      exact ⟨Ext.refl _, rfl⟩
     simp only [Act.put, List.setIfInBounds_toArray, List.set_cons_zero, List.set_cons_succ]
     rw [webWalk]
     refine And.intro (fun w' hx hd => ?_) ?_
     ·clear hd
      refine web_of_list 65 rfl (by simp [Act.put]) rfl ?_
      go_wp2_with fail
      exact ⟨Ext.refl _, rfl⟩
     simp only [Act.put, List.setIfInBounds_toArray, List.set_cons_zero, List.set_cons_succ]
     rw [webWalk]
     refine And.intro (fun w' hx hd => ?_) ?_
     ·have h17 := hd 17 (by simp)
      clear hd
      generalize us 17 = u17 at *
      obtain rfl : u17 = .pointer (some ⟨Gb, 9, none⟩) := h17
      have q0 : w'.cell? ⟨Gb, 9, none⟩ = some (.int .i64 newPipe) := (bC.ext hx).cell 9
      refine web_of_list 66 rfl (by simp [Act.put]) rfl ?_
      go_wp2_with fail
      exact ⟨Ext.refl _, rfl⟩
     simp only [Act.put, List.setIfInBounds_toArray, List.set_cons_zero, List.set_cons_succ]
     rw [webWalk]
     refine And.intro (fun w' hx hd => ?_) ?_
     ·have h18 := hd 18 (by simp)
      clear hd
      generalize us 18 = u18 at *
      obtain rfl : u18 = .int .i64 (newPipe : Int) := h18
      refine web_of_list 67 rfl (by simp [Act.put]) rfl ?_
      go_wp2_with (go_at_call 102; refine (idec_any newPipe _ HF.out.newPipe (HD.out.ext (xC.trans hx))).mono ?_; rintro e w2 ⟨rfl, x2⟩)
      first | exact ⟨x2, rfl⟩ | exact rfl
     simp only [Act.put, List.setIfInBounds_toArray, List.set_cons_zero, List.set_cons_succ]
     rw [webWalk]
     refine And.intro (fun w' hx hd => ?_) ?_
     ·clear hd
      refine web_of_list 68 rfl (by simp [Act.put]) rfl ?_
      go_wp2_with fail
      exact ⟨Ext.refl _, rfl⟩
     simp only [Act.put, List.setIfInBounds_toArray, List.set_cons_zero, List.set_cons_succ]
     rw [webWalk]
     refine And.intro (fun w' hx hd => ?_) ?_
     ·have h20 := hd 20 (by simp)
      clear hd
      generalize us 20 = u20 at *
      obtain rfl : u20 = .pointer (some ⟨Gb, 10, none⟩) := h20
      have q0 : w'.cell? ⟨Gb, 10, none⟩ = some (.string (str inn)) := (bC.ext hx).cell 10
      refine web_of_list 69 rfl (by simp [Act.put]) rfl ?_
      go_wp2_with fail
      exact ⟨Ext.refl _, rfl⟩
     simp only [Act.put, List.setIfInBounds_toArray, List.set_cons_zero, List.set_cons_succ]
     rw [webWalk]
     refine And.intro (fun w' hx hd => ?_) ?_
     ·clear hd
      refine web_of_list 70 rfl (by simp [Act.put]) rfl ?_
      go_wp2_with fail
      exact ⟨Ext.refl _, rfl⟩
     simp only [Act.put, List.setIfInBounds_toArray, List.set_cons_zero, List.set_cons_succ]
     rw [webWalk]
     refine And.intro (fun w' hx hd => ?_) ?_
     ·have h22 := hd 22 (by simp)
      clear hd
      generalize us 22 = u22 at *
      obtain rfl : u22 = .pointer (some ⟨Gb, 11, none⟩) := h22
      have q0 : w'.cell? ⟨Gb, 11, none⟩ = some (.bool fin) := (bC.ext hx).cell 11
      refine web_of_list 71 rfl (by simp [Act.put]) rfl ?_
      go_wp2_with fail
      exact ⟨Ext.refl _, rfl⟩
     simp only [Act.put, List.setIfInBounds_toArray, List.set_cons_zero, List.set_cons_succ]
     rw [webWalk]
     refine And.intro (fun w' hx hd => ?_) ?_
     ·have h23 := hd 23 (by simp)
      clear hd
      generalize us 23 = u23 at *
      obtain rfl : u23 = .bool fin := h23
      refine web_of_list 72 rfl (by simp [Act.put]) rfl ?_
      go_wp2_with (go_at_call 105; refine (iflag_any fin _).mono ?_; rintro e w2 ⟨rfl, x2⟩)
      first | exact ⟨x2, rfl⟩ | exact rfl
     simp only [Act.put, List.setIfInBounds_toArray, List.set_cons_zero, List.set_cons_succ]
     rw [webWalk]
     refine And.intro (fun w' hx hd => ?_) ?_
     ·clear hd
      refine web_of_list 73 rfl (by simp [Act.put]) rfl ?_
      go_wp2_with fail
      exact ⟨Ext.refl _, rfl⟩
     simp only [Act.put, List.setIfInBounds_toArray, List.set_cons_zero, List.set_cons_succ]
     rw [webWalk]
     refine And.intro (fun w' hx hd => ?_) ?_
     ·have h25 := hd 25 (by simp)
      clear hd
      generalize us 25 = u25 at *
      obtain rfl : u25 = .pointer (some ⟨Gb, 12, none⟩) := h25
      have q0 : w'.cell? ⟨Gb, 12, none⟩ = some (.int .u64 told) := (bC.ext hx).cell 12
      refine web_of_list 74 rfl (by simp [Act.put]) rfl ?_
      go_wp2_with fail
      exact ⟨Ext.refl _, rfl⟩
     simp only [Act.put, List.setIfInBounds_toArray, List.set_cons_zero, List.set_cons_succ]
     rw [webWalk]
     refine And.intro (fun w' hx hd => ?_) ?_
     ·have h26 := hd 26 (by simp)
      clear hd
      generalize us 26 = u26 at *
      obtain rfl : u26 = .int .u64 (told : Int) := h26
      refine web_of_list 75 rfl (by simp [Act.put]) rfl ?_
      go_wp2_with (go_at_call 104; refine (put_8 told _ HF.out.told.1 HF.out.told.2).mono ?_; rintro e w2 ⟨rfl, x2⟩)
      first | exact ⟨x2, rfl⟩ | exact rfl
     simp only [Act.put, List.setIfInBounds_toArray, List.set_cons_zero, List.set_cons_succ]
     rw [webWalk]
     refine And.intro (fun w' hx hd => ?_) ?_
     ·clear hd
      refine web_of_list 76 rfl (by simp [Act.put]) rfl ?_
      go_wp2_with fail
      exact ⟨Ext.refl _, rfl⟩
     simp only [Act.put, List.setIfInBounds_toArray, List.set_cons_zero, List.set_cons_succ]
     rw [webWalk]
     refine And.intro (fun w' hx hd => ?_) ?_
     ·have h28 := hd 28 (by simp)
      clear hd
      generalize us 28 = u28 at *
      obtain rfl : u28 = .pointer (some ⟨Gb, 13, none⟩) := h28
      refine web_of_list 77 rfl (by simp [Act.put]) rfl ?_
      go_wp2_with fail
      exact ⟨Ext.refl _, rfl⟩
     simp only [Act.put, List.setIfInBounds_toArray, List.set_cons_zero, List.set_cons_succ]
     rw [webWalk]
     refine And.intro (fun w' hx hd => ?_) ?_
     ·have h29 := hd 29 (by simp)
      clear hd
      generalize us 29 = u29 at *
      obtain rfl : u29 = .pointer (some ⟨Gb, 15, none⟩) := h29
      have q0 : w'.cell? ⟨Gb, 15, none⟩ = some (.int .i64 dleft) := (bC.ext hx).cell 15
      refine web_of_list 78 rfl (by simp [Act.put]) rfl ?_
      go_wp2_with fail
      exact ⟨Ext.refl _, rfl⟩
     simp only [Act.put, List.setIfInBounds_toArray, List.set_cons_zero, List.set_cons_succ]
     rw [webWalk]
     refine And.intro (fun w' hx hd => ?_) ?_
     ·have h30 := hd 30 (by simp)
      clear hd
      generalize us 30 = u30 at *
      obtain rfl : u30 = .int .i64 (dleft : Int) := h30
      refine web_of_list 79 rfl (by simp [Act.put]) rfl ?_
      go_wp2_with (go_at_call 102; refine (idec_any dleft _ HF.out.dleft (HD.out.ext (xC.trans hx))).mono ?_; rintro e w2 ⟨rfl, x2⟩)
      first | exact ⟨x2, rfl⟩ | exact rfl
     simp only [Act.put, List.setIfInBounds_toArray, List.set_cons_zero, List.set_cons_succ]
     rw [webWalk]
     refine And.intro (fun w' hx hd => ?_) ?_
     ·clear hd
      refine web_of_list 80 rfl (by simp [Act.put]) rfl ?_
      go_wp2_with fail
      exact ⟨Ext.refl _, rfl⟩
     simp only [Act.put, List.setIfInBounds_toArray, List.set_cons_zero, List.set_cons_succ]
     rw [webWalk]
     refine And.intro (fun w' hx hd => ?_) ?_
     ·have h32 := hd 32 (by simp)
      clear hd
      generalize us 32 = u32 at *
      obtain rfl : u32 = .pointer (some ⟨Gb, 13, none⟩) := h32
      refine web_of_list 81 rfl (by simp [Act.put]) rfl ?_
      go_wp2_with fail
      exact ⟨Ext.refl _, rfl⟩
     simp only [Act.put, List.setIfInBounds_toArray, List.set_cons_zero, List.set_cons_succ]
     rw [webWalk]
     refine And.intro (fun w' hx hd => ?_) ?_
     ·have h33 := hd 33 (by simp)
      clear hd
      generalize us 33 = u33 at *
      obtain rfl : u33 = .pointer (some ⟨Gb, 14, none⟩) := h33
      have q0 : w'.cell? ⟨Gb, 14, none⟩ = some (.slice pA dpe.length pc) := (bC.ext hx).cell 14
      refine web_of_list 82 rfl (by simp [Act.put]) rfl ?_
      go_wp2_with fail
      exact ⟨Ext.refl _, rfl⟩
     simp only [Act.put, List.setIfInBounds_toArray, List.set_cons_zero, List.set_cons_succ]
     rw [webWalk]
     refine And.intro (fun w' hx hd => ?_) ?_
     ·have h34 := hd 34 (by simp)
      clear hd
      generalize us 34 = u34 at *
      obtain rfl : u34 = .slice pA dpe.length pc := h34
      refine web_of_list 83 rfl (by simp [Act.put]) rfl ?_
      go_wp2_with (go_at_call 106; refine (wrows_any pA dpe.length pc dpe _ (HPe.out.ext (xC.trans hx)) HF.out.pe HF.out.pel (HD.out.ext (xC.trans hx))).mono ?_; rintro e w2 ⟨rfl, x2⟩)
      first | exact ⟨x2, rfl⟩ | exact rfl
     simp only [Act.put, List.setIfInBounds_toArray, List.set_cons_zero, List.set_cons_succ]
     rw [webWalk]
     refine And.intro (fun w' hx hd => ?_) ?_
     ·clear hd
      refine web_of_list 84 rfl (by simp [Act.put]) rfl ?_
      go_wp2_with fail
      exact ⟨Ext.refl _, rfl⟩
     simp only [Act.put, List.setIfInBounds_toArray, List.set_cons_zero, List.set_cons_succ]
     rw [webWalk]
     refine And.intro (fun w' hx hd => ?_) ?_
     ·have h36 := hd 36 (by simp)
      clear hd
      generalize us 36 = u36 at *
      obtain rfl : u36 = .pointer (some ⟨Gb, 16, none⟩) := h36
      have q0 : w'.cell? ⟨Gb, 16, none⟩ = some (.slice dA ddi.length dc) := (bC.ext hx).cell 16
      refine web_of_list 85 rfl (by simp [Act.put]) rfl ?_
      go_wp2_with fail
      exact ⟨Ext.refl _, rfl⟩
     simp only [Act.put, List.setIfInBounds_toArray, List.set_cons_zero, List.set_cons_succ]
     rw [webWalk]
     refine And.intro (fun w' hx hd => ?_) ?_
     ·have h37 := hd 37 (by simp)
      clear hd
      generalize us 37 = u37 at *
      obtain rfl : u37 = .slice dA ddi.length dc := h37
      refine web_of_list 86 rfl (by simp [Act.put]) rfl ?_
      go_wp2_with (go_at_call 106; refine (wrows_any dA ddi.length dc ddi _ (HDi.out.ext (xC.trans hx)) HF.out.di HF.out.dil (HD.out.ext (xC.trans hx))).mono ?_; rintro e w2 ⟨rfl, x2⟩)
      first | exact ⟨x2, rfl⟩ | exact rfl
     simp only [Act.put, List.setIfInBounds_toArray, List.set_cons_zero, List.set_cons_succ]
     rw [webWalk]
     refine And.intro (fun w' hx hd => ?_) ?_
     ·clear hd
      refine web_of_list 87 rfl (by simp [Act.put]) rfl ?_
      go_wp2_with fail
      exact ⟨Ext.refl _, rfl⟩
     simp only [Act.put, List.setIfInBounds_toArray, List.set_cons_zero, List.set_cons_succ]
     rw [webWalk]
     refine And.intro (fun w' hx hd => ?_) ?_
     ·have h39 := hd 39 (by simp)
      clear hd
      generalize us 39 = u39 at *
      obtain rfl : u39 = .slice A3 l.length c3 := h39
      refine web_of_list 88 rfl (by simp [Act.put]) rfl ?_
      go_wp2_with (go_at_call 101; refine (row_any A3 l.length c3 (l.map writeT) _ (HS3.out.ext hx) HM3.out (by have := HF.out.pil; simp only at this; omega)).mono ?_; rintro e w2 ⟨rfl, x2⟩)
      first | exact ⟨x2, rfl⟩ | exact rfl
     simp only [Act.put, List.setIfInBounds_toArray, List.set_cons_zero, List.set_cons_succ]
     rw [webWalk]
     refine And.intro (fun w' hx hd => ?_) ?_
     ·clear hd
      refine web_of_list 89 rfl (by simp [Act.put]) rfl ?_
      go_wp2_with fail
      exact ⟨Ext.refl _, rfl⟩
     simp only [Act.put, List.setIfInBounds_toArray, List.set_cons_zero, List.set_cons_succ]
     rw [webWalk]
     refine And.intro (fun w' hx hd => ?_) ?_
     ·have h41 := hd 41 (by simp)
      clear hd
      generalize us 41 = u41 at *
      obtain rfl : u41 = .slice A4 dpr.length c4 := h41
      refine web_of_list 90 rfl (by simp [Act.put]) rfl ?_
      go_wp2_with (go_at_call 101; refine (row_any A4 dpr.length c4 (dpr.map procT) _ (HS4.out.ext hx) HM4.out (by have := HF.out.prl; simp only at this; omega)).mono ?_; rintro e w2 ⟨rfl, x2⟩)
      first | exact ⟨x2, rfl⟩ | exact rfl
     simp only [Act.put, List.setIfInBounds_toArray, List.set_cons_zero, List.set_cons_succ]
     rw [webWalk]
     refine And.intro (fun w' hx hd => ?_) ?_
     ·have h2 := hd 2 (by simp)
      have h5 := hd 5 (by simp)
      have h8 := hd 8 (by simp)
      have h11 := hd 11 (by simp)
      have h14 := hd 14 (by simp)
      have h16 := hd 16 (by simp)
      have h19 := hd 19 (by simp)
      have h21 := hd 21 (by simp)
      have h24 := hd 24 (by simp)
      have h27 := hd 27 (by simp)
      have h31 := hd 31 (by simp)
      have h35 := hd 35 (by simp)
      have h38 := hd 38 (by simp)
      have h40 := hd 40 (by simp)
      have h42 := hd 42 (by simp)
      clear hd
      generalize us 2 = u2 at *
      generalize us 5 = u5 at *
      generalize us 8 = u8 at *
      generalize us 11 = u11 at *
      generalize us 14 = u14 at *
      generalize us 16 = u16 at *
      generalize us 19 = u19 at *
      generalize us 21 = u21 at *
      generalize us 24 = u24 at *
      generalize us 27 = u27 at *
      generalize us 31 = u31 at *
      generalize us 35 = u35 at *
      generalize us 38 = u38 at *
      generalize us 40 = u40 at *
      generalize us 42 = u42 at *
      obtain rfl : u2 = .string (str (putL clock 8)) := h2
      obtain rfl : u5 = .string (str (Lib.itoa quantum)) := h5
      obtain rfl : u8 = .string (str (Lib.itoa cur)) := h8
      obtain rfl : u11 = .string (str (Lib.itoa left)) := h11
      obtain rfl : u14 = .string (str (Lib.itoa next)) := h14
      obtain rfl : u16 = .string (str (init)) := h16
      obtain rfl : u19 = .string (str (Lib.itoa newPipe)) := h19
      obtain rfl : u21 = .string (str (inn)) := h21
      obtain rfl : u24 = .string (str (flagT fin)) := h24
      obtain rfl : u27 = .string (str (putL told 8)) := h27
      obtain rfl : u31 = .string (str (Lib.itoa dleft)) := h31
      obtain rfl : u35 = .string (str (writesT dpe)) := h35
      obtain rfl : u38 = .string (str (writesT ddi)) := h38
      obtain rfl : u40 = .string (str (rowL (l.map writeT))) := h40
      obtain rfl : u42 = .string (str (rowL (dpr.map procT))) := h42
      refine web_of_list 91 rfl (by simp [Act.put]) rfl ?_
      go_wp2_with fail
      exact ⟨(Ext.refl w').alloc _, _, rfl, Box.new _ _ _⟩
     simp only [Act.put, List.setIfInBounds_toArray, List.set_cons_zero, List.set_cons_succ]
     rw [webWalk]
     intro w' hx hv
     have h43 := hv 43 (by omega)
     clear hv
     generalize us 0 = u0 at *
     generalize us 1 = u1 at *
     generalize us 2 = u2 at *
     generalize us 3 = u3 at *
     generalize us 4 = u4 at *
     generalize us 5 = u5 at *
     generalize us 6 = u6 at *
     generalize us 7 = u7 at *
     generalize us 8 = u8 at *
     generalize us 9 = u9 at *
     generalize us 10 = u10 at *
     generalize us 11 = u11 at *
     generalize us 12 = u12 at *
     generalize us 13 = u13 at *
     generalize us 14 = u14 at *
     generalize us 15 = u15 at *
     generalize us 16 = u16 at *
     generalize us 17 = u17 at *
     generalize us 18 = u18 at *
     generalize us 19 = u19 at *
     generalize us 20 = u20 at *
     generalize us 21 = u21 at *
     generalize us 22 = u22 at *
     generalize us 23 = u23 at *
     generalize us 24 = u24 at *
     generalize us 25 = u25 at *
     generalize us 26 = u26 at *
     generalize us 27 = u27 at *
     generalize us 28 = u28 at *
     generalize us 29 = u29 at *
     generalize us 30 = u30 at *
     generalize us 31 = u31 at *
     generalize us 32 = u32 at *
     generalize us 33 = u33 at *
     generalize us 34 = u34 at *
     generalize us 35 = u35 at *
     generalize us 36 = u36 at *
     generalize us 37 = u37 at *
     generalize us 38 = u38 at *
     generalize us 39 = u39 at *
     generalize us 40 = u40 at *
     generalize us 41 = u41 at *
     generalize us 42 = u42 at *
     generalize us 43 = u43 at *
     obtain ⟨g91, rfl, bg91⟩ := h43
     have HS := Lib.hid (strs_ofBox (ss := [[104, 105, 98, 50], putL clock 8, Lib.itoa quantum, Lib.itoa cur, Lib.itoa left, Lib.itoa next, init, Lib.itoa newPipe, inn, flagT fin, putL told 8, Lib.itoa dleft, writesT dpe, writesT ddi, rowL (l.map writeT), rowL (dpr.map procT)]) bg91)
     clear bg91
     go_wp2_with (go_at_call 101; refine (row_any (some ⟨g91, 0, none⟩) 16 16 [[104, 105, 98, 50], putL clock 8, Lib.itoa quantum, Lib.itoa cur, Lib.itoa left, Lib.itoa next, init, Lib.itoa newPipe, inn, flagT fin, putL told 8, Lib.itoa dleft, writesT dpe, writesT ddi, rowL (l.map writeT), rowL (dpr.map procT)] _ HS.out HSum.out (by decide)).mono ?_; rintro e w2 ⟨rfl, x2⟩)
     go_ret
     exact ⟨rfl, (XW.out.trans hx).trans x2⟩
end Go.Proofs.YtfaplefkakpgcaaGreatDoor
