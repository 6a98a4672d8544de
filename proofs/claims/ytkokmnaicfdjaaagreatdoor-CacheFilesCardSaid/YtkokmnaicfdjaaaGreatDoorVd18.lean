/- Drives: a block put, by the program. -/
import Derived.Test.YtkokmnaicfdjaaaGreatDoorVd17
import Derived.Test.YtkokmnaicfdjaaaGreatDoorVd13
import Derived.Test.YtkokmnaicfdjaaaGreatDoorVd5
import Derived.Test.YtkokmnaicfdjaaaGreatDoorVd12
namespace Go.Proofs.YtkokmnaicfdjaaaGreatDoor
set_option linter.unusedVariables false
set_option linter.unusedSimpArgs false
open Go.RowKit

def leftP (x : Int) : Int := if 0 < x then x - 1 else x
/-- a block put: the drive, the error -/
def putDP (D : DrvD) (i : Int) (s : List UInt8) : DrvD × Int := if D.left = 0 then (D, 17) else (⟨D.bl, D.pe ++ [(i, s)], leftP D.left⟩, 0)
theorem wp_app_wr {B0 : Nat} {ops : Array Oper} {rest : List Oper} {o : Oper} {a : Act} {w : World} {Q : Exit → Act → World → Prop} {B g : Nat} (s : Sl) {l : List WrT} {y : WrT} (hgd : o.guard = none) (sl x : Operand)
    (ho : o.op = .call { callee := .builtin .append, args := #[sl, x], argTypes := #[26, 26] }) (hs : a.eval sl = .slice s.A s.n s.c) (hx : a.eval x = .slice (some ⟨g, 0, none⟩) 1 1)
    (h0 : w.ownsRow B 57 2 (.slice s.A s.n s.c) s.n (l.flatMap wrL)) (hl : s.n = l.length) (hb : Box w g 57 (wrL y).toArray) (hn : s.n ≤ 99999) (hB : B ≤ w.heap.size)
    (hK : ∀ (s' : Sl) (w' : World), s'.n = s.n + 1 → RowF B0 wrL 57 w' s' (l ++ [y]) → w'.ownsRow B 57 2 (.slice s'.A s'.n s'.c) s'.n ((l ++ [y]).flatMap wrL) → w.grownBy w' (Value.slice s.A s.n s.c).ownBlock → wpList Tryz.prog ops Q rest (a.put o.dst (.slice s'.A s'.n s'.c)) w') : wpList Tryz.prog ops Q (o :: rest) a w := by
  refine wpList_plain hgd fun K hK' => ?_
  obtain ⟨i, hi, hz, h1, h2⟩ := info_parts wrInfo
  obtain ⟨v', w', hr, ho2, hg, _, _⟩ := run_append_own_at (P := Tryz.prog) w B 26 o.type 57 i _ 2 24 Tryz.underlying26 hi hz h1 h2 rfl (by decide) (.slice s.A s.n s.c) s.n (l.flatMap wrL) h0 ⟨g, 0, none⟩ 1 1 (wrL y) rfl (fun j u hj => by
    have ha : (⟨g, 0, none⟩ : Addr).add j = ⟨g, j, none⟩ := by unfold Addr.add; split <;> simp_all
    rw [ha, hb.cell j]; simpa using hj) (wrL_one y) (by unfold maxLen; omega) (by omega) hB
  unfold Oper.wp execOp
  simp only [ho, resolve, invoke, builtin, Sem.run_bind, Sem.run_pure, Result.andThen_ok, List.map_toArray, List.map_cons, List.map_nil, hs, hx, hr]
  obtain ⟨s', rfl, hs', hk'⟩ := own_sl ho2
  have e : l.flatMap wrL ++ wrL y = (l ++ [y]).flatMap wrL := by rw [List.flatMap_append]; simp
  rw [e] at ho2
  have hR := own_row ho2 (fun x _ => wrL_len x) (by rw [List.length_append, hl]; rfl) hs'
  rw [← hs'] at ho2
  exact hK' _ _ (hK s' w' hs' (RowF.own hR hk' (by omega) ho2) ho2 hg)
theorem wr_one {w : World} {i : Int} {s : List UInt8} : Box (w.alloc (.cells #[.int .i64 i, .string (str s)] 57)) w.heap.size 57 (wrL (i, s)).toArray := Box.new _ _ _
theorem RowF.keeps {α : Type} {B0 : Nat} {f : α → List Value} {T : TypeId} {w w' : World} {s : Sl} {l : List α} {row : Option Nat} (h : RowF B0 f T w s l) (hk : ∀ b cs, Box w b T cs → some b ≠ row) (hg : w.grownBy w' row) (hB : ∀ k, row = some k → B0 ≤ k) : RowF B0 f T w' s l :=
  h.keepsB hk hB hg
set_option maxHeartbeats 2000000 in
set_option maxRecDepth 100000 in
theorem dput_any (B0 : Nat) (D : DrvD) (v : Value) (i : Nat) (s : List UInt8) (w : World) (hB0 : B0 ≤ w.heap.size) (hv : drvV B0 D w v) (hi : i < D.bl.length) (hs : s.length = 128) (hp : D.pe.length ≤ 90000) (hL : D.left ≤ 9223372036854775807) :
    Calls Tryz.prog 119 #[v, .int .i64 (i : Int), .string (str s)] w fun e w' => ∃ v', e = .returned (.tuple #[v', .int .i64 (putDP D i s).2]) ∧ drvV B0 (putDP D i s).1 w' v' ∧ Ext w w' := by
  obtain ⟨bl, pe, rfl, kb, kp⟩ := hv
  have hz := str_size
  have hbn := kb.k.row.1
  have hpn := kp.k.row.1
  have HH := Lib.hid (fun w => has_any bl.A pe.A bl.n bl.c pe.n pe.c D.left (i : Int) w)
  rw [show decide (0 ≤ (i : Int) ∧ (i : Int) < (bl.n : Int)) = true by simp; omega] at HH
  have HC := Lib.hid (fun w h0 h1 h2 => dcopied_any B0 bl pe D.left D.bl D.pe w h0 h1 h2)
  have hs' : ((s.length : Int) != 128) = false := by rw [hs]; rfl
  have KB := Lib.hid kb
  have KP := Lib.hid kp
  have HBN := Lib.hid hbn
  have HPN := Lib.hid hpn
  clear kb kp hbn hpn
  obtain ⟨B, p, left⟩ := D
  simp only at *
  have b0 := Box.new w 28 #[.slice bl.A bl.n bl.c, .slice pe.A pe.n pe.c, .int .i64 left]
  have r0 := Box.new (w.alloc (.cells #[.slice bl.A bl.n bl.c, .slice pe.A pe.n pe.c, .int .i64 left] 28)) 28 #[.slice none 0 0, .slice none 0 0, .int .i64 0]
  have x0 := ((Ext.refl w).alloc (.cells #[.slice bl.A bl.n bl.c, .slice pe.A pe.n pe.c, .int .i64 left] 28)).alloc (.cells #[.slice none 0 0, .slice none 0 0, .int .i64 0] 28)
  have b1 := b0.ext ((Ext.refl _).alloc (.cells #[.slice none 0 0, .slice none 0 0, .int .i64 0] 28))
  rw [World.size_alloc] at r0
  clear b0
  go_enter Tryz.func119, Tryz.ntmps119
  go_upto_region 1 with fail
  generalize (w.alloc (.cells #[.slice bl.A bl.n bl.c, .slice pe.A pe.n pe.c, .int .i64 left] 28)).alloc (.cells #[.slice none 0 0, .slice none 0 0, .int .i64 0] 28) = w1 at *
  generalize hG : w.heap.size = G at *
  go_upto_region 6 with (first
    | (refine wp_ld_drv (.tmp 3) rfl rfl G _ _ rfl b1 rfl ?_)
    | (refine wp_ld_drv (.tmp 3) rfl rfl G _ _ rfl b2 rfl ?_)
    | (go_at_call 124; refine (HH.out _).mono ?_; rintro e w2 ⟨rfl, x2⟩; have b2 := b1.ext x2)
    | (go_at_call 123; refine (HC.out _ (by have := (x0.trans x2).size; omega) (KB.out.ext (x0.trans x2)).k (KP.out.ext (x0.trans x2)).k).mono ?_; rintro e w3 ⟨v3, rfl, ⟨bl3, pe3, rfl, kb3, kp3, ob3, op3⟩, x3⟩)
    | (refine wp_st_drv (.tmp 8) (.tmp 19) rfl rfl w3.heap.size bl3 pe3 left _ 28 rfl rfl (Box.new _ _ _) rfl ?_; intro w4 b4 g4))
  have y4 : Ext w3 w4 := ((Ext.refl w3).alloc _).grown g4 (fun j e => by cases e; exact Nat.le_refl _)
  have kb4 := kb3.ext y4
  have kp4 := kp3.ext y4
  have ob4 := own_ext ob3 y4
  have op4 := own_ext op3 y4
  have x4 := ((x0.trans x2).trans x3).trans y4
  have r4 := ((r0.ext x2).ext x3).ext y4
  have hlt2 : G + 1 < w2.heap.size := (r0.ext x2).lt
  have hg2 : w2.heap.size ≤ w3.heap.size := x3.size
  have hsz4 : w2.heap.size ≤ w4.heap.size := Nat.le_trans hg2 y4.size
  clear kb3 kp3 ob3 op3 x0 x2 x3 y4 r0 b1 b2 g4 HH HC
  generalize w3.heap.size = g at *
  generalize w2.heap.size = B2 at *
  have c1 : w4.cell? ⟨g, 1, none⟩ = some (.slice pe3.A pe3.n pe3.c) := b4.cell 1
  have c2 : w4.cell? ⟨g, 2, none⟩ = some (.int .i64 left) := b4.cell 2
  by_cases hl0 : left = 0
  · subst hl0
    have hP := Lib.hid (show putDP ⟨B, p, 0⟩ (i : Int) s = (⟨B, p, 0⟩, 17) from rfl)
    go_wp2_with (first
      | (refine wp_ld_drv (.tmp 8) rfl rfl g _ _ rfl b4 rfl ?_)
      | (refine wp_st_drv (.tmp 6) (.tmp 23) rfl rfl (G + 1) bl3 pe3 0 _ 28 rfl rfl r4 rfl ?_; intro w5 b5 g5))
    refine bodyPost_ret (results_cell2 rfl _ _ (G + 1) _ _ _ (.int .i64 17) rfl rfl b5 Tryz.underlying28 rfl drvSize) rfl ?_
    rw [hP.out]
    exact ⟨_, rfl, ⟨bl3, pe3, rfl, kb4.grown (by decide) r4 g5, kp4.grown (by decide) r4 g5⟩, x4.grown g5 (fun j e => by cases e; omega)⟩
  · have hl0' : (left == 0) = false := by simpa using hl0
    have hP := Lib.hid (show putDP ⟨B, p, left⟩ (i : Int) s = (⟨B, p ++ [((i : Int), s)], leftP left⟩, 0) by unfold putDP; rw [if_neg hl0])
    clear hl0
    go_upto_region 9 with (at_builtin; refine wp_app_wr (B0 := B0) (B := B2) (y := ((i : Int), s)) pe3 rfl _ _ rfl rfl rfl (own_ext op4 ((Ext.refl w4).alloc _)) kp4.k.row.1 wr_one (by have := kp4.k.row.1; omega) (by rw [World.size_alloc]; omega) ?_; intro s6 w6 hn6 k6 o6 g6; have HN6 := Lib.hid hn6; clear hn6; have z6 := own_ext op4 ((Ext.refl w4).alloc (.cells #[.int .i64 (i : Int), .string (str s)] 57)); have b6 := (b4.ext ((Ext.refl w4).alloc (.cells #[.int .i64 (i : Int), .string (str s)] 57))).grown g6 (own_ne z6 (b4.ext ((Ext.refl w4).alloc _)) (by decide)); have c61 : w6.cell? ⟨g, 1, none⟩ = some (.slice pe3.A pe3.n pe3.c) := b6.cell 1; have f61 := b6.frozen 1)
    have y5 : Ext w4 (w4.alloc (.cells #[.int .i64 (i : Int), .string (str s)] 57)) := (Ext.refl w4).alloc _
    have r6 := (r4.ext y5).grown g6 (own_ne z6 (r4.ext y5) (by decide))
    have x6 : Ext w w6 := (x4.trans y5).grown g6 (fun k e => by have := own_low z6 e; omega)
    have kb6 := (kb4.ext y5).keeps (fun b cs hb => own_ne z6 hb (by decide)) g6 (fun k e => by have := own_low z6 e; omega)
    have b7 := b6.set 1 (.slice s6.A s6.n s6.c)
    have x7 := x6.setCell (p := ⟨g, 1, none⟩) (by rw [hG]; show G ≤ g; omega) (.slice s6.A s6.n s6.c)
    have r7 := r6.setOther (show G + 1 ≠ g by omega) (i := 1) (.slice s6.A s6.n s6.c)
    have gg7 : w6.grownBy (w6.setCell ⟨g, 1, none⟩ (.slice s6.A s6.n s6.c)) (some g) := grown_cells (g := g) [.slice s6.A s6.n s6.c] 1 w6
    have kb7 := kb6.grown (by decide) b6 gg7
    have kp7 := k6.grown (by decide) b6 gg7
    generalize w6.setCell ⟨g, 1, none⟩ (.slice s6.A s6.n s6.c) = w7 at *
    clear kb6 k6 b6 x6 r6 gg7 z6 y5 c61 f61 g6 o6 kb4 kp4 ob4 op4 r4 x4 c1 c2 b4
    have b7' : Box w7 g 28 (drvC bl3 s6 left) := b7
    clear b7
    have c2 : w7.cell? ⟨g, 2, none⟩ = some (.int .i64 left) := b7'.cell 2
    have f2 := b7'.frozen 2
    by_cases hpos : 0 < left
    · have dp : decide (0 < left) = true := decide_eq_true hpos
      have HPL := Lib.hid (show leftP left = left - 1 by unfold leftP; rw [if_pos hpos])
      have b8 : Box (w7.setCell ⟨g, 2, none⟩ (.int .i64 (left - 1))) g 28 (drvC bl3 s6 (left - 1)) := b7'.set 2 _
      have x8 := x7.setCell (p := ⟨g, 2, none⟩) (by rw [hG]; show G ≤ g; omega) (.int .i64 (left - 1))
      have r8 := r7.setOther (show G + 1 ≠ g by omega) (i := 2) (.int .i64 (left - 1))
      have gg8 : w7.grownBy (w7.setCell ⟨g, 2, none⟩ (.int .i64 (left - 1))) (some g) := grown_cells (g := g) [.int .i64 (left - 1)] 2 w7
      have kb8 := kb7.grown (by decide) b7' gg8
      have kp8 := kp7.grown (by decide) b7' gg8
      clear gg8 kb7 kp7 x7 r7
      go_wp2_with (first
        | (refine wp_ld_drv (.tmp 8) rfl rfl g _ _ rfl b8 rfl ?_)
        | (refine wp_st_drv (.tmp 6) (.tmp 39) rfl rfl (G + 1) bl3 s6 (left - 1) _ 28 rfl rfl r8 rfl ?_; intro w9 b9 g9))
      refine bodyPost_ret (results_cell2 rfl _ _ (G + 1) _ _ _ (.int .i64 0) rfl rfl b9 Tryz.underlying28 rfl drvSize) rfl ?_
      rw [hP.out, HPL.out]
      exact ⟨_, rfl, ⟨bl3, s6, rfl, kb8.grown (by decide) r8 g9, kp8.grown (by decide) r8 g9⟩, x8.grown g9 (fun j e => by cases e; omega)⟩
    · have dp : decide (0 < left) = false := decide_eq_false hpos
      have HPL := Lib.hid (show leftP left = left by unfold leftP; rw [if_neg hpos])
      go_wp2_with (first
        | (refine wp_ld_drv (.tmp 8) rfl rfl g _ _ rfl b7' rfl ?_)
        | (refine wp_st_drv (.tmp 6) (.tmp 39) rfl rfl (G + 1) bl3 s6 left _ 28 rfl rfl r7 rfl ?_; intro w9 b9 g9))
      refine bodyPost_ret (results_cell2 rfl _ _ (G + 1) _ _ _ (.int .i64 0) rfl rfl b9 Tryz.underlying28 rfl drvSize) rfl ?_
      rw [hP.out, HPL.out]
      exact ⟨_, rfl, ⟨bl3, s6, rfl, kb7.grown (by decide) r7 g9, kp7.grown (by decide) r7 g9⟩, x7.grown g9 (fun j e => by cases e; omega)⟩
end Go.Proofs.YtkokmnaicfdjaaaGreatDoor
/- Drives: flushed, by the program. -/
namespace Go.Proofs.YtkokmnaicfdjaaaGreatDoor
set_option linter.unusedVariables false
set_option linter.unusedSimpArgs false
open Go.RowKit

theorem flatSt (l : List (List UInt8)) : l.flatMap stL = strL l := by
  induction l with
  | nil => rfl
  | cons x l ih => rw [List.flatMap_cons, ih]; rfl
/-- all is sure: the drive, the error -/
def flushDP (D : DrvD) : DrvD × Int := if D.left = 0 then (D, 17) else (⟨D.pe.foldl layP D.bl, [], leftP D.left⟩, 0)
set_option maxHeartbeats 4000000 in
set_option maxRecDepth 100000 in
theorem dflush_any (B0 : Nat) (D : DrvD) (v : Value) (w : World) (hB0 : B0 ≤ w.heap.size) (hv : drvV B0 D w v) (hpos : 0 < D.bl.length) (hL : D.left ≤ 9223372036854775807) :
    Calls Tryz.prog 76 #[v] w fun e w' => ∃ v', e = .returned (.tuple #[v', .int .i64 (flushDP D).2]) ∧ drvV B0 (flushDP D).1 w' v' ∧ Ext w w' := by
  obtain ⟨bl, pe, rfl, kb, kp⟩ := hv
  have HC := Lib.hid (fun w h0 h1 h2 => dcopied_any B0 bl pe D.left D.bl D.pe w h0 h1 h2)
  have KB := Lib.hid kb
  have KP := Lib.hid kp
  clear kb kp
  obtain ⟨B, p, left⟩ := D
  simp only at *
  have b0 := Box.new w 28 #[.slice bl.A bl.n bl.c, .slice pe.A pe.n pe.c, .int .i64 left]
  have r0 := Box.new (w.alloc (.cells #[.slice bl.A bl.n bl.c, .slice pe.A pe.n pe.c, .int .i64 left] 28)) 28 #[.slice none 0 0, .slice none 0 0, .int .i64 0]
  have x0 := ((Ext.refl w).alloc (.cells #[.slice bl.A bl.n bl.c, .slice pe.A pe.n pe.c, .int .i64 left] 28)).alloc (.cells #[.slice none 0 0, .slice none 0 0, .int .i64 0] 28)
  have b1 := b0.ext ((Ext.refl _).alloc (.cells #[.slice none 0 0, .slice none 0 0, .int .i64 0] 28))
  rw [World.size_alloc] at r0
  clear b0
  go_enter Tryz.func76, Tryz.ntmps76
  go_upto_region 1 with fail
  generalize (w.alloc (.cells #[.slice bl.A bl.n bl.c, .slice pe.A pe.n pe.c, .int .i64 left] 28)).alloc (.cells #[.slice none 0 0, .slice none 0 0, .int .i64 0] 28) = w1 at *
  generalize hG : w.heap.size = G at *
  go_upto_region 2 with (first
    | (refine wp_ld_drv (.tmp 1) rfl rfl G _ _ rfl b1 rfl ?_)
    | (go_at_call 123; refine (HC.out _ (by have := x0.size; omega) (KB.out.ext x0).k (KP.out.ext x0).k).mono ?_; rintro e w3 ⟨v3, rfl, ⟨bl3, pe3, rfl, kb3, kp3, ob3, op3⟩, x3⟩)
    | (refine wp_st_drv (.tmp 4) (.tmp 8) rfl rfl w3.heap.size bl3 pe3 left _ 28 rfl rfl (Box.new _ _ _) rfl ?_; intro w4 b4 g4))
  have y4 : Ext w3 w4 := ((Ext.refl w3).alloc _).grown g4 (fun j e => by cases e; exact Nat.le_refl _)
  have kb4 := kb3.ext y4
  have kp4 := kp3.ext y4
  have ob4 := own_ext ob3 y4
  have x4 := (x0.trans x3).trans y4
  have r4 := (r0.ext x3).ext y4
  have hlt2 : G + 1 < w1.heap.size := r0.lt
  have hg2 : w1.heap.size ≤ w3.heap.size := x3.size
  clear kb3 kp3 ob3 op3 x0 x3 y4 r0 b1 g4 HC
  generalize w3.heap.size = g at *
  generalize w1.heap.size = B2 at *
  have c2 : w4.cell? ⟨g, 2, none⟩ = some (.int .i64 left) := b4.cell 2
  by_cases hl0 : left = 0
  · subst hl0
    have hP := Lib.hid (show flushDP ⟨B, p, 0⟩ = (⟨B, p, 0⟩, 17) from rfl)
    go_wp2_with (first
      | (refine wp_ld_drv (.tmp 4) rfl rfl g _ _ rfl b4 rfl ?_)
      | (refine wp_st_drv (.tmp 2) (.tmp 12) rfl rfl (G + 1) bl3 pe3 0 _ 28 rfl rfl r4 rfl ?_; intro w5 b5 g5))
    refine bodyPost_ret (results_cell2 rfl _ _ (G + 1) _ _ _ (.int .i64 17) rfl rfl b5 Tryz.underlying28 rfl drvSize) rfl ?_
    rw [hP.out]
    exact ⟨_, rfl, ⟨bl3, pe3, rfl, kb4.grown (by decide) r4 g5, kp4.grown (by decide) r4 g5⟩, x4.grown g5 (fun j e => by cases e; omega)⟩
  · have hl0' : (left == 0) = false := by simpa using hl0
    have hP := Lib.hid (show flushDP ⟨B, p, left⟩ = (⟨p.foldl layP B, [], leftP left⟩, 0) by unfold flushDP; rw [if_neg hl0])
    clear hl0
    have hbn : bl3.n = B.length := kb4.k.row.1
    have hsm := kb4.k.small
    have hok := kb4.k.ok
    rw [flatSt, hbn] at ob4
    obtain ⟨gb, cap, hsl, hgb, _⟩ := Strs.own' ob4 (by omega)
    have KP4 := Lib.hid kp4
    obtain ⟨hp1, hp2⟩ := kp4.k.row.wrs
    obtain ⟨A3, n3, c3⟩ := bl3
    simp only at hbn hsl hsm hok
    injection hsl with e1 e2 e3
    subst e1 e3 hbn
    have HP1 := Lib.hid hp1
    have c1 : w4.cell? ⟨g, 1, none⟩ = some (.slice pe3.A pe3.n pe3.c) := b4.cell 1
    clear hp1
    go_upto_region 5 with fail
    have HZ : ∀ (w' : World), Ext w w' → w'.ownsRow B2 9 1 (.slice (some ⟨gb, 0, none⟩) B.length c3) B.length (strL (p.foldl layP B)) → RowF B0 stL 9 w' ⟨some ⟨gb, 0, none⟩, B.length, c3⟩ (p.foldl layP B) := fun w' _ h => by
      have h' := h
      rw [← flatSt] at h'
      exact RowF.own (own_row h' (fun _ _ => rfl) (foldl_lay_len p B).symm rfl) hok hsm h'
    have HZZ := Lib.hid HZ
    clear HZ
    have k0 := kb4
    clear kb4
    go_loopw [16] (fun i wx => ∃ k : Nat, k ≤ p.length ∧ i = .int .i64 k ∧ Ext w wx ∧ wx.ownsRow B2 9 1 (.slice (some ⟨gb, 0, none⟩) B.length c3) B.length (strL ((p.take k).foldl layP B)) ∧ RowF B0 wrL 57 wx pe3 p ∧ Box wx g 28 (drvC ⟨some ⟨gb, 0, none⟩, B.length, c3⟩ pe3 left) ∧ Box wx (G + 1) 28 #[.slice none 0 0, .slice none 0 0, .int .i64 0]) (fun i _ => p.length - (intOf i).toNat)
    case atStart => exact ⟨0, by omega, rfl, x4, ob4, KP4.out, b4, r4⟩
    case round =>
      clear x4 ob4 b4 r4 c1 c2 KP4 hp2 k0
      clear kp4
      obtain ⟨k, hk, rfl, xk, ok, pk, bk, rk⟩ := hrel
      by_cases hlt : k < p.length
      · obtain ⟨b2, o2, hA, hcell⟩ := pk.k.row.wrs.2 (by rw [pk.k.row.1]; omega)
        have e1 := (hcell k hlt).1
        have e2 := (hcell k hlt).2
        have HT := Lib.hid (foldl_lay_take hlt B)
        have HVl := Lib.hid (foldl_lay_len (p.take k) B)
        clear hcell
        have hki : (k : Int) < (pe3.n : Int) := by have := pk.k.row.1; omega
        generalize p[k] = y at *
        generalize (p.take k).foldl layP B = V at *
        have PK := Lib.hid pk
        clear pk
        obtain ⟨A9, n9, c9⟩ := pe3
        simp only at hA hki
        subst hA
        have hsm9 : n9 ≤ 100000 := PK.out.k.small
        have hpn9 : n9 = p.length := PK.out.k.row.1
        have hple : p.length ≤ 100000 := by omega
        clear hpn9
        go_upto_region 7 with fail
        have y5 : Ext wr (wr.alloc (.cells #[.int .i64 y.1, .string (str y.2)] 57)) := (Ext.refl wr).alloc _
        have bw := Box.new wr 57 #[.int .i64 y.1, .string (str y.2)]
        have bk5 := bk.ext y5
        generalize wr.alloc (.cells #[.int .i64 y.1, .string (str y.2)] 57) = w5 at *
        generalize wr.heap.size = gw at *
        clear e1 e2
        by_cases hh : 0 ≤ y.1 ∧ y.1 < (B.length : Int)
        · obtain ⟨y1, y2⟩ := y
          simp only at hh bw y5
          obtain ⟨q, rfl⟩ : ∃ q : Nat, y1 = q := ⟨y1.toNat, by omega⟩
          have hqN : q < B.length := by omega
          have HY := Lib.hid (show layP V ((q : Int), y2) = V.set q y2 by unfold layP; simp only; rw [if_pos (by have := HVl.out; omega)]; rfl)
          have HH := Lib.hid (fun w => has_any (some ⟨gb, 0, none⟩) (some ⟨b2, o2, none⟩) B.length c3 n9 c9 left (q : Int) w)
          rw [show decide (0 ≤ (q : Int) ∧ (q : Int) < (B.length : Int)) = true by simp; omega] at HH
          have hqi : (q : Int) < (B.length : Int) := by omega
          have d00 : w5.cell? ⟨gw, 0, none⟩ = some (.int .i64 (q : Int)) := bw.cell 0
          go_wp2_with (first
            | (refine wp_ld_drv (.tmp 4) rfl rfl g _ _ rfl bk5 rfl ?_)
            | (go_at_call 124; refine (HH.out _).mono ?_; rintro e w6 ⟨rfl, x6⟩; have y6 := y5.trans x6; have ok6 := own_ext ok y6; have c0 : w6.cell? ⟨g, 0, none⟩ = some (.slice (some ⟨gb, 0, none⟩) B.length c3) := (bk.ext y6).cell 0; have d0 : w6.cell? ⟨gw, 0, none⟩ = some (.int .i64 (q : Int)) := (bw.ext x6).cell 0; have d1 : w6.cell? ⟨gw, 1, none⟩ = some (.string (str y2)) := (bw.ext x6).cell 1; have kc : w6.cell? ⟨gb, q, none⟩ = some (.string (str (V.getD q []))) := (ok6.cellAt q (by omega)).trans (by have := HVl.out; simp [strL, this, hqN, List.getD_eq_getElem?_getD]); have kf := ok6.frozenAt q))
          have hpk6 := PK.out.ext y6
          have bk6 := bk.ext y6
          have rk6 := rk.ext y6
          have hne1 : g ≠ gb := fun e => own_ne ok6 bk6 (by decide) (by rw [e]; rfl)
          have hne2 : G + 1 ≠ gb := fun e => own_ne ok6 rk6 (by decide) (by rw [e]; rfl)
          go_roundw
          case rel => exact ⟨k + 1, by omega, by go_num, (xk.trans y6).setCell (by rw [hG]; show G ≤ gb; omega) _, by rw [HT.out, HY.out]; exact own_set ok6 _, hpk6.keeps (row := some gb) (fun b cs hb e => by injection e with e; subst e; exact own_ne ok6 hb (by decide) rfl) (grown_cells (g := gb) [.string (str y2)] q w6) (fun k e => by injection e with e; omega), bk6.setOther hne1 _, rk6.setOther hne2 _⟩
          case measure => simp [intOf]; omega
        · have HY := Lib.hid (show layP V y = V by unfold layP; rw [if_neg (by have := HVl.out; omega)])
          have HH := Lib.hid (fun w => has_any (some ⟨gb, 0, none⟩) (some ⟨b2, o2, none⟩) B.length c3 n9 c9 left y.1 w)
          rw [show decide (0 ≤ y.1 ∧ y.1 < (B.length : Int)) = false from decide_eq_false hh] at HH
          have d0 : w5.cell? ⟨gw, 0, none⟩ = some (.int .i64 y.1) := bw.cell 0
          clear hh
          go_wp2_with (first
            | (refine wp_ld_drv (.tmp 4) rfl rfl g _ _ rfl bk5 rfl ?_)
            | (go_at_call 124; refine (HH.out _).mono ?_; rintro e w6 ⟨rfl, x6⟩; have y6 := y5.trans x6))
          go_roundw
          case rel => exact ⟨k + 1, by omega, by go_num, xk.trans y6, by rw [HT.out, HY.out]; exact own_ext ok y6, PK.out.ext y6, bk.ext y6, rk.ext y6⟩
          case measure => simp [intOf]; omega
      · rw [List.take_of_length_le (by omega)] at ok
        have hki : ¬ ((k : Int) < (pe3.n : Int)) := by have := HP1.out; omega
        have hl5 := HZZ.out wr xk ok
        have hin5 : RowF B0 stL 9 wr ⟨some ⟨gb, 0, none⟩, B.length, c3⟩ (p.foldl layP B) := hl5
        clear hl5 ok HZZ pk
        have c2 : wr.cell? ⟨g, 2, none⟩ = some (.int .i64 left) := bk.cell 2
        have c1 : wr.cell? ⟨g, 1, none⟩ = some (.slice pe3.A pe3.n pe3.c) := bk.cell 1
        have f1 := bk.frozen 1
        go_upto_region 11 with fail
        have b7' : Box (wr.setCell ⟨g, 1, none⟩ (.slice none 0 0)) g 28 (drvC ⟨some ⟨gb, 0, none⟩, B.length, c3⟩ ⟨none, 0, 0⟩ left) := bk.set 1 _
        have x7 := xk.setCell (p := ⟨g, 1, none⟩) (by rw [hG]; show G ≤ g; omega) (.slice none 0 0)
        have r7 := rk.setOther (show G + 1 ≠ g by omega) (i := 1) (.slice none 0 0)
        have gg7 : wr.grownBy (wr.setCell ⟨g, 1, none⟩ (.slice none 0 0)) (some g) := grown_cells (g := g) [.slice none 0 0] 1 wr
        have kb7 := hin5.grown (by decide) bk gg7
        generalize wr.setCell ⟨g, 1, none⟩ (.slice none 0 0) = w7 at *
        have kp7 : ∀ w9 : World, RowF B0 wrL 57 w9 ⟨none, 0, 0⟩ [] := fun w9 => ⟨⟨⟨rfl, fun h => absurd h (Nat.lt_irrefl 0)⟩, ⟨fun _ => ⟨rfl, rfl⟩, Nat.zero_le _, Nat.le_refl _⟩, Nat.zero_le _⟩, fun h => absurd h (Nat.lt_irrefl 0)⟩
        have KP7 := Lib.hid kp7
        clear hin5 bk xk rk gg7 c1 c2 f1 kp7
        have c2 : w7.cell? ⟨g, 2, none⟩ = some (.int .i64 left) := b7'.cell 2
        have f2 := b7'.frozen 2
        by_cases hps : 0 < left
        · have dp : decide (0 < left) = true := decide_eq_true hps
          have HPL := Lib.hid (show leftP left = left - 1 by unfold leftP; rw [if_pos hps])
          have b8 : Box (w7.setCell ⟨g, 2, none⟩ (.int .i64 (left - 1))) g 28 (drvC ⟨some ⟨gb, 0, none⟩, B.length, c3⟩ ⟨none, 0, 0⟩ (left - 1)) := b7'.set 2 _
          have x8 := x7.setCell (p := ⟨g, 2, none⟩) (by rw [hG]; show G ≤ g; omega) (.int .i64 (left - 1))
          have r8 := r7.setOther (show G + 1 ≠ g by omega) (i := 2) (.int .i64 (left - 1))
          have gg8 : w7.grownBy (w7.setCell ⟨g, 2, none⟩ (.int .i64 (left - 1))) (some g) := grown_cells (g := g) [.int .i64 (left - 1)] 2 w7
          have kb8 := kb7.grown (by decide) b7' gg8
          clear gg8 kb7 x7 r7
          go_wp2_with (first
            | (refine wp_ld_drv (.tmp 4) rfl rfl g _ _ rfl b8 rfl ?_)
            | (refine wp_st_drv (.tmp 2) (.tmp 40) rfl rfl (G + 1) ⟨some ⟨gb, 0, none⟩, B.length, c3⟩ ⟨none, 0, 0⟩ (left - 1) _ 28 rfl rfl r8 rfl ?_; intro w9 b9 g9))
          refine bodyPost_ret (results_cell2 rfl _ _ (G + 1) _ _ _ (.int .i64 0) rfl rfl b9 Tryz.underlying28 rfl drvSize) rfl ?_
          rw [hP.out, HPL.out]
          exact ⟨_, rfl, ⟨_, _, rfl, kb8.grown (by decide) r8 g9, KP7.out _⟩, x8.grown g9 (fun j e => by cases e; omega)⟩
        · have dp : decide (0 < left) = false := decide_eq_false hps
          have HPL := Lib.hid (show leftP left = left by unfold leftP; rw [if_neg hps])
          go_wp2_with (first
            | (refine wp_ld_drv (.tmp 4) rfl rfl g _ _ rfl b7' rfl ?_)
            | (refine wp_st_drv (.tmp 2) (.tmp 40) rfl rfl (G + 1) ⟨some ⟨gb, 0, none⟩, B.length, c3⟩ ⟨none, 0, 0⟩ left _ 28 rfl rfl r7 rfl ?_; intro w9 b9 g9))
          refine bodyPost_ret (results_cell2 rfl _ _ (G + 1) _ _ _ (.int .i64 0) rfl rfl b9 Tryz.underlying28 rfl drvSize) rfl ?_
          rw [hP.out, HPL.out]
          exact ⟨_, rfl, ⟨_, _, rfl, kb7.grown (by decide) r7 g9, KP7.out _⟩, x7.grown g9 (fun j e => by cases e; omega)⟩
end Go.Proofs.YtkokmnaicfdjaaaGreatDoor
/- A row put behind a row. -/
namespace Go.Proofs.YtkokmnaicfdjaaaGreatDoor
set_option linter.unusedVariables false
set_option linter.unusedSimpArgs false
open Go.RowKit

/-- append(v, l...), v of the call's own -/
theorem wp_app_more {α : Type} {B0 : Nat} (f : α → List Value) (T E : TypeId) (z bytes : Nat) (zv : Value) (base : Nat) {ops : Array Oper} {rest : List Oper} {o : Oper} {a : Act} {Q : Exit → Act → World → Prop} {w : World} {l0 l : List α} (s0 s : Sl)
    (hT : Tryz.prog.underlying T = some (.slice E)) (hi : (Tryz.prog.info? E).map (fun i => (i.zero, i.size, i.bytes)) = some (some zv, z, bytes)) (hz0 : 0 < z) (hzc : zv.cells.size = z) (hgd : o.guard = none) (sl x : Operand)
    (ho : o.op = .call { callee := .builtin .append, args := #[sl, x], argTypes := #[T, T] }) (hs : a.eval sl = .slice s0.A s0.n s0.c) (hx : a.eval x = .slice s.A s.n s.c) (h0 : w.ownsRow base E z (.slice s0.A s0.n s0.c) s0.n (l0.flatMap f)) (hn0 : s0.n = l0.length)
    (h : RowOf f w s.A s.n l) (hk : s.ok) (hlen : ∀ x, (f x).length = z) (hone : ∀ x, ∀ v ∈ f x, v.oneCell' = true) (hsm : s0.n + s.n ≤ 100000) (hby : (s0.n + s.n) * bytes ≤ 140737488355328) (hb : base ≤ w.heap.size)
    (hK : ∀ (s' : Sl) (w' : World), s'.n = s0.n + s.n → RowF B0 f E w' s' (l0 ++ l) → w'.ownsRow base E z (.slice s'.A s'.n s'.c) s'.n ((l0 ++ l).flatMap f) → w.grownBy w' (Value.slice s0.A s0.n s0.c).ownBlock → wpList Tryz.prog ops Q rest (a.put o.dst (.slice s'.A s'.n s'.c)) w') : wpList Tryz.prog ops Q (o :: rest) a w := by
  obtain ⟨i, hi, hz, h1, h2⟩ := info_parts hi
  obtain ⟨A, n, c⟩ := s
  simp only at hx h hk hby hK hsm
  cases A with
  | none =>
    obtain ⟨rfl, rfl⟩ := hk.1 rfl
    have hl : l = [] := List.eq_nil_of_length_eq_zero h.1.symm
    subst hl
    refine wpList_plain hgd fun K hK' => ?_
    have hr := run_append_owned_none (P := Tryz.prog) (w := w) base T o.type E i z hT hi (.slice s0.A s0.n s0.c) s0.n (l0.flatMap f) h0
    have hK2 := hK s0 w rfl (by
      rw [List.append_nil]
      refine RowF.own (own_row h0 (fun x _ => hlen x) hn0 rfl) ?_ (by omega) h0
      obtain ⟨s', e, _, hk'⟩ := own_sl h0
      injection e with e1 e2 e3
      have : s0 = s' := by cases s0; cases s'; simp_all
      rw [this]; exact hk') (by rw [List.append_nil]; exact h0) ⟨rfl, rfl, rfl, Nat.le_refl _, fun _ _ _ => rfl⟩
    unfold Oper.wp execOp
    simp only [ho, resolve, invoke, builtin, Sem.run_bind, Sem.run_pure, Result.andThen_ok, List.map_toArray, List.map_cons, List.map_nil, hs, hx, hr]
    exact hK' _ _ hK2
  | some p =>
    have hp : ∀ j u, (l.flatMap f)[j]? = some u → w.cell? (p.add j) = some u := fun j u hj => by
      have hn : 0 < n := by
        rw [h.1]
        cases l with
        | nil => cases hj
        | cons x l => simp
      obtain ⟨b, o, e, hc⟩ := h.2 hn
      have ep : p = ⟨b, o, none⟩ := Option.some.inj e
      have ha : (⟨b, o, none⟩ : Addr).add j = ⟨b, o + j, none⟩ := by unfold Addr.add; split <;> simp_all
      rw [ep, ha]; exact hc j u hj
    refine wpList_plain hgd fun K hK' => ?_
    obtain ⟨v', w', hr, ho', hg, _⟩ := run_append_own_at (P := Tryz.prog) w base T o.type E i zv z bytes hT hi hz h1 h2 hzc hz0 (.slice s0.A s0.n s0.c) s0.n (l0.flatMap f) h0 p n c (l.flatMap f) (by rw [flat_len f z l (fun x _ => hlen x), h.1]) hp (fun u hu => by
      obtain ⟨x, hx, hu⟩ := List.mem_flatMap.1 hu
      exact hone x u hu) (by unfold maxLen; omega) hby hb
    rw [← List.flatMap_append] at ho'
    obtain ⟨s', rfl, hs', hk'⟩ := own_sl ho'
    have hR := own_row ho' (fun x _ => hlen x) (by rw [List.length_append, hn0, h.1]) hs'
    rw [← hs'] at ho'
    unfold Oper.wp execOp
    simp only [ho, resolve, invoke, builtin, Sem.run_bind, Sem.run_pure, Result.andThen_ok, List.map_toArray, List.map_cons, List.map_nil, hs, hx, hr]
    exact hK' _ _ (hK s' w' hs' (RowF.own hR hk' (by omega) ho') ho' hg)
end Go.Proofs.YtkokmnaicfdjaaaGreatDoor
/- The calls of a journal: a block put; a row of calls done. -/
namespace Go.Proofs.YtkokmnaicfdjaaaGreatDoor
set_option linter.unusedVariables false
set_option linter.unusedSimpArgs false
open Go.RowKit

/-- a call of a drive -/
inductive CallD where
  | put (i : Nat) (s : List UInt8)
  | flush
def stepP (D : DrvD) : CallD → DrvD × Int
  | .put i s => putDP D i s
  | .flush => flushDP D
/-- calls, up to the first that fails -/
def doneP : DrvD → List CallD → DrvD × Int
  | D, [] => (D, 0)
  | D, c :: cs => if (stepP D c).2 = 0 then doneP (stepP D c).1 cs else stepP D c
/-- a function's value, and the call that it is -/
abbrev FnC := (Fn × Array Value) × CallD
def funL (x : FnC) : List Value := [.func x.1.1 #[] x.1.2]
theorem funL_len (x : FnC) : (funL x).length = 1 := rfl
theorem funL_one (x : FnC) : ∀ v ∈ funL x, v.oneCell' = true := fun v hv => by
  obtain rfl : v = .func x.1.1 #[] x.1.2 := by simpa [funL] using hv
  rfl
/-- the value is that call -/
def callV (w : World) (x : FnC) : Prop := match x.2 with
  | .put i s => ∃ b1 b2, x.1 = (.func 118, #[.pointer (some ⟨b1, 0, none⟩), .pointer (some ⟨b2, 0, none⟩)]) ∧ Box w b1 3 #[.int .i64 (i : Int)] ∧ Box w b2 9 #[.string (str s)]
  | .flush => x.1 = (.func 76, #[])
theorem callV.ext {w w' : World} {x : FnC} (h : callV w x) (k : Ext w w') : callV w' x := by
  obtain ⟨f, c⟩ := x
  cases c with
  | flush => exact h
  | put i s =>
    obtain ⟨b1, b2, e, h1, h2⟩ := h
    exact ⟨b1, b2, e, h1.ext k, h2.ext k⟩
theorem funInfo : (Tryz.prog.info? 114).map (fun i => (i.zero, i.size, i.bytes)) = some (some .nilFunc, 1, 8) := by kernel_rfl
set_option maxHeartbeats 400000 in
set_option maxRecDepth 100000 in
theorem putting_any (i : Nat) (s : List UInt8) (w : World) :
    Calls Tryz.prog 74 #[.int .i64 (i : Int), .string (str s)] w fun e w' => ∃ x : FnC, x.2 = .put i s ∧ e = .returned (.func x.1.1 #[] x.1.2) ∧ callV w' x ∧ Ext w w' := by
  have hmf : ∀ (fn : Fn) (first cap : Array Value) (w : World), (Instr.makeFunc fn first cap).run Tryz.prog w = .ok (.func fn first cap) w := fun _ _ _ _ => rfl
  go_enter Tryz.func74, Tryz.ntmps74
  go_wp2_with fail
  go_ret
  have b1 := Box.new w 3 #[.int .i64 (i : Int)]
  have b2 := Box.new (w.alloc (.cells #[.int .i64 (i : Int)] 3)) 9 #[.string (str s)]
  rw [World.size_alloc] at b2
  exact ⟨((.func 118, #[.pointer (some ⟨w.heap.size, 0, none⟩), .pointer (some ⟨w.heap.size + 1, 0, none⟩)]), .put i s), rfl, rfl, ⟨_, _, rfl, b1.ext ((Ext.refl _).alloc _), b2⟩, ((Ext.refl _).alloc _).alloc _⟩
set_option maxHeartbeats 400000 in
set_option maxRecDepth 100000 in
theorem putting1_any (B0 : Nat) (D : DrvD) (v : Value) (i : Nat) (s : List UInt8) (b1 b2 : Nat) (w : World) (hB0 : B0 ≤ w.heap.size) (hv : drvV B0 D w v) (hi : i < D.bl.length) (hs : s.length = 128) (hp : D.pe.length ≤ 90000) (hL : D.left ≤ 9223372036854775807) (h1 : Box w b1 3 #[.int .i64 (i : Int)]) (h2 : Box w b2 9 #[.string (str s)]) :
    Calls Tryz.prog 118 #[v, .pointer (some ⟨b1, 0, none⟩), .pointer (some ⟨b2, 0, none⟩)] w fun e w' => ∃ v', e = .returned (.tuple #[v', .int .i64 (putDP D i s).2]) ∧ drvV B0 (putDP D i s).1 w' v' ∧ Ext w w' := by
  have HV := Lib.hid hv
  obtain ⟨bl, pe, rfl, kb, kp⟩ := hv
  clear kb kp
  have HD := Lib.hid (fun w h0 h => dput_any B0 D (.agg #[.slice bl.A bl.n bl.c, .slice pe.A pe.n pe.c, .int .i64 D.left]) i s w h0 h hi hs hp hL)
  have b0 := Box.new w 28 #[.slice bl.A bl.n bl.c, .slice pe.A pe.n pe.c, .int .i64 D.left]
  have r0 := Box.new (w.alloc (.cells #[.slice bl.A bl.n bl.c, .slice pe.A pe.n pe.c, .int .i64 D.left] 28)) 28 #[.slice none 0 0, .slice none 0 0, .int .i64 0]
  have x0 := ((Ext.refl w).alloc (.cells #[.slice bl.A bl.n bl.c, .slice pe.A pe.n pe.c, .int .i64 D.left] 28)).alloc (.cells #[.slice none 0 0, .slice none 0 0, .int .i64 0] 28)
  have b0' := b0.ext ((Ext.refl _).alloc (.cells #[.slice none 0 0, .slice none 0 0, .int .i64 0] 28))
  rw [World.size_alloc] at r0
  clear b0 hi hs hp hL
  generalize hleft : D.left = left at *
  go_enter Tryz.func118, Tryz.ntmps118
  go_upto_region 1 with fail
  have h1' := h1.ext x0
  have h2' := h2.ext x0
  generalize (w.alloc (.cells #[.slice bl.A bl.n bl.c, .slice pe.A pe.n pe.c, .int .i64 left] 28)).alloc (.cells #[.slice none 0 0, .slice none 0 0, .int .i64 0] 28) = w1 at *
  generalize hG : w.heap.size = G at *
  have c1 : w1.cell? ⟨b1, 0, none⟩ = some (.int .i64 (i : Int)) := h1'.cell 0
  have c2 : w1.cell? ⟨b2, 0, none⟩ = some (.string (str s)) := h2'.cell 0
  clear h1 h2 h1' h2'
  go_wp2_with (first
    | (refine wp_ld_drv (.tmp 3) rfl rfl G _ _ rfl b0' rfl ?_)
    | (go_at_call 119; refine (HD.out _ (by have := x0.size; omega) (by obtain ⟨bl', pe', e, k1, k2⟩ := HV.out; exact ⟨bl', pe', e, k1.ext x0, k2.ext x0⟩)).mono ?_; rintro e w2 ⟨v2, rfl, ⟨bl2, pe2, rfl, k1, k2⟩, x2⟩; have r2 := r0.ext x2)
    | (refine wp_st_drv (.tmp 4) (.tmp 10) rfl rfl (G + 1) bl2 pe2 _ _ 28 rfl rfl r2 rfl ?_; intro w5 b5 g5))
  refine bodyPost_ret (results_cell2 rfl _ _ (G + 1) _ _ _ (.int .i64 (putDP D i s).2) rfl rfl b5 Tryz.underlying28 rfl drvSize) rfl ?_
  exact ⟨_, rfl, ⟨bl2, pe2, rfl, k1.grown (by decide) r2 g5, k2.grown (by decide) r2 g5⟩, (x0.trans x2).grown g5 (fun j e => by cases e; omega)⟩
end Go.Proofs.YtkokmnaicfdjaaaGreatDoor
/- The calls that put writes to their blocks, by the program. -/
namespace Go.Proofs.YtkokmnaicfdjaaaGreatDoor
set_option linter.unusedVariables false
set_option linter.unusedSimpArgs false
open Go.RowKit

def homeC (l : List WrT) : List CallD := l.map (fun x => .put (33 + x.1.toNat) x.2) ++ [.flush]
theorem fun_row {w : World} {L : List FnC} {n : Nat} (hn : L.length = n) : RowOf funL (w.alloc (.cells (L.flatMap funL).toArray 114)) (some ⟨w.heap.size, 0, none⟩) n L :=
  ⟨hn.symm, fun _ => ⟨w.heap.size, 0, rfl, fun j v hj => by
    rw [Nat.zero_add, (Box.new w 114 (L.flatMap funL).toArray).cell j]
    simpa using hj⟩⟩
theorem ok_new (g n : Nat) (h : n ≤ 100) : Sl.ok ⟨some ⟨g, 0, none⟩, n, n⟩ := ⟨fun e => (by cases e), (by show n ≤ maxLen; unfold maxLen; omega), Nat.le_refl n⟩
theorem callV_all {w w' : World} {L : List FnC} (h : ∀ x ∈ L, callV w x) (k : Ext w w') : ∀ x ∈ L, callV w' x := fun x hx => (h x hx).ext k
/-- blocks of these types that are met by a step that writes a row of calls -/
theorem callV_grown {w w' : World} {row : Option Nat} {x : FnC} (h : callV w x) (hg : w.grownBy w' row) (hr : ∀ b cs t, Box w b t cs → t = 3 ∨ t = 9 → some b ≠ row) : callV w' x := by
  obtain ⟨f, c⟩ := x
  cases c with
  | flush => exact h
  | put i s =>
    obtain ⟨b1, b2, e, h1, h2⟩ := h
    exact ⟨b1, b2, e, h1.grown hg (hr _ _ _ h1 (.inl rfl)), h2.grown hg (hr _ _ _ h2 (.inr rfl))⟩
theorem callV_own {w w' : World} {base n : Nat} {u : Value} {xs : List Value} {L : List FnC} (h : ∀ x ∈ L, callV w x) (o : w.ownsRow base 114 1 u n xs) (hg : w.grownBy w' u.ownBlock) : ∀ x ∈ L, callV w' x := fun x hx =>
  callV_grown (h x hx) hg (fun b cs t hb ht => own_ne o hb (by rcases ht with rfl | rfl <;> decide))
set_option maxHeartbeats 1000000 in
set_option maxRecDepth 100000 in
theorem homeward_any (B0 : Nat) (l : List WrT) (s : Sl) (w : World) (h : RowF B0 wrL 57 w s l) (hl : WrsIn l) :
    Calls Tryz.prog 78 #[.slice s.A s.n s.c] w fun e w' => ∃ (s' : Sl) (L : List FnC), e = .returned (.slice s'.A s'.n s'.c) ∧ RowF B0 funL 114 w' s' L ∧ (∀ x ∈ L, callV w' x) ∧ L.map (·.2) = homeC l ∧ Ext w w' := by
  have hn : s.n = l.length := h.k.row.1
  have hl32 := hl.1
  have HL := Lib.hid hl
  have HR := Lib.hid h
  clear h hl
  obtain ⟨A, n, c⟩ := s
  simp only at *
  subst hn
  have hsm := HR.out.k.small
  simp only at hsm
  have o0 := World.ownsRow_nil w w.heap.size 114 1
  generalize hG : w.heap.size = G at *
  go_enter Tryz.func78, Tryz.ntmps78
  go_upto_region 3 with fail
  go_loopw [3, 8] (fun u i wx => ∃ (k : Nat) (s3 : Sl) (L : List FnC), k ≤ l.length ∧ i = .int .i64 k ∧ u = .slice s3.A s3.n s3.c ∧ s3.n = k ∧ L.length = k ∧ Ext w wx ∧ wx.ownsRow G 114 1 (.slice s3.A s3.n s3.c) s3.n (L.flatMap funL) ∧ L.map (·.2) = (l.take k).map (fun x => CallD.put (33 + x.1.toNat) x.2) ∧ (∀ x ∈ L, callV wx x)) (fun _ i _ => l.length - (intOf i).toNat)
  case atStart => exact ⟨0, ⟨none, 0, 0⟩, [], by omega, rfl, rfl, rfl, rfl, Ext.refl _, o0, rfl, by simp⟩
  case round =>
    clear o0
    obtain ⟨k, s3, L, hk, rfl, rfl, hs3, hLk, xk, ok, hLm, hLv⟩ := hrel
    by_cases hlt : k < l.length
    · have pk := HR.out.ext xk
      obtain ⟨b2, o2, hA, hcell⟩ := pk.k.row.wrs.2 (by show 0 < l.length; omega)
      subst hA
      have e1 := (hcell k hlt).1
      have e2 := (hcell k hlt).2
      have hki : (k : Int) < (l.length : Int) := by omega
      have HY := Lib.hid (HL.out.2 l[k] (List.getElem_mem _))
      have HT1 := Lib.hid (show (l.take (k + 1)).map (fun x => CallD.put (33 + x.1.toNat) x.2) = (l.take k).map (fun x => CallD.put (33 + x.1.toNat) x.2) ++ [CallD.put (33 + l[k].1.toNat) l[k].2] by rw [List.take_succ_eq_append_getElem hlt, List.map_append]; rfl)
      clear hcell pk
      generalize l[k] = y at *
      obtain ⟨y1, y2⟩ := y
      simp only at e1 e2
      obtain ⟨q, rfl⟩ : ∃ q : Nat, y1 = q := ⟨y1.toNat, by have := HY.out.1.1; simp only at this; omega⟩
      have hq : (q : Int) ≤ 65535 := HY.out.1.2
      simp only [Int.toNat_natCast] at HT1
      have hHS := Lib.hid hs3
      have hHL := Lib.hid hLk
      clear hs3 hLk
      go_upto_region 5 with fail
      have y5 : Ext wr (wr.alloc (.cells #[.int .i64 (q : Int), .string (str y2)] 57)) := (Ext.refl wr).alloc _
      have bw := Box.new wr 57 #[.int .i64 (q : Int), .string (str y2)]
      have ok5 := own_ext ok y5
      have hLv5 := callV_all hLv y5
      have xk5 := xk.trans y5
      have zk : G ≤ wr.heap.size := by rw [← hG]; exact xk.size
      clear e1 e2 ok hLv xk y5
      generalize wr.alloc (.cells #[.int .i64 (q : Int), .string (str y2)] 57) = w7 at *
      generalize wr.heap.size = gw at *
      have d0 : w7.cell? ⟨gw, 0, none⟩ = some (.int .i64 (q : Int)) := bw.cell 0
      have d1 : w7.cell? ⟨gw, 1, none⟩ = some (.string (str y2)) := bw.cell 1
      have z7 : G ≤ w7.heap.size := by have := bw.lt; omega
      have HP := Lib.hid (putting_any (33 + q) y2 w7)
      rw [show ((33 + q : Nat) : Int) = 33 + (q : Int) by omega] at HP
      go_wp2_with (first
        | (go_at_call 74; refine HP.out.mono ?_; rintro e w8 ⟨x, hx2, rfl, hxv, x8⟩)
        | (at_builtin; refine wp_app_more (B0 := B0) funL 112 114 1 8 .nilFunc G s3 ⟨some ⟨w8.heap.size, 0, none⟩, 1, 1⟩ (l := [x]) Tryz.underlying112 funInfo (by omega) rfl rfl _ _ rfl rfl rfl (own_ext ok5 (x8.trans ((Ext.refl _).alloc _))) (by rw [hHS.out, hHL.out]) (fun_row rfl) (ok_new _ 1 (by omega)) funL_len funL_one (by rw [hHS.out]; show k + 1 ≤ 100000; omega) (by rw [hHS.out]; show (k + 1) * 8 ≤ _; omega) (Nat.le_trans z7 (Nat.le_trans x8.size ((Ext.refl _).alloc _).size)) ?_; intro s9 w9 hn9 k9 o9 g9; have HN9 := Lib.hid hn9; clear hn9))
      have ya : Ext w8 (w8.alloc (.cells #[.func x.1.1 #[] x.1.2] 114)) := (Ext.refl w8).alloc _
      have oa := own_ext ok5 (x8.trans ya)
      have hv9 := callV_own (callV_all hLv5 (x8.trans ya)) oa g9
      have hx9 := callV_own (L := [x]) (fun z hz => by rw [List.mem_singleton.1 hz]; exact hxv.ext ya) oa g9
      have x9 : Ext w w9 := ((xk5.trans x8).trans ya).grown g9 (fun k e => by rw [hG]; exact own_low oa e)
      clear g9 oa ya ok5 hLv5 xk5 bw d0 d1 z7 HP hxv x8
      go_roundw
      case rel => exact ⟨k + 1, s9, L ++ [x], by omega, by go_num, rfl, by rw [HN9.out, hHS.out], by rw [List.length_append, hHL.out]; rfl, x9, o9, by rw [HT1.out, List.map_append, hLm, List.map_singleton, hx2], fun z hz => (List.mem_append.1 hz).elim (hv9 z) (hx9 z)⟩
      case measure => simp [intOf]; omega
    · obtain rfl : k = l.length := by omega
      have hHS := Lib.hid hs3
      have hHL := Lib.hid hLk
      clear hs3 hLk
      rw [List.take_length] at hLm
      have zk : G ≤ wr.heap.size := by rw [← hG]; exact xk.size
      have ya : Ext wr (wr.alloc (.cells #[.func (.func 76) #[] #[]] 114)) := (Ext.refl wr).alloc _
      have oa := own_ext ok ya
      go_wp2_with (at_builtin; refine wp_app_more (B0 := B0) funL 112 114 1 8 .nilFunc G s3 ⟨some ⟨wr.heap.size, 0, none⟩, 1, 1⟩ (l := [((.func 76, #[]), .flush)]) Tryz.underlying112 funInfo (by omega) rfl rfl _ _ rfl rfl rfl oa (by rw [hHS.out, hHL.out]) (fun_row rfl) (ok_new _ 1 (by omega)) funL_len funL_one (by rw [hHS.out]; show l.length + 1 ≤ 100000; omega) (by rw [hHS.out]; show (l.length + 1) * 8 ≤ _; omega) (Nat.le_trans zk ya.size) ?_; intro s9 w9 hn9 k9 o9 g9; have HN9 := Lib.hid hn9; clear hn9)
      have hv9 := callV_own (callV_all hLv ya) oa g9
      have hx9 := callV_own (L := [((.func 76, #[]), .flush)]) (fun z hz => by rw [List.mem_singleton.1 hz]; rfl) oa g9
      have x9 : Ext w w9 := (xk.trans ya).grown g9 (fun k e => by rw [hG]; exact own_low oa e)
      clear g9 oa ya
      go_ret
      exact ⟨s9, rfl, _, k9, fun a b c hz => (List.mem_append.1 hz).elim (hv9 ((a, b), c)) (hx9 ((a, b), c)), by rw [List.map_append, hLm]; rfl, x9⟩
end Go.Proofs.YtkokmnaicfdjaaaGreatDoor
/- Calls done, up to the first that fails, by the program. -/
namespace Go.Proofs.YtkokmnaicfdjaaaGreatDoor
set_option linter.unusedVariables false
set_option linter.unusedSimpArgs false
open Go.RowKit

def okC (n : Nat) : CallD → Prop
  | .put i s => i < n ∧ s.length = 128
  | .flush => True
theorem leftP_le {x : Int} (h : x ≤ 9223372036854775807) : leftP x ≤ 9223372036854775807 := by unfold leftP; split <;> omega
theorem step_len (D : DrvD) (c : CallD) : (stepP D c).1.bl.length = D.bl.length := by
  cases c with
  | put i s => simp only [stepP, putDP]; split <;> rfl
  | flush => simp only [stepP, flushDP]; split; rfl; exact foldl_lay_len _ _
theorem step_pe (D : DrvD) (c : CallD) : (stepP D c).1.pe.length ≤ D.pe.length + 1 := by
  cases c with
  | put i s => simp only [stepP, putDP]; split <;> simp
  | flush => simp only [stepP, flushDP]; split <;> simp
theorem step_left (D : DrvD) (c : CallD) (h : D.left ≤ 9223372036854775807) : (stepP D c).1.left ≤ 9223372036854775807 := by
  cases c with
  | put i s => simp only [stepP, putDP]; split; exact h; exact leftP_le h
  | flush => simp only [stepP, flushDP]; split; exact h; exact leftP_le h
theorem step_err (D : DrvD) (c : CallD) : (stepP D c).2 = 0 ∨ (stepP D c).2 = 17 := by
  cases c with
  | put i s => simp only [stepP, putDP]; split; exact .inr rfl; exact .inl rfl
  | flush => simp only [stepP, flushDP]; split; exact .inr rfl; exact .inl rfl
theorem done_drop {D : DrvD} {cs : List CallD} {k : Nat} (hk : k < cs.length) : doneP D (cs.drop k) = if (stepP D cs[k]).2 = 0 then doneP (stepP D cs[k]).1 (cs.drop (k + 1)) else stepP D cs[k] := by
  rw [List.drop_eq_getElem_cons hk, doneP]
set_option maxHeartbeats 1000000 in
set_option maxRecDepth 100000 in
theorem done_any (B0 : Nat) (D : DrvD) (v : Value) (s : Sl) (L : List FnC) (w : World) (hB0 : B0 ≤ w.heap.size) (hv : drvV B0 D w v) (h : RowF B0 funL 114 w s L) (hc : ∀ x ∈ L, callV w x) (hok : ∀ x ∈ L, okC D.bl.length x.2) (hpos : 0 < D.bl.length) (hp : D.pe.length + L.length ≤ 90000) (hL : D.left ≤ 9223372036854775807) :
    Calls Tryz.prog 77 #[v, .slice s.A s.n s.c] w fun e w' => ∃ v', e = .returned (.tuple #[v', .int .i64 (doneP D (L.map (·.2))).2]) ∧ drvV B0 (doneP D (L.map (·.2))).1 w' v' ∧ Ext w w' := by
  obtain ⟨bl, pe, rfl, kb, kp⟩ := hv
  have hn : s.n = L.length := h.k.row.1
  have HR := Lib.hid h
  have HC := Lib.hid hc
  have HO := Lib.hid hok
  clear h hc hok
  obtain ⟨A, n, c⟩ := s
  simp only at *
  subst hn
  have hsm := HR.out.k.small
  simp only at hsm
  have b0 := Box.new w 28 (drvC bl pe D.left)
  have r0 := Box.new (w.alloc (.cells (drvC bl pe D.left) 28)) 28 #[.slice none 0 0, .slice none 0 0, .int .i64 0]
  have x0 := ((Ext.refl w).alloc (.cells (drvC bl pe D.left) 28)).alloc (.cells #[.slice none 0 0, .slice none 0 0, .int .i64 0] 28)
  have b1 := b0.ext ((Ext.refl _).alloc (.cells #[.slice none 0 0, .slice none 0 0, .int .i64 0] 28))
  rw [World.size_alloc] at r0
  clear b0
  have kb1 := kb.ext x0
  have kp1 := kp.ext x0
  clear kb kp
  go_enter Tryz.func77, Tryz.ntmps77
  go_upto_region 2 with fail
  change Code.wp _ _ _ _ ((w.alloc (.cells (drvC bl pe D.left) 28)).alloc (.cells #[.slice none 0 0, .slice none 0 0, .int .i64 0] 28))
  generalize (w.alloc (.cells (drvC bl pe D.left) 28)).alloc (.cells #[.slice none 0 0, .slice none 0 0, .int .i64 0] 28) = w1 at *
  generalize hG : w.heap.size = G at *
  go_loopw [12] (fun i wx => ∃ (k : Nat) (E : DrvD) (eb ep : Sl), k ≤ L.length ∧ i = .int .i64 k ∧ Box wx G 28 (drvC eb ep E.left) ∧ RowF B0 stL 9 wx eb E.bl ∧ RowF B0 wrL 57 wx ep E.pe ∧ Box wx (G + 1) 28 #[.slice none 0 0, .slice none 0 0, .int .i64 0] ∧ Ext w wx ∧ doneP D (L.map (·.2)) = doneP E ((L.map (·.2)).drop k) ∧ E.bl.length = D.bl.length ∧ E.pe.length ≤ D.pe.length + k ∧ E.left ≤ 9223372036854775807) (fun i _ => L.length - (intOf i).toNat)
  case atStart => exact ⟨0, D, bl, pe, by omega, rfl, b1, kb1, kp1, r0, x0, rfl, rfl, Nat.le_refl _, hL⟩
  case round =>
    clear b1 kb1 kp1 r0 x0
    obtain ⟨k, E, eb, ep, hk, rfl, bk, kb, kp, rk, xk, hD, hEl, hEp, hEL⟩ := hrel
    have HD := Lib.hid hD
    clear hD
    by_cases hlt : k < L.length
    · have pk := HR.out.ext xk
      obtain ⟨b2, o2, hA, hcell⟩ := pk.k.row.2 (by show 0 < L.length; omega)
      subst hA
      have e1 := RowOf.cell (n := 0) hcell (fun x _ => funL_len x) hlt (i := 0) (by omega) rfl
      rw [Nat.mul_one, Nat.add_zero] at e1
      have HX := Lib.hid ((HC.out L[k] (List.getElem_mem _)).ext xk)
      have HY := Lib.hid (HO.out L[k] (List.getElem_mem _))
      have HS := Lib.hid (show doneP D (L.map (·.2)) = if (stepP E L[k].2).2 = 0 then doneP (stepP E L[k].2).1 ((L.map (·.2)).drop (k + 1)) else stepP E L[k].2 by rw [HD.out, done_drop (by simpa using hlt)]; simp)
      have hki : (k : Int) < (L.length : Int) := by omega
      clear hcell pk HD
      generalize L[k] = y at *
      obtain ⟨⟨f, cap⟩, cc⟩ := y
      simp only at e1
      have HER := Lib.hid (step_err E cc)
      have H1 := Lib.hid (step_len E cc)
      have H2 := Lib.hid (step_pe E cc)
      have H3 := Lib.hid (step_left E cc hEL)
      cases cc with
      | put i s =>
        obtain ⟨c1, c2, ef, q1, q2⟩ := HX.out
        injection ef with ef1 ef2
        subst ef1 ef2
        have hy : i < D.bl.length ∧ s.length = 128 := HY.out
        have HP := Lib.hid (putting1_any B0 E (.agg (drvC eb ep E.left)) i s c1 c2 wr (by have := xk.size; omega) ⟨eb, ep, rfl, kb, kp⟩ (by rw [hEl]; exact hy.1) hy.2 (by omega) hEL q1 q2)
        clear hy q1 q2 HX HY
        have hst : putDP E (i : Int) s = stepP E (.put i s) := rfl
        rw [hst] at HP
        clear hst
        have HP0 := Lib.hid HP
        clear HP
        generalize stepP E (.put i s) = R at *
        obtain ⟨E', er⟩ := R
        simp only at H1 H2 H3 HER HS HP0
        have HP := HP0.out
        clear HP0
        go_upto_region 5 with (first
          | (refine wp_ld_drv (.tmp 2) rfl rfl G _ _ rfl bk rfl ?_)
          | (go_at_call 118; refine HP.out.mono ?_; rintro e w2 ⟨v2, rfl, ⟨bl2, pe2, rfl, k1, k2⟩, x2⟩)
          | (refine wp_st_drv (.tmp 8) (.tmp 20) rfl rfl w2.heap.size bl2 pe2 _ _ 28 rfl rfl (Box.new _ _ _) rfl ?_; intro w5 b5 g5))
        have y5 : Ext w2 w5 := ((Ext.refl w2).alloc _).grown g5 (fun j e => by cases e; exact Nat.le_refl _)
        have x5 := (xk.trans x2).trans y5
        have bk5 := (bk.ext x2).ext y5
        have rk5 := (rk.ext x2).ext y5
        have k15 := k1.ext y5
        have k25 := k2.ext y5
        clear g5 y5 x2 k1 k2 bk rk xk kb kp HP e1
        generalize w2.heap.size = gd at *
        rcases HER.out with he | he
        · subst he
          have hS := HS.out
          rw [if_pos rfl] at hS
          have HS2 := Lib.hid hS
          clear hS HS HER
          go_wp2_with (first
            | (refine wp_ld_drv (.tmp 8) rfl rfl gd _ _ rfl b5 rfl ?_)
            | (refine wp_st_drv (.tmp 2) (.tmp 22) rfl rfl G bl2 pe2 _ _ 28 rfl rfl bk5 rfl ?_; intro w6 b6 g6))
          have rk6 := rk5.grown g6 (by intro e; injection e with e; omega)
          have k16 := k15.grown (by decide) bk5 g6
          have k26 := k25.grown (by decide) bk5 g6
          have x6 := x5.grown g6 (fun j e => by cases e; omega)
          go_roundw
          case rel => exact ⟨k + 1, E', bl2, pe2, by omega, by go_num, b6, k16, k26, rk6, x6, HS2.out, by rw [H1.out, hEl], by have := H2.out; omega, H3.out⟩
          case measure => simp [intOf]; omega
        · subst he
          have hS := HS.out
          rw [if_neg (by decide)] at hS
          have HS2 := Lib.hid hS
          clear hS HS HER
          go_wp2_with (first
            | (refine wp_ld_drv (.tmp 8) rfl rfl gd _ _ rfl b5 rfl ?_)
            | (refine wp_st_drv (.tmp 2) (.tmp 22) rfl rfl G bl2 pe2 _ _ 28 rfl rfl bk5 rfl ?_; intro w6 b6 g6; have rk6 := rk5.grown g6 (by intro e; injection e with e; omega))
            | (refine wp_ld_drv (.tmp 2) rfl rfl G _ _ rfl b6 rfl ?_)
            | (refine wp_st_drv (.tmp 4) (.tmp 25) rfl rfl (G + 1) bl2 pe2 _ _ 28 rfl rfl rk6 rfl ?_; intro w7 b7 g7))
          have k16 := k15.grown (by decide) bk5 g6
          have k26 := k25.grown (by decide) bk5 g6
          have x6 := x5.grown g6 (fun j e => by cases e; omega)
          refine bodyPost_ret (results_cell2 rfl _ _ (G + 1) _ _ _ (.int .i64 17) rfl rfl b7 Tryz.underlying28 rfl drvSize) rfl ?_
          rw [HS2.out]
          exact ⟨_, rfl, ⟨bl2, pe2, rfl, k16.grown (by decide) rk6 g7, k26.grown (by decide) rk6 g7⟩, x6.grown g7 (fun j e => by cases e; omega)⟩
      | flush =>
        have ef : (f, cap) = (Fn.func 76, #[]) := HX.out
        injection ef with ef1 ef2
        subst ef1 ef2
        have HP := Lib.hid (dflush_any B0 E (.agg (drvC eb ep E.left)) wr (by have := xk.size; omega) ⟨eb, ep, rfl, kb, kp⟩ (by omega) hEL)
        clear HX HY
        have hst : flushDP E = stepP E (.flush) := rfl
        rw [hst] at HP
        clear hst
        have HP0 := Lib.hid HP
        clear HP
        generalize stepP E (.flush) = R at *
        obtain ⟨E', er⟩ := R
        simp only at H1 H2 H3 HER HS HP0
        have HP := HP0.out
        clear HP0
        go_upto_region 5 with (first
          | (refine wp_ld_drv (.tmp 2) rfl rfl G _ _ rfl bk rfl ?_)
          | (go_at_call 76; refine HP.out.mono ?_; rintro e w2 ⟨v2, rfl, ⟨bl2, pe2, rfl, k1, k2⟩, x2⟩)
          | (refine wp_st_drv (.tmp 8) (.tmp 20) rfl rfl w2.heap.size bl2 pe2 _ _ 28 rfl rfl (Box.new _ _ _) rfl ?_; intro w5 b5 g5))
        have y5 : Ext w2 w5 := ((Ext.refl w2).alloc _).grown g5 (fun j e => by cases e; exact Nat.le_refl _)
        have x5 := (xk.trans x2).trans y5
        have bk5 := (bk.ext x2).ext y5
        have rk5 := (rk.ext x2).ext y5
        have k15 := k1.ext y5
        have k25 := k2.ext y5
        clear g5 y5 x2 k1 k2 bk rk xk kb kp HP e1
        generalize w2.heap.size = gd at *
        rcases HER.out with he | he
        · subst he
          have hS := HS.out
          rw [if_pos rfl] at hS
          have HS2 := Lib.hid hS
          clear hS HS HER
          go_wp2_with (first
            | (refine wp_ld_drv (.tmp 8) rfl rfl gd _ _ rfl b5 rfl ?_)
            | (refine wp_st_drv (.tmp 2) (.tmp 22) rfl rfl G bl2 pe2 _ _ 28 rfl rfl bk5 rfl ?_; intro w6 b6 g6))
          have rk6 := rk5.grown g6 (by intro e; injection e with e; omega)
          have k16 := k15.grown (by decide) bk5 g6
          have k26 := k25.grown (by decide) bk5 g6
          have x6 := x5.grown g6 (fun j e => by cases e; omega)
          go_roundw
          case rel => exact ⟨k + 1, E', bl2, pe2, by omega, by go_num, b6, k16, k26, rk6, x6, HS2.out, by rw [H1.out, hEl], by have := H2.out; omega, H3.out⟩
          case measure => simp [intOf]; omega
        · subst he
          have hS := HS.out
          rw [if_neg (by decide)] at hS
          have HS2 := Lib.hid hS
          clear hS HS HER
          go_wp2_with (first
            | (refine wp_ld_drv (.tmp 8) rfl rfl gd _ _ rfl b5 rfl ?_)
            | (refine wp_st_drv (.tmp 2) (.tmp 22) rfl rfl G bl2 pe2 _ _ 28 rfl rfl bk5 rfl ?_; intro w6 b6 g6; have rk6 := rk5.grown g6 (by intro e; injection e with e; omega))
            | (refine wp_ld_drv (.tmp 2) rfl rfl G _ _ rfl b6 rfl ?_)
            | (refine wp_st_drv (.tmp 4) (.tmp 25) rfl rfl (G + 1) bl2 pe2 _ _ 28 rfl rfl rk6 rfl ?_; intro w7 b7 g7))
          have k16 := k15.grown (by decide) bk5 g6
          have k26 := k25.grown (by decide) bk5 g6
          have x6 := x5.grown g6 (fun j e => by cases e; omega)
          refine bodyPost_ret (results_cell2 rfl _ _ (G + 1) _ _ _ (.int .i64 17) rfl rfl b7 Tryz.underlying28 rfl drvSize) rfl ?_
          rw [HS2.out]
          exact ⟨_, rfl, ⟨bl2, pe2, rfl, k16.grown (by decide) rk6 g7, k26.grown (by decide) rk6 g7⟩, x6.grown g7 (fun j e => by cases e; omega)⟩
    · obtain rfl : k = L.length := by omega
      have hS : doneP D (L.map (·.2)) = (E, 0) := by rw [HD.out, List.drop_of_length_le (by simp)]; rfl
      have HS2 := Lib.hid hS
      clear hS HD
      go_wp2_with (first
        | (refine wp_ld_drv (.tmp 2) rfl rfl G _ _ rfl bk rfl ?_)
        | (refine wp_st_drv (.tmp 4) (.tmp 28) rfl rfl (G + 1) eb ep _ _ 28 rfl rfl rk rfl ?_; intro w7 b7 g7))
      refine bodyPost_ret (results_cell2 rfl _ _ (G + 1) _ _ _ (.int .i64 0) rfl rfl b7 Tryz.underlying28 rfl drvSize) rfl ?_
      rw [HS2.out]
      exact ⟨_, rfl, ⟨eb, ep, rfl, kb.grown (by decide) rk g7, kp.grown (by decide) rk g7⟩, xk.grown g7 (fun j e => by cases e; omega)⟩
end Go.Proofs.YtkokmnaicfdjaaaGreatDoor
/- Writes that may be: the program, the document. -/
namespace Go.Proofs.YtkokmnaicfdjaaaGreatDoor
set_option linter.unusedVariables false
set_option linter.unusedSimpArgs false
open Go.RowKit

/-- writes that rise, of a volume of so many blocks -/
def RiseW (N : Nat) (l : List WrT) : Prop := l.length ≤ 32 ∧ ∀ (i : Nat) (h : i < l.length), 0 ≤ l[i].1 ∧ l[i].1 < (N : Int) ∧ l[i].2.length = 128 ∧ (0 < i → (l[i - 1]'(by omega)).1 < l[i].1)
theorem RiseW.lt {N : Nat} {l : List WrT} (h : RiseW N l) : ∀ (j i : Nat) (hi : i < j) (hj : j < l.length), (l[i]'(by omega)).1 < l[j].1 := by
  intro j
  induction j with
  | zero => intro i hi; omega
  | succ j ih =>
    intro i hi hj
    have h1 := (h.2 (j + 1) hj).2.2.2 (by omega)
    simp only [Nat.add_sub_cancel] at h1
    rcases (show i = j ∨ i < j by omega) with rfl | hl
    · exact h1
    · exact Int.lt_trans (ih i hl (by omega)) h1
theorem RiseW.wrsIn {N : Nat} {l : List WrT} (h : RiseW N l) (hN : N ≤ 65535) : WrsIn l := ⟨h.1, fun x hx => by
  obtain ⟨i, hi, rfl⟩ := List.getElem_of_mem hx
  have := h.2 i hi
  exact ⟨⟨this.1, by omega⟩, this.2.2.1⟩⟩
set_option maxHeartbeats 1000000 in
set_option maxRecDepth 100000 in
theorem rmay_any (B0 : Nat) (l : List WrT) (s : Sl) (N : Nat) (w : World) (h : RowF B0 wrL 57 w s l) (hl : RiseW N l) :
    Calls Tryz.prog 79 #[.slice s.A s.n s.c, .int .i64 (N : Int)] w fun e w' => e = .returned (.int .i64 0) ∧ Ext w w' := by
  have hn : s.n = l.length := h.k.row.1
  have hl32 := hl.1
  have HL := Lib.hid hl
  have HR := Lib.hid h
  clear h hl
  obtain ⟨A, n, c⟩ := s
  simp only at *
  subst hn
  have hsm := HR.out.k.small
  simp only at hsm
  have hd32 : decide (32 < (l.length : Int)) = false := decide_eq_false (by omega)
  go_enter Tryz.func79, Tryz.ntmps79
  go_upto_region 4 with fail
  go_loopw [12] (fun i wx => ∃ k : Nat, k ≤ l.length ∧ i = .int .i64 k ∧ Ext w wx) (fun i _ => l.length - (intOf i).toNat)
  case atStart => exact ⟨0, by omega, rfl, Ext.refl _⟩
  case round =>
    obtain ⟨k, hk, rfl, xk⟩ := hrel
    by_cases hlt : k < l.length
    · obtain ⟨b2, o2, hA, hcell⟩ := (HR.out.ext xk).k.row.wrs.2 (by show 0 < l.length; omega)
      subst hA
      have e1 := (hcell k hlt).1
      have e2 := (hcell k hlt).2
      have hki : (k : Int) < (l.length : Int) := by omega
      have hy := HL.out.2 k hlt
      have hy0 := hy.1
      have hy1 := hy.2.1
      have hy2 := hy.2.2.1
      have HJ := Lib.hid (fun (j : Nat) (hj : j < k) => And.intro (hcell j (by omega)).1 (HL.out.lt k j hj hlt))
      clear hcell hy
      generalize hy : l[k] = y at *
      obtain ⟨y1, y2⟩ := y
      simp only at e1 e2 hy0 hy1 hy2 HJ
      have d0 : decide (y1 < 0) = false := decide_eq_false (by omega)
      have d1 : decide ((N : Int) ≤ y1) = false := decide_eq_false (by omega)
      have hz := str_size
      clear hy
      go_upto_region 11 with fail
      go_loopw [6] (fun i wx => ∃ j : Nat, j ≤ k ∧ i = .int .i64 j ∧ Ext wr wx) (fun i _ => k - (intOf i).toNat)
      case atStart => exact ⟨0, by omega, rfl, Ext.refl _⟩
      case round =>
        obtain ⟨j, hj, rfl, xj⟩ := hrel
        by_cases hjk : j < k
        · have h1 := xj.keep (HJ.out j hjk).1
          have e1' := xj.keep e1
          clear e1 e2
          have hxl := (HJ.out j hjk).2
          generalize (l[j]'(by omega)).1 = z1 at *
          have hji : (j : Int) < (l.length : Int) := by omega
          have hjk' : (j : Int) < (k : Int) := by omega
          have hne : (z1 == y1) = false := by simp; omega
          go_wp2_with fail
          go_quiet (fail)
          go_wp2_with fail
          go_roundw
          case rel => exact ⟨j + 1, by omega, by go_num, xj.drewN nq⟩
          case measure => simp [intOf]; omega
        · obtain rfl : j = k := by omega
          go_wp2_with fail
          go_roundw
          case rel => exact ⟨j + 1, by omega, by go_num, xk.trans xj⟩
          case measure => simp [intOf]; omega
    · obtain rfl : k = l.length := by omega
      go_wp2_with fail
      go_ret
      exact ⟨rfl, xk⟩
theorem boolInfo : (Tryz.prog.info? 4).map (fun i => (i.zero, i.size, i.bytes)) = some (some (.bool false), 1, 1) := by kernel_rfl
/-- a row of truths, as cells -/
def bA (n : Nat) (f : Nat → Bool) : Array Value := ((List.range n).map fun i => Value.bool (f i)).toArray
theorem bA_get {n : Nat} {f : Nat → Bool} {i : Nat} (h : i < n) : (bA n f)[i]? = some (.bool (f i)) := by simp [bA, h]
theorem bA_size (n : Nat) (f : Nat → Bool) : (bA n f).size = n := by simp [bA]
theorem bA_set {n : Nat} {f : Nat → Bool} {i : Nat} : (bA n f).setIfInBounds i (.bool true) = bA n (fun j => if j = i then true else f j) := by
  apply Array.ext_getElem?
  intro j
  rw [Array.getElem?_setIfInBounds, bA_size]
  rcases Nat.lt_or_ge j n with hj | hj
  · rw [bA_get hj, bA_get hj]
    by_cases e : i = j
    · subst e; simp [hj]
    · rw [if_neg e, if_neg (Ne.symm e)]
  · rw [Array.getElem?_eq_none (by rw [bA_size]; omega), Array.getElem?_eq_none (by rw [bA_size]; omega)]
    split
    · rw [if_neg (by omega)]
    · rfl
theorem makeBools (n : Nat) (hn : n ≤ 1000) (w : World) : (Instr.makeSlice 166 (.int .i64 (n : Int)) (.int .i64 (n : Int))).run Tryz.prog w = .ok (.slice (some ⟨w.heap.size, 0, none⟩) n n) (w.alloc (.cells (bA n fun _ => false) 4)) := by
  rw [run_make_row' 166 4 (.bool false) 1 Tryz.underlying166 boolInfo rfl .i64 .i64 n (by omega) (by omega) w]
  have e : madeCells #[.bool false] n = bA n fun _ => false := by
    apply Array.toList_inj.1
    rw [toList_madeCells_one]
    simp [bA, List.map_const']
  rw [e]
set_option maxHeartbeats 1000000 in
set_option maxRecDepth 100000 in
theorem allowed_any (B0 : Nat) (l : List WrT) (s : Sl) (N : Nat) (w : World) (h : RowF B0 wrL 57 w s l) (hl : RiseW N l) (hN : N ≤ 1000) :
    Calls Tryz.prog 73 #[.int .i64 (N : Int), .slice s.A s.n s.c] w fun e w' => e = .returned (.int .i64 0) ∧ Ext w w' := by
  have hn : s.n = l.length := h.k.row.1
  have hl32 := hl.1
  have HL := Lib.hid hl
  have HR := Lib.hid h
  clear h hl
  obtain ⟨A, n, c⟩ := s
  simp only at *
  subst hn
  have hsm := HR.out.k.small
  simp only at hsm
  have hmk := makeBools N hN
  have hd32 : decide (32 < (l.length : Int)) = false := decide_eq_false (by omega)
  have x0 : Ext w (w.alloc (.cells (bA N fun _ => false) 4)) := (Ext.refl w).alloc _
  have b0 := Box.new w 4 (bA N fun _ => false)
  go_enter Tryz.func73, Tryz.ntmps73
  go_upto_region 5 with fail
  generalize w.alloc (.cells (bA N fun _ => false) 4) = w1 at *
  generalize hG : w.heap.size = G at *
  clear hmk
  go_loopw [15] (fun i wx => ∃ (k : Nat) (f : Nat → Bool), k ≤ l.length ∧ i = .int .i64 k ∧ Ext w wx ∧ Box wx G 4 (bA N f) ∧ ∀ q : Nat, f q = true → ∃ (j : Nat) (hj : j < l.length), j < k ∧ l[j].1 = q) (fun i _ => l.length - (intOf i).toNat)
  case atStart => exact ⟨0, _, by omega, rfl, x0, b0, fun q h => by cases h⟩
  case round =>
    clear x0 b0
    obtain ⟨k, f, hk, rfl, xk, bk, hf⟩ := hrel
    by_cases hlt : k < l.length
    · obtain ⟨b2, o2, hA, hcell⟩ := (HR.out.ext xk).k.row.wrs.2 (by show 0 < l.length; omega)
      subst hA
      have e1 := (hcell k hlt).1
      have e2 := (hcell k hlt).2
      have hki : (k : Int) < (l.length : Int) := by omega
      have hy := HL.out.2 k hlt
      obtain ⟨q, hq⟩ : ∃ q : Nat, l[k].1 = q := ⟨l[k].1.toNat, by have := hy.1; omega⟩
      have hy1 : (q : Int) < (N : Int) := by rw [← hq]; exact hy.2.1
      have hy2 := hy.2.2.1
      have hfq : f q = false := by
        cases hc : f q with
        | false => rfl
        | true =>
          obtain ⟨j, hj, hjk, he⟩ := hf q hc
          have := HL.out.lt k j hjk hlt
          omega
      have HF := Lib.hid (show ∀ p : Nat, (if p = q then true else f p) = true → ∃ (j : Nat) (hj : j < l.length), j < k + 1 ∧ l[j].1 = p from fun p hp => by
        by_cases e : p = q
        · exact ⟨k, hlt, by omega, by rw [hq, e]⟩
        · rw [if_neg e] at hp
          obtain ⟨j, hj, hjk, he⟩ := hf p hp
          exact ⟨j, hj, by omega, he⟩)
      rw [hq] at e1
      clear hcell hy hf
      generalize l[k].2 = y2 at *
      clear hq
      have hz := str_size
      have hqN : q < N := by omega
      have d0 : decide ((N : Int) ≤ (q : Int)) = false := decide_eq_false (by omega)
      go_upto_region 7 with fail
      have y5 : Ext wr (wr.alloc (.cells #[.int .i64 (q : Int), .string (str y2)] 57)) := (Ext.refl wr).alloc _
      have bw := Box.new wr 57 #[.int .i64 (q : Int), .string (str y2)]
      have bk5 := bk.ext y5
      have xk5 := xk.trans y5
      clear bk xk y5 e1 e2
      generalize wr.alloc (.cells #[.int .i64 (q : Int), .string (str y2)] 57) = w7 at *
      generalize wr.heap.size = gw at *
      have c0 : w7.cell? ⟨gw, 0, none⟩ = some (.int .i64 (q : Int)) := bw.cell 0
      have c1 : w7.cell? ⟨gw, 1, none⟩ = some (.string (str y2)) := bw.cell 1
      have c2 : w7.cell? ⟨G, q, none⟩ = some (.bool false) := by rw [bk5.cell q, bA_get hqN, hfq]
      have c3 := bk5.frozen q
      go_wp2_with fail
      have b8 := bk5.set q (.bool true)
      rw [bA_set] at b8
      have x8 := xk5.setCell (p := ⟨G, q, none⟩) (by rw [hG]; exact Nat.le_refl G) (.bool true)
      go_roundw
      case rel => exact ⟨k + 1, _, by omega, by go_num, x8, b8, HF.out⟩
      case measure => simp [intOf]; omega
    · obtain rfl : k = l.length := by omega
      go_wp2_with fail
      go_ret
      exact ⟨rfl, xk⟩
end Go.Proofs.YtkokmnaicfdjaaaGreatDoor
/- Blocks written, all or none, by the program. -/
namespace Go.Proofs.YtkokmnaicfdjaaaGreatDoor
set_option linter.unusedVariables false
set_option linter.unusedSimpArgs false
open Go.RowKit

/-- the calls that write the journal's blocks -/
def putsC : Nat → List WrT → List CallD
  | _, [] => []
  | i, x :: l => .put i x.2 :: putsC (i + 1) l
theorem putsC_app (x : WrT) : ∀ (l : List WrT) (i : Nat), putsC i (l ++ [x]) = putsC i l ++ [.put (i + l.length) x.2]
  | [], i => rfl
  | y :: l, i => by
    rw [List.cons_append, putsC, putsC_app x l (i + 1), putsC, List.cons_append, List.length_cons, show i + 1 + l.length = i + (l.length + 1) by omega]
def commitC (l : List WrT) : List CallD := putsC 1 l ++ [.put 0 (headP l), .flush] ++ homeC l
def commitP (D : DrvD) (l : List WrT) : DrvD × Int := if l = [] then (D, 0) else doneP D (commitC l)
theorem putsC_len : ∀ (l : List WrT) (i : Nat), (putsC i l).length = l.length
  | [], _ => rfl
  | _ :: l, i => by rw [putsC, List.length_cons, List.length_cons, putsC_len l (i + 1)]
theorem putsC_ok {N : Nat} : ∀ (l : List WrT) (i : Nat), (∀ x ∈ l, x.2.length = 128) → i + l.length ≤ N → ∀ c ∈ putsC i l, okC N c
  | [], _, _, _, c, h => by cases h
  | x :: l, i, hl, hN, c, h => by
    rw [putsC] at h
    rw [List.length_cons] at hN
    rcases List.mem_cons.1 h with rfl | h
    · exact ⟨by omega, hl x List.mem_cons_self⟩
    · exact putsC_ok l (i + 1) (fun y hy => hl y (List.mem_cons_of_mem _ hy)) (by omega) c h
theorem homeC_ok {N : Nat} {l : List WrT} (h : RiseW (N - 33) l) : ∀ c ∈ homeC l, okC N c := fun c hc => by
  rcases List.mem_append.1 hc with hc | hc
  · obtain ⟨x, hx, rfl⟩ := List.mem_map.1 hc
    obtain ⟨i, hi, rfl⟩ := List.getElem_of_mem hx
    have := h.2 i hi
    exact ⟨by omega, this.2.2.1⟩
  · rw [List.mem_singleton.1 hc]; trivial
theorem commitC_ok {N : Nat} {l : List WrT} (h : RiseW (N - 33) l) (hN : 33 < N) (hN2 : N ≤ 1000) : ∀ c ∈ commitC l, okC N c := fun c hc => by
  have hw := h.wrsIn (by omega)
  rcases List.mem_append.1 hc with hc | hc
  · rcases List.mem_append.1 hc with hc | hc
    · exact putsC_ok l 1 (fun x hx => (hw.2 x hx).2) (by have := h.1; omega) c hc
    · rcases List.mem_cons.1 hc with rfl | hc
      · exact ⟨by omega, headP_len hw⟩
      · rw [List.mem_singleton.1 hc]; trivial
  · exact homeC_ok h c hc
theorem commitC_len (l : List WrT) : (commitC l).length = 2 * l.length + 3 := by
  unfold commitC homeC
  simp [putsC_len]; omega
theorem box_others {w w' : World} {g : Nat} {t e : TypeId} {cs : Array Value} (h : Box w g t cs) (hk : Lib.OthersKept e none w w') (ht : t ≠ e) : Box w' g t cs :=
  hk g _ h (fun e => by cases e) (fun c fz e => ht (by injection e))
theorem RowF.others {α : Type} {B0 B : Nat} {f : α → List Value} {T e : TypeId} {w w' : World} {s : Sl} {l : List α} (h : RowF B0 f T w s l) (hk : Lib.OthersKept e none w w') (hb : Below B w w') (ht : T ≠ e) (hB : B0 ≤ B) : RowF B0 f T w' s l := by
  refine ⟨⟨⟨h.k.row.1, fun hp => ?_⟩, h.k.ok, h.k.small⟩, fun hp b o e => (h.inb hp b o e).imp id fun ⟨cs1, hb1⟩ => ⟨cs1, box_others hb1 hk ht⟩⟩
  obtain ⟨b, o, e, hc⟩ := h.k.row.2 hp
  refine ⟨b, o, e, fun j v hj => ?_⟩
  have hcj := hc j v hj
  rcases h.inb hp b o e with hb1 | ⟨cs1, hb1⟩
  · rw [hb.cell (by show b < B; omega)]
    exact hcj
  · rw [hb1.cell] at hcj
    rw [(box_others hb1 hk ht).cell]
    exact hcj
/-- a step that may write to rows of calls from block B on -/
def CallsOnly (B : Nat) (w w' : World) : Prop := Lib.OthersKept 114 none w w' ∧ Below B w w'
theorem CallsOnly.refl (B : Nat) (w : World) : CallsOnly B w w := ⟨Lib.OthersKept.refl _ _ w, Below.refl B w⟩
theorem CallsOnly.trans {B : Nat} {a b c : World} (h : CallsOnly B a b) (k : CallsOnly B b c) : CallsOnly B a c := ⟨h.1.trans k.1, h.2.trans k.2⟩
theorem others_below {e : TypeId} {bo : Option Nat} {a w w' : World} (h : Lib.OthersKept e bo a w) (hb : Ext w w') : Lib.OthersKept e bo a w' := by
  intro k x hk hbk hx
  have h1 := h k x hk hbk hx
  have hlt : k < w.heap.size := (Array.getElem?_eq_some_iff.1 h1).1
  rw [Below.block hb k hlt]
  exact h1
theorem CallsOnly.ext {B : Nat} {a b c : World} (h : CallsOnly B a b) (x : Ext b c) (hB : B ≤ b.heap.size) : CallsOnly B a c := ⟨others_below h.1 x, h.2.trans (Below.mono x hB)⟩
theorem drv_others {B0 B : Nat} {D : DrvD} {w w' : World} {u : Value} (h : drvV B0 D w u) (hk : CallsOnly B w w') (hB : B0 ≤ B) : drvV B0 D w' u := by
  obtain ⟨bl, pe, e, kb, kp⟩ := h
  exact ⟨bl, pe, e, kb.others hk.1 hk.2 (by decide) hB, kp.others hk.1 hk.2 (by decide) hB⟩
theorem callV_others {w w' : World} {L : List FnC} (h : ∀ x ∈ L, callV w x) (hk : Lib.OthersKept 114 none w w') : ∀ x ∈ L, callV w' x := fun x hx => by
  have hc := h x hx
  obtain ⟨f, c⟩ := x
  cases c with
  | flush => exact hc
  | put i s =>
    obtain ⟨b1, b2, e, h1, h2⟩ := hc
    exact ⟨b1, b2, e, box_others h1 hk (by decide), box_others h2 hk (by decide)⟩
def rowC (B0 : Nat) (L : List CallD) (w : World) (u : Value) : Prop := ∃ (s : Sl) (M : List FnC), u = .slice s.A s.n s.c ∧ RowF B0 funL 114 w s M ∧ (∀ x ∈ M, callV w x) ∧ M.map (·.2) = L
theorem lasts_rowC (B0 : Nat) (L : List CallD) : Lasts (rowC B0 L) := fun _ _ _ x ⟨s, M, e, h, c, m⟩ => ⟨s, M, e, h.ext x, callV_all c x, m⟩
def pairV (B0 : Nat) (D : DrvD) (er : Int) (w : World) (u : Value) : Prop := ∃ v, u = .tuple #[v, .int .i64 er] ∧ drvV B0 D w v
theorem lasts_pair (B0 : Nat) (D : DrvD) (er : Int) : Lasts (pairV B0 D er) := fun _ _ _ x ⟨v, e, h⟩ => ⟨v, e, lasts_drv B0 D _ _ _ x h⟩
/-- what the last region's operations leave -/
def comVs (B0 : Nat) (u0 u2 : Value) (s8 : Sl) (L8 : List FnC) (l : List WrT) (D : DrvD) (er : Int) : List (World → Value → Prop) :=
  [isV u0, isV (.slice s8.A s8.n s8.c), isV u2, rowC B0 (homeC l), rowC B0 (L8.map (·.2) ++ homeC l), pairV B0 D er, drvV B0 D, isV (.int .i64 er)]
theorem comVs_ext {B0 : Nat} {u0 u2 : Value} {s8 : Sl} {L8 : List FnC} {l : List WrT} {D : DrvD} {er : Int} : ∀ p ∈ comVs B0 u0 u2 s8 L8 l D er, Lasts p := fun p hp => by
  simp only [comVs, List.mem_cons, List.not_mem_nil, or_false] at hp
  rcases hp with rfl | rfl | rfl | rfl | rfl | rfl | rfl | rfl
  · exact lasts_is _
  · exact lasts_is _
  · exact lasts_is _
  · exact lasts_rowC _ _
  · exact lasts_rowC _ _
  · exact lasts_pair _ _ _
  · exact lasts_drv _ _
  · exact lasts_is _
theorem comVs_kept {B0 : Nat} {u0 u2 : Value} {s8 : Sl} {L8 : List FnC} {l : List WrT} {D : DrvD} {er : Int} (j : Nat) (hj : j < 8) (h1 : j ∉ [3]) (h4 : j ≠ 4) (B : Nat) (hB : B0 ≤ B) (w w' : World) (u : Value) (hk : CallsOnly B w w') (h : listV (comVs B0 u0 u2 s8 L8 l D er) j w u) : listV (comVs B0 u0 u2 s8 L8 l D er) j w' u := by
  rcases (by omega : j = 0 ∨ j = 1 ∨ j = 2 ∨ j = 3 ∨ j = 4 ∨ j = 5 ∨ j = 6 ∨ j = 7) with rfl | rfl | rfl | rfl | rfl | rfl | rfl | rfl
  · exact h
  · exact h
  · exact h
  · simp at h1
  · omega
  · obtain ⟨v, e, hv⟩ := h
    exact ⟨v, e, drv_others hv hk hB⟩
  · exact drv_others h hk hB
  · exact h
set_option maxHeartbeats 1000000 in
set_option maxRecDepth 100000 in
theorem wcommit_any (B0 : Nat) (D : DrvD) (v : Value) (l : List WrT) (s : Sl) (w : World) (hB0 : B0 ≤ w.heap.size) (hv : drvV B0 D w v) (h : RowF B0 wrL 57 w s l) (hj : jrnE D.bl D.pe = 0) (hl : RiseW (D.bl.length - 33) l) (hT : Tabs w) (hp : D.pe.length ≤ 1000) (hb : D.bl.length ≤ 1000) (hpos : 33 < D.bl.length) (hL : D.left ≤ 9223372036854775807) :
    Calls Tryz.prog 36 #[v, .slice s.A s.n s.c] w fun e w' => ∃ v', e = .returned (.tuple #[v', .int .i64 (commitP D l).2]) ∧ drvV B0 (commitP D l).1 w' v' ∧ Ext w w' := by
  obtain ⟨bl, pe, rfl, kb, kp⟩ := hv
  have hn : s.n = l.length := h.k.row.1
  have hl32 := hl.1
  have HL := Lib.hid hl
  have HR := Lib.hid h
  have HTb := Lib.hid hT
  have HJ := Lib.hid hj
  clear h hl hT hj
  obtain ⟨A, n, c⟩ := s
  simp only at *
  subst hn
  obtain ⟨B, p, left⟩ := D
  simp only at *
  have HCp := Lib.hid (fun w h0 h1 h2 => wcopied_any B0 bl pe left B p w h0 h1 h2)
  have KB := Lib.hid kb
  have KP := Lib.hid kp
  clear kb kp
  have hsm := HR.out.k.small
  simp only at hsm
  have b0 := Box.new w 28 #[.slice bl.A bl.n bl.c, .slice pe.A pe.n pe.c, .int .i64 left]
  have r0 := Box.new (w.alloc (.cells #[.slice bl.A bl.n bl.c, .slice pe.A pe.n pe.c, .int .i64 left] 28)) 28 #[.slice none 0 0, .slice none 0 0, .int .i64 0]
  have x0 := ((Ext.refl w).alloc (.cells #[.slice bl.A bl.n bl.c, .slice pe.A pe.n pe.c, .int .i64 left] 28)).alloc (.cells #[.slice none 0 0, .slice none 0 0, .int .i64 0] 28)
  have b1 := b0.ext ((Ext.refl _).alloc (.cells #[.slice none 0 0, .slice none 0 0, .int .i64 0] 28))
  rw [World.size_alloc] at r0
  clear b0
  go_enter Tryz.func36, Tryz.ntmps36
  go_upto_region 1 with fail
  generalize (w.alloc (.cells #[.slice bl.A bl.n bl.c, .slice pe.A pe.n pe.c, .int .i64 left] 28)).alloc (.cells #[.slice none 0 0, .slice none 0 0, .int .i64 0] 28) = w1 at *
  generalize hG : w.heap.size = G at *
  go_upto_region 2 with (first
    | (refine wp_ld_drv (.tmp 2) rfl rfl G _ _ rfl b1 rfl ?_)
    | (go_at_call 72; refine (HCp.out _ (by have := x0.size; omega) (KB.out.ext x0).k (KP.out.ext x0).k).mono ?_; rintro e w2 ⟨v2, rfl, ⟨bl3, pe3, rfl, kb3, kp3, _, _⟩, x2⟩; have b2 := b1.ext x2)
    | (refine wp_st_drv (.tmp 2) (.tmp 12) rfl rfl G bl3 pe3 left _ 28 rfl rfl b2 rfl ?_; intro w3 b3 g3))
  have kb4 := kb3.grown (by decide) b2 g3
  have kp4 := kp3.grown (by decide) b2 g3
  have x3 := (x0.trans x2).grown g3 (fun j e => by cases e; omega)
  have r3 := (r0.ext x2).grown g3 (by intro e; injection e with e; omega)
  clear x0 x2 r0 b1 b2 kb3 kp3 g3 HCp KB KP
  have HJN := Lib.hid (fun w h1 h2 => jrn_any bl3.A pe3.A bl3.n bl3.c pe3.n pe3.c left B p w h1 h2 (by have := kp4.k.small; omega))
  rw [HJ.out] at HJN
  have hbn : bl3.n = B.length := kb4.k.row.1
  have hbs := kb4.k.small
  have HA := Lib.hid (fun w h => allowed_any B0 l ⟨A, l.length, c⟩ (B.length - 33) w h HL.out (by omega))
  rw [show ((B.length - 33 : Nat) : Int) = (bl3.n : Int) - 33 by omega] at HA
  have KB := Lib.hid kb4
  have KP := Lib.hid kp4
  have HBN := Lib.hid hbn
  clear kb4 kp4 hbn
  go_upto_region 8 with (first
    | (refine wp_ld_drv (.tmp 2) rfl rfl G _ _ rfl b3 rfl ?_)
    | (go_at_call 38; refine (HJN.out _ KB.out.k.row.strs KP.out.k.row.wrs).mono ?_; rintro e w4 ⟨rfl, x4⟩; have c0 : w4.cell? ⟨G, 0, none⟩ = some (.slice bl3.A bl3.n bl3.c) := (b3.ext x4).cell 0)
    | (go_at_call 73; refine (HA.out _ ((HR.out.ext x3).ext x4)).mono ?_; rintro e w5 ⟨rfl, x5⟩))
  have xx := (x3.trans x4).trans x5
  have kb5 := (KB.out.ext x4).ext x5
  have kp5 := (KP.out.ext x4).ext x5
  have b5 := (b3.ext x4).ext x5
  have r5 := (r3.ext x4).ext x5
  clear x3 x4 x5 KB KP b3 r3 c0 HJN HA
  by_cases hl0 : l = []
  · subst hl0
    have hP := Lib.hid (show commitP ⟨B, p, left⟩ [] = (⟨B, p, left⟩, 0) from rfl)
    go_wp2_with (first
      | (refine wp_ld_drv (.tmp 2) rfl rfl G _ _ rfl b5 rfl ?_)
      | (refine wp_st_drv (.tmp 4) (.tmp 32) rfl rfl (G + 1) bl3 pe3 left _ 28 rfl rfl r5 rfl ?_; intro w7 b7 g7))
    refine bodyPost_ret (results_cell2 rfl _ _ (G + 1) _ _ _ (.int .i64 0) rfl rfl b7 Tryz.underlying28 rfl drvSize) rfl ?_
    rw [hP.out]
    exact ⟨_, rfl, ⟨bl3, pe3, rfl, kb5.grown (by decide) r5 g7, kp5.grown (by decide) r5 g7⟩, xx.grown g7 (fun j e => by cases e; omega)⟩
  · have hP := Lib.hid (show commitP ⟨B, p, left⟩ l = doneP ⟨B, p, left⟩ (commitC l) by unfold commitP; rw [if_neg hl0])
    have hlp : 0 < l.length := List.length_pos_iff.2 hl0
    have hle : ((l.length : Int) == 0) = false := by simp; omega
    clear hl0
    go_upto_region 12 with fail
    have o0 := World.ownsRow_nil w5 w5.heap.size 114 1
    go_loopw [8, 35] (fun u i wx => ∃ (k : Nat) (s3 : Sl) (L : List FnC), k ≤ l.length ∧ i = .int .i64 k ∧ u = .slice s3.A s3.n s3.c ∧ s3.n = k ∧ L.length = k ∧ Ext w5 wx ∧ wx.ownsRow w5.heap.size 114 1 (.slice s3.A s3.n s3.c) s3.n (L.flatMap funL) ∧ L.map (·.2) = putsC 1 (l.take k) ∧ (∀ x ∈ L, callV wx x)) (fun _ i _ => l.length - (intOf i).toNat)
    case atStart => exact ⟨0, ⟨none, 0, 0⟩, [], by omega, rfl, rfl, rfl, rfl, Ext.refl _, o0, rfl, by simp⟩
    case round =>
      clear o0
      obtain ⟨k, s3, L, hk, rfl, rfl, hs3, hLk, xk, ok, hLm, hLv⟩ := hrel
      by_cases hlt : k < l.length
      · obtain ⟨b2, o2, hA, hcell⟩ := (HR.out.ext (xx.trans xk)).k.row.wrs.2 (by show 0 < l.length; omega)
        subst hA
        have e1 := (hcell k hlt).1
        have e2 := (hcell k hlt).2
        have hki : (k : Int) < (l.length : Int) := by omega
        have HT1 := Lib.hid (show putsC 1 (l.take (k + 1)) = putsC 1 (l.take k) ++ [CallD.put (1 + k) l[k].2] by rw [List.take_succ_eq_append_getElem hlt, putsC_app, List.length_take, Nat.min_eq_left (by omega)])
        clear hcell
        generalize l[k] = y at *
        obtain ⟨y1, y2⟩ := y
        simp only at e1 e2 HT1
        have hHS := Lib.hid hs3
        have hHL := Lib.hid hLk
        clear hs3 hLk
        go_upto_region 14 with fail
        have y5 : Ext wr (wr.alloc (.cells #[.int .i64 y1, .string (str y2)] 57)) := (Ext.refl wr).alloc _
        have bw := Box.new wr 57 #[.int .i64 y1, .string (str y2)]
        have ok5 := own_ext ok y5
        have hLv5 := callV_all hLv y5
        have xk5 := xk.trans y5
        have zk : w5.heap.size ≤ wr.heap.size := xk.size
        clear e1 e2 ok hLv xk y5
        generalize wr.alloc (.cells #[.int .i64 y1, .string (str y2)] 57) = w7 at *
        generalize wr.heap.size = gw at *
        have d1 : w7.cell? ⟨gw, 1, none⟩ = some (.string (str y2)) := bw.cell 1
        have z7 : w5.heap.size ≤ w7.heap.size := by have := bw.lt; omega
        have HP := Lib.hid (putting_any (1 + k) y2 w7)
        rw [show ((1 + k : Nat) : Int) = 1 + (k : Int) by omega] at HP
        go_wp2_with (first
          | (go_at_call 74; refine HP.out.mono ?_; rintro e w8 ⟨x, hx2, rfl, hxv, x8⟩)
          | (at_builtin; refine wp_app_more (B0 := B0) funL 112 114 1 8 .nilFunc w5.heap.size s3 ⟨some ⟨w8.heap.size, 0, none⟩, 1, 1⟩ (l := [x]) Tryz.underlying112 funInfo (by omega) rfl rfl _ _ rfl rfl rfl (own_ext ok5 (x8.trans ((Ext.refl _).alloc _))) (by rw [hHS.out, hHL.out]) (fun_row rfl) (ok_new _ 1 (by omega)) funL_len funL_one (by rw [hHS.out]; show k + 1 ≤ 100000; omega) (by rw [hHS.out]; show (k + 1) * 8 ≤ _; omega) (Nat.le_trans z7 (Nat.le_trans x8.size ((Ext.refl _).alloc _).size)) ?_; intro s9 w9 hn9 k9 o9 g9; have HN9 := Lib.hid hn9; clear hn9))
        have ya : Ext w8 (w8.alloc (.cells #[.func x.1.1 #[] x.1.2] 114)) := (Ext.refl w8).alloc _
        have oa := own_ext ok5 (x8.trans ya)
        have hv9 := callV_own (callV_all hLv5 (x8.trans ya)) oa g9
        have hx9 := callV_own (L := [x]) (fun z hz => by rw [List.mem_singleton.1 hz]; exact hxv.ext ya) oa g9
        have x9 : Ext w5 w9 := ((xk5.trans x8).trans ya).grown g9 (fun k e => own_low oa e)
        clear g9 oa ya ok5 hLv5 xk5 bw d1 z7 HP hxv x8
        go_roundw
        case rel => exact ⟨k + 1, s9, L ++ [x], by omega, by go_num, rfl, by rw [HN9.out, hHS.out], by rw [List.length_append, hHL.out]; rfl, x9, o9, by rw [HT1.out, List.map_append, hLm, List.map_singleton, hx2], fun z hz => (List.mem_append.1 hz).elim (hv9 z) (hx9 z)⟩
        case measure => simp [intOf]; omega
      · obtain rfl : k = l.length := by omega
        have hHS := Lib.hid hs3
        have hHL := Lib.hid hLk
        clear hs3 hLk hlt hk
        rw [List.take_length] at hLm
        have hW := HL.out.wrsIn (by omega)
        have HH := Lib.hid (head_any B0 l ⟨A, l.length, c⟩ wr (HR.out.ext (xx.trans xk)) hW (HTb.out.ext (xx.trans xk)))
        have HPt := Lib.hid (fun w => putting_any 0 (headP l) w)
        have zk : w5.heap.size ≤ wr.heap.size := xk.size
        go_upto_region 17 with (first
          | (go_at_call 75; refine HH.out.mono ?_; rintro e w6 ⟨rfl, x6⟩)
          | (go_at_call 74; refine (HPt.out _).mono ?_; rintro e w8 ⟨x, hx2, rfl, hxv, x8⟩)
          | (at_builtin; refine wp_app_more (B0 := B0) funL 112 114 1 8 .nilFunc w5.heap.size s3 ⟨some ⟨w8.heap.size, 0, none⟩, 2, 2⟩ (l := [x, ((.func 76, #[]), .flush)]) Tryz.underlying112 funInfo (by omega) rfl rfl _ _ rfl rfl rfl (own_ext ok ((x6.trans x8).trans ((Ext.refl _).alloc _))) (by rw [hHS.out, hHL.out]) (fun_row rfl) (ok_new _ 2 (by omega)) funL_len funL_one (by rw [hHS.out]; show l.length + 2 ≤ 100000; omega) (by rw [hHS.out]; show (l.length + 2) * 8 ≤ _; omega) (Nat.le_trans zk (Nat.le_trans x6.size (Nat.le_trans x8.size ((Ext.refl _).alloc _).size))) ?_; intro s9 w9 hn9 k9 o9 g9; have HN9 := Lib.hid hn9; clear hn9))
        have ya : Ext w8 (w8.alloc (.cells #[.func x.1.1 #[] x.1.2, .func (.func 76) #[] #[]] 114)) := (Ext.refl w8).alloc _
        have xa := (x6.trans x8).trans ya
        have oa := own_ext ok xa
        have hv9 := callV_own (callV_all hLv xa) oa g9
        have hx9 := callV_own (L := [x, ((.func 76, #[]), .flush)]) (fun z hz => by
          rcases List.mem_cons.1 hz with rfl | hz
          · exact hxv.ext ya
          · rw [List.mem_singleton.1 hz]; rfl) oa g9
        have x9 : Ext w5 w9 := (xk.trans xa).grown g9 (fun k e => own_low oa e)
        have LC : ∀ z ∈ L ++ [x, ((.func 76, #[]), .flush)], callV w9 z := fun z hz => (List.mem_append.1 hz).elim (hv9 z) (hx9 z)
        have HM : (L ++ [x, ((.func 76, #[]), .flush)]).map (·.2) = putsC 1 l ++ [.put 0 (headP l), .flush] := by rw [List.map_append, hLm, List.map_cons, hx2]; rfl
        have HML : (L ++ [x, ((.func 76, #[]), .flush)]).length = l.length + 2 := by rw [List.length_append, hHL.out]; rfl
        have HN := HN9.out
        rw [hHS.out] at HN
        have HNN := Lib.hid (show s9.n = l.length + 2 from HN)
        have hGz : G + 1 < w5.heap.size := r5.lt
        have hBB : B0 ≤ w5.heap.size := by omega
        have b9 := b5.ext x9
        have r9 := r5.ext x9
        have kb9 := kb5.ext x9
        have kp9 := kp5.ext x9
        have xw9 := xx.trans x9
        have z9 : w5.heap.size ≤ w9.heap.size := x9.size
        have hr9 := HR.out.ext xw9
        generalize L ++ [x, ((Fn.func 76, #[]), CallD.flush)] = L8 at *
        have HHw := Lib.hid (fun w h => homeward_any B0 l ⟨A, l.length, c⟩ w h hW)
        clear g9 oa ya ok hLv xk b5 r5 kb5 kp5 HH HPt x6 x8 xa hv9 hx9 hxv hx2 hLm HN HN9 zk k9
        generalize w5.heap.size = BB at *
        generalize hDD : doneP ⟨B, p, left⟩ (commitC l) = DD at *
        obtain ⟨E, er⟩ := DD
        refine wp_region_webK' 8 [[], [], [], [2], [1, 3], [0, 4], [5], [5]] (listV (comVs B0 (.agg (drvC bl3 pe3 left)) (.slice A l.length c) s9 L8 l E er)) (CallsOnly BB w9) (fun wx => wx.ownsRow BB 114 1 (.slice s9.A s9.n s9.c) s9.n (L8.flatMap funL)) (fun k a b => if k = 4 then CallsOnly BB a b else Ext a b) 4 [3] (by kernel_rfl) (by kernel_rfl) (by decide) ⟨(Lib.OthersKept.refl _ _ w9).drew, (Below.refl BB w9).drew⟩ (own_ext o9 (Ext.refl w9).drew) (fun k a b hc hR => ?_) (fun k a b hk hc ho hR => ?_) (fun j k a b u hj hne hkd hC hR h => ?_) (fun us => ?_)
        · by_cases e : k = 4
          · rw [if_pos e] at hR
            exact hc.trans hR
          · rw [if_neg e] at hR
            exact hc.ext hR (Nat.le_trans z9 hc.2.size)
        · rw [if_neg hk] at hR
          exact own_ext ho hR
        · by_cases e : k = 4
          · rw [if_pos e] at hR
            subst e
            exact comVs_kept j hj (hkd rfl) hne BB hBB a b u hR h
          · rw [if_neg e] at hR
            exact listV_ext comVs_ext j a b u hR h
        simp only [List.take_succ_cons, List.take_zero, List.drop_succ_cons, List.drop_zero]
        rw [kWalk]
        refine And.intro (fun w' hx hp0 hd => ?_) ?_
        · clear hd
          have bx := box_others b9 hx.1 (by decide)
          refine k_of_list 55 rfl (by simp) rfl ?_
          go_wp2_with (refine wp_ld_drv (.tmp 2) rfl rfl G _ _ rfl bx rfl ?_)
          exact ⟨Ext.refl _, rfl⟩
        simp only [Act.put, List.setIfInBounds_toArray, List.set_cons_zero, List.set_cons_succ]
        rw [kWalk]
        refine And.intro (fun w' hx hp0 hd => ?_) ?_
        · clear hd
          refine k_of_list 56 rfl (by simp [Act.put]) rfl ?_
          go_wp2_with fail
          exact ⟨Ext.refl _, rfl⟩
        simp only [Act.put, List.setIfInBounds_toArray, List.set_cons_zero, List.set_cons_succ]
        rw [kWalk]
        refine And.intro (fun w' hx hp0 hd => ?_) ?_
        · clear hd
          refine k_of_list 57 rfl (by simp [Act.put]) rfl ?_
          go_wp2_with fail
          exact ⟨Ext.refl _, rfl⟩
        simp only [Act.put, List.setIfInBounds_toArray, List.set_cons_zero, List.set_cons_succ]
        rw [kWalk]
        refine And.intro (fun w' hx hp0 hd => ?_) ?_
        · have h2 := hd 2 (by simp)
          clear hd
          generalize us 2 = u2 at *
          obtain rfl : u2 = .slice A l.length c := h2
          refine k_of_list 58 rfl (by simp [Act.put]) rfl ?_
          go_wp2_with (go_at_call 78; refine (HHw.out _ (hr9.others hx.1 hx.2 (by decide) hBB)).mono ?_; rintro e w2 ⟨s2, L2, rfl, k2, c2, m2, x2⟩)
          exact ⟨s2, L2, rfl, k2, c2, m2⟩
        simp only [Act.put, List.setIfInBounds_toArray, List.set_cons_zero, List.set_cons_succ]
        rw [kWalk]
        refine And.intro (fun w' hx hp0 hd => ?_) ?_
        · have h1 := hd 1 (by simp)
          have h3 := hd 3 (by simp)
          clear hd
          generalize us 1 = u1 at *
          generalize us 3 = u3 at *
          obtain rfl : u1 = .slice s9.A s9.n s9.c := h1
          obtain ⟨s2, L2, rfl, k2, c2, m2⟩ := h3
          have o1 := hp0 rfl
          have hL2 : L2.length = l.length + 1 := by have := congrArg List.length m2; simpa [homeC] using this
          have hn2 : s2.n = l.length + 1 := by rw [k2.k.row.1, hL2]
          have HN2 := Lib.hid hn2
          have HL2 := Lib.hid hL2
          clear hn2 hL2
          have zx : BB ≤ w'.heap.size := Nat.le_trans z9 hx.2.size
          refine k_of_list 59 rfl (by simp [Act.put]) rfl ?_
          go_wp2_with (at_builtin; refine wp_app_more (B0 := B0) funL 112 114 1 8 .nilFunc BB s9 s2 (l0 := L8) (l := L2) Tryz.underlying112 funInfo (by omega) rfl rfl _ _ rfl rfl rfl o1 (by rw [HNN.out, HML]) k2.k.row k2.k.ok funL_len funL_one (by rw [HNN.out, HN2.out]; omega) (by rw [HNN.out, HN2.out]; omega) zx ?_; intro s3 w3 hn3 k3 o3 g3; have HN3 := Lib.hid hn3; clear hn3)
          have hk3 : Lib.OthersKept 114 none w' w3 := (Lib.OthersKept.refl _ _ w').grown g3 (own_row8 o1)
          have hb3 : Below BB w' w3 := (Below.refl BB w').grown g3 zx (fun k e => own_low o1 e)
          exact ⟨⟨hk3, hb3⟩, s3, L8 ++ L2, rfl, k3, fun z hz => (List.mem_append.1 hz).elim (callV_others (callV_others LC hx.1) hk3 z) (callV_others c2 hk3 z), by rw [List.map_append, m2]⟩
        simp only [Act.put, List.setIfInBounds_toArray, List.set_cons_zero, List.set_cons_succ]
        rw [kWalk]
        refine And.intro (fun w' hx hp0 hd => ?_) ?_
        · have h0 := hd 0 (by simp)
          have h4 := hd 4 (by simp)
          clear hd hp0
          generalize us 0 = u0 at *
          generalize us 4 = u4 at *
          obtain rfl : u0 = .agg (drvC bl3 pe3 left) := h0
          obtain ⟨s2, L2, rfl, k2, c2, m2⟩ := h4
          have hm2 : L2.map (·.2) = commitC l := by rw [m2, HM]; rfl
          have hL2 : L2.length = 2 * l.length + 3 := by have := congrArg List.length hm2; rw [commitC_len] at this; simpa using this
          have HDn := Lib.hid (done_any B0 ⟨B, p, left⟩ (.agg (drvC bl3 pe3 left)) s2 L2 w' (by have := hx.2.size; omega) ⟨bl3, pe3, rfl, kb9.others hx.1 hx.2 (by decide) hBB, kp9.others hx.1 hx.2 (by decide) hBB⟩ k2 c2 (fun x hx => commitC_ok HL.out hpos hb x.2 (by rw [← hm2]; exact List.mem_map_of_mem hx)) (by show 0 < B.length; omega) (by show p.length + L2.length ≤ 90000; omega) hL)
          rw [hm2, hDD] at HDn
          refine k_of_list 60 rfl (by simp [Act.put]) rfl ?_
          go_wp2_with (go_at_call 77; refine HDn.out.mono ?_; rintro e w3 ⟨v3, rfl, d3, x3⟩)
          exact ⟨v3, rfl, d3⟩
        simp only [Act.put, List.setIfInBounds_toArray, List.set_cons_zero, List.set_cons_succ]
        rw [kWalk]
        refine And.intro (fun w' hx hp0 hd => ?_) ?_
        · have h5 := hd 5 (by simp)
          clear hd hp0
          generalize us 5 = u5 at *
          obtain ⟨v3, rfl, d3⟩ := h5
          refine k_of_list 61 rfl (by simp [Act.put]) rfl ?_
          go_wp2_with fail
          exact ⟨Ext.refl _, d3⟩
        simp only [Act.put, List.setIfInBounds_toArray, List.set_cons_zero, List.set_cons_succ]
        rw [kWalk]
        refine And.intro (fun w' hx hp0 hd => ?_) ?_
        · have h5 := hd 5 (by simp)
          clear hd hp0
          generalize us 5 = u5 at *
          obtain ⟨v3, rfl, d3⟩ := h5
          refine k_of_list 62 rfl (by simp [Act.put]) rfl ?_
          go_wp2_with fail
          exact ⟨Ext.refl _, rfl⟩
        simp only [Act.put, List.setIfInBounds_toArray, List.set_cons_zero, List.set_cons_succ]
        rw [kWalk]
        intro w' hx hv
        have h6 := hv 6 (by omega) (by decide)
        have h7 := hv 7 (by omega) (by decide)
        clear hv
        generalize us 0 = u0 at *
        generalize us 1 = u1 at *
        generalize us 2 = u2 at *
        generalize us 3 = u3 at *
        generalize us 4 = u4 at *
        generalize us 5 = u5 at *
        generalize us 6 = u6 at *
        generalize us 7 = u7 at *
        obtain ⟨bl7, pe7, rfl, k71, k72⟩ : drvV B0 E w' u6 := h6
        obtain rfl : u7 = .int .i64 er := h7
        have r10 := box_others r9 hx.1 (by decide)
        have x10 : Ext w w' := ⟨hx.2.os.trans xw9.os, hx.2.tape.trans xw9.tape, hx.2.output.trans xw9.output, Nat.le_trans xw9.size hx.2.size, fun k hk => (hx.2.block k (by omega)).trans (xw9.block k hk)⟩
        go_wp2_with (refine wp_st_drv (.tmp 4) (.tmp 61) rfl rfl (G + 1) bl7 pe7 E.left _ 28 rfl rfl r10 rfl ?_; intro w11 b11 g11)
        refine bodyPost_ret (results_cell2 rfl _ _ (G + 1) _ _ _ (.int .i64 er) rfl rfl b11 Tryz.underlying28 rfl drvSize) rfl ?_
        rw [hP.out]
        exact ⟨_, rfl, ⟨bl7, pe7, rfl, k71.grown (by decide) r10 g11, k72.grown (by decide) r10 g11⟩, x10.grown g11 (fun j e => by cases e; omega)⟩
end Go.Proofs.YtkokmnaicfdjaaaGreatDoor
/- Plain: calls done one by one. -/
namespace Go.Proofs.YtkokmnaicfdjaaaGreatDoor
set_option linter.unusedVariables false
set_option linter.unusedSimpArgs false

theorem done_app (a b : List CallD) : ∀ D : DrvD, doneP D (a ++ b) = if (doneP D a).2 = 0 then doneP (doneP D a).1 b else doneP D a := by
  induction a with
  | nil => intro D; rfl
  | cons c a ih =>
    intro D
    rw [List.cons_append, doneP, doneP]
    split
    · exact ih _
    · rfl
theorem done_err (cs : List CallD) : ∀ D : DrvD, (doneP D cs).2 = 0 ∨ (doneP D cs).2 = 17 := by
  induction cs with
  | nil => intro D; exact .inl rfl
  | cons c cs ih =>
    intro D
    rw [doneP]
    split
    · exact ih _
    · exact step_err D c
theorem done_len (cs : List CallD) : ∀ D : DrvD, (doneP D cs).1.bl.length = D.bl.length := by
  induction cs with
  | nil => intro D; rfl
  | cons c cs ih =>
    intro D
    rw [doneP]
    split
    · rw [ih, step_len]
    · exact step_len D c
theorem done_pe (cs : List CallD) : ∀ D : DrvD, (doneP D cs).1.pe.length ≤ D.pe.length + cs.length := by
  induction cs with
  | nil => intro D; exact Nat.le_refl _
  | cons c cs ih =>
    intro D
    have := step_pe D c
    rw [doneP, List.length_cons]
    split
    · have := ih (stepP D c).1; omega
    · omega
theorem done_left (cs : List CallD) : ∀ D : DrvD, D.left ≤ 9223372036854775807 → (doneP D cs).1.left ≤ 9223372036854775807 := by
  induction cs with
  | nil => intro D h; exact h
  | cons c cs ih =>
    intro D h
    rw [doneP]
    split
    · exact ih _ (step_left D c h)
    · exact step_left D c h
end Go.Proofs.YtkokmnaicfdjaaaGreatDoor
/- The drive of the statements of layer 28: drive.New, wal.Format. -/
namespace Go.Proofs.YtkokmnaicfdjaaaGreatDoor
set_option linter.unusedVariables false
set_option linter.unusedSimpArgs false
open Go.RowKit

def dnV (n k : Nat) : List (List UInt8) := List.replicate k (zs 128) ++ List.replicate (n - k) []
theorem dnV_len (n k : Nat) (h : k ≤ n) : (dnV n k).length = n := by simp [dnV]; omega
theorem dnV_set (n k : Nat) (h : k < n) : (dnV n k).set k (zs 128) = dnV n (k + 1) := by
  unfold dnV
  rw [List.set_append, if_neg (by simp), List.length_replicate, Nat.sub_self, show n - k = (n - (k + 1)) + 1 by omega, List.replicate_succ, List.set_cons_zero, List.replicate_succ', List.append_assoc]
  rfl
theorem dnV_all (n : Nat) : dnV n n = List.replicate n (zs 128) := by simp [dnV]
theorem emptyRow_list (n : Nat) : (emptyRow n).toList = strL (dnV n 0) := by
  unfold emptyRow
  rw [toList_madeCells_one]
  simp [strL, dnV]
  exact .inr rfl
theorem own_box {w : World} {base n g : Nat} {t : TypeId} {xs : List Value} (h : w.ownsRow base t 1 (.slice (some ⟨g, 0, none⟩) n n) n xs) : Box w g t xs.toArray := by
  rcases h.2 with ⟨e, _⟩ | ⟨g1, cap1, cur, e, hb, hh, _, _, hs, ht⟩
  · cases e
  · injection e with e1 e2 e3
    injection e1 with e1
    injection e1 with e1
    subst e1
    subst e3
    rw [List.take_of_length_le (by simp; omega)] at ht
    rw [← ht]
    exact hh
set_option maxHeartbeats 1000000 in
set_option maxRecDepth 100000 in
theorem dnew_any (n : Nat) (w : World) (h0 : 0 < n) (hn : n ≤ 256) :
    Calls Tryz.prog 114 #[.int .i64 n] w fun e w' => ∃ g, e = .returned (.tuple #[.agg #[.slice (some ⟨g, 0, none⟩) n n, .slice none 0 0, .int .i64 (-1)], .int .i64 0]) ∧ Ext w w' ∧ Box w' g 9 (strVals (List.replicate n (zs 128))) ∧ w.heap.size ≤ g := by
  have hmk2 := makeStrs n (by omega)
  have HR := Lib.hid (fun w => repeat_any 128 w (by omega))
  go_enter Tryz.func114, Tryz.ntmps114
  go_wp2_with fail
  have x0 : Ext w (w.alloc (.cells #[.slice none 0 0, .slice none 0 0, .int .i64 0] 28)) := (Ext.refl _).alloc _
  have z0 : (w.alloc (.cells #[.slice none 0 0, .slice none 0 0, .int .i64 0] 28)).heap.size = w.heap.size + 1 := World.size_alloc _ _
  have b0 := Box.new w 28 #[.slice none 0 0, .slice none 0 0, .int .i64 0]
  generalize w.alloc (.cells #[.slice none 0 0, .slice none 0 0, .int .i64 0] 28) = w0 at x0 z0 b0 ⊢
  have own0 := own_of_box (base := w.heap.size) (Box.new w0 9 (emptyRow n)) (n := n) (by simp [emptyRow, size_madeCells]) x0.size (by unfold maxLen; omega)
  rw [emptyRow_list, z0] at own0
  have x1 := x0.alloc (.cells (emptyRow n) 9)
  have b1 := b0.ext ((Ext.refl w0).alloc (.cells (emptyRow n) 9))
  have z1 : (w0.alloc (.cells (emptyRow n) 9)).heap.size = w.heap.size + 1 + 1 := by rw [World.size_alloc, z0]
  generalize w0.alloc (.cells (emptyRow n) 9) = w1 at own0 x1 z1 b1 ⊢
  have xd := (Ext.refl w1).alloc (.cells #[.slice (some ⟨w.heap.size + 1, 0, none⟩) n n, .slice none 0 0, .int .i64 (-1)] 28)
  have b2 := Box.new w1 28 #[.slice (some ⟨w.heap.size + 1, 0, none⟩) n n, .slice none 0 0, .int .i64 (-1)]
  rw [z1] at b2
  have own2 := own_ext own0 xd
  have x2 := x1.trans xd
  have b02 := b1.ext xd
  generalize w1.alloc (.cells #[.slice (some ⟨w.heap.size + 1, 0, none⟩) n n, .slice none 0 0, .int .i64 (-1)] 28) = w2 at own2 x2 b2 b02 ⊢
  have HD := Lib.hid (dnV_set n)
  have HDA := Lib.hid (dnV_all n)
  have HDL := Lib.hid (dnV_len n)
  clear b0 own0 x1 b1 xd x0 z0 z1 hmk2
  clear w0 w1
  go_loopw [5, 19] (fun _ t wx => ∃ k : Nat, k ≤ n ∧ t = .int .i64 k ∧ Ext w wx ∧ wx.ownsRow w.heap.size 9 1 (.slice (some ⟨w.heap.size + 1, 0, none⟩) n n) n (strL (dnV n k)) ∧ Box wx (w.heap.size + 1 + 1) 28 #[.slice (some ⟨w.heap.size + 1, 0, none⟩) n n, .slice none 0 0, .int .i64 (-1)] ∧ Box wx w.heap.size 28 #[.slice none 0 0, .slice none 0 0, .int .i64 0]) (fun _ t _ => n - (intOf t).toNat)
  case atStart => exact ⟨0, by omega, rfl, x2, own2, b2, b02⟩
  case round =>
    obtain ⟨k, hk, rfl, xk, ok, bk, b0k⟩ := hrel
    by_cases hlt : k < n
    · have HK := Lib.hid (HD.out k hlt)
      have hki : (k : Int) < (n : Int) := by omega
      have q : ∀ x : Later wr, x.now.cell? ⟨w.heap.size + 1, k, none⟩ = some (.string (str ((dnV n k).getD k []))) := fun x => x.ext.keep ((ok.cellAt k (by omega)).trans (by simp [strL, dnV_len n k hk, hlt]))
      have qf : ∀ x : Later wr, x.now.frozen? ⟨w.heap.size + 1, k, none⟩ = false := fun x => (own_ext ok x.ext).frozenAt k
      have q0 : ∀ x : Later wr, x.now.cell? ⟨w.heap.size + 1 + 1, 0, none⟩ = some (.slice (some ⟨w.heap.size + 1, 0, none⟩) n n) := fun x => (bk.ext x.ext).cell 0
      generalize ((dnV n k).getD k []) = cc at *
      go_wp2_with fail
      refine wp_region_later_tail 5 (by kernel_rfl) (by kernel_rfl) ?_
      simp only [List.take_succ_cons, List.take_zero, List.drop_succ_cons, List.drop_zero]
      repeat (go_big_quiet_step (exact later_of (HR.out _)))
      refine wpQuiet_nil ?_
      rintro w3 ⟨x3, rfl⟩
      have q' := q x3
      have qf' := qf x3
      have o3 := own_ext ok x3.ext
      have b3 := bk.ext x3.ext
      have b03 := b0k.ext x3.ext
      have x3e := x3.ext
      clear q qf q0
      generalize x3.now = w3 at *
      go_wp2_with fail
      go_roundw
      case rel => exact ⟨k + 1, by omega, by go_num, (xk.trans x3e).setCell (Nat.le_succ _) _, by rw [← HK.out]; exact own_set o3 _, b3.setOther (by omega) _, b03.setOther (by omega) _⟩
      case measure => simp [intOf]; omega
    · obtain rfl : k = n := by omega
      go_wp2_with (first
        | (refine wp_ld_drv (.tmp 4) rfl rfl (w.heap.size + 1 + 1) _ _ rfl bk rfl ?_)
        | (refine wp_st_drv (.tmp 2) (.tmp 28) rfl rfl w.heap.size ⟨some ⟨w.heap.size + 1, 0, none⟩, k, k⟩ ⟨none, 0, 0⟩ (-1) _ 28 rfl rfl b0k rfl ?_; intro w5 b5 g5))
      have o5 := ok.kept g5 (.inr (by simp [Value.ownBlock]))
      have hbx : Box w5 (w.heap.size + 1) 9 (strVals (List.replicate k (zs 128))) := by
        rw [← HDA.out]
        exact own_box o5
      refine bodyPost_ret (results_cell2 rfl _ _ w.heap.size _ _ _ (.int .i64 0) rfl rfl b5 Tryz.underlying28 rfl drvSize) rfl ⟨w.heap.size + 1, rfl, xk.grown g5 (fun j e => by cases e; exact Nat.le_refl _), hbx, Nat.le_succ _⟩
end Go.Proofs.YtkokmnaicfdjaaaGreatDoor
/- The volume of the statements of layer 28: geom.Format of 24 blocks and 8 inodes. -/
namespace Go.Proofs.YtkokmnaicfdjaaaGreatDoor
set_option linter.unusedVariables false
set_option linter.unusedSimpArgs false
open Go.RowKit

def fillV (k : Nat) : List (List UInt8) := List.replicate k (zs 128) ++ List.replicate (24 - k) []
theorem fillV_len (k : Nat) (h : k ≤ 24) : (fillV k).length = 24 := by simp [fillV]; omega
theorem fillV_set (k : Nat) (h : k < 24) : (fillV k).set k (zs 128) = fillV (k + 1) := by
  unfold fillV
  rw [List.set_append, if_neg (by simp), List.length_replicate, Nat.sub_self, show 24 - k = (24 - (k + 1)) + 1 by omega, List.replicate_succ, List.set_cons_zero, List.replicate_succ', List.append_assoc]
  rfl
def tkL (k : Nat) : List UInt8 := b8 ((2 ^ k - 1 : Nat) : Int) :: zs 127
theorem tkL_len (k : Nat) : (tkL k).length = 128 := by simp [tkL, zs_len]
def fmt8 : List (List UInt8) := ((fillV 24).set 0 (headL 24 8)).set 2 (tkL 7)
theorem emptyRow24 : (emptyRow 24).toList = strL (fillV 0) := by
  unfold emptyRow
  rw [toList_madeCells_one]
  rfl
theorem zero128 : zeroCells128 = byteVals (tkL 0) := by kernel_rfl
theorem tk_or (k : Nat) (h : k < 7) : bits BinOp.or IntKind.u8 (((tkL k).getD 0 0).toNat : Int) (2 ^ k % 256) = (((tkL (k + 1)).getD 0 0).toNat : Int) := by
  rcases (by omega : k = 0 ∨ k = 1 ∨ k = 2 ∨ k = 3 ∨ k = 4 ∨ k = 5 ∨ k = 6) with rfl | rfl | rfl | rfl | rfl | rfl | rfl <;> decide
theorem tk_set (k : Nat) : (byteVals (tkL k)).setIfInBounds 0 (.int .u8 (((tkL (k + 1)).getD 0 0).toNat : Int)) = byteVals (tkL (k + 1)) := by
  simp [byteVals, tkL]
theorem own_setNe {w : World} {base n g g' cap i : Nat} {t : TypeId} {xs : List Value} (h : w.ownsRow base t 1 (.slice (some ⟨g, 0, none⟩) n cap) n xs) (hne : g < g') (u : Value) : (w.setCell ⟨g', i, none⟩ u).ownsRow base t 1 (.slice (some ⟨g, 0, none⟩) n cap) n xs := by
  refine ⟨h.1, ?_⟩
  rcases h.2 with c | ⟨g1, cap1, cur, e, hb, hh, r⟩
  · exact Or.inl c
  · have e1 : g = g1 := by injection e with e; injection e with e; injection e with e
    subst e1
    exact Or.inr ⟨g, cap1, cur, e, hb, Box.setOther (show Box w g t cur from hh) (by omega) u, r⟩
set_option maxHeartbeats 1000000 in
set_option maxRecDepth 100000 in
theorem format8 (w : World) :
    Calls Tryz.prog 113 #[.int .i64 24, .int .i64 8] w fun e w' => ∃ u, e = .returned (.tuple #[u, .int .i64 0]) ∧ Ext w w' ∧ w'.ownsRow w.heap.size 9 1 u 24 (strL fmt8) := by
  have HP := Lib.hid (fun w => plan_yes 24 8 w (by decide))
  have HH := Lib.hid (fun w => first_any 24 8 w (by decide))
  have HF := Lib.hid (show fmt8 = ((fillV 24).set 0 (headL 24 8)).set 2 (tkL 7) from rfl)
  have HS := Lib.hid fillV_set
  have HL := Lib.hid (fillV_len 24 (by omega))
  have HE := Lib.hid emptyRow24
  have HZ := Lib.hid zero128
  have HTL := Lib.hid tkL_len
  have HTO := Lib.hid tk_or
  have HTS := Lib.hid tk_set
  have hmk2 : ∀ w, (Instr.makeSlice 23 (.int .i64 24) (.int .i64 24)).run Tryz.prog w = .ok (.slice (some ⟨w.heap.size, 0, none⟩) 24 24) (w.alloc (.cells (emptyRow 24) 9)) := fun w => makeStrs 24 (by omega) w
  have hmk := make128
  unfold geomV at HP HH
  rw [show (3 : Int) + (8 + 1) / 2 = 7 from rfl] at HP HH
  generalize headL 24 8 = H at HH HF
  go_enter Tryz.func113, Tryz.ntmps113
  go_wp2_with (go_at_call 86; refine (HP.out _).mono ?_; rintro e w1 ⟨rfl, x1⟩)
  have bG := Box.new w1 88 #[.int .i64 24, .int .i64 8, .int .i64 1, .int .i64 2, .int .i64 3, .int .i64 7]
  have x2 := x1.alloc (.cells #[.int .i64 24, .int .i64 8, .int .i64 1, .int .i64 2, .int .i64 3, .int .i64 7] 88)
  have z2 : (w1.alloc (.cells #[.int .i64 24, .int .i64 8, .int .i64 1, .int .i64 2, .int .i64 3, .int .i64 7] 88)).heap.size = w1.heap.size + 1 := World.size_alloc _ _
  generalize w1.alloc (.cells #[.int .i64 24, .int .i64 8, .int .i64 1, .int .i64 2, .int .i64 3, .int .i64 7] 88) = w2 at bG x2 z2 ⊢
  have own0 := own_of_box (base := w.heap.size) (Box.new w2 9 (emptyRow 24)) (n := 24) (by simp [emptyRow, size_madeCells]) x2.size (by unfold maxLen; omega)
  rw [HE.out, z2] at own0
  have bG3 := bG.ext ((Ext.refl w2).alloc (.cells (emptyRow 24) 9))
  have x3 := x2.alloc (.cells (emptyRow 24) 9)
  have hgv : w.heap.size ≤ w1.heap.size + 1 := by have := x1.size; omega
  have hne : w1.heap.size ≠ w1.heap.size + 1 := by omega
  generalize w2.alloc (.cells (emptyRow 24) 9) = w3 at own0 bG3 x3 ⊢
  generalize w1.heap.size + 1 = gv at *
  generalize w1.heap.size = g1 at *
  clear bG x2 x1 z2 hmk2 HE HP
  clear w1 w2
  go_loopw [9, 26] (fun _ t wx => ∃ k : Nat, k ≤ 24 ∧ t = .int .i64 k ∧ Ext w wx ∧ wx.ownsRow w.heap.size 9 1 (.slice (some ⟨gv, 0, none⟩) 24 24) 24 (strL (fillV k)) ∧ Box wx g1 88 #[.int .i64 24, .int .i64 8, .int .i64 1, .int .i64 2, .int .i64 3, .int .i64 7]) (fun _ t _ => 24 - (intOf t).toNat)
  case atStart => exact ⟨0, by omega, rfl, x3, own0, bG3⟩
  case round =>
    obtain ⟨k, hk, rfl, xk, ok, bk⟩ := hrel
    by_cases hlt : k < 24
    · have HK := Lib.hid (HS.out k hlt)
      have hok : ∀ (wx : World), Ext wr wx → wx.cell? ⟨gv, k, none⟩ = some (.string (str ((fillV k).getD k []))) := fun wx hx => hx.keep ((ok.cellAt k (by omega)).trans (by simp [strL, fillV_len k hk, hlt]))
      have hki : (k : Int) < 24 := by omega
      go_wp2_with (go_at_call 159; refine (zeros_any _).mono ?_; rintro e w4 ⟨rfl, x4⟩; have q4 := hok _ x4; have o4 := own_ext ok x4; have kf := o4.frozenAt k; have b4 := bk.ext x4)
      go_roundw
      case rel => exact ⟨k + 1, by omega, by go_num, (xk.trans x4).setCell hgv _, by rw [← HK.out]; exact own_set o4 _, b4.setOther hne _⟩
      case measure => simp [intOf]; omega
    · obtain rfl : k = 24 := by omega
      rw [show ((24 : Nat) : Int) = 24 from rfl]
      have hl0 := HL.out
      generalize fillV 24 = B at *
      go_wp2_with (first
        | (refine wp_ld 88 (.tmp 6) rfl rfl g1 _ _ _ rfl bk Tryz.underlying88 rfl geomSize ?_)
        | (go_at_call 88; refine (HH.out _).mono ?_; rintro e w4 ⟨rfl, x4⟩; have q4 : w4.cell? ⟨gv, 0, none⟩ = some (.string (str (B.getD 0 []))) := x4.keep ((ok.cellAt 0 (by omega)).trans (by simp [strL, hl0])); have o4 := own_ext ok x4; have kf := o4.frozenAt 0; have b4 := bk.ext x4; have q45 : ((w4.setCell ⟨gv, 0, none⟩ (.string (str H))).alloc (.cells zeroCells128 5)).cell? ⟨g1, 5, none⟩ = some (.int .i64 7) := ((b4.setOther hne _).ext ((Ext.refl _).alloc _)).cell 5))
      have o5 : ((w4.setCell ⟨gv, 0, none⟩ (.string (str H))).alloc (.cells zeroCells128 5)).ownsRow w.heap.size 9 1 (.slice (some ⟨gv, 0, none⟩) 24 24) 24 (strL (B.set 0 H)) := own_ext (own_set o4 H) ((Ext.refl _).alloc (.cells zeroCells128 5))
      have x5 : Ext w ((w4.setCell ⟨gv, 0, none⟩ (.string (str H))).alloc (.cells zeroCells128 5)) := ((xk.trans x4).setCell hgv _).alloc _
      have b5 := Box.new (w4.setCell ⟨gv, 0, none⟩ (.string (str H))) 5 zeroCells128
      have hgt : gv < w4.heap.size := by
        rcases o4.2 with ⟨_, h0⟩ | ⟨g', cap', cur, e1, _, hh, _⟩
        · omega
        · injection e1 with e1
          injection e1 with e1
          injection e1 with e1
          subst e1
          exact (Array.getElem?_eq_some_iff.1 hh).1
      rw [show (w4.setCell ⟨gv, 0, none⟩ (.string (str H))).heap.size = w4.heap.size by simp [World.setCell]] at b5
      have hw4 : w.heap.size ≤ w4.heap.size := by omega
      generalize (w4.setCell ⟨gv, 0, none⟩ (.string (str H))).alloc (.cells zeroCells128 5) = w5 at o5 x5 b5 ⊢
      generalize w4.heap.size = gt at *
      rw [HZ.out] at b5
      have hB2 : (B.set 0 H).length = 24 := by simp [hl0]
      generalize B.set 0 H = B2 at *
      clear xk ok bk o4 b4 x4 kf q4 q45 hmk HH HS HL HZ
      go_loopw [11, 41] (fun _ t wx => ∃ k : Nat, k ≤ 7 ∧ t = .int .i64 k ∧ Ext w wx ∧ wx.ownsRow w.heap.size 9 1 (.slice (some ⟨gv, 0, none⟩) 24 24) 24 (strL B2) ∧ Box wx gt 5 (byteVals (tkL k))) (fun _ t _ => 7 - (intOf t).toNat)
      case atStart => exact ⟨0, by omega, rfl, x5, o5, b5⟩
      case round =>
        obtain ⟨k, hk, rfl, xk, ok, bk⟩ := hrel
        have hkl := HTL.out k
        by_cases hlt : k < 7
        · have HK := Lib.hid (HTO.out k hlt)
          have hki : (k : Int) < 7 := by omega
          have t1 : (k : Int) / 8 = 0 := by omega
          have t2 : (k : Int) % 8 = k := by omega
          have q : ∀ x : Later wr, x.now.cell? ⟨gt, 0, none⟩ = some (.int .u8 (((tkL k).getD 0 0).toNat : Int)) := fun x => ((bk.ext x.ext).cell 0).trans (byteVals_at _ 0 (by omega))
          have qf : ∀ x : Later wr, x.now.frozen? ⟨gt, 0, none⟩ = false := fun x => (bk.ext x.ext).frozen 0
          have hcb := byte_bd ((tkL k).getD 0 0)
          generalize hC : (((tkL k).getD 0 0).toNat : Int) = C at *
          go_wp2_with fail
          refine wp_region_later_tail 10 (by kernel_rfl) (by kernel_rfl) ?_
          simp only [List.take_succ_cons, List.take_zero, List.drop_succ_cons, List.drop_zero]
          repeat (go_big_quiet_step (fail))
          refine wpQuiet_nil ?_
          rintro w2 ⟨x2, rfl⟩
          have q' := q x2
          have qf' := qf x2
          clear q qf
          have x2e := x2.ext
          have b2 := bk.ext x2e
          have o2 := own_ext ok x2e
          generalize x2.now = w2 at *
          go_wp2_with fail
          have HTK := HTS.out k
          rw [HK.out]
          go_roundw
          case rel => exact ⟨k + 1, by omega, by go_num, (xk.trans x2e).setCell hw4 _, own_setNe o2 hgt _, by rw [← HTK]; exact b2.set 0 _⟩
          case measure => simp [intOf]; omega
        · obtain rfl : k = 7 := by omega
          rw [show ((7 : Nat) : Int) = 7 from rfl]
          have cv := conv_box (c := 128) bk hkl
          have q2 : wr.cell? ⟨gv, 2, none⟩ = some (.string (str (B2.getD 2 []))) := (ok.cellAt 2 (by omega)).trans (by simp [strL, hB2])
          have kf := ok.frozenAt 2
          go_wp2_with fail
          go_ret2
          exact ⟨_, rfl, xk.setCell hgv _, by rw [HF.out]; exact own_set ok _⟩
end Go.Proofs.YtkokmnaicfdjaaaGreatDoor
/- The volume of the statements of layer 28: inode.New, fs.Make. -/
namespace Go.Proofs.YtkokmnaicfdjaaaGreatDoor
set_option linter.unusedVariables false
set_option linter.unusedSimpArgs false
open Go.RowKit

theorem flist12 {x : List Int} (h : x.length = 12) : ∃ a0 a1 a2 a3 a4 a5 a6 a7 a8 a9 a10 a11 : Int, x = [a0, a1, a2, a3, a4, a5, a6, a7, a8, a9, a10, a11] := by
  match x, h with
  | [a0, a1, a2, a3, a4, a5, a6, a7, a8, a9, a10, a11], _ => exact ⟨a0, a1, a2, a3, a4, a5, a6, a7, a8, a9, a10, a11, rfl⟩
theorem fits_new (kd o : Int) (h0 : 0 ≤ kd) (h1 : kd < 256) (h2 : 0 ≤ o) (h3 : o < 256) : fitsB [kd, 1, o, 0, 0, 0, 0, 0, 0, 0, 0, 0] = true := by
  unfold fitsB
  rw [List.all_eq_true]
  intro k _
  unfold fitF
  rw [decide_eq_true_eq]
  match k with
  | ⟨0, _⟩ => exact ⟨h0, h1⟩
  | ⟨1, _⟩ => exact ⟨h2, h3⟩
  | ⟨2, _⟩ => exact ⟨(by decide : (0 : Int) ≤ 1), (by decide : (1 : Int) < 65536)⟩
  | ⟨3, _⟩ => exact ⟨Int.le_refl _, (by decide : (0 : Int) < 4294967296)⟩
  | ⟨4, _⟩ | ⟨5, _⟩ | ⟨6, _⟩ | ⟨7, _⟩ | ⟨8, _⟩ | ⟨9, _⟩ | ⟨10, _⟩ | ⟨11, _⟩ => exact ⟨Int.le_refl _, (by decide : (0 : Int) < 65536)⟩
theorem ino_kind (a0 a1 a2 a3 a4 a5 a6 a7 a8 a9 a10 a11 : Int) (w : World) : (Instr.field 134 (.agg #[.int .i64 a0, .int .i64 a1, .int .i64 a2, .int .i64 a3, .int .i64 a4, .int .i64 a5, .int .i64 a6, .int .i64 a7, .int .i64 a8, .int .i64 a9, .int .i64 a10, .int .i64 a11]) 0).run Tryz.prog w = .ok (.int .i64 a0) w := by kernel_rfl
set_option maxHeartbeats 1000000 in
set_option maxRecDepth 100000 in
theorem inew_yes (A : Option Addr) (n c j : Nat) (v : List (List UInt8)) (I kd o : Int) (w : World) (hv : Strs w A n v) (hg : Good v I) (hkd : kd = 1 ∨ kd = 2) (ho0 : 0 ≤ o) (ho1 : o ≤ 15) (hj1 : 1 ≤ j) (hj2 : (j : Int) ≤ I) (hj : (inoAt v j).getD 0 0 = 0)
    (hlow : ∀ i : Nat, 1 ≤ i → i < j → (inoAt v i).getD 0 0 ≠ 0) :
    Calls Tryz.prog 95 #[.slice A n c, .int .i64 kd, .int .i64 o] w fun e w' => ∃ u, e = .returned (.tuple #[u, .int .i64 j, .int .i64 0]) ∧ Ext w w' ∧ w'.ownsRow w.heap.size 9 1 u n (strL (putAt v j [kd, 1, o, 0, 0, 0, 0, 0, 0, 0, 0, 0])) := by
  have hpl := plan_bd hg.plan
  obtain ⟨b, oo, rfl, _⟩ := hv.2 (by have := hv.1; omega)
  have HO := Lib.hid (fun w h => of_yes (some ⟨b, oo, none⟩) n c v I w h hg)
  have HT := Lib.hid (fun (m : Nat) (h1 : 1 ≤ m) (h2 : (m : Int) ≤ I) w h => told_good b oo n c v I m w h hg (by omega) h2)
  have HW := Lib.hid (fun w h => written_good b oo n c v I j [kd, 1, o, 0, 0, 0, 0, 0, 0, 0, 0, 0] w h hg (by omega) hj2 rfl (fits_new kd o (by omega) (by omega) ho0 (by omega)))
  have e12 : intVals [kd, 1, o, 0, 0, 0, 0, 0, 0, 0, 0, 0] = #[.int .i64 kd, .int .i64 1, .int .i64 o, .int .i64 0, .int .i64 0, .int .i64 0, .int .i64 0, .int .i64 0, .int .i64 0, .int .i64 0, .int .i64 0, .int .i64 0] := rfl
  rw [e12] at HW
  clear e12
  have HL := Lib.hid hlow
  have HJ := Lib.hid hj
  have HX := Lib.hid (fun m : Nat => inoAt_len v m)
  clear hlow hj
  have d3 : decide (o < 0) = false := by simp; omega
  have d4 : decide (16 ≤ o) = false := by simp; omega
  rcases hkd with rfl | rfl
  all_goals
    go_enter Tryz.func95, Tryz.ntmps95
    go_wp2_with fail
    refine (HO.out _ hv).mono ?_
    rintro e w1 ⟨rfl, x1⟩
    rw [geomV_eq]
    go_wp2_with (refine wp_st_geom (.tmp 9) (.tmp 15) rfl rfl w1.heap.size _ [0, 0, 0, 0, 0, 0] 88 rfl rfl (Box.new _ _ _) rfl rfl ?_; intro w2 b2 g2; have x2 : Ext w w2 := (x1.alloc _).grown g2 (fun k e => by cases e; exact x1.size))
    go_loopw [11] (fun t wx => ∃ m : Nat, 1 ≤ m ∧ m ≤ j ∧ t = .int .i64 m ∧ Ext w wx ∧ Box wx w1.heap.size 88 (intVals [v.length, I, 1, 2, 3, 3 + (I + 1) / 2])) (fun t _ => j - (intOf t).toNat)
    case atStart => exact ⟨1, by omega, by omega, rfl, x2, b2⟩
    case round =>
      obtain ⟨m, hm1, hm, rfl, xm, bm⟩ := hrel
      have c1 : wr.cell? ⟨w1.heap.size, 1, none⟩ = some (.int .i64 I) := bm.cell 1
      have dm : (m : Int) ≤ I := by omega
      have HTm := Lib.hid (HT.out m hm1 dm)
      obtain ⟨a0, a1, a2, a3, a4, a5, a6, a7, a8, a9, a10, a11, hx⟩ := flist12 (HX.out m)
      have hx0 : (inoAt v m).getD 0 0 = a0 := by rw [hx]; rfl
      rw [hx] at HTm
      rw [show intVals [a0, a1, a2, a3, a4, a5, a6, a7, a8, a9, a10, a11] = #[.int .i64 a0, .int .i64 a1, .int .i64 a2, .int .i64 a3, .int .i64 a4, .int .i64 a5, .int .i64 a6, .int .i64 a7, .int .i64 a8, .int .i64 a9, .int .i64 a10, .int .i64 a11] from rfl] at HTm
      have hfd := ino_kind a0 a1 a2 a3 a4 a5 a6 a7 a8 a9 a10 a11
      by_cases hlt : m < j
      · have hb : (a0 == 0) = false := by rw [← hx0]; simpa using HL.out m hm1 hlt
        clear hx hx0
        go_wp2_with (first
          | (refine wp_ld_geom (.tmp 9) rfl rfl w1.heap.size _ 88 rfl bm rfl ?_)
          | (go_at_call 137; refine (HTm.out _ (hv.ext xm)).mono ?_; rintro e w3 ⟨rfl, x3⟩))
        go_roundw
        case rel => exact ⟨m + 1, by omega, by omega, by go_num, xm.trans x3, bm.ext x3⟩
        case measure => simp [intOf]; omega
      · obtain rfl : m = j := by omega
        have hb : (a0 == 0) = true := by rw [← hx0]; simpa using HJ.out
        clear hx hx0
        go_wp2_with (first
          | (refine wp_ld_geom (.tmp 9) rfl rfl w1.heap.size _ 88 rfl bm rfl ?_)
          | (refine wp_ld_geom (.tmp 9) rfl rfl w1.heap.size _ 88 rfl (bm.ext x3) rfl ?_)
          | (go_at_call 137; refine (HTm.out _ (hv.ext xm)).mono ?_; rintro e w3 ⟨rfl, x3⟩; clear HTm)
          | (go_at_call 138; refine (HW.out _ (hv.ext (xm.trans x3))).mono ?_; rintro e w5 ⟨u, rfl, x5, own5⟩))
        go_ret3
        have o6 := own_base own5 (xm.trans x3).size
        clear HW HT HO HL HJ HX hv hg
        refine ⟨u, rfl, (xm.trans x3).trans x5, ?_⟩
        exact o6
theorem fmt8_all : ∀ b ∈ fmt8, b.length = 128 := by
  intro b hb
  unfold fmt8 at hb
  rcases List.mem_or_eq_of_mem_set hb with hb | rfl
  · rcases List.mem_or_eq_of_mem_set hb with hb | rfl
    · rw [show fillV 24 = List.replicate 24 (zs 128) by simp [fillV]] at hb
      rw [List.eq_of_mem_replicate hb, zs_len]
    · exact headL_len 24 8
  · exact tkL_len 7
theorem fmt8_len : fmt8.length = 24 := by simp [fmt8, fillV]
theorem fmt8_map : fmt8.getD 2 [] = tkL 7 := by
  unfold fmt8
  simp [List.getD_eq_getElem?_getD, fillV]
theorem zs_getD (n i : Nat) : (zs n).getD i 0 = 0 := by
  unfold zs
  rw [List.getD_eq_getElem?_getD, List.getElem?_replicate]
  split <;> rfl
theorem good_fmt8 : Good fmt8 8 := by
  refine ⟨fun j hj => fmt8_all _ (List.getElem_mem hj), by rw [fmt8_len]; decide, ?_, fun i hi => ?_, fun i h1 h2 => ?_⟩
  · unfold fmt8
    simp [List.getD_eq_getElem?_getD, fillV]
  · rw [fmt8_map]
    rcases (by omega : i = 0 ∨ i = 1 ∨ i = 2 ∨ i = 3 ∨ i = 4 ∨ i = 5 ∨ i = 6) with rfl | rfl | rfl | rfl | rfl | rfl | rfl <;> decide
  · rw [fmt8_len] at h2
    rw [fmt8_map]
    unfold bitB
    obtain ⟨q, hq⟩ : ∃ q, i / 8 = q + 1 := ⟨i / 8 - 1, by omega⟩
    rw [hq, tkL, List.getD_cons_succ, zs_getD]
    simp
end Go.Proofs.YtkokmnaicfdjaaaGreatDoor
