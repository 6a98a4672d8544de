/- Writes put to a drive's blocks, by the document. -/
import Derived.Test.YtkokmnaicfdjaaaGreatDoorVc25
import Derived.Test.YtkokmnaicfdjaaaGreatDoorVc19
import Derived.Test.YtkokmnaicfdjaaaGreatDoorVc15
import Derived.Test.YtkokmnaicfdjaaaGreatDoorVc20
import Derived.RegionTactic
import Derived.ChangeAlike
import Derived.Lib.SlKeysI
import Derived.Maps.Own
import Derived.Maps.OwnSet
namespace Go.Proofs.YtkokmnaicfdjaaaGreatDoor
set_option linter.unusedVariables false
set_option linter.unusedSimpArgs false
open Go.RowKit

/-- writes put from a place on, or to their own places -/
def putC (own : Bool) (l : List WrT) : List CallD := if own then l.map (fun x => .put (33 + x.1.toNat) x.2) else putsC 1 l
theorem putsC_at : ∀ (l : List WrT) (i k : Nat) (h : k < l.length), (putsC i l)[k]? = some (.put (i + k) l[k].2)
  | x :: l, i, 0, _ => rfl
  | x :: l, i, k + 1, h => by
    rw [putsC, List.getElem?_cons_succ, putsC_at l (i + 1) k (by simpa using h), show i + 1 + k = i + (k + 1) by omega]; rfl
theorem putC_len (own : Bool) (l : List WrT) : (putC own l).length = l.length := by
  unfold putC
  cases own
  · exact putsC_len l 1
  · simp
def zdV (B : Nat) (w : World) (u : Value) : Prop := ∃ g, u = .pointer (some ⟨g, 0, none⟩) ∧ Box w g 28 #[.slice none 0 0, .slice none 0 0, .int .i64 0] ∧ B ≤ g
theorem lasts_zd (B : Nat) : Lasts (zdV B) := fun _ _ _ x ⟨g, e, h, hg⟩ => ⟨g, e, h.ext x, hg⟩
theorem run_st_drv (o : Oper) (a : Act) (w : World) (x y : Operand) (ho : o.op = .store 28 x y) (g : Nat) (bl pe : Sl) (left : Int) (old : Array Value) (t : TypeId) (hx : a.eval x = .pointer (some ⟨g, 0, none⟩)) (hy : a.eval y = .agg (drvC bl pe left)) (hb : Box w g t old) (hold : old.size = 3) :
    (execOp a.eval o).run Tryz.prog w = .ok .skip (w.setRow g (drvC bl pe left)) := by
  unfold execOp
  simp only [ho, hx, hy, Instr.storeAt, Instr.sureAddr, Sem.run_bind, Sem.run_pure, Result.andThen_ok, run_storeVar_row w g t 28 old (drvC bl pe left) hb drvSize hold (drvC_one bl pe left)]
set_option maxHeartbeats 1000000 in
set_option maxRecDepth 100000 in
theorem rput16_any (B0 : Nat) (own : Bool) (D : DrvD) (v : Value) (l : List WrT) (s : Sl) (w : World) (hB0 : B0 ≤ w.heap.size) (hv : drvV B0 D w v) (h : RowF B0 wrL 57 w s l) (hl : RiseW (D.bl.length - 33) l) (hpos : 33 < D.bl.length) (hp : D.pe.length ≤ 2000) (hb : D.bl.length ≤ 1000) (hL : D.left ≤ 9223372036854775807) :
    Calls Tryz.prog 80 #[v, .slice s.A s.n s.c, .bool own] w fun e w' => ∃ v', e = .returned (.tuple #[v', .int .i64 (doneP D (putC own l)).2]) ∧ drvV B0 (doneP D (putC own l)).1 w' v' ∧ Ext w w' := by
  obtain ⟨bl, pe, rfl, kb, kp⟩ := hv
  have hn : s.n = l.length := h.k.row.1
  have hl32 := hl.1
  have HL := Lib.hid hl
  have HR := Lib.hid h
  clear h hl
  obtain ⟨A, n, c⟩ := s
  simp only at *
  subst hn
  have hsm := HR.out.k.small
  simp only at hsm
  have b0 := Box.new w 28 (drvC bl pe D.left)
  have r0 := Box.new (w.alloc (.cells (drvC bl pe D.left) 28)) 28 #[.slice none 0 0, .slice none 0 0, .int .i64 0]
  have x0 := ((Ext.refl w).alloc (.cells (drvC bl pe D.left) 28)).alloc (.cells #[.slice none 0 0, .slice none 0 0, .int .i64 0] 28)
  have b1 := b0.ext ((Ext.refl _).alloc (.cells #[.slice none 0 0, .slice none 0 0, .int .i64 0] 28))
  rw [World.size_alloc] at r0
  clear b0
  have kb1 := kb.ext x0
  have kp1 := kp.ext x0
  clear kb kp
  go_enter Tryz.func80, Tryz.ntmps80
  go_upto_region 2 with fail
  change Code.wp _ _ _ _ ((w.alloc (.cells (drvC bl pe D.left) 28)).alloc (.cells #[.slice none 0 0, .slice none 0 0, .int .i64 0] 28))
  generalize (w.alloc (.cells (drvC bl pe D.left) 28)).alloc (.cells #[.slice none 0 0, .slice none 0 0, .int .i64 0] 28) = w1 at *
  generalize hG : w.heap.size = G at *
  go_loopw [14] (fun i wx => ∃ (k : Nat) (E : DrvD) (eb ep : Sl), k ≤ l.length ∧ i = .int .i64 k ∧ Box wx G 28 (drvC eb ep E.left) ∧ RowF B0 stL 9 wx eb E.bl ∧ RowF B0 wrL 57 wx ep E.pe ∧ Box wx (G + 1) 28 #[.slice none 0 0, .slice none 0 0, .int .i64 0] ∧ Ext w wx ∧ doneP D (putC own l) = doneP E ((putC own l).drop k) ∧ E.bl.length = D.bl.length ∧ E.pe.length ≤ D.pe.length + k ∧ E.left ≤ 9223372036854775807) (fun i _ => l.length - (intOf i).toNat)
  case atStart => exact ⟨0, D, bl, pe, by omega, rfl, b1, kb1, kp1, r0, x0, rfl, rfl, Nat.le_refl _, hL⟩
  case round =>
    clear b1 kb1 kp1 r0 x0
    obtain ⟨k, E, eb, ep, hk, rfl, bk, kb, kp, rk, xk, hD, hEl, hEp, hEL⟩ := hrel
    have HD := Lib.hid hD
    clear hD
    by_cases hlt : k < l.length
    · obtain ⟨b2, o2, hA, hcell⟩ := (HR.out.ext xk).k.row.wrs.2 (by show 0 < l.length; omega)
      subst hA
      have e1 := (hcell k hlt).1
      have e2 := (hcell k hlt).2
      have hki : (k : Int) < (l.length : Int) := by omega
      have hy := HL.out.2 k hlt
      obtain ⟨q, hq⟩ : ∃ q : Nat, l[k].1 = q := ⟨l[k].1.toNat, by have := hy.1; omega⟩
      have hq2 : q < D.bl.length - 33 := by have := hy.2.1; omega
      have hy2 : l[k].2.length = 128 := hy.2.2.1
      clear hcell hy
      cases own with
      | true =>
        have HC : (putC true l)[k]? = some (.put (33 + q) l[k].2) := by
          show (l.map (fun x => CallD.put (33 + x.1.toNat) x.2))[k]? = _
          rw [List.getElem?_map, List.getElem?_eq_getElem hlt, Option.map_some, hq]; rfl
        have HS := Lib.hid (show doneP D (putC true l) = if (stepP E (.put (33 + q) l[k].2)).2 = 0 then doneP (stepP E (.put (33 + q) l[k].2)).1 ((putC true l).drop (k + 1)) else stepP E (.put (33 + q) l[k].2) by
          have hkl : k < (putC true l).length := by rw [putC_len]; exact hlt
          have hg : (putC true l)[k] = .put (33 + q) l[k].2 := by rw [List.getElem?_eq_getElem hkl] at HC; exact Option.some.inj HC
          rw [HD.out, done_drop hkl, hg])
        rw [hq] at e1
        clear HC hq HD
        generalize l[k].2 = y2 at *
        have HER := Lib.hid (step_err E (.put (33 + q) y2))
        have H1 := Lib.hid (step_len E (.put (33 + q) y2))
        have H2 := Lib.hid (step_pe E (.put (33 + q) y2))
        have H3 := Lib.hid (step_left E (.put (33 + q) y2) hEL)
        have HP := Lib.hid (fun w h0 h => rdput_any B0 E (.agg (drvC eb ep E.left)) (33 + q) y2 w h0 h (by omega) hy2 (by omega) hEL)
        have hst : putDP E ((33 + q : Nat) : Int) y2 = stepP E (.put (33 + q) y2) := rfl
        rw [hst, show ((33 + q : Nat) : Int) = 33 + (q : Int) by omega] at HP
        clear hst
        generalize stepP E (.put (33 + q) y2) = R at *
        obtain ⟨E', er⟩ := R
        simp only at H1 H2 H3 HER HS
        go_upto_region 7 with fail
        refine wp_region_late 12 10 [[], [], [], [], [2, 3], [4], [5], [0, 1, 6], [7], [8], [8], []] (listV [isV (.agg (drvC eb ep E.left)), isV (.int .i64 (33 + (q : Int))), isV (.slice (some ⟨b2, o2, none⟩) l.length c), isV (.int .i64 (k : Int)), isV (.pointer (some ⟨b2, o2 + k * 2, none⟩)), isV (.pointer (some ⟨b2, o2 + k * 2 + 1, none⟩)), isV (.string (str y2)), pairV B0 E' er, pairV B0 E' er, drvV B0 E', isV (.int .i64 er), zdV wr.heap.size]) (by kernel_rfl) (by kernel_rfl) (listV_ext (fun p hp => by simp only [List.mem_cons, List.not_mem_nil, or_false] at hp; rcases hp with rfl | rfl | rfl | rfl | rfl | rfl | rfl | rfl | rfl | rfl | rfl | rfl <;> first | exact lasts_drv _ _ | exact lasts_is _ | exact lasts_pair _ _ _ | exact lasts_zd _)) ?_ (fun us => ?_)
        · intro o ho us w' hx hd
          injection ho with ho
          subst ho
          obtain ⟨v3, e4, d3⟩ : pairV B0 E' er w' (us 8) := hd 8 (by simp)
          refine ⟨.int .i64 er, fun w'' => ?_, show isV (.int .i64 er) w' (.int .i64 er) from rfl⟩
          simp only [List.take_succ_cons, List.take_zero, putsL, Act.put]
          simp [execOp, Act.eval, Instr.extract, e4]
        simp only [List.take_succ_cons, List.take_zero, List.drop_succ_cons, List.drop_zero]
        rw [webWalk]
        refine And.intro (fun w' hx hd => ?_) ?_
        · clear hd
          have bx := bk.ext hx
          refine web_of_list 27 rfl (by simp) rfl ?_
          go_wp2_with (refine wp_ld_drv (.tmp 3) rfl rfl G _ _ rfl bx rfl ?_)
          exact ⟨Ext.refl _, rfl⟩
        simp only [Act.put, List.setIfInBounds_toArray, List.set_cons_zero, List.set_cons_succ]
        rw [webWalk]
        refine And.intro (fun w' hx hd => ?_) ?_
        · clear hd
          refine web_of_list 28 rfl (by simp [Act.put]) rfl ?_
          go_wp2_with fail
          exact ⟨Ext.refl _, rfl⟩
        simp only [Act.put, List.setIfInBounds_toArray, List.set_cons_zero, List.set_cons_succ]
        rw [webWalk]
        refine And.intro (fun w' hx hd => ?_) ?_
        · clear hd
          refine web_of_list 29 rfl (by simp [Act.put]) rfl ?_
          go_wp2_with fail
          exact ⟨Ext.refl _, rfl⟩
        simp only [Act.put, List.setIfInBounds_toArray, List.set_cons_zero, List.set_cons_succ]
        rw [webWalk]
        refine And.intro (fun w' hx hd => ?_) ?_
        · clear hd
          refine web_of_list 30 rfl (by simp [Act.put]) rfl ?_
          go_wp2_with fail
          exact ⟨Ext.refl _, rfl⟩
        simp only [Act.put, List.setIfInBounds_toArray, List.set_cons_zero, List.set_cons_succ]
        rw [webWalk]
        refine And.intro (fun w' hx hd => ?_) ?_
        · have h2 := hd 2 (by simp)
          have h3 := hd 3 (by simp)
          clear hd
          generalize us 2 = u2 at *
          generalize us 3 = u3 at *
          obtain rfl : u2 = .slice (some ⟨b2, o2, none⟩) l.length c := h2
          obtain rfl : u3 = .int .i64 (k : Int) := h3
          refine web_of_list 31 rfl (by simp [Act.put]) rfl ?_
          go_wp2_with fail
          exact ⟨Ext.refl _, rfl⟩
        simp only [Act.put, List.setIfInBounds_toArray, List.set_cons_zero, List.set_cons_succ]
        rw [webWalk]
        refine And.intro (fun w' hx hd => ?_) ?_
        · have h4 := hd 4 (by simp)
          clear hd
          generalize us 4 = u4 at *
          obtain rfl : u4 = .pointer (some ⟨b2, o2 + k * 2, none⟩) := h4
          refine web_of_list 32 rfl (by simp [Act.put]) rfl ?_
          go_wp2_with fail
          exact ⟨Ext.refl _, rfl⟩
        simp only [Act.put, List.setIfInBounds_toArray, List.set_cons_zero, List.set_cons_succ]
        rw [webWalk]
        refine And.intro (fun w' hx hd => ?_) ?_
        · have h5 := hd 5 (by simp)
          clear hd
          generalize us 5 = u5 at *
          obtain rfl : u5 = .pointer (some ⟨b2, o2 + k * 2 + 1, none⟩) := h5
          have e2x := hx.keep e2
          refine web_of_list 33 rfl (by simp [Act.put]) rfl ?_
          go_wp2_with fail
          exact ⟨Ext.refl _, rfl⟩
        simp only [Act.put, List.setIfInBounds_toArray, List.set_cons_zero, List.set_cons_succ]
        rw [webWalk]
        refine And.intro (fun w' hx hd => ?_) ?_
        · have h0 := hd 0 (by simp)
          have h1 := hd 1 (by simp)
          have h6 := hd 6 (by simp)
          clear hd
          generalize us 0 = u0 at *
          generalize us 1 = u1 at *
          generalize us 6 = u6 at *
          obtain rfl : u0 = .agg (drvC eb ep E.left) := h0
          obtain rfl : u1 = .int .i64 (33 + (q : Int)) := h1
          obtain rfl : u6 = .string (str y2) := h6
          have HPx := Lib.hid (HP.out w' (by have h1 := hx.size; have h2 := xk.size; omega) ⟨eb, ep, rfl, kb.ext hx, kp.ext hx⟩)
          refine web_of_list 34 rfl (by simp [Act.put]) rfl ?_
          go_wp2_with (go_at_call 81; refine HPx.out.mono ?_; rintro e w3 ⟨v3, rfl, d3, x3⟩)
          exact ⟨v3, rfl, d3⟩
        simp only [Act.put, List.setIfInBounds_toArray, List.set_cons_zero, List.set_cons_succ]
        rw [webWalk]
        refine And.intro (fun w' hx hd => ?_) ?_
        · have h7 := hd 7 (by simp)
          clear hd
          generalize us 7 = u7 at *
          obtain ⟨v3, rfl, d3⟩ := h7
          refine web_of_list 26 rfl (by simp [Act.put]) rfl ?_
          go_wp2_with fail
          exact ⟨Ext.refl _, v3, rfl, d3⟩
        simp only [Act.put, List.setIfInBounds_toArray, List.set_cons_zero, List.set_cons_succ]
        rw [webWalk]
        refine And.intro (fun w' hx hd => ?_) ?_
        · have h8 := hd 8 (by simp)
          clear hd
          generalize us 8 = u8 at *
          obtain ⟨v3, rfl, d3⟩ := h8
          refine web_of_list 35 rfl (by simp [Act.put]) rfl ?_
          go_wp2_with fail
          exact ⟨Ext.refl _, d3⟩
        simp only [Act.put, List.setIfInBounds_toArray, List.set_cons_zero, List.set_cons_succ]
        rw [webWalk]
        refine And.intro (fun w' hx hd => ?_) ?_
        · have h8 := hd 8 (by simp)
          clear hd
          generalize us 8 = u8 at *
          obtain ⟨v3, rfl, d3⟩ := h8
          refine web_of_list 36 rfl (by simp [Act.put]) rfl ?_
          go_wp2_with fail
          exact ⟨Ext.refl _, rfl⟩
        simp only [Act.put, List.setIfInBounds_toArray, List.set_cons_zero, List.set_cons_succ]
        rw [webWalk]
        refine And.intro (fun w' hx hd => ?_) ?_
        · clear hd
          refine web_of_list 10 rfl (by simp [Act.put]) rfl ?_
          go_wp2_with fail
          exact ⟨(Ext.refl _).alloc _, _, rfl, Box.new _ _ _, hx.size⟩
        simp only [Act.put, List.setIfInBounds_toArray, List.set_cons_zero, List.set_cons_succ]
        rw [webWalk]
        · intro o ho w' hx hv
          injection ho with ho
          subst ho
          have h9 := hv 9 (by omega)
          have h10 := hv 10 (by omega)
          have h11 := hv 11 (by omega)
          clear hv
          generalize us 0 = u0 at *
          generalize us 1 = u1 at *
          generalize us 2 = u2 at *
          generalize us 3 = u3 at *
          generalize us 4 = u4 at *
          generalize us 5 = u5 at *
          generalize us 6 = u6 at *
          generalize us 7 = u7 at *
          generalize us 8 = u8 at *
          generalize us 9 = u9 at *
          generalize us 10 = u10 at *
          generalize us 11 = u11 at *
          obtain ⟨bl9, pe9, rfl, k91, k92⟩ := h9
          obtain rfl : u10 = .int .i64 er := h10
          obtain ⟨gd, rfl, b11, hgd⟩ := h11
          have hrl := rk.lt
          have x12 := xk.trans hx
          have bk12 := bk.ext hx
          have rk12 := rk.ext hx
          clear HP bk rk xk kb kp e1 e2
          refine ⟨w'.setRow gd (drvC bl9 pe9 E'.left), run_st_drv _ _ _ (.tmp 10) (.tmp 35) rfl gd bl9 pe9 E'.left _ _ rfl rfl b11 rfl, ?_⟩
          have b13 := setRow_box (ds := drvC bl9 pe9 E'.left) b11
          have g13 := setRow_grown w' gd (drvC bl9 pe9 E'.left)
          generalize w'.setRow gd (drvC bl9 pe9 E'.left) = w13 at *
          go_upto_region 8 with fail
          have k15 := k91.grown (by decide) b11 g13
          have k25 := k92.grown (by decide) b11 g13
          have bk13 := bk12.grown g13 (by intro e; injection e with e; omega)
          have rk13 := rk12.grown g13 (by intro e; injection e with e; omega)
          have x13 := x12.grown g13 (fun j e => by cases e; omega)
          clear g13 b11 bk12 rk12 x12 k91 k92 hx
          rcases HER.out with he | he
          · subst he
            have hS := HS.out
            rw [if_pos rfl] at hS
            have HS2 := Lib.hid hS
            clear hS HS HER
            go_wp2_with (first
              | (refine wp_ld_drv (.tmp 10) rfl rfl gd _ _ rfl b13 rfl ?_)
              | (refine wp_st_drv (.tmp 3) (.tmp 37) rfl rfl G bl9 pe9 _ _ 28 rfl rfl bk13 rfl ?_; intro w6 b6 g6))
            have rk6 := rk13.grown g6 (by intro e; injection e with e; omega)
            have k16 := k15.grown (by decide) bk13 g6
            have k26 := k25.grown (by decide) bk13 g6
            have x6 := x13.grown g6 (fun j e => by cases e; omega)
            go_roundw
            case rel => exact ⟨k + 1, E', bl9, pe9, by omega, by go_num, b6, k16, k26, rk6, x6, HS2.out, by rw [H1.out, hEl], by have := H2.out; omega, H3.out⟩
            case measure => simp [intOf]; omega
          · subst he
            have hS := HS.out
            rw [if_neg (by decide)] at hS
            have HS2 := Lib.hid hS
            clear hS HS HER
            go_wp2_with (first
              | (refine wp_ld_drv (.tmp 10) rfl rfl gd _ _ rfl b13 rfl ?_)
              | (refine wp_st_drv (.tmp 3) (.tmp 37) rfl rfl G bl9 pe9 _ _ 28 rfl rfl bk13 rfl ?_; intro w6 b6 g6; have rk6 := rk13.grown g6 (by intro e; injection e with e; omega))
              | (refine wp_ld_drv (.tmp 3) rfl rfl G _ _ rfl b6 rfl ?_)
              | (refine wp_st_drv (.tmp 6) (.tmp 40) rfl rfl (G + 1) bl9 pe9 _ _ 28 rfl rfl rk6 rfl ?_; intro w7 b7 g7))
            have k16 := k15.grown (by decide) bk13 g6
            have k26 := k25.grown (by decide) bk13 g6
            have x6 := x13.grown g6 (fun j e => by cases e; omega)
            refine bodyPost_ret (results_cell2 rfl _ _ (G + 1) _ _ _ (.int .i64 17) rfl rfl b7 Tryz.underlying28 rfl drvSize) rfl ?_
            rw [HS2.out]
            exact ⟨_, rfl, ⟨bl9, pe9, rfl, k16.grown (by decide) rk6 g7, k26.grown (by decide) rk6 g7⟩, x6.grown g7 (fun j e => by cases e; omega)⟩

      | false =>
        have HC : (putC false l)[k]? = some (.put (1 + k) l[k].2) := by
          exact putsC_at l 1 k hlt
        have HS := Lib.hid (show doneP D (putC false l) = if (stepP E (.put (1 + k) l[k].2)).2 = 0 then doneP (stepP E (.put (1 + k) l[k].2)).1 ((putC false l).drop (k + 1)) else stepP E (.put (1 + k) l[k].2) by
          have hkl : k < (putC false l).length := by rw [putC_len]; exact hlt
          have hg : (putC false l)[k] = .put (1 + k) l[k].2 := by rw [List.getElem?_eq_getElem hkl] at HC; exact Option.some.inj HC
          rw [HD.out, done_drop hkl, hg])
        rw [hq] at e1
        clear HC hq HD
        generalize l[k].2 = y2 at *
        have HER := Lib.hid (step_err E (.put (1 + k) y2))
        have H1 := Lib.hid (step_len E (.put (1 + k) y2))
        have H2 := Lib.hid (step_pe E (.put (1 + k) y2))
        have H3 := Lib.hid (step_left E (.put (1 + k) y2) hEL)
        have HP := Lib.hid (fun w h0 h => rdput_any B0 E (.agg (drvC eb ep E.left)) (1 + k) y2 w h0 h (by omega) hy2 (by omega) hEL)
        have hst : putDP E ((1 + k : Nat) : Int) y2 = stepP E (.put (1 + k) y2) := rfl
        rw [hst, show ((1 + k : Nat) : Int) = (k : Int) + 1 by omega] at HP
        clear hst
        generalize stepP E (.put (1 + k) y2) = R at *
        obtain ⟨E', er⟩ := R
        simp only at H1 H2 H3 HER HS
        go_upto_region 7 with fail
        refine wp_region_late 12 10 [[], [], [], [], [2, 3], [4], [5], [0, 1, 6], [7], [8], [8], []] (listV [isV (.agg (drvC eb ep E.left)), isV (.int .i64 ((k : Int) + 1)), isV (.slice (some ⟨b2, o2, none⟩) l.length c), isV (.int .i64 (k : Int)), isV (.pointer (some ⟨b2, o2 + k * 2, none⟩)), isV (.pointer (some ⟨b2, o2 + k * 2 + 1, none⟩)), isV (.string (str y2)), pairV B0 E' er, pairV B0 E' er, drvV B0 E', isV (.int .i64 er), zdV wr.heap.size]) (by kernel_rfl) (by kernel_rfl) (listV_ext (fun p hp => by simp only [List.mem_cons, List.not_mem_nil, or_false] at hp; rcases hp with rfl | rfl | rfl | rfl | rfl | rfl | rfl | rfl | rfl | rfl | rfl | rfl <;> first | exact lasts_drv _ _ | exact lasts_is _ | exact lasts_pair _ _ _ | exact lasts_zd _)) ?_ (fun us => ?_)
        · intro o ho us w' hx hd
          injection ho with ho
          subst ho
          obtain ⟨v3, e4, d3⟩ : pairV B0 E' er w' (us 8) := hd 8 (by simp)
          refine ⟨.int .i64 er, fun w'' => ?_, show isV (.int .i64 er) w' (.int .i64 er) from rfl⟩
          simp only [List.take_succ_cons, List.take_zero, putsL, Act.put]
          simp [execOp, Act.eval, Instr.extract, e4]
        simp only [List.take_succ_cons, List.take_zero, List.drop_succ_cons, List.drop_zero]
        rw [webWalk]
        refine And.intro (fun w' hx hd => ?_) ?_
        · clear hd
          have bx := bk.ext hx
          refine web_of_list 27 rfl (by simp) rfl ?_
          go_wp2_with (refine wp_ld_drv (.tmp 3) rfl rfl G _ _ rfl bx rfl ?_)
          exact ⟨Ext.refl _, rfl⟩
        simp only [Act.put, List.setIfInBounds_toArray, List.set_cons_zero, List.set_cons_succ]
        rw [webWalk]
        refine And.intro (fun w' hx hd => ?_) ?_
        · clear hd
          refine web_of_list 28 rfl (by simp [Act.put]) rfl ?_
          go_wp2_with fail
          exact ⟨Ext.refl _, rfl⟩
        simp only [Act.put, List.setIfInBounds_toArray, List.set_cons_zero, List.set_cons_succ]
        rw [webWalk]
        refine And.intro (fun w' hx hd => ?_) ?_
        · clear hd
          refine web_of_list 29 rfl (by simp [Act.put]) rfl ?_
          go_wp2_with fail
          exact ⟨Ext.refl _, rfl⟩
        simp only [Act.put, List.setIfInBounds_toArray, List.set_cons_zero, List.set_cons_succ]
        rw [webWalk]
        refine And.intro (fun w' hx hd => ?_) ?_
        · clear hd
          refine web_of_list 30 rfl (by simp [Act.put]) rfl ?_
          go_wp2_with fail
          exact ⟨Ext.refl _, rfl⟩
        simp only [Act.put, List.setIfInBounds_toArray, List.set_cons_zero, List.set_cons_succ]
        rw [webWalk]
        refine And.intro (fun w' hx hd => ?_) ?_
        · have h2 := hd 2 (by simp)
          have h3 := hd 3 (by simp)
          clear hd
          generalize us 2 = u2 at *
          generalize us 3 = u3 at *
          obtain rfl : u2 = .slice (some ⟨b2, o2, none⟩) l.length c := h2
          obtain rfl : u3 = .int .i64 (k : Int) := h3
          refine web_of_list 31 rfl (by simp [Act.put]) rfl ?_
          go_wp2_with fail
          exact ⟨Ext.refl _, rfl⟩
        simp only [Act.put, List.setIfInBounds_toArray, List.set_cons_zero, List.set_cons_succ]
        rw [webWalk]
        refine And.intro (fun w' hx hd => ?_) ?_
        · have h4 := hd 4 (by simp)
          clear hd
          generalize us 4 = u4 at *
          obtain rfl : u4 = .pointer (some ⟨b2, o2 + k * 2, none⟩) := h4
          refine web_of_list 32 rfl (by simp [Act.put]) rfl ?_
          go_wp2_with fail
          exact ⟨Ext.refl _, rfl⟩
        simp only [Act.put, List.setIfInBounds_toArray, List.set_cons_zero, List.set_cons_succ]
        rw [webWalk]
        refine And.intro (fun w' hx hd => ?_) ?_
        · have h5 := hd 5 (by simp)
          clear hd
          generalize us 5 = u5 at *
          obtain rfl : u5 = .pointer (some ⟨b2, o2 + k * 2 + 1, none⟩) := h5
          have e2x := hx.keep e2
          refine web_of_list 33 rfl (by simp [Act.put]) rfl ?_
          go_wp2_with fail
          exact ⟨Ext.refl _, rfl⟩
        simp only [Act.put, List.setIfInBounds_toArray, List.set_cons_zero, List.set_cons_succ]
        rw [webWalk]
        refine And.intro (fun w' hx hd => ?_) ?_
        · have h0 := hd 0 (by simp)
          have h1 := hd 1 (by simp)
          have h6 := hd 6 (by simp)
          clear hd
          generalize us 0 = u0 at *
          generalize us 1 = u1 at *
          generalize us 6 = u6 at *
          obtain rfl : u0 = .agg (drvC eb ep E.left) := h0
          obtain rfl : u1 = .int .i64 ((k : Int) + 1) := h1
          obtain rfl : u6 = .string (str y2) := h6
          have HPx := Lib.hid (HP.out w' (by have h1 := hx.size; have h2 := xk.size; omega) ⟨eb, ep, rfl, kb.ext hx, kp.ext hx⟩)
          refine web_of_list 34 rfl (by simp [Act.put]) rfl ?_
          go_wp2_with (go_at_call 81; refine HPx.out.mono ?_; rintro e w3 ⟨v3, rfl, d3, x3⟩)
          exact ⟨v3, rfl, d3⟩
        simp only [Act.put, List.setIfInBounds_toArray, List.set_cons_zero, List.set_cons_succ]
        rw [webWalk]
        refine And.intro (fun w' hx hd => ?_) ?_
        · have h7 := hd 7 (by simp)
          clear hd
          generalize us 7 = u7 at *
          obtain ⟨v3, rfl, d3⟩ := h7
          refine web_of_list 26 rfl (by simp [Act.put]) rfl ?_
          go_wp2_with fail
          exact ⟨Ext.refl _, v3, rfl, d3⟩
        simp only [Act.put, List.setIfInBounds_toArray, List.set_cons_zero, List.set_cons_succ]
        rw [webWalk]
        refine And.intro (fun w' hx hd => ?_) ?_
        · have h8 := hd 8 (by simp)
          clear hd
          generalize us 8 = u8 at *
          obtain ⟨v3, rfl, d3⟩ := h8
          refine web_of_list 35 rfl (by simp [Act.put]) rfl ?_
          go_wp2_with fail
          exact ⟨Ext.refl _, d3⟩
        simp only [Act.put, List.setIfInBounds_toArray, List.set_cons_zero, List.set_cons_succ]
        rw [webWalk]
        refine And.intro (fun w' hx hd => ?_) ?_
        · have h8 := hd 8 (by simp)
          clear hd
          generalize us 8 = u8 at *
          obtain ⟨v3, rfl, d3⟩ := h8
          refine web_of_list 36 rfl (by simp [Act.put]) rfl ?_
          go_wp2_with fail
          exact ⟨Ext.refl _, rfl⟩
        simp only [Act.put, List.setIfInBounds_toArray, List.set_cons_zero, List.set_cons_succ]
        rw [webWalk]
        refine And.intro (fun w' hx hd => ?_) ?_
        · clear hd
          refine web_of_list 10 rfl (by simp [Act.put]) rfl ?_
          go_wp2_with fail
          exact ⟨(Ext.refl _).alloc _, _, rfl, Box.new _ _ _, hx.size⟩
        simp only [Act.put, List.setIfInBounds_toArray, List.set_cons_zero, List.set_cons_succ]
        rw [webWalk]
        · intro o ho w' hx hv
          injection ho with ho
          subst ho
          have h9 := hv 9 (by omega)
          have h10 := hv 10 (by omega)
          have h11 := hv 11 (by omega)
          clear hv
          generalize us 0 = u0 at *
          generalize us 1 = u1 at *
          generalize us 2 = u2 at *
          generalize us 3 = u3 at *
          generalize us 4 = u4 at *
          generalize us 5 = u5 at *
          generalize us 6 = u6 at *
          generalize us 7 = u7 at *
          generalize us 8 = u8 at *
          generalize us 9 = u9 at *
          generalize us 10 = u10 at *
          generalize us 11 = u11 at *
          obtain ⟨bl9, pe9, rfl, k91, k92⟩ := h9
          obtain rfl : u10 = .int .i64 er := h10
          obtain ⟨gd, rfl, b11, hgd⟩ := h11
          have hrl := rk.lt
          have x12 := xk.trans hx
          have bk12 := bk.ext hx
          have rk12 := rk.ext hx
          clear HP bk rk xk kb kp e1 e2
          refine ⟨w'.setRow gd (drvC bl9 pe9 E'.left), run_st_drv _ _ _ (.tmp 10) (.tmp 35) rfl gd bl9 pe9 E'.left _ _ rfl rfl b11 rfl, ?_⟩
          have b13 := setRow_box (ds := drvC bl9 pe9 E'.left) b11
          have g13 := setRow_grown w' gd (drvC bl9 pe9 E'.left)
          generalize w'.setRow gd (drvC bl9 pe9 E'.left) = w13 at *
          go_upto_region 8 with fail
          have k15 := k91.grown (by decide) b11 g13
          have k25 := k92.grown (by decide) b11 g13
          have bk13 := bk12.grown g13 (by intro e; injection e with e; omega)
          have rk13 := rk12.grown g13 (by intro e; injection e with e; omega)
          have x13 := x12.grown g13 (fun j e => by cases e; omega)
          clear g13 b11 bk12 rk12 x12 k91 k92 hx
          rcases HER.out with he | he
          · subst he
            have hS := HS.out
            rw [if_pos rfl] at hS
            have HS2 := Lib.hid hS
            clear hS HS HER
            go_wp2_with (first
              | (refine wp_ld_drv (.tmp 10) rfl rfl gd _ _ rfl b13 rfl ?_)
              | (refine wp_st_drv (.tmp 3) (.tmp 37) rfl rfl G bl9 pe9 _ _ 28 rfl rfl bk13 rfl ?_; intro w6 b6 g6))
            have rk6 := rk13.grown g6 (by intro e; injection e with e; omega)
            have k16 := k15.grown (by decide) bk13 g6
            have k26 := k25.grown (by decide) bk13 g6
            have x6 := x13.grown g6 (fun j e => by cases e; omega)
            go_roundw
            case rel => exact ⟨k + 1, E', bl9, pe9, by omega, by go_num, b6, k16, k26, rk6, x6, HS2.out, by rw [H1.out, hEl], by have := H2.out; omega, H3.out⟩
            case measure => simp [intOf]; omega
          · subst he
            have hS := HS.out
            rw [if_neg (by decide)] at hS
            have HS2 := Lib.hid hS
            clear hS HS HER
            go_wp2_with (first
              | (refine wp_ld_drv (.tmp 10) rfl rfl gd _ _ rfl b13 rfl ?_)
              | (refine wp_st_drv (.tmp 3) (.tmp 37) rfl rfl G bl9 pe9 _ _ 28 rfl rfl bk13 rfl ?_; intro w6 b6 g6; have rk6 := rk13.grown g6 (by intro e; injection e with e; omega))
              | (refine wp_ld_drv (.tmp 3) rfl rfl G _ _ rfl b6 rfl ?_)
              | (refine wp_st_drv (.tmp 6) (.tmp 40) rfl rfl (G + 1) bl9 pe9 _ _ 28 rfl rfl rk6 rfl ?_; intro w7 b7 g7))
            have k16 := k15.grown (by decide) bk13 g6
            have k26 := k25.grown (by decide) bk13 g6
            have x6 := x13.grown g6 (fun j e => by cases e; omega)
            refine bodyPost_ret (results_cell2 rfl _ _ (G + 1) _ _ _ (.int .i64 17) rfl rfl b7 Tryz.underlying28 rfl drvSize) rfl ?_
            rw [HS2.out]
            exact ⟨_, rfl, ⟨bl9, pe9, rfl, k16.grown (by decide) rk6 g7, k26.grown (by decide) rk6 g7⟩, x6.grown g7 (fun j e => by cases e; omega)⟩

    · obtain rfl : k = l.length := by omega
      have hS : doneP D (putC own l) = (E, 0) := by rw [HD.out, List.drop_of_length_le (by rw [putC_len]; exact Nat.le_refl _)]; rfl
      have HS2 := Lib.hid hS
      clear hS HD
      go_wp2_with (first
        | (refine wp_ld_drv (.tmp 3) rfl rfl G _ _ rfl bk rfl ?_)
        | (refine wp_st_drv (.tmp 6) (.tmp 43) rfl rfl (G + 1) eb ep _ _ 28 rfl rfl rk rfl ?_; intro w7 b7 g7))
      refine bodyPost_ret (results_cell2 rfl _ _ (G + 1) _ _ _ (.int .i64 0) rfl rfl b7 Tryz.underlying28 rfl drvSize) rfl ?_
      rw [HS2.out]
      exact ⟨_, rfl, ⟨eb, ep, rfl, kb.grown (by decide) rk g7, kp.grown (by decide) rk g7⟩, xk.grown g7 (fun j e => by cases e; omega)⟩
end Go.Proofs.YtkokmnaicfdjaaaGreatDoor
/- Writes put to their blocks, for sure, by the document. -/
namespace Go.Proofs.YtkokmnaicfdjaaaGreatDoor
set_option linter.unusedVariables false
set_option linter.unusedSimpArgs false
open Go.RowKit

theorem done_app (a b : List CallD) : ∀ D : DrvD, doneP D (a ++ b) = if (doneP D a).2 = 0 then doneP (doneP D a).1 b else doneP D a := by
  induction a with
  | nil => intro D; rfl
  | cons c a ih =>
    intro D
    rw [List.cons_append, doneP, doneP]
    split
    · exact ih _
    · rfl
theorem done_err (cs : List CallD) : ∀ D : DrvD, (doneP D cs).2 = 0 ∨ (doneP D cs).2 = 17 := by
  induction cs with
  | nil => intro D; exact .inl rfl
  | cons c cs ih =>
    intro D
    rw [doneP]
    split
    · exact ih _
    · exact step_err D c
theorem done_len (cs : List CallD) : ∀ D : DrvD, (doneP D cs).1.bl.length = D.bl.length := by
  induction cs with
  | nil => intro D; rfl
  | cons c cs ih =>
    intro D
    rw [doneP]
    split
    · rw [ih, step_len]
    · exact step_len D c
theorem done_pe (cs : List CallD) : ∀ D : DrvD, (doneP D cs).1.pe.length ≤ D.pe.length + cs.length := by
  induction cs with
  | nil => intro D; exact Nat.le_refl _
  | cons c cs ih =>
    intro D
    have := step_pe D c
    rw [doneP, List.length_cons]
    split
    · have := ih (stepP D c).1; omega
    · omega
theorem done_left (cs : List CallD) : ∀ D : DrvD, D.left ≤ 9223372036854775807 → (doneP D cs).1.left ≤ 9223372036854775807 := by
  induction cs with
  | nil => intro D h; exact h
  | cons c cs ih =>
    intro D h
    rw [doneP]
    split
    · exact ih _ (step_left D c h)
    · exact step_left D c h
theorem home_app (D : DrvD) (l : List WrT) : doneP D (homeC l) = if (doneP D (putC true l)).2 = 0 then flushDP (doneP D (putC true l)).1 else doneP D (putC true l) := by
  show doneP D (putC true l ++ [.flush]) = _
  rw [done_app]
  split
  · rw [doneP]
    split
    · rename_i h; rw [doneP]; exact Prod.ext rfl h.symm
    · rfl
  · rfl
set_option maxHeartbeats 1000000 in
set_option maxRecDepth 100000 in
theorem rhome16_any (B0 : Nat) (D : DrvD) (v : Value) (l : List WrT) (s : Sl) (w : World) (hB0 : B0 ≤ w.heap.size) (hv : drvV B0 D w v) (h : RowF B0 wrL 57 w s l) (hl : RiseW (D.bl.length - 33) l) (hpos : 33 < D.bl.length) (hp : D.pe.length ≤ 2000) (hb : D.bl.length ≤ 1000) (hL : D.left ≤ 9223372036854775807) :
    Calls Tryz.prog 84 #[v, .slice s.A s.n s.c] w fun e w' => ∃ v', e = .returned (.tuple #[v', .int .i64 (doneP D (homeC l)).2]) ∧ drvV B0 (doneP D (homeC l)).1 w' v' ∧ Ext w w' := by
  obtain ⟨bl, pe, rfl, kb, kp⟩ := hv
  have hl32 := hl.1
  have HE := Lib.hid (done_err (putC true l) D)
  have H1 := Lib.hid (done_len (putC true l) D)
  have H3 := Lib.hid (done_left (putC true l) D hL)
  have HA := Lib.hid (home_app D l)
  have HP := Lib.hid (fun w h0 h hr => rput16_any B0 true D (.agg (drvC bl pe D.left)) l s w h0 h hr hl hpos hp hb hL)
  have KB := Lib.hid kb
  have KP := Lib.hid kp
  have HR := Lib.hid h
  clear kb kp h hl
  generalize hleft : D.left = left at *
  have b0 := Box.new w 28 (drvC bl pe left)
  have r0 := Box.new (w.alloc (.cells (drvC bl pe left) 28)) 28 #[.slice none 0 0, .slice none 0 0, .int .i64 0]
  have x0 := ((Ext.refl w).alloc (.cells (drvC bl pe left) 28)).alloc (.cells #[.slice none 0 0, .slice none 0 0, .int .i64 0] 28)
  have b1 := b0.ext ((Ext.refl _).alloc (.cells #[.slice none 0 0, .slice none 0 0, .int .i64 0] 28))
  rw [World.size_alloc] at r0
  clear b0
  generalize doneP D (putC true l) = R at *
  obtain ⟨E, er⟩ := R
  simp only at HE H1 H3 HP HA
  go_enter Tryz.func84, Tryz.ntmps84
  go_upto_region 1 with fail
  change Code.wp _ _ _ _ ((w.alloc (.cells (drvC bl pe left) 28)).alloc (.cells #[.slice none 0 0, .slice none 0 0, .int .i64 0] 28))
  generalize (w.alloc (.cells (drvC bl pe left) 28)).alloc (.cells #[.slice none 0 0, .slice none 0 0, .int .i64 0] 28) = w1 at *
  generalize hG : w.heap.size = G at *
  go_upto_region 2 with (first
    | (refine wp_ld_drv (.tmp 2) rfl rfl G _ _ rfl b1 rfl ?_)
    | (go_at_call 80; refine (HP.out _ (by have := x0.size; omega) ⟨bl, pe, by rw [hleft]; rfl, KB.out.ext x0, KP.out.ext x0⟩ (HR.out.ext x0)).mono ?_; rintro e w2 ⟨v2, rfl, ⟨bl2, pe2, rfl, k1, k2⟩, x2⟩; have b2 := b1.ext x2; have r2 := r0.ext x2)
    | (refine wp_st_drv (.tmp 2) (.tmp 11) rfl rfl G bl2 pe2 _ _ 28 rfl rfl b2 rfl ?_; intro w3 b3 g3))
  have k13 := k1.grown (by decide) b2 g3
  have k23 := k2.grown (by decide) b2 g3
  have r3 := r2.grown g3 (by intro e; injection e with e; omega)
  have x3 := (x0.trans x2).grown g3 (fun j e => by cases e; omega)
  clear b1 r0 x0 x2 b2 r2 g3 k1 k2 HP KB KP HR
  rcases HE.out with he | he
  · subst he
    have hS := HA.out
    rw [if_pos rfl] at hS
    have HS := Lib.hid hS
    clear hS HA HE
    have HF2 := Lib.hid (rdflush_any B0 E (.agg (drvC bl2 pe2 E.left)) w3 (by have := x3.size; omega) ⟨bl2, pe2, rfl, k13, k23⟩ (by rw [H1.out]; omega) H3.out)
    go_wp2_with (first
      | (refine wp_ld_drv (.tmp 2) rfl rfl G _ _ rfl b3 rfl ?_)
      | (go_at_call 83; refine HF2.out.mono ?_; rintro e w4 ⟨v4, rfl, ⟨bl4, pe4, rfl, k14, k24⟩, x4⟩; have r4 := r3.ext x4)
      | (refine wp_st_drv (.tmp 4) (.tmp 19) rfl rfl (G + 1) bl4 pe4 _ _ 28 rfl rfl r4 rfl ?_; intro w5 b5 g5))
    refine bodyPost_ret (results_cell2 rfl _ _ (G + 1) _ _ _ (.int .i64 (flushDP E).2) rfl rfl b5 Tryz.underlying28 rfl drvSize) rfl ?_
    rw [HS.out]
    exact ⟨_, rfl, ⟨bl4, pe4, rfl, k14.grown (by decide) r4 g5, k24.grown (by decide) r4 g5⟩, (x3.trans x4).grown g5 (fun j e => by cases e; omega)⟩
  · subst he
    have hS := HA.out
    rw [if_neg (by decide)] at hS
    have HS := Lib.hid hS
    clear hS HA HE
    go_wp2_with (first
      | (refine wp_ld_drv (.tmp 2) rfl rfl G _ _ rfl b3 rfl ?_)
      | (refine wp_st_drv (.tmp 4) (.tmp 15) rfl rfl (G + 1) bl2 pe2 _ _ 28 rfl rfl r3 rfl ?_; intro w5 b5 g5))
    refine bodyPost_ret (results_cell2 rfl _ _ (G + 1) _ _ _ (.int .i64 17) rfl rfl b5 Tryz.underlying28 rfl drvSize) rfl ?_
    rw [HS.out]
    exact ⟨_, rfl, ⟨bl2, pe2, rfl, k13.grown (by decide) r3 g5, k23.grown (by decide) r3 g5⟩, x3.grown g5 (fun j e => by cases e; omega)⟩
end Go.Proofs.YtkokmnaicfdjaaaGreatDoor
/- Blocks written, all or none, by the document. -/
namespace Go.Proofs.YtkokmnaicfdjaaaGreatDoor
set_option linter.unusedVariables false
set_option linter.unusedSimpArgs false
open Go.RowKit

theorem commit_app (D : DrvD) (l : List WrT) : doneP D (commitC l) =
    if (doneP D (putC false l)).2 = 0 then
      if (stepP (doneP D (putC false l)).1 (.put 0 (headP l))).2 = 0 then
        if (stepP (stepP (doneP D (putC false l)).1 (.put 0 (headP l))).1 .flush).2 = 0 then doneP (stepP (stepP (doneP D (putC false l)).1 (.put 0 (headP l))).1 .flush).1 (homeC l)
        else stepP (stepP (doneP D (putC false l)).1 (.put 0 (headP l))).1 .flush
      else stepP (doneP D (putC false l)).1 (.put 0 (headP l))
    else doneP D (putC false l) := by
  show doneP D (putC false l ++ [.put 0 (headP l), .flush] ++ homeC l) = _
  rw [List.append_assoc, done_app]
  rfl
set_option maxHeartbeats 1000000 in
set_option maxRecDepth 100000 in
theorem rcommit_any (B0 : Nat) (D : DrvD) (v : Value) (l : List WrT) (s : Sl) (w : World) (hB0 : B0 ≤ w.heap.size) (hv : drvV B0 D w v) (h : RowF B0 wrL 57 w s l) (hj : jrnE D.bl D.pe = 0) (hl : RiseW (D.bl.length - 33) l) (hp : D.pe.length ≤ 1000) (hb : D.bl.length ≤ 1000) (hpos : 33 < D.bl.length) (hL : D.left ≤ 9223372036854775807) :
    Calls Tryz.prog 37 #[v, .slice s.A s.n s.c] w fun e w' => ∃ v', e = .returned (.tuple #[v', .int .i64 (commitP D l).2]) ∧ drvV B0 (commitP D l).1 w' v' ∧ Ext w w' := by
  obtain ⟨bl, pe, rfl, kb, kp⟩ := hv
  have hn : s.n = l.length := h.k.row.1
  have hl32 := hl.1
  have hW := hl.wrsIn (by omega)
  have HLn := Lib.hid hl
  have HP1 := Lib.hid (fun w h0 h hr => rput16_any B0 false D (.agg (drvC bl pe D.left)) l s w h0 h hr hl hpos (by omega) hb hL)
  have HE1 := Lib.hid (done_err (putC false l) D)
  have HN1 := Lib.hid (done_len (putC false l) D)
  have HQ1 := Lib.hid (done_pe (putC false l) D)
  rw [putC_len] at HQ1
  have HL1 := Lib.hid (done_left (putC false l) D hL)
  have HA := Lib.hid (commit_app D l)
  have HJB := Lib.hid (fun w h1 h2 => rbad_any bl.A pe.A bl.n bl.c pe.n pe.c D.left D.bl D.pe w h1 h2 (by have := kp.k.small; omega))
  rw [hj] at HJB
  have hbs := kb.k.small
  have hbn : bl.n = D.bl.length := kb.k.row.1
  have HM := Lib.hid (fun w h => rmay_any B0 l s (D.bl.length - 33) w h hl)
  rw [show ((D.bl.length - 33 : Nat) : Int) = (bl.n : Int) - 33 by omega] at HM
  have KB := Lib.hid kb
  have KP := Lib.hid kp
  have HR := Lib.hid h
  clear kb kp h hl hj
  obtain ⟨A, n, c⟩ := s
  simp only at *
  subst hn
  have hsm := HR.out.k.small
  simp only at hsm
  have HBN := Lib.hid hbn
  clear hbn
  generalize hleft : D.left = left at *
  have b0 := Box.new w 28 (drvC bl pe left)
  have r0 := Box.new (w.alloc (.cells (drvC bl pe left) 28)) 28 #[.slice none 0 0, .slice none 0 0, .int .i64 0]
  have x0 := ((Ext.refl w).alloc (.cells (drvC bl pe left) 28)).alloc (.cells #[.slice none 0 0, .slice none 0 0, .int .i64 0] 28)
  have b1 := b0.ext ((Ext.refl _).alloc (.cells #[.slice none 0 0, .slice none 0 0, .int .i64 0] 28))
  rw [World.size_alloc] at r0
  clear b0
  go_enter Tryz.func37, Tryz.ntmps37
  go_upto_region 1 with fail
  change Code.wp _ _ _ _ ((w.alloc (.cells (drvC bl pe left) 28)).alloc (.cells #[.slice none 0 0, .slice none 0 0, .int .i64 0] 28))
  generalize (w.alloc (.cells (drvC bl pe left) 28)).alloc (.cells #[.slice none 0 0, .slice none 0 0, .int .i64 0] 28) = w1 at *
  generalize hG : w.heap.size = G at *
  go_upto_region 5 with (first
    | (refine wp_ld_drv (.tmp 2) rfl rfl G _ _ rfl b1 rfl ?_)
    | (go_at_call 60; refine (HJB.out _ (KB.out.ext x0).k.row.strs (KP.out.ext x0).k.row.wrs).mono ?_; rintro e w4 ⟨rfl, x4⟩; have c0 : w4.cell? ⟨G, 0, none⟩ = some (.slice bl.A bl.n bl.c) := (b1.ext x4).cell 0)
    | (go_at_call 79; refine (HM.out _ ((HR.out.ext x0).ext x4)).mono ?_; rintro e w5 ⟨rfl, x5⟩))
  have x45 := x4.trans x5
  have xx := x0.trans x45
  have b5 := b1.ext x45
  have r5 := r0.ext x45
  clear b1 r0 x0 x4 x5 x45 c0 HJB HM
  by_cases hl0 : l = []
  · subst hl0
    have hP := Lib.hid (show commitP D [] = (D, 0) from rfl)
    go_wp2_with (first
      | (refine wp_ld_drv (.tmp 2) rfl rfl G _ _ rfl b5 rfl ?_)
      | (refine wp_st_drv (.tmp 4) (.tmp 26) rfl rfl (G + 1) bl pe left _ 28 rfl rfl r5 rfl ?_; intro w7 b7 g7))
    refine bodyPost_ret (results_cell2 rfl _ _ (G + 1) _ _ _ (.int .i64 0) rfl rfl b7 Tryz.underlying28 rfl drvSize) rfl ?_
    rw [hP.out]
    exact ⟨_, rfl, ⟨bl, pe, by rw [hleft]; rfl, (KB.out.ext xx).grown (by decide) r5 g7, (KP.out.ext xx).grown (by decide) r5 g7⟩, xx.grown g7 (fun j e => by cases e; omega)⟩
  · have hP := Lib.hid (show commitP D l = doneP D (commitC l) by unfold commitP; rw [if_neg hl0])
    have hlp : 0 < l.length := List.length_pos_iff.2 hl0
    have hle : ((l.length : Int) == 0) = false := by simp; omega
    clear hl0
    rw [HA.out] at hP
    clear HA
    generalize doneP D (putC false l) = R1 at *
    obtain ⟨E1, er1⟩ := R1
    simp only at HE1 HN1 HQ1 HL1 HP1 hP
    go_upto_region 8 with (first
      | (refine wp_ld_drv (.tmp 2) rfl rfl G _ _ rfl b5 rfl ?_)
      | (go_at_call 80; refine (HP1.out _ (by have := xx.size; omega) ⟨bl, pe, by rw [hleft]; rfl, KB.out.ext xx, KP.out.ext xx⟩ (HR.out.ext xx)).mono ?_; rintro e w6 ⟨v6, rfl, ⟨bl6, pe6, rfl, k16, k26⟩, x6⟩; have b6 := b5.ext x6; have r6 := r5.ext x6)
      | (refine wp_st_drv (.tmp 2) (.tmp 32) rfl rfl G bl6 pe6 _ _ 28 rfl rfl b6 rfl ?_; intro w7 b7 g7))
    have k17 := k16.grown (by decide) b6 g7
    have k27 := k26.grown (by decide) b6 g7
    have r7 := r6.grown g7 (by intro e; injection e with e; omega)
    have x7 := (xx.trans x6).grown g7 (fun j e => by cases e; omega)
    have hGlt : G + 1 < w7.heap.size := r7.lt
    clear b5 r5 xx x6 b6 r6 g7 k16 k26 HP1 KB KP
    rcases HE1.out with he | he
    · subst he
      have hP' := hP.out
      rw [if_pos rfl] at hP'
      have HPP := Lib.hid hP'
      clear hP' hP HE1
      have HE2 := Lib.hid (step_err E1 (.put 0 (headP l)))
      have HN2 := Lib.hid (step_len E1 (.put 0 (headP l)))
      have HQ2 := Lib.hid (step_pe E1 (.put 0 (headP l)))
      have HL2 := Lib.hid (step_left E1 (.put 0 (headP l)) HL1.out)
      have HPt := Lib.hid (fun w h0 h => rdput_any B0 E1 (.agg (drvC bl6 pe6 E1.left)) 0 (headP l) w h0 h (by rw [HN1.out]; omega) (headP_len hW) (by have := HQ1.out; omega) HL1.out)
      have hst : putDP E1 ((0 : Nat) : Int) (headP l) = stepP E1 (.put 0 (headP l)) := rfl
      rw [hst] at HPt
      clear hst
      have HHd := Lib.hid (fun w h => rhead16_any B0 l ⟨A, l.length, c⟩ w h hW hlp)
      generalize stepP E1 (.put 0 (headP l)) = R2 at *
      obtain ⟨E2, er2⟩ := R2
      simp only at HE2 HN2 HQ2 HL2 HPt HPP
      go_upto_region 10 with fail
      refine wp_region_late 7 6 [[], [], [1], [0, 2], [3], [4], [4]] (listV [isV (.agg (drvC bl6 pe6 E1.left)), isV (.slice A l.length c), isV (.string (str (headP l))), pairV B0 E2 er2, pairV B0 E2 er2, drvV B0 E2, isV (.int .i64 er2)]) (by kernel_rfl) (by kernel_rfl) (listV_ext (fun p hp => by simp only [List.mem_cons, List.not_mem_nil, or_false] at hp; rcases hp with rfl | rfl | rfl | rfl | rfl | rfl | rfl <;> first | exact lasts_drv _ _ | exact lasts_is _ | exact lasts_pair _ _ _)) ?_ (fun us => ?_)
      · intro o ho us w' hx hd
        injection ho with ho
        subst ho
        obtain ⟨v3, e4, d3⟩ : pairV B0 E2 er2 w' (us 4) := hd 4 (by simp)
        refine ⟨.int .i64 er2, fun w'' => ?_, show isV (.int .i64 er2) w' (.int .i64 er2) from rfl⟩
        simp only [List.take_succ_cons, List.take_zero, putsL, Act.put]
        simp [execOp, Act.eval, Instr.extract, e4]
      simp only [List.take_succ_cons, List.take_zero, List.drop_succ_cons, List.drop_zero]
      rw [webWalk]
      refine And.intro (fun w' hx hd => ?_) ?_
      · clear hd
        have bx := b7.ext hx
        refine web_of_list 39 rfl (by simp) rfl ?_
        go_wp2_with (refine wp_ld_drv (.tmp 2) rfl rfl G _ _ rfl bx rfl ?_)
        exact ⟨Ext.refl _, rfl⟩
      simp only [Act.put, List.setIfInBounds_toArray, List.set_cons_zero, List.set_cons_succ]
      rw [webWalk]
      refine And.intro (fun w' hx hd => ?_) ?_
      · clear hd
        refine web_of_list 40 rfl (by simp [Act.put]) rfl ?_
        go_wp2_with fail
        exact ⟨Ext.refl _, rfl⟩
      simp only [Act.put, List.setIfInBounds_toArray, List.set_cons_zero, List.set_cons_succ]
      rw [webWalk]
      refine And.intro (fun w' hx hd => ?_) ?_
      · have h1 := hd 1 (by simp)
        clear hd
        generalize us 1 = u1 at *
        obtain rfl : u1 = .slice A l.length c := h1
        refine web_of_list 41 rfl (by simp [Act.put]) rfl ?_
        go_wp2_with (go_at_call 82; refine (HHd.out _ (HR.out.ext (x7.trans hx))).mono ?_; rintro e w8 ⟨rfl, x8⟩)
        rfl
      simp only [Act.put, List.setIfInBounds_toArray, List.set_cons_zero, List.set_cons_succ]
      rw [webWalk]
      refine And.intro (fun w' hx hd => ?_) ?_
      · have h0 := hd 0 (by simp)
        have h2 := hd 2 (by simp)
        clear hd
        generalize us 0 = u0 at *
        generalize us 2 = u2 at *
        obtain rfl : u0 = .agg (drvC bl6 pe6 E1.left) := h0
        obtain rfl : u2 = .string (str (headP l)) := h2
        have HPx := Lib.hid (HPt.out w' (by have h1 := hx.size; have h2 := x7.size; omega) ⟨bl6, pe6, rfl, k17.ext hx, k27.ext hx⟩)
        refine web_of_list 42 rfl (by simp [Act.put]) rfl ?_
        go_wp2_with (go_at_call 81; refine HPx.out.mono ?_; rintro e w3 ⟨v3, rfl, d3, x3⟩)
        exact ⟨v3, rfl, d3⟩
      simp only [Act.put, List.setIfInBounds_toArray, List.set_cons_zero, List.set_cons_succ]
      rw [webWalk]
      refine And.intro (fun w' hx hd => ?_) ?_
      · have h3 := hd 3 (by simp)
        clear hd
        generalize us 3 = u3 at *
        obtain ⟨v3, rfl, d3⟩ := h3
        refine web_of_list 38 rfl (by simp [Act.put]) rfl ?_
        go_wp2_with fail
        exact ⟨Ext.refl _, v3, rfl, d3⟩
      simp only [Act.put, List.setIfInBounds_toArray, List.set_cons_zero, List.set_cons_succ]
      rw [webWalk]
      refine And.intro (fun w' hx hd => ?_) ?_
      · have h4 := hd 4 (by simp)
        clear hd
        generalize us 4 = u4 at *
        obtain ⟨v3, rfl, d3⟩ := h4
        refine web_of_list 43 rfl (by simp [Act.put]) rfl ?_
        go_wp2_with fail
        exact ⟨Ext.refl _, d3⟩
      simp only [Act.put, List.setIfInBounds_toArray, List.set_cons_zero, List.set_cons_succ]
      rw [webWalk]
      refine And.intro (fun w' hx hd => ?_) ?_
      · have h4 := hd 4 (by simp)
        clear hd
        generalize us 4 = u4 at *
        obtain ⟨v3, rfl, d3⟩ := h4
        refine web_of_list 44 rfl (by simp [Act.put]) rfl ?_
        go_wp2_with fail
        exact ⟨Ext.refl _, rfl⟩
      simp only [Act.put, List.setIfInBounds_toArray, List.set_cons_zero, List.set_cons_succ]
      rw [webWalk]
      · intro o ho w' hx hv
        injection ho with ho
        subst ho
        have h5 := hv 5 (by omega)
        have h6 := hv 6 (by omega)
        clear hv
        generalize us 0 = u0 at *
        generalize us 1 = u1 at *
        generalize us 2 = u2 at *
        generalize us 3 = u3 at *
        generalize us 4 = u4 at *
        generalize us 5 = u5 at *
        generalize us 6 = u6 at *
        obtain ⟨bl9, pe9, rfl, k91, k92⟩ := h5
        obtain rfl : u6 = .int .i64 er2 := h6
        have x12 := x7.trans hx
        have b12 := b7.ext hx
        have r12 := r7.ext hx
        clear HPt b7 r7 x7 k17 k27 hx
        refine ⟨w'.setRow G (drvC bl9 pe9 E2.left), run_st_drv _ _ _ (.tmp 2) (.tmp 43) rfl G bl9 pe9 E2.left _ _ rfl rfl b12 rfl, ?_⟩
        have b13 := setRow_box (ds := drvC bl9 pe9 E2.left) b12
        have g13 := setRow_grown w' G (drvC bl9 pe9 E2.left)
        generalize w'.setRow G (drvC bl9 pe9 E2.left) = w13 at *
        go_upto_region 11 with fail
        have k93 := k91.grown (by decide) b12 g13
        have k94 := k92.grown (by decide) b12 g13
        have r13 := r12.grown g13 (by intro e; injection e with e; omega)
        have x13 := x12.grown g13 (fun j e => by cases e; omega)
        clear b12 r12 x12 g13 k91 k92
        rcases HE2.out with he | he
        · subst he
          have hP' := HPP.out
          rw [if_pos rfl] at hP'
          have HP3 := Lib.hid hP'
          clear hP' HPP HE2
          have HE3 := Lib.hid (step_err E2 .flush)
          have HN3 := Lib.hid (step_len E2 .flush)
          have HQ3 := Lib.hid (step_pe E2 .flush)
          have HL3 := Lib.hid (step_left E2 .flush HL2.out)
          have HF := Lib.hid (rdflush_any B0 E2 (.agg (drvC bl9 pe9 E2.left)) w13 (by have := x13.size; omega) ⟨bl9, pe9, rfl, k93, k94⟩ (by rw [HN2.out, HN1.out]; omega) HL2.out)
          have hst : flushDP E2 = stepP E2 .flush := rfl
          rw [hst] at HF
          clear hst
          generalize stepP E2 .flush = R3 at *
          obtain ⟨E3, er3⟩ := R3
          simp only at HE3 HN3 HQ3 HL3 HF HP3
          go_upto_region 14 with (first
            | (refine wp_ld_drv (.tmp 2) rfl rfl G _ _ rfl b13 rfl ?_)
            | (go_at_call 83; refine HF.out.mono ?_; rintro e w14 ⟨v14, rfl, ⟨bl14, pe14, rfl, k114, k214⟩, x14⟩; have b14 := b13.ext x14; have r14 := r13.ext x14)
            | (refine wp_st_drv (.tmp 2) (.tmp 52) rfl rfl G bl14 pe14 _ _ 28 rfl rfl b14 rfl ?_; intro w15 b15 g15))
          have k15 := k114.grown (by decide) b14 g15
          have k25 := k214.grown (by decide) b14 g15
          have r15 := r14.grown g15 (by intro e; injection e with e; omega)
          have x15 := (x13.trans x14).grown g15 (fun j e => by cases e; omega)
          clear b13 r13 x13 x14 b14 r14 g15 k114 k214 HF
          rcases HE3.out with he | he
          · subst he
            have hP' := HP3.out
            rw [if_pos rfl] at hP'
            have HP4 := Lib.hid hP'
            clear hP' HP3 HE3
            have hlen : E3.bl.length = D.bl.length := by rw [HN3.out, HN2.out, HN1.out]
            have HH := Lib.hid (rhome16_any B0 E3 (.agg (drvC bl14 pe14 E3.left)) l ⟨A, l.length, c⟩ w15 (by have := x15.size; omega) ⟨bl14, pe14, rfl, k15, k25⟩ (HR.out.ext x15) (by rw [hlen]; exact HLn.out) (by omega) (by have h1 := HQ1.out; have h2 := HQ2.out; have h3 := HQ3.out; omega) (by omega) HL3.out)
            clear hlen
            generalize doneP E3 (homeC l) = R4 at *
            obtain ⟨E4, er4⟩ := R4
            simp only at HH
            go_wp2_with (first
              | (refine wp_ld_drv (.tmp 2) rfl rfl G _ _ rfl b15 rfl ?_)
              | (go_at_call 84; refine HH.out.mono ?_; rintro e w16 ⟨v16, rfl, ⟨bl16, pe16, rfl, k116, k216⟩, x16⟩; have r16 := r15.ext x16)
              | (refine wp_st_drv (.tmp 4) (.tmp 61) rfl rfl (G + 1) bl16 pe16 _ _ 28 rfl rfl r16 rfl ?_; intro w17 b17 g17))
            refine bodyPost_ret (results_cell2 rfl _ _ (G + 1) _ _ _ (.int .i64 er4) rfl rfl b17 Tryz.underlying28 rfl drvSize) rfl ?_
            rw [HP4.out]
            exact ⟨_, rfl, ⟨bl16, pe16, rfl, k116.grown (by decide) r16 g17, k216.grown (by decide) r16 g17⟩, (x15.trans x16).grown g17 (fun j e => by cases e; omega)⟩
          · subst he
            have hP' := HP3.out
            rw [if_neg (by decide)] at hP'
            have HP4 := Lib.hid hP'
            clear hP' HP3 HE3
            go_wp2_with (first
              | (refine wp_ld_drv (.tmp 2) rfl rfl G _ _ rfl b15 rfl ?_)
              | (refine wp_st_drv (.tmp 4) (.tmp 56) rfl rfl (G + 1) bl14 pe14 _ _ 28 rfl rfl r15 rfl ?_; intro w17 b17 g17))
            refine bodyPost_ret (results_cell2 rfl _ _ (G + 1) _ _ _ (.int .i64 17) rfl rfl b17 Tryz.underlying28 rfl drvSize) rfl ?_
            rw [HP4.out]
            exact ⟨_, rfl, ⟨bl14, pe14, rfl, k15.grown (by decide) r15 g17, k25.grown (by decide) r15 g17⟩, x15.grown g17 (fun j e => by cases e; omega)⟩
        · subst he
          have hP' := HPP.out
          rw [if_neg (by decide)] at hP'
          have HP4 := Lib.hid hP'
          clear hP' HPP HE2
          go_wp2_with (first
            | (refine wp_ld_drv (.tmp 2) rfl rfl G _ _ rfl b13 rfl ?_)
            | (refine wp_st_drv (.tmp 4) (.tmp 47) rfl rfl (G + 1) bl9 pe9 _ _ 28 rfl rfl r13 rfl ?_; intro w17 b17 g17))
          refine bodyPost_ret (results_cell2 rfl _ _ (G + 1) _ _ _ (.int .i64 17) rfl rfl b17 Tryz.underlying28 rfl drvSize) rfl ?_
          rw [HP4.out]
          exact ⟨_, rfl, ⟨bl9, pe9, rfl, k93.grown (by decide) r13 g17, k94.grown (by decide) r13 g17⟩, x13.grown g17 (fun j e => by cases e; omega)⟩

    · subst he
      have hP' := hP.out
      rw [if_neg (by decide)] at hP'
      have HP4 := Lib.hid hP'
      clear hP' hP HE1
      go_wp2_with (first
        | (refine wp_ld_drv (.tmp 2) rfl rfl G _ _ rfl b7 rfl ?_)
        | (refine wp_st_drv (.tmp 4) (.tmp 36) rfl rfl (G + 1) bl6 pe6 _ _ 28 rfl rfl r7 rfl ?_; intro w17 b17 g17))
      refine bodyPost_ret (results_cell2 rfl _ _ (G + 1) _ _ _ (.int .i64 17) rfl rfl b17 Tryz.underlying28 rfl drvSize) rfl ?_
      rw [HP4.out]
      exact ⟨_, rfl, ⟨bl6, pe6, rfl, k17.grown (by decide) r7 g17, k27.grown (by decide) r7 g17⟩, x7.grown g17 (fun j e => by cases e; omega)⟩
end Go.Proofs.YtkokmnaicfdjaaaGreatDoor
/- Plain: behind a commit without an error the drive's volume is the kernel's. -/
namespace Go.Proofs.YtkokmnaicfdjaaaGreatDoor
set_option linter.unusedVariables false
set_option linter.unusedSimpArgs false

/-- all blocks of a drive, as they were last written -/
def volD (D : DrvD) : List (List UInt8) := D.pe.foldl layP D.bl
def wOf : CallD → List WrT
  | .put i s => [((i : Int), s)]
  | .flush => []
theorem vol_step (D : DrvD) (c : CallD) (h : (stepP D c).2 = 0) : volD (stepP D c).1 = (wOf c).foldl layP (volD D) := by
  cases c with
  | put i s =>
    by_cases hl : D.left = 0
    · simp only [stepP, putDP, if_pos hl] at h
      cases h
    · simp only [stepP, putDP, if_neg hl, volD, wOf, List.foldl_append, List.foldl_cons, List.foldl_nil]
  | flush =>
    by_cases hl : D.left = 0
    · simp only [stepP, flushDP, if_pos hl] at h
      cases h
    · simp only [stepP, flushDP, if_neg hl, volD, wOf, List.foldl_nil]
theorem vol_done (cs : List CallD) : ∀ D : DrvD, (doneP D cs).2 = 0 → volD (doneP D cs).1 = (cs.flatMap wOf).foldl layP (volD D) := by
  induction cs with
  | nil => intro D _; rfl
  | cons c cs ih =>
    intro D h
    rw [doneP] at h ⊢
    by_cases hs : (stepP D c).2 = 0
    · rw [if_pos hs] at h ⊢
      rw [ih _ h, vol_step D c hs, List.flatMap_cons, List.foldl_append]
    · rw [if_neg hs] at h; exact absurd h hs
theorem lay_eq (v : List (List UInt8)) (x : WrT) : layP v x = if 0 ≤ x.1 then v.set x.1.toNat x.2 else v := by
  unfold layP
  by_cases h0 : 0 ≤ x.1
  · by_cases h1 : x.1 < (v.length : Int)
    · rw [if_pos ⟨h0, h1⟩, if_pos h0]
    · rw [if_neg (fun h => h1 h.2), if_pos h0, List.set_eq_of_length_le (by omega)]
  · rw [if_neg (fun h => h0 h.1), if_neg h0]
theorem lay_drop (v : List (List UInt8)) (x : WrT) : (layP v x).drop 33 = putP (v.drop 33) x := by
  rw [lay_eq]
  unfold putP
  by_cases h0 : 0 ≤ x.1
  · rw [if_pos h0, List.drop_set]
    by_cases h1 : 33 ≤ x.1
    · rw [if_neg (by omega), if_pos h1, show (x.1 - 33).toNat = x.1.toNat - 33 by omega]
    · rw [if_pos (by omega), if_neg h1]
  · rw [if_neg h0, if_neg (by omega)]
theorem vol_drop (p : List WrT) : ∀ B : List (List UInt8), (p.foldl layP B).drop 33 = p.foldl putP (B.drop 33) := by
  induction p with
  | nil => intro B; rfl
  | cons x p ih => intro B; rw [List.foldl_cons, List.foldl_cons, ih, lay_drop]
theorem put_low (p : List WrT) (h : ∀ x ∈ p, x.1 < 33) : ∀ v : List (List UInt8), p.foldl putP v = v := by
  induction p with
  | nil => intro v; rfl
  | cons x p ih =>
    intro v
    have := h x List.mem_cons_self
    rw [List.foldl_cons, show putP v x = v by unfold putP; rw [if_neg (by omega)]]
    exact ih (fun y hy => h y (List.mem_cons_of_mem _ hy)) v
theorem puts_low : ∀ (l : List WrT) (i : Nat), i + l.length ≤ 33 → ∀ x ∈ (putsC i l).flatMap wOf, x.1 < 33
  | [], _, _, x, h => by cases h
  | y :: l, i, hi, x, h => by
    rw [List.length_cons] at hi
    rw [putsC, List.flatMap_cons] at h
    rcases List.mem_append.1 h with h | h
    · obtain rfl : x = ((i : Int), y.2) := List.mem_singleton.1 h
      show (i : Int) < 33
      omega
    · exact puts_low l (i + 1) (by omega) x h
theorem home_writes (l : List WrT) (h : ∀ x ∈ l, 0 ≤ x.1) : ∀ v : List (List UInt8), ((homeC l).flatMap wOf).foldl putP v = l.foldl layP v := by
  have e : (homeC l).flatMap wOf = l.map fun x => (((33 + x.1.toNat : Nat) : Int), x.2) := by
    unfold homeC
    rw [List.flatMap_append]
    have e1 : ∀ l : List WrT, (l.map fun x => CallD.put (33 + x.1.toNat) x.2).flatMap wOf = l.map fun x => (((33 + x.1.toNat : Nat) : Int), x.2) := fun l => by
      induction l with
      | nil => rfl
      | cons x l ih => rw [List.map_cons, List.flatMap_cons, ih]; rfl
    rw [e1]
    exact List.append_nil _
  rw [e]
  clear e
  induction l with
  | nil => intro v; rfl
  | cons x l ih =>
    intro v
    have hx := h x List.mem_cons_self
    rw [List.map_cons, List.foldl_cons, List.foldl_cons, ih (fun y hy => h y (List.mem_cons_of_mem _ hy))]
    congr 1
    rw [lay_eq, if_pos hx]
    unfold putP
    rw [if_pos (show (33 : Int) ≤ ((33 + x.1.toNat : Nat) : Int) by omega)]
    congr 1
    show (((33 + x.1.toNat : Nat) : Int) - 33).toNat = x.1.toNat
    omega
theorem pendE_all {n : Nat} : ∀ {l : List WrT}, (∀ x ∈ l, 0 ≤ x.1 ∧ x.1 < (n : Int) ∧ x.2.length = 128) → pendE n l = 0
  | [], _ => rfl
  | y :: l, h => by
    obtain ⟨h0, h1, h2⟩ := h y List.mem_cons_self
    unfold pendE
    rw [if_neg (by omega), if_neg (by omega)]
    exact pendE_all fun x hx => h x (List.mem_cons_of_mem _ hx)
theorem jrn_of_ok {B : List (List UInt8)} {p : List WrT} (h : DrvOk B p) : jrnE B p = 0 := by
  have e1 : drvE B p = 0 := by
    unfold drvE
    rw [if_neg (by have := h.most; omega), formE_all h.form, if_neg (by simp)]
    exact pendE_all h.pend
  unfold jrnE
  rw [e1, if_neg (by simp), if_neg (by have := h.least; omega)]
theorem lay_all (p : List WrT) (hp : ∀ x ∈ p, x.2.length = 128) : ∀ v : List (List UInt8), (∀ b ∈ v, b.length = 128) → ∀ b ∈ p.foldl layP v, b.length = 128 := by
  induction p with
  | nil => exact fun v hv => hv
  | cons x p ih =>
    intro v hv
    rw [List.foldl_cons]
    refine ih (fun y hy => hp y (List.mem_cons_of_mem _ hy)) _ (fun b hb => ?_)
    unfold layP at hb
    split at hb
    · rcases List.mem_or_eq_of_mem_set hb with hb | rfl
      · exact hv b hb
      · exact hp x List.mem_cons_self
    · exact hv b hb
theorem ok_step {D : DrvD} {c : CallD} (h : DrvOk D.bl D.pe) (hc : okC D.bl.length c) : DrvOk (stepP D c).1.bl (stepP D c).1.pe := by
  by_cases hl : D.left = 0
  · cases c with
    | put i s => simpa only [stepP, putDP, if_pos hl] using h
    | flush => simpa only [stepP, flushDP, if_pos hl] using h
  · cases c with
    | put i s =>
      simp only [stepP, putDP, if_neg hl]
      refine ⟨h.most, h.least, h.form, fun x hx => ?_⟩
      rcases List.mem_append.1 hx with hx | hx
      · exact h.pend x hx
      · obtain rfl : x = ((i : Int), s) := List.mem_singleton.1 hx
        exact ⟨Int.natCast_nonneg i, Int.ofNat_lt.2 hc.1, hc.2⟩
    | flush =>
      simp only [stepP, flushDP, if_neg hl]
      exact ⟨by rw [foldl_lay_len]; exact h.most, by rw [foldl_lay_len]; exact h.least, lay_all _ (fun x hx => (h.pend x hx).2.2) _ h.form, fun x hx => by cases hx⟩
theorem ok_done (cs : List CallD) : ∀ D : DrvD, DrvOk D.bl D.pe → (∀ c ∈ cs, okC D.bl.length c) → DrvOk (doneP D cs).1.bl (doneP D cs).1.pe := by
  induction cs with
  | nil => exact fun D h _ => h
  | cons c cs ih =>
    intro D h hc
    have h1 := ok_step h (hc c List.mem_cons_self)
    rw [doneP]
    split
    · exact ih _ h1 (fun x hx => by rw [step_len]; exact hc x (List.mem_cons_of_mem _ hx))
    · exact h1
theorem commit_jrn {D : DrvD} {l : List WrT} (hj : jrnE D.bl D.pe = 0) (hl : RiseW (D.bl.length - 33) l) : jrnE (commitP D l).1.bl (commitP D l).1.pe = 0 := by
  have hd := drvOk_of hj
  unfold commitP
  split
  · exact hj
  · exact jrn_of_ok (ok_done _ _ hd (commitC_ok hl hd.least (by have := hd.most; omega)))
theorem commit_home {D : DrvD} {l : List WrT} (hj : jrnE D.bl D.pe = 0) (hl : RiseW (D.bl.length - 33) l) (he : (commitP D l).2 = 0) : homeP (commitP D l).1.bl (commitP D l).1.pe = viewP D.bl D.pe l := by
  have hj2 := commit_jrn hj hl
  have e0 : ∀ {B : List (List UInt8)} {p : List WrT}, jrnE B p = 0 → homeP B p = p.foldl putP (B.drop 33) := fun h => by
    unfold homeP; rw [if_neg (by simpa using h)]
  unfold viewP
  rw [e0 hj, e0 hj2, ← vol_drop, ← vol_drop]
  change (volD (commitP D l).1).drop 33 = l.foldl layP ((volD D).drop 33)
  unfold commitP at he ⊢
  by_cases hn : l = []
  · rw [if_pos hn, hn]; rfl
  · rw [if_neg hn] at he ⊢
    rw [vol_done _ _ he, vol_drop]
    unfold commitC
    rw [List.flatMap_append, List.foldl_append, home_writes l (fun x hx => by obtain ⟨i, hi, rfl⟩ := List.getElem_of_mem hx; exact (hl.2 i hi).1), put_low]
    intro x hx
    rw [List.flatMap_append] at hx
    rcases List.mem_append.1 hx with hx | hx
    · exact puts_low l 1 (by have := hl.1; omega) x hx
    · have hx' : x = (((0 : Nat) : Int), headP l) := by simpa [wOf] using hx
      subst hx'
      show ((0 : Nat) : Int) < 33
      omega
end Go.Proofs.YtkokmnaicfdjaaaGreatDoor
/- What is kept back goes to the drive: the program. -/
namespace Go.Proofs.YtkokmnaicfdjaaaGreatDoor
set_option linter.unusedVariables false
set_option linter.unusedSimpArgs false
open Go.RowKit

theorem wf64 (x : Int) : (Lit.int .i64 x).wf = true ↔ (-9223372036854775808 ≤ x ∧ x ≤ 9223372036854775807) := by
  unfold Lit.wf
  simp only [Bool.and_eq_true, decide_eq_true_eq, show IntKind.i64.min = -9223372036854775808 from rfl, show IntKind.i64.max = 9223372036854775807 from rfl]
theorem leftP_wf {x : Int} (h : (Lit.int .i64 x).wf = true) : (Lit.int .i64 (leftP x)).wf = true := by
  rw [wf64] at h ⊢
  unfold leftP; split <;> omega
theorem step_wf (D : DrvD) (c : CallD) (h : (Lit.int .i64 D.left).wf = true) : (Lit.int .i64 (stepP D c).1.left).wf = true := by
  cases c with
  | put i s => simp only [stepP, putDP]; split; exact h; exact leftP_wf h
  | flush => simp only [stepP, flushDP]; split; exact h; exact leftP_wf h
theorem done_wf (cs : List CallD) : ∀ D : DrvD, (Lit.int .i64 D.left).wf = true → (Lit.int .i64 (doneP D cs).1.left).wf = true := by
  induction cs with
  | nil => intro D h; exact h
  | cons c cs ih =>
    intro D h
    rw [doneP]
    split
    · exact ih _ (step_wf D c h)
    · exact step_wf D c h
theorem commit_wf {D : DrvD} (l : List WrT) (h : (Lit.int .i64 D.left).wf = true) : (Lit.int .i64 (commitP D l).1.left).wf = true := by
  unfold commitP
  split
  · exact h
  · exact done_wf _ _ h
theorem commit_err (D : DrvD) (l : List WrT) : (commitP D l).2 = 0 ∨ (commitP D l).2 = 17 := by
  unfold commitP
  split
  · exact .inl rfl
  · exact done_err _ _
theorem commit_pe (D : DrvD) (l : List WrT) : (commitP D l).1.pe.length ≤ D.pe.length + (2 * l.length + 3) := by
  unfold commitP
  split
  · show D.pe.length ≤ _; omega
  · have := done_pe (commitC l) D; rw [commitC_len] at this; exact this
/-- all but the rows and the drive's count are the same -/
structure Mac.Like (m m' : Mac) : Prop where
  clock : m'.clock = m.clock
  quantum : m'.quantum = m.quantum
  cur : m'.cur = m.cur
  left : m'.left = m.left
  next : m'.next = m.next
  init : m'.init = m.init
  newPipe : m'.newPipe = m.newPipe
  inn : m'.inn = m.inn
  fin : m'.fin = m.fin
  told : m'.told = m.told
/-- the machine behind a sync -/
def syncD (d : MacD) (R : DrvD × Int) : MacD := { d with bl := R.1.bl, pe := R.1.pe, di := if R.2 = 0 then [] else d.di }
def drvM (m : Mac) (d : MacD) : DrvD := ⟨d.bl, d.pe, m.dleft⟩
def SyncR (B0 : Nat) (m : Mac) (d : MacD) (w : World) (e : Ending) (w' : World) : Prop :=
  ∃ m' : Mac, e = .returned (.tuple #[.agg m'.cells, .int .i64 (commitP (drvM m d) d.di).2]) ∧ MacF B0 w' m' (syncD d (commitP (drvM m d) d.di)) ∧ m'.dleft = (commitP (drvM m d) d.di).1.left ∧ m.Like m' ∧ Ext w w'
theorem SyncR.mk {B0 : Nat} {m m' : Mac} {d : MacD} {w w' : World} {E : DrvD} {er : Int} (hR : Hid (commitP (drvM m d) d.di = (E, er))) (hF : MacF B0 w' m' (syncD d (E, er))) (hl : m'.dleft = E.left) (hk : m.Like m') (x : Ext w w') : SyncR B0 m d w (.returned (.tuple #[.agg m'.cells, .int .i64 er])) w' := by
  have h := hR.out
  refine ⟨m', ?_, ?_, ?_, hk, x⟩
  · rw [h]
  · rw [h]; exact hF
  · rw [h]; exact hl
set_option maxHeartbeats 2000000 in
set_option maxRecDepth 100000 in
theorem csync_any (B0 : Nat) (m : Mac) (d : MacD) (w : World) (hB0 : B0 ≤ w.heap.size) (h : MacF B0 w m d) (hj : jrnE d.bl d.pe = 0) (hl : RiseW (d.bl.length - 33) d.di) (hT : Tabs w) (hp : d.pe.length ≤ 1000) :
    Calls Tryz.prog 20 #[.agg m.cells] w (SyncR B0 m d w) := by
  have hdk := drvOk_of hj
  have hwf := Lib.hid h.leftk
  have HC := Lib.hid (fun w h0 hv hr hT => wcommit_any B0 (drvM m d) (.agg #[.slice m.bl.A m.bl.n m.bl.c, .slice m.pe.A m.pe.n m.pe.c, .int .i64 m.dleft]) d.di m.di w h0 hv hr hj hl hT hp (by have := hdk.most; show d.bl.length ≤ 1000; omega) hdk.least ((wf64 _).1 hwf.out).2)
  have HO := Lib.hid (fun w hi => omacF_any m d w hi h.small)
  have he := commit_err (drvM m d) d.di
  have HWf := Lib.hid (commit_wf (D := drvM m d) d.di hwf.out)
  generalize hR : commitP (drvM m d) d.di = R at HC he HWf
  have HR := Lib.hid hR
  clear hR hj hl hp hdk
  obtain ⟨E, er⟩ := R
  simp only at HC he HWf
  have HM := Lib.hid h
  have HT := Lib.hid hT
  clear h hT
  have b0 := Box.new w 30 m.cells
  have x0 := (Ext.refl w).alloc (.cells m.cells 30)
  have z0 : (w.alloc (.cells m.cells 30)).heap.size = w.heap.size + 1 := World.size_alloc _ _
  go_enter Tryz.func20, Tryz.ntmps20
  go_upto_region 1 with fail
  generalize w.alloc (.cells m.cells 30) = wa at b0 x0 z0 ⊢
  have bR0 := Box.new wa 30 zeroMacC
  have x1 : Ext w (wa.alloc (.cells zeroMacC 30)) := x0.alloc (.cells zeroMacC 30)
  have b1 := b0.ext ((Ext.refl wa).alloc (.cells zeroMacC 30))
  rw [z0] at bR0
  change Code.wp _ _ _ _ (wa.alloc (.cells zeroMacC 30))
  generalize wa.alloc (.cells zeroMacC 30) = w1 at bR0 x1 b1 ⊢
  generalize hG : w.heap.size = G at *
  clear b0 x0 z0
  clear wa
  go_upto_region 2 with (first
    | (refine wp_ld_mac (.tmp 1) rfl rfl G _ _ rfl b1 rfl ?_)
    | (go_at_call 32; refine (HO.out _ (HM.out.ext x1).toIn).mono ?_; rintro e w2 ⟨fr, pr, pi, bl, pe, di, rfl, x2, hM2, hS2, hN2, hF2⟩)
    | (refine wp_st_mac (.tmp 4) (.tmp 8) rfl rfl w2.heap.size (m.with fr pr pi bl pe di) _ 30 rfl rfl (Box.new _ _ _) rfl ?_; intro w3 b3 g3))
  have x23 : Ext w2 w3 := ((Ext.refl w2).alloc _).grown g3 (fun j e => by cases e; exact Nat.le_refl _)
  have x3 := (x1.trans x2).trans x23
  have bb3 := (b1.ext x2).ext x23
  have bR3 := (bR0.ext x2).ext x23
  have hF3 := (hF2 B0).ext x23
  have hlt2 : G + 1 < w2.heap.size := (bR0.ext x2).lt
  clear hM2 hS2 hN2 hF2 x1 x2 x23 b1 bR0 g3 HO
  generalize hG4 : w2.heap.size = G4 at *
  have hg4 : G4 < w3.heap.size := b3.lt
  have q16 : w3.cell? ⟨G, 16, none⟩ = some (.slice m.di.A m.di.n m.di.c) := bb3.cell 16
  have hm3 := HM.out.ext x3
  go_upto_region 3 with (first
    | (refine wp_ld_drvM (.tmp 10) rfl rfl G m 30 rfl bb3 ?_)
    | (go_at_call 36; refine (HC.out _ (by omega) ⟨m.bl, m.pe, rfl, hm3.bl, hm3.pe⟩ hm3.di (HT.out.ext x3)).mono ?_; rintro e w4 ⟨v4, rfl, ⟨bl4, pe4, rfl, kb4, kp4⟩, x4⟩)
    | (refine wp_st_drv (.tmp 5) (.tmp 15) rfl rfl w4.heap.size bl4 pe4 E.left _ 28 rfl rfl (Box.new _ _ _) rfl ?_; intro w5 b5 g5))
  have x45 : Ext w4 w5 := ((Ext.refl w4).alloc _).grown g5 (fun j e => by cases e; exact Nat.le_refl _)
  have x35 := x4.trans x45
  have x5 := x3.trans x35
  have b35 := b3.ext x35
  have bR5 := bR3.ext x35
  have hF5 := hF3.ext x35
  have kb5 := kb4.ext x45
  have kp5 := kp4.ext x45
  clear q16 hm3 HC g5 x4 x45 x35 bb3 bR3 b3 hF3 kb4 kp4 x3
  generalize w4.heap.size = G5 at *
  go_upto_region 4 with (first
    | (refine wp_ld_drv (.tmp 5) rfl rfl G5 _ _ rfl b5 rfl ?_)
    | (refine wp_st_drvM (.tmp 18) (.tmp 17) rfl rfl G4 (m.with fr pr pi bl pe di) bl4 pe4 E.left 30 rfl rfl b35 ?_; intro w6 b6 g6))
  have bR6 := bR5.grown g6 (by intro e; injection e with e; omega)
  have hF6 := hF5.grown (by decide) b35 g6
  have kb6 := kb5.grown (by decide) b35 g6
  have kp6 := kp5.grown (by decide) b35 g6
  have x6 := x5.grown g6 (fun j e => by cases e; omega)
  clear bR5 hF5 kb5 kp5 b35 g6 x5 b5
  rcases he with rfl | rfl
  · have bL := b6.cell 16
    have fL := b6.frozen 16
    go_upto_region 6 with fail
    have b7 : Box (w6.setCell ⟨G4, 16, none⟩ (.slice none 0 0)) G4 30 ({ { m.with fr pr pi bl pe di with bl := bl4, pe := pe4, dleft := E.left } with di := ⟨none, 0, 0⟩ } : Mac).cells := b6.set 16 _
    have g7 := grown_cells (g := G4) [.slice none 0 0] 16 w6
    change w6.grownBy (w6.setCell ⟨G4, 16, none⟩ (.slice none 0 0)) (some G4) at g7
    have bR7 := bR6.grown g7 (by intro e; injection e with e; omega)
    have hF7 := hF6.grown (by decide) b6 g7
    have kb7 := kb6.grown (by decide) b6 g7
    have kp7 := kp6.grown (by decide) b6 g7
    have x7 := x6.grown g7 (fun j e => by cases e; omega)
    clear bL fL b6 g7 bR6 hF6 kb6 kp6 x6
    generalize w6.setCell ⟨G4, 16, none⟩ (.slice none 0 0) = w7 at *
    go_wp2_with (first
      | (refine wp_ld_mac (.tmp 4) rfl rfl G4 _ _ rfl b7 rfl ?_)
      | (refine wp_st_mac (.tmp 2) (.tmp 22) rfl rfl (G + 1) ({ { m.with fr pr pi bl pe di with bl := bl4, pe := pe4, dleft := E.left } with di := ⟨none, 0, 0⟩ } : Mac) _ 30 rfl rfl bR7 rfl ?_; intro w9 b9 g9))
    have hF9 := hF7.grown (by decide) bR7 g9
    have kb9 := kb7.grown (by decide) bR7 g9
    have kp9 := kp7.grown (by decide) bR7 g9
    refine bodyPost_ret (results_cell2 rfl _ _ (G + 1) _ _ _ (.int .i64 0) rfl rfl b9 Tryz.underlying30 rfl macSize) rfl (SyncR.mk HR ⟨hF9.fr, hF9.pr, hF9.pi, kb9, kp9, RowF.nil, hF9.initk, hF9.innk, HWf.out⟩ rfl ⟨rfl, rfl, rfl, rfl, rfl, rfl, rfl, rfl, rfl, rfl⟩ (x7.grown g9 (fun j e => by cases e; omega)))
  · go_wp2_with (first
      | (refine wp_ld_mac (.tmp 4) rfl rfl G4 _ _ rfl b6 rfl ?_)
      | (refine wp_st_mac (.tmp 2) (.tmp 22) rfl rfl (G + 1) ({ m.with fr pr pi bl pe di with bl := bl4, pe := pe4, dleft := E.left } : Mac) _ 30 rfl rfl bR6 rfl ?_; intro w9 b9 g9))
    have hF9 := hF6.grown (by decide) bR6 g9
    have kb9 := kb6.grown (by decide) bR6 g9
    have kp9 := kp6.grown (by decide) bR6 g9
    refine bodyPost_ret (results_cell2 rfl _ _ (G + 1) _ _ _ (.int .i64 17) rfl rfl b9 Tryz.underlying30 rfl macSize) rfl (SyncR.mk HR ⟨hF9.fr, hF9.pr, hF9.pi, kb9, kp9, hF9.di, hF9.initk, hF9.innk, HWf.out⟩ rfl ⟨rfl, rfl, rfl, rfl, rfl, rfl, rfl, rfl, rfl, rfl⟩ (x6.grown g9 (fun j e => by cases e; omega)))
end Go.Proofs.YtkokmnaicfdjaaaGreatDoor
/- Two machines are one but for their drive and what is kept back. -/
namespace Go.Proofs.YtkokmnaicfdjaaaGreatDoor
set_option linter.unusedVariables false
set_option linter.unusedSimpArgs false
open Go.RowKit

theorem wp_ld_drvM_g {ops : Array Oper} {rest : List Oper} {o : Oper} {a : Act} {w : World} {Q : Exit → Act → World → Prop} (x : Operand) (hw : Region.wanted o (yielded ops a.tmps) = true) (ho : o.op = .load 28 x) (g : Nat) (m : Mac) (t : TypeId) (hx : a.eval x = .pointer (some ⟨g, 13, none⟩))
    (hb : Box w g t m.cells) (hK : wpList Tryz.prog ops Q rest (a.put o.dst (.agg #[.slice m.bl.A m.bl.n m.bl.c, .slice m.pe.A m.pe.n m.pe.c, .int .i64 m.dleft])) w) : wpList Tryz.prog ops Q (o :: rest) a w := by
  unfold wpList
  rw [if_pos hw]
  exact .inl (wp_load_mid _ x ho g 13 hx _ _ (mac_drv hb) Tryz.underlying28 rfl drvSize hK)
theorem like_of {m m1 : Mac} (h : m.Like m1) : ({ m1 with bl := m.bl, pe := m.pe, dleft := m.dleft, di := m.di } : Mac) = { m with fr := m1.fr, pr := m1.pr, pi := m1.pi } := by
  obtain ⟨h1, h2, h3, h4, h5, h6, h7, h8, h9, h10⟩ := h
  obtain ⟨a1, a2, a3, a4, a5, a6, a7, a8, a9, a10, a11, a12, a13, a14, a15, a16, a17⟩ := m1
  simp only at *
  subst h1 h2 h3 h4 h5 h6 h7 h8 h9 h10
  rfl
set_option maxHeartbeats 2000000 in
set_option maxRecDepth 100000 in
theorem apart_yes (m m1 : Mac) (d : MacD) (w : World) (hk : m.Like m1) (h : MacIn w m d) (hf : RowOf stL w m1.fr.A m1.fr.n d.fr) (hr : RowOf prL w m1.pr.A m1.pr.n d.pr) (hi : RowOf wrL w m1.pi.A m1.pi.n d.pi) (ho : m1.fr.ok ∧ m1.pr.ok ∧ m1.pi.ok) (hs : MacSmall m) :
    Calls Tryz.prog 19 #[.agg m1.cells, .agg m.cells] w fun e w' => e = .returned (.bool true) ∧ Ext w w' := by
  have HS := Lib.hid (fun w a b => same25_yes m m1.fr m1.pr m1.pi d w a b hs ⟨by show m1.fr.n ≤ _; rw [hf.1, ← h.fr.1]; exact hs.fr, by show m1.pr.n ≤ _; rw [hr.1, ← h.pr.1]; exact hs.pr, by show m1.pi.n ≤ _; rw [hi.1, ← h.pi.1]; exact hs.pi, hs.bl, hs.pe, hs.di⟩)
  rw [← like_of hk] at HS
  have HO := Lib.hid ho
  clear ho
  go_enter Tryz.func19, Tryz.ntmps19
  go_upto_region 1 with fail
  have b1 := Box.new w 30 m1.cells
  have b2 := Box.new (w.alloc (.cells m1.cells 30)) 30 m.cells
  have x2 := ((Ext.refl w).alloc (.cells m1.cells 30)).alloc (.cells m.cells 30)
  have c1 := b1.ext ((Ext.refl _).alloc (.cells m.cells 30))
  rw [World.size_alloc] at b2
  clear b1
  generalize (w.alloc (.cells m1.cells 30)).alloc (.cells m.cells 30) = w2 at *
  generalize hG : w.heap.size = G at *
  have p13 : w2.cell? ⟨G, 13, none⟩ = some (.slice m1.bl.A m1.bl.n m1.bl.c) := c1.cell 13
  have p14 : w2.cell? ⟨G, 14, none⟩ = some (.slice m1.pe.A m1.pe.n m1.pe.c) := c1.cell 14
  have p15 : w2.cell? ⟨G, 15, none⟩ = some (.int .i64 m1.dleft) := c1.cell 15
  have p16 : w2.cell? ⟨G, 16, none⟩ = some (.slice m1.di.A m1.di.n m1.di.c) := c1.cell 16
  have f13 : w2.frozen? ⟨G, 13, none⟩ = false := c1.frozen 13
  have f14 : w2.frozen? ⟨G, 14, none⟩ = false := c1.frozen 14
  have f15 : w2.frozen? ⟨G, 15, none⟩ = false := c1.frozen 15
  have f16 : w2.frozen? ⟨G, 16, none⟩ = false := c1.frozen 16
  have r13 : w2.cell? ⟨G + 1, 13, none⟩ = some (.slice m.bl.A m.bl.n m.bl.c) := b2.cell 13
  have r14 : w2.cell? ⟨G + 1, 14, none⟩ = some (.slice m.pe.A m.pe.n m.pe.c) := b2.cell 14
  have r15 : w2.cell? ⟨G + 1, 15, none⟩ = some (.int .i64 m.dleft) := b2.cell 15
  have r16 : w2.cell? ⟨G + 1, 16, none⟩ = some (.slice m.di.A m.di.n m.di.c) := b2.cell 16
  go_region
  have bA : Box (((((w2.setCell ⟨G, 13, none⟩ (.slice m.bl.A m.bl.n m.bl.c)).setCell ⟨G, 14, none⟩ (.slice m.pe.A m.pe.n m.pe.c)).setCell ⟨G, 15, none⟩ (.int .i64 m.dleft)).setCell ⟨G, 16, none⟩ (.slice m.di.A m.di.n m.di.c)).drew) G 30 ({ m1 with bl := m.bl, pe := m.pe, dleft := m.dleft, di := m.di } : Mac).cells := (((c1.set 13 _).set 14 _).set 15 _).set 16 _
  have bB : Box (((((w2.setCell ⟨G, 13, none⟩ (.slice m.bl.A m.bl.n m.bl.c)).setCell ⟨G, 14, none⟩ (.slice m.pe.A m.pe.n m.pe.c)).setCell ⟨G, 15, none⟩ (.int .i64 m.dleft)).setCell ⟨G, 16, none⟩ (.slice m.di.A m.di.n m.di.c)).drew) (G + 1) 30 m.cells := (((b2.setOther (show G + 1 ≠ G by omega) (i := 13) _).setOther (show G + 1 ≠ G by omega) (i := 14) _).setOther (show G + 1 ≠ G by omega) (i := 15) _).setOther (show G + 1 ≠ G by omega) (i := 16) _
  have hle : w.heap.size ≤ G := by omega
  have xA : Ext w (((((w2.setCell ⟨G, 13, none⟩ (.slice m.bl.A m.bl.n m.bl.c)).setCell ⟨G, 14, none⟩ (.slice m.pe.A m.pe.n m.pe.c)).setCell ⟨G, 15, none⟩ (.int .i64 m.dleft)).setCell ⟨G, 16, none⟩ (.slice m.di.A m.di.n m.di.c)).drew) := ((((x2.setCell (p := ⟨G, 13, none⟩) hle _).setCell (p := ⟨G, 14, none⟩) hle _).setCell (p := ⟨G, 15, none⟩) hle _).setCell (p := ⟨G, 16, none⟩) hle _).drew
  clear p13 p14 p15 p16 f13 f14 f15 f16 r13 r14 r15 r16 c1 b2 x2
  generalize ((((w2.setCell ⟨G, 13, none⟩ (.slice m.bl.A m.bl.n m.bl.c)).setCell ⟨G, 14, none⟩ (.slice m.pe.A m.pe.n m.pe.c)).setCell ⟨G, 15, none⟩ (.int .i64 m.dleft)).setCell ⟨G, 16, none⟩ (.slice m.di.A m.di.n m.di.c)).drew = w3 at *
  have H1 := Lib.hid (h.ext xA)
  have H2 := Lib.hid (show MacIn w3 ({ m1 with bl := m.bl, pe := m.pe, dleft := m.dleft, di := m.di } : Mac) d by
    rw [like_of hk]
    have k := h.ext xA
    exact ⟨hf.ext xA, hr.ext xA, hi.ext xA, k.bl, k.pe, k.di, HO.out.1, HO.out.2.1, HO.out.2.2, k.blk, k.pek, k.dik, k.initk, k.innk, k.leftk⟩)
  go_wp2_with (first
    | (refine wp_ld_mac (.tmp 2) rfl rfl G _ _ rfl bA rfl ?_)
    | (refine wp_ld_mac (.tmp 3) rfl rfl (G + 1) _ _ rfl bB rfl ?_)
    | (go_at_call 35; refine (HS.out _ H1.out H2.out).mono ?_; rintro e w4 ⟨rfl, x4⟩))
  go_ret
  exact ⟨rfl, xA.trans x4⟩
end Go.Proofs.YtkokmnaicfdjaaaGreatDoor
/- What is kept back goes to the drive: the document. -/
namespace Go.Proofs.YtkokmnaicfdjaaaGreatDoor
set_option linter.unusedVariables false
set_option linter.unusedSimpArgs false
open Go.RowKit

theorem RowF.empty {α : Type} {B0 g : Nat} {f : α → List Value} {T : TypeId} {w : World} : RowF B0 f T w ⟨some ⟨g, 0, none⟩, 0, 0⟩ ([] : List α) := ⟨⟨⟨rfl, fun h => absurd h (Nat.lt_irrefl 0)⟩, ⟨fun h => (by cases h), Nat.zero_le _, Nat.le_refl _⟩, Nat.zero_le _⟩, fun h => absurd h (Nat.lt_irrefl 0)⟩
set_option maxHeartbeats 2000000 in
set_option maxRecDepth 100000 in
theorem rsync_any (B0 : Nat) (m : Mac) (d : MacD) (w : World) (hB0 : B0 ≤ w.heap.size) (h : MacF B0 w m d) (hj : jrnE d.bl d.pe = 0) (hl : RiseW (d.bl.length - 33) d.di) (hp : d.pe.length ≤ 1000) :
    Calls Tryz.prog 21 #[.agg m.cells] w (SyncR B0 m d w) := by
  have hdk := drvOk_of hj
  have hwf := Lib.hid h.leftk
  have HC := Lib.hid (fun w h0 hv hr => rcommit_any B0 (drvM m d) (.agg #[.slice m.bl.A m.bl.n m.bl.c, .slice m.pe.A m.pe.n m.pe.c, .int .i64 m.dleft]) d.di m.di w h0 hv hr hj hl hp (by have := hdk.most; show d.bl.length ≤ 1000; omega) hdk.least ((wf64 _).1 hwf.out).2)
  have he := commit_err (drvM m d) d.di
  have HWf := Lib.hid (commit_wf (D := drvM m d) d.di hwf.out)
  generalize hR : commitP (drvM m d) d.di = R at HC he HWf
  have HR := Lib.hid hR
  clear hR hj hl hp hdk
  obtain ⟨E, er⟩ := R
  simp only at HC he HWf
  have HM := Lib.hid h
  clear h
  have b0 := Box.new w 30 m.cells
  have x0 := (Ext.refl w).alloc (.cells m.cells 30)
  have z0 : (w.alloc (.cells m.cells 30)).heap.size = w.heap.size + 1 := World.size_alloc _ _
  go_enter Tryz.func21, Tryz.ntmps21
  go_upto_region 1 with fail
  generalize w.alloc (.cells m.cells 30) = wa at b0 x0 z0 ⊢
  have bR0 := Box.new wa 30 zeroMacC
  have x3 : Ext w (wa.alloc (.cells zeroMacC 30)) := x0.alloc (.cells zeroMacC 30)
  have bb3 := b0.ext ((Ext.refl wa).alloc (.cells zeroMacC 30))
  rw [z0] at bR0
  change Code.wp _ _ _ _ (wa.alloc (.cells zeroMacC 30))
  generalize wa.alloc (.cells zeroMacC 30) = w3 at bR0 x3 bb3 ⊢
  generalize hG : w.heap.size = G at *
  clear b0 x0 z0
  clear wa
  have q16 : w3.cell? ⟨G, 16, none⟩ = some (.slice m.di.A m.di.n m.di.c) := bb3.cell 16
  have hm3 := HM.out.ext x3
  have hz3 : G + 1 < w3.heap.size := bR0.lt
  go_upto_region 2 with (first
    | (refine wp_ld_drvM (.tmp 7) rfl rfl G m 30 rfl bb3 ?_)
    | (go_at_call 37; refine (HC.out _ (by omega) ⟨m.bl, m.pe, rfl, hm3.bl, hm3.pe⟩ hm3.di).mono ?_; rintro e w4 ⟨v4, rfl, ⟨bl4, pe4, rfl, kb4, kp4⟩, x4⟩)
    | (refine wp_st_drv (.tmp 4) (.tmp 12) rfl rfl w4.heap.size bl4 pe4 E.left _ 28 rfl rfl (Box.new _ _ _) rfl ?_; intro w5 b5 g5))
  have x45 : Ext w4 w5 := ((Ext.refl w4).alloc _).grown g5 (fun j e => by cases e; exact Nat.le_refl _)
  have x35 := x4.trans x45
  have x5 := x3.trans x35
  have bb5 := bb3.ext x35
  have bR5 := bR0.ext x35
  have hF5 := hm3.ext x35
  have kb5 := kb4.ext x45
  have kp5 := kp4.ext x45
  clear q16 hm3 HC g5 x4 x45 x35 bb3 bR0 kb4 kp4 x3 HM
  generalize w4.heap.size = G5 at *
  go_upto_region 3 with (first
    | (refine wp_ld_drv (.tmp 4) rfl rfl G5 _ _ rfl b5 rfl ?_)
    | (refine wp_st_drvM (.tmp 15) (.tmp 14) rfl rfl G m bl4 pe4 E.left 30 rfl rfl bb5 ?_; intro w6 b6 g6))
  have bR6 := bR5.grown g6 (by intro e; injection e with e; omega)
  have hF6 := hF5.grown (by decide) bb5 g6
  have kb6 := kb5.grown (by decide) bb5 g6
  have kp6 := kp5.grown (by decide) bb5 g6
  have x6 := x5.grown g6 (fun j e => by cases e; omega)
  clear bR5 hF5 kb5 kp5 bb5 g6 x5 b5
  rcases he with rfl | rfl
  · have y6 : Ext w6 (w6.alloc (.cells #[] 57)) := (Ext.refl _).alloc _
    have bL := (b6.ext y6).cell 16
    have fL := (b6.ext y6).frozen 16
    go_upto_region 5 with fail
    have bA := b6.ext y6
    have bRA := bR6.ext y6
    have hFA := hF6.ext y6
    have kbA := kb6.ext y6
    have kpA := kp6.ext y6
    have xA := x6.trans y6
    clear b6 bR6 hF6 kb6 kp6 x6 y6 bL fL
    generalize w6.heap.size = gs at *
    generalize w6.alloc (.cells #[] 57) = wA at *
    have b7 : Box (wA.setCell ⟨G, 16, none⟩ (.slice (some ⟨gs, 0, none⟩) 0 0)) G 30 ({ m with bl := bl4, pe := pe4, dleft := E.left, di := ⟨some ⟨gs, 0, none⟩, 0, 0⟩ } : Mac).cells := bA.set 16 _
    have g7 := grown_cells (g := G) [.slice (some ⟨gs, 0, none⟩) 0 0] 16 wA
    change wA.grownBy (wA.setCell ⟨G, 16, none⟩ (.slice (some ⟨gs, 0, none⟩) 0 0)) (some G) at g7
    have bR7 := bRA.grown g7 (by intro e; injection e with e; omega)
    have hF7 := hFA.grown (by decide) bA g7
    have kb7 := kbA.grown (by decide) bA g7
    have kp7 := kpA.grown (by decide) bA g7
    have x7 := xA.grown g7 (fun j e => by cases e; omega)
    clear bA g7 bRA hFA kbA kpA xA
    generalize wA.setCell ⟨G, 16, none⟩ (.slice (some ⟨gs, 0, none⟩) 0 0) = w7 at *
    go_wp2_with (first
      | (refine wp_ld_mac (.tmp 1) rfl rfl G _ _ rfl b7 rfl ?_)
      | (refine wp_st_mac (.tmp 2) (.tmp 20) rfl rfl (G + 1) ({ m with bl := bl4, pe := pe4, dleft := E.left, di := ⟨some ⟨gs, 0, none⟩, 0, 0⟩ } : Mac) _ 30 rfl rfl bR7 rfl ?_; intro w9 b9 g9))
    have hF9 := hF7.grown (by decide) bR7 g9
    have kb9 := kb7.grown (by decide) bR7 g9
    have kp9 := kp7.grown (by decide) bR7 g9
    refine bodyPost_ret (results_cell2 rfl _ _ (G + 1) _ _ _ (.int .i64 0) rfl rfl b9 Tryz.underlying30 rfl macSize) rfl (SyncR.mk HR ⟨hF9.fr, hF9.pr, hF9.pi, kb9, kp9, RowF.empty, hF9.initk, hF9.innk, HWf.out⟩ rfl ⟨rfl, rfl, rfl, rfl, rfl, rfl, rfl, rfl, rfl, rfl⟩ (x7.grown g9 (fun j e => by cases e; omega)))
  · go_wp2_with (first
      | (refine wp_ld_mac (.tmp 1) rfl rfl G _ _ rfl b6 rfl ?_)
      | (refine wp_st_mac (.tmp 2) (.tmp 20) rfl rfl (G + 1) ({ m with bl := bl4, pe := pe4, dleft := E.left } : Mac) _ 30 rfl rfl bR6 rfl ?_; intro w9 b9 g9))
    have hF9 := hF6.grown (by decide) bR6 g9
    have kb9 := kb6.grown (by decide) bR6 g9
    have kp9 := kp6.grown (by decide) bR6 g9
    refine bodyPost_ret (results_cell2 rfl _ _ (G + 1) _ _ _ (.int .i64 17) rfl rfl b9 Tryz.underlying30 rfl macSize) rfl (SyncR.mk HR ⟨hF9.fr, hF9.pr, hF9.pi, kb9, kp9, hF9.di, hF9.initk, hF9.innk, HWf.out⟩ rfl ⟨rfl, rfl, rfl, rfl, rfl, rfl, rfl, rfl, rfl, rfl⟩ (x6.grown g9 (fun j e => by cases e; omega)))
end Go.Proofs.YtkokmnaicfdjaaaGreatDoor
/- The walk of CacheSyncs. -/
namespace Go.Proofs.YtkokmnaicfdjaaaGreatDoor
set_option linter.unusedVariables false
set_option linter.unusedSimpArgs false
open Go.RowKit

/-- what the two tests ahead of a law's body tell -/
def TestR (m : Mac) (d : MacD) (b : Bool) : Prop := b = false → DiskOk d ∧ MacLens m
theorem MacLens.small {m : Mac} (h : MacLens m) : MacSmall m := ⟨Nat.le_trans h.fr (by decide), Nat.le_trans h.pr (by decide), Nat.le_trans h.pi (by decide), Nat.le_trans h.bl (by decide), Nat.le_trans h.pe (by decide), Nat.le_trans h.di (by decide)⟩
set_option maxHeartbeats 40000000 in
set_option maxRecDepth 100000 in
theorem cacheSyncs_any (m : Mac) (d : MacD) (w : World) (h : MacIn w m d) (hr : MacReach m) (hT : Tabs w) :
    Calls Tryz.prog 5 #[.agg m.cells] w fun e w' => e = .returned (.bool true) ∧ Ext w w' := by
  have HG := Lib.hid (fun w h => rgreat_any m d w h hr)
  have HC := Lib.hid (fun w h => rcheck_any m d w h)
  have HV := Lib.hid (fun (m : Mac) (d : MacD) w h => view_any m d w h)
  have HA := Lib.hid awake_any
  go_enter Tryz.func5, Tryz.ntmps5
  go_upto_region 1 with fail
  have xa : Ext w (w.alloc (.cells m.cells 30)) := (Ext.refl _).alloc _
  have bm := Box.new w 30 m.cells
  have hTa := Lib.hid (hT.ext xa)
  generalize w.alloc (.cells m.cells 30) = w1 at *
  generalize hG : w.heap.size = G at *
  have HM0 := Lib.hid h
  have HM := Lib.hid (h.ext xa)
  clear h hT
  go_cut [15] (fun s wx => ∃ b : Bool, s = .bool b ∧ Ext w1 wx ∧ TestR m d b)
  case first =>
    clear HV HA
    go_wp2_with (first
      | (refine wp_ld_mac (.tmp 1) rfl rfl G _ _ rfl bm rfl ?_)
      | (refine wp_ld_mac_g (.tmp 1) rfl rfl G m 30 rfl bm2 ?_)
      | (go_at_call 8; refine (HG.out _ HM.out).mono ?_; rintro e w2 ⟨⟨z, rfl, hz⟩, x2⟩; have HZ := Lib.hid hz; clear hz; have bm2 := bm.ext x2; rcases Bool.eq_false_or_eq_true (decide (0 < z)) with dz | dz)
      | (go_at_call 9; refine (HC.out _ (HM.out.ext x2)).mono ?_; rintro e w3 ⟨⟨n, rfl, hn⟩, x3⟩; have HN := Lib.hid hn; clear hn; rcases Bool.eq_false_or_eq_true (n != 0) with dn | dn))
    · go_meet
      exact ⟨true, rfl, x2, fun h => by cases h⟩
    · go_meet
      exact ⟨true, rfl, x2.trans x3, fun h => by cases h⟩
    · go_meet
      exact ⟨false, rfl, x2.trans x3, fun _ => ⟨HN.out (by simpa using dn), HZ.out (by simpa using dz)⟩⟩
  case rest =>
    obtain ⟨b, rfl, x2, hd⟩ := hcut
    cases b with
    | true =>
      go_wp2_with (go_at_call 10; refine (HA.out _).mono ?_; rintro e w3 ⟨rfl, x3⟩)
      go_ret
      exact ⟨rfl, (xa.trans x2).trans x3⟩
    | false =>
      have hlens := (hd rfl).2
      have hdk := (hd rfl).1
      have hj := hdk.1
      have hl : RiseW (d.bl.length - 33) d.di := ⟨hdk.2.1, hdk.2.2.1⟩
      have hp : d.pe.length ≤ 1000 := by have := hlens.pe; have := HM.out.pe.1; omega
      have hV1 : (viewP d.bl d.pe d.di).length ≤ 1000 := by rw [viewP_len hj]; have := (drvOk_of hj).most; omega
      have HS1 : ∀ (w : World) (a : G ≤ w.heap.size) (b : MacF G w m d) (c : Tabs w), Calls Tryz.prog 20 #[.agg m.cells] w fun e w' => ∃ m' : Mac, e = .returned (.tuple #[.agg m'.cells, .int .i64 (commitP (drvM m d) d.di).2]) ∧ MacF G w' m' (syncD d (commitP (drvM m d) d.di)) ∧ m'.dleft = (commitP (drvM m d) d.di).1.left ∧ m.Like m' ∧ Ext w w' := fun w a b c => csync_any G m d w a b hj hl c hp
      have HS2 : ∀ (w : World) (a : G ≤ w.heap.size) (b : MacF G w m d), Calls Tryz.prog 21 #[.agg m.cells] w fun e w' => ∃ m' : Mac, e = .returned (.tuple #[.agg m'.cells, .int .i64 (commitP (drvM m d) d.di).2]) ∧ MacF G w' m' (syncD d (commitP (drvM m d) d.di)) ∧ m'.dleft = (commitP (drvM m d) d.di).1.left ∧ m.Like m' ∧ Ext w w' := fun w a b => rsync_any G m d w a b hj hl hp
      have he := commit_err (drvM m d) d.di
      have hch := commit_home (D := drvM m d) hj hl
      have hcj := commit_jrn (D := drvM m d) hj hl
      generalize hR : commitP (drvM m d) d.di = R at HS1 HS2 he hch hcj
      clear hR
      obtain ⟨E, er⟩ := R
      simp only at HS1 HS2 he hch hcj
      have HSa := Lib.hid HS1
      have HSb := Lib.hid HS2
      clear HS1 HS2
      have HCH := Lib.hid hch
      have HCJ := Lib.hid hcj
      have hF := (hG ▸ MacF.old HM0.out hlens.small : MacF G w m d)
      have HF := Lib.hid (hF.ext (xa.trans x2))
      have HSm := Lib.hid hlens.small
      have bm2 := bm.ext x2
      have hGs : G < wc.heap.size := bm2.lt
      have xc := xa.trans x2
      have HTc := Lib.hid (hTa.out.ext x2)
      clear hch hcj hdk hlens hd hl hp HG HC hF x2 xa bm hTa
      go_upto_region 4 with (first
        | (refine wp_ld_mac (.tmp 1) rfl rfl G _ _ rfl bm2 rfl ?_)
        | (go_at_call 20; refine (HSa.out _ (by omega) HF.out HTc.out).mono ?_; rintro e w3 ⟨m3, rfl, hF3, hl3, hk3, x3⟩; have HL3 := Lib.hid hl3; have HK3 := Lib.hid hk3; clear hl3 hk3)
        | (refine wp_st_mac (.tmp 3) (.tmp 20) rfl rfl w3.heap.size m3 _ 30 rfl rfl (Box.new _ _ _) rfl ?_; intro w4 b4 g4))
      have x34 : Ext w3 w4 := ((Ext.refl w3).alloc _).grown g4 (fun j e => by cases e; exact Nat.le_refl _)
      have x4 := x3.trans x34
      have hF4 := hF3.ext x34
      have bm4 := bm2.ext x4
      have HF4 := Lib.hid (HF.out.ext x4)
      have xc4 := xc.trans x4
      have hGs4 : G < w4.heap.size := bm4.lt
      clear g4 x34 x3 hF3 bm2 x4 xc hGs
      generalize w3.heap.size = g3 at *
      go_upto_region 5 with (first
        | (refine wp_ld_mac (.tmp 1) rfl rfl G _ _ rfl bm4 rfl ?_)
        | (go_at_call 21; refine (HSb.out _ (by omega) HF4.out).mono ?_; rintro e w5 ⟨m5, rfl, hF5, hl5, hk5, x5⟩; have HL5 := Lib.hid hl5; have HK5 := Lib.hid hk5; clear hl5 hk5)
        | (refine wp_st_mac (.tmp 5) (.tmp 25) rfl rfl w5.heap.size m5 _ 30 rfl rfl (Box.new _ _ _) rfl ?_; intro w6 b6 g6))
      have x56 : Ext w5 w6 := ((Ext.refl w5).alloc _).grown g6 (fun j e => by cases e; exact Nat.le_refl _)
      have x6 := x5.trans x56
      have hA6 := hF4.ext x6
      have hB6 := hF5.ext x56
      have bm6 := bm4.ext x6
      have b46 := b4.ext x6
      have HF6 := Lib.hid (HF4.out.ext x6)
      have xc6 := xc4.trans x6
      clear g6 x56 x5 hF5 hF4 bm4 b4 x6 xc4 HSa HSb
      generalize w5.heap.size = g5 at *
      have HSD := Lib.hid (fun w a b c d => sameDrive_yes m3.bl m3.pe m5.bl m5.pe m3.dleft E.bl E.pe w a b c d)
      rw [show drvC m5.bl m5.pe m3.dleft = drvC m5.bl m5.pe m5.dleft by rw [HL3.out, HL5.out]] at HSD
      have HW := Lib.hid (fun w a b => writes_yes m3.di m5.di (syncD d (E, er)).di w a b hA6.di.k.small)
      have HAp := Lib.hid (fun w h a b c => apart_yes m m3 d w HK3.out h a b c ⟨hA6.fr.k.ok, hA6.pr.k.ok, hA6.pi.k.ok⟩ HSm.out)
      have HA6 := Lib.hid hA6
      have HB6 := Lib.hid hB6
      clear hA6 hB6
      have e16 : w6.cell? ⟨g3, 16, none⟩ = some (.slice m3.di.A m3.di.n m3.di.c) := b46.cell 16
      have e16' : w6.cell? ⟨g5, 16, none⟩ = some (.slice m5.di.A m5.di.n m5.di.c) := b6.cell 16
      go_upto_region 7 with (first
        | (refine wp_ld_drvM_g (.tmp 31) rfl rfl g3 m3 30 rfl b46 ?_)
        | (refine wp_ld_drvM_g (.tmp 33) rfl rfl g5 m5 30 rfl b6 ?_)
        | (go_at_call 17; refine (HSD.out _ HA6.out.bl.k HB6.out.bl.k HA6.out.pe.k HB6.out.pe.k).mono ?_; rintro e w7 ⟨rfl, x7⟩; have b47 := b46.ext x7; have b67 := b6.ext x7; have e17 : w7.cell? ⟨g3, 16, none⟩ = some (.slice m3.di.A m3.di.n m3.di.c) := b47.cell 16; have e17' : w7.cell? ⟨g5, 16, none⟩ = some (.slice m5.di.A m5.di.n m5.di.c) := b67.cell 16)
        | (go_at_call 18; refine (HW.out _ (HA6.out.di.k.row.ext x7) (HB6.out.di.k.row.ext x7)).mono ?_; rintro e w8 ⟨rfl, x8⟩; have b48 := b47.ext x8; have bm8 := (bm6.ext x7).ext x8)
        | (refine wp_ld_mac_g (.tmp 3) rfl rfl g3 m3 30 rfl b48 ?_)
        | (refine wp_ld_mac_g (.tmp 1) rfl rfl G m 30 rfl bm8 ?_)
        | (go_at_call 19; refine (HAp.out _ ((HF6.out.ext x7).ext x8).toIn ((HA6.out.ext x7).ext x8).fr.k.row ((HA6.out.ext x7).ext x8).pr.k.row ((HA6.out.ext x7).ext x8).pi.k.row).mono ?_; rintro e w9 ⟨rfl, x9⟩))
      have xc9 := ((xc6.trans x7).trans x8).trans x9
      have b39 := b48.ext x9
      have bm9 := bm8.ext x9
      have HA9 := Lib.hid (((HA6.out.ext x7).ext x8).ext x9)
      have HF9 := Lib.hid (((HF6.out.ext x7).ext x8).ext x9)
      clear xc6 x7 x8 x9 b48 bm8 b47 b67 b46 b6 bm6 e16 e16' e17 e17' HA6 HB6 HF6 HSD HW HAp HL5 HK5 HF4 HF HTc
      rcases he with rfl | rfl
      · have hh : homeP E.bl E.pe = viewP d.bl d.pe d.di := HCH.out rfl
        have hv3 := HV.out m3 (syncD d (E, 0))
        rw [show viewP (syncD d (E, 0)).bl (syncD d (E, 0)).pe (syncD d (E, 0)).di = viewP d.bl d.pe d.di from HCH.out rfl] at hv3
        have hhm := fun w h1 h2 => home_any m3.bl.A m3.pe.A m3.bl.n m3.bl.c m3.pe.n m3.pe.c m3.dleft E.bl E.pe w h1 h2 (maxLen_le HA9.out.pe.k.ok.2.1) HA9.out.bl.k.ok.2.2
        rw [hh] at hhm
        have HV1 := Lib.hid (HV.out m d)
        have HV3 := Lib.hid hv3
        have HHm := Lib.hid hhm
        have hdn : m3.di.n = 0 := HA9.out.di.k.row.1
        have d0 : ((m3.di.n : Int) == 0) = true := by rw [hdn]; rfl
        have HS := Lib.hid same16_yes
        clear hv3 hhm hh hdn HV HCH
        generalize viewP d.bl d.pe d.di = V at *
        have hVb : V.length ≤ 9223372036854775807 := by omega
        go_wp2_with (first
          | (refine wp_ld_mac (.tmp 1) rfl rfl G _ _ rfl bm9 rfl ?_)
          | (go_at_call 11; (have hq := HV1.out _ HF9.out.toIn; with_reducible (refine hq.mono ?_)); clear hq; rintro e w10 ⟨A1, c1, rfl, x10, own10⟩; have s10 := Strs.own own10; have b310 := b39.ext x10; have q16 : w10.cell? ⟨g3, 16, none⟩ = some (.slice m3.di.A m3.di.n m3.di.c) := b310.cell 16)
          | (refine wp_ld_mac_g (.tmp 3) rfl rfl g3 m3 30 rfl b310 ?_)
          | (go_at_call 11; (have hq := HV3.out _ (HA9.out.ext x10).toIn; with_reducible (refine hq.mono ?_)); clear hq; rintro e w11 ⟨A2, c2, rfl, x11, own11⟩; have s11 := Strs.own own11)
          | (go_at_call 12; (have hq := HS.out A2 A1 V.length c2 c1 V w11 s11 (s10.ext x11) hVb; with_reducible (refine hq.mono ?_)); clear hq; rintro e w12 ⟨rfl, x12⟩; have b312 := (b310.ext x11).ext x12)
          | (refine wp_ld_drvM_g (.tmp 68) rfl rfl g3 m3 30 rfl b312 ?_)
          | (go_at_call 22; refine (HHm.out _ (((HA9.out.ext x10).ext x11).ext x12).bl.k.row.strs (((HA9.out.ext x10).ext x11).ext x12).pe.k.row.wrs).mono ?_; rintro e w13 ⟨A3, c3, rfl, x13, own13⟩; have s13 := Strs.own own13)
          | (go_at_call 12; (have hq := HS.out A3 A1 V.length c3 c1 V w13 s13 (((s10.ext x11).ext x12).ext x13) hVb; with_reducible (refine hq.mono ?_)); clear hq; rintro e w14 ⟨rfl, x14⟩)
          | (go_at_call 10; refine (HA.out _).mono ?_; rintro e w15 ⟨rfl, x15⟩))
        go_ret
        exact ⟨rfl, ((((((xc9.trans x10).trans x11).trans x12).trans x13).trans x14).trans x15)⟩
      · go_wp2_with (go_at_call 10; refine (HA.out _).mono ?_; rintro e w10 ⟨rfl, x10⟩)
        go_ret
        exact ⟨rfl, xc9.trans x10⟩
end Go.Proofs.YtkokmnaicfdjaaaGreatDoor
/- Plain: the blocks of a volume that differ, as a list and as a map. -/
namespace Go.Proofs.YtkokmnaicfdjaaaGreatDoor
set_option linter.unusedVariables false
set_option linter.unusedSimpArgs false
open Go.RowKit

/-- the first k blocks that differ -/
def keepL (H v : List (List UInt8)) : Nat → List WrT
  | 0 => []
  | k + 1 => if v.getD k [] = H.getD k [] then keepL H v k else keepL H v k ++ [((k : Int), v.getD k [])]
theorem keepL_mem (H v : List (List UInt8)) : ∀ (k : Nat), ∀ x ∈ keepL H v k, 0 ≤ x.1 ∧ x.1 < (k : Int) ∧ x.2 = v.getD x.1.toNat []
  | 0, x, h => by cases h
  | k + 1, x, h => by
    rw [keepL] at h
    split at h
    · obtain ⟨h1, h2, h3⟩ := keepL_mem H v k x h
      exact ⟨h1, by omega, h3⟩
    · rcases List.mem_append.1 h with h | h
      · obtain ⟨h1, h2, h3⟩ := keepL_mem H v k x h
        exact ⟨h1, by omega, h3⟩
      · obtain rfl : x = ((k : Int), v.getD k []) := List.mem_singleton.1 h
        exact ⟨Int.natCast_nonneg k, by show (k : Int) < _; omega, rfl⟩
theorem keepL_rise (H v : List (List UInt8)) : ∀ (k : Nat), (keepL H v k).Pairwise fun x y => x.1 < y.1
  | 0 => List.Pairwise.nil
  | k + 1 => by
    rw [keepL]
    split
    · exact keepL_rise H v k
    · refine List.pairwise_append.2 ⟨keepL_rise H v k, List.pairwise_singleton _ _, fun x hx y hy => ?_⟩
      obtain rfl : y = ((k : Int), v.getD k []) := List.mem_singleton.1 hy
      exact (keepL_mem H v k x hx).2.1
theorem keepL_len (H v : List (List UInt8)) : ∀ (k : Nat), (keepL H v k).length ≤ k
  | 0 => Nat.le_refl _
  | k + 1 => by
    rw [keepL]
    have := keepL_len H v k
    split
    · omega
    · rw [List.length_append, List.length_singleton]; omega
theorem keep_rise {H v : List (List UInt8)} {N : Nat} (hN : v.length ≤ N) (hf : ∀ b ∈ v, b.length = 128) (hl : (keepL H v v.length).length ≤ 32) : RiseW N (keepL H v v.length) := by
  refine ⟨hl, fun i hi => ?_⟩
  obtain ⟨h1, h2, h3⟩ := keepL_mem H v v.length _ (List.getElem_mem hi)
  refine ⟨h1, by omega, ?_, fun h0 => ?_⟩
  · rw [h3, List.getD_eq_getElem?_getD, List.getElem?_eq_getElem (by omega)]
    exact hf _ (List.getElem_mem _)
  · exact List.pairwise_iff_getElem.1 (keepL_rise H v v.length) (i - 1) i (by omega) hi (by omega)
/-- as entries of a map -/
def entL (l : List WrT) : List (Lit × DataW Unit) := l.map fun x => (.int .i64 x.1, .lit (.string x.2))
theorem insert_last (e : Lit × DataW Unit) : ∀ l : List (Lit × DataW Unit), (∀ p ∈ l, e.1.before p.1 = false) → DataW.insert e l = l ++ [e]
  | [], _ => rfl
  | y :: r, h => by
    rw [DataW.insert, if_neg (by rw [h y List.mem_cons_self]; simp), insert_last e r (fun p hp => h p (List.mem_cons_of_mem _ hp))]; rfl
theorem ent_put (l : List WrT) (k : Int) (s : List UInt8) (h : ∀ x ∈ l, x.1 < k) : (DataW.map (entL l)).put (.int .i64 k) (.lit (.string s)) = .map (entL (l ++ [(k, s)])) := by
  have e1 : (entL l).filter (fun p => !p.1.sameKey (.int .i64 k)) = entL l := by
    rw [List.filter_eq_self]
    intro p hp
    obtain ⟨x, hx, rfl⟩ := List.mem_map.1 hp
    have := h x hx
    simp [Lit.sameKey]; omega
  rw [DataW.put, e1, insert_last]
  · unfold entL; rw [List.map_append]; rfl
  · intro p hp
    obtain ⟨x, hx, rfl⟩ := List.mem_map.1 hp
    have := h x hx
    simp [Lit.before]; omega
theorem ent_keys (l : List WrT) : intKeys (.map (entL l)) = l.map (·.1) := by
  show (l.map fun x => ((Lit.int .i64 x.1, DataW.lit (.string x.2)) : Lit × DataW Unit)).map (fun p => Go.intOf p.1) = _
  rw [List.map_map]; rfl
theorem ent_size (l : List WrT) : Maps.size (.map (entL l)) = l.length := by
  show (l.map fun x => ((Lit.int .i64 x.1, DataW.lit (.string x.2)) : Lit × DataW Unit)).length = _
  rw [List.length_map]
theorem ent_at (z : DataW Unit) : ∀ (l : List WrT), (l.Pairwise fun x y => x.1 < y.1) → ∀ x ∈ l, (DataW.map (entL l)).atKey (.int .i64 x.1) z = .lit (.string x.2)
  | [], _, x, h => by cases h
  | y :: l, hp, x, h => by
    rw [List.pairwise_cons] at hp
    rcases List.mem_cons.1 h with rfl | h
    · simp [DataW.atKey, entL, Lit.sameKey]
    · have h1 := hp.1 x h
      have ih := ent_at z l hp.2 x h
      simp only [DataW.atKey, entL, List.map_cons] at ih ⊢
      rw [List.find?_cons_of_neg (by simp [Lit.sameKey]; omega)]
      exact ih
theorem keys_sorted (l : List WrT) (hp : l.Pairwise fun x y => x.1 < y.1) {ss : List Int} (h : ss.Perm (l.map (·.1))) : ss.mergeSort (fun x y => decide (x ≤ y)) = l.map (·.1) := by
  have tr : ∀ a b c : Int, decide (a ≤ b) = true → decide (b ≤ c) = true → decide (a ≤ c) = true := fun a b c h1 h2 => by simp only [decide_eq_true_eq] at *; exact Int.le_trans h1 h2
  have tot : ∀ a b : Int, (decide (a ≤ b) || decide (b ≤ a)) = true := fun a b => by simp only [Bool.or_eq_true, decide_eq_true_eq]; exact Int.le_total a b
  refine List.Perm.eq_of_pairwise (le := fun a b => decide (a ≤ b) = true) (fun a b _ _ h1 h2 => ?_) (List.pairwise_mergeSort tr tot ss) ?_ ((List.mergeSort_perm ss _).trans h)
  · simp only [decide_eq_true_eq] at h1 h2
    exact Int.le_antisymm h1 h2
  · rw [List.pairwise_map]
    exact hp.imp fun h => by simp only [decide_eq_true_eq]; omega
/-- a machine's rows behind keeping a volume; the error; the drive's count -/
def keepD (D : DrvD) (d : MacD) (v : List (List UInt8)) : MacD × Int × Int :=
  if v.length ≠ (homeP d.bl d.pe).length then (d, 2, D.left)
  else if formE v ≠ 0 then (d, 3, D.left)
  else if 32 < (keepL (homeP d.bl d.pe) v v.length).length then (d, 6, D.left)
  else if 16 < (keepL (homeP d.bl d.pe) v v.length).length then
    (syncD { d with di := keepL (homeP d.bl d.pe) v v.length } (commitP D (keepL (homeP d.bl d.pe) v v.length)), (commitP D (keepL (homeP d.bl d.pe) v v.length)).2, (commitP D (keepL (homeP d.bl d.pe) v v.length)).1.left)
  else ({ d with di := keepL (homeP d.bl d.pe) v v.length }, 0, D.left)
theorem keepD_eq (D : DrvD) (d : MacD) (v : List (List UInt8)) : keepD D d v =
  (if v.length ≠ (homeP d.bl d.pe).length then (d, 2, D.left)
  else if formE v ≠ 0 then (d, 3, D.left)
  else if 32 < (keepL (homeP d.bl d.pe) v v.length).length then (d, 6, D.left)
  else if 16 < (keepL (homeP d.bl d.pe) v v.length).length then
    (syncD { d with di := keepL (homeP d.bl d.pe) v v.length } (commitP D (keepL (homeP d.bl d.pe) v v.length)), (commitP D (keepL (homeP d.bl d.pe) v v.length)).2, (commitP D (keepL (homeP d.bl d.pe) v v.length)).1.left)
  else ({ d with di := keepL (homeP d.bl d.pe) v v.length }, 0, D.left)) := rfl
def KeepR (B0 : Nat) (m : Mac) (d : MacD) (v : List (List UInt8)) (w : World) (e : Ending) (w' : World) : Prop :=
  ∃ m' : Mac, e = .returned (.tuple #[.agg m'.cells, .int .i64 (keepD (drvM m d) d v).2.1]) ∧ MacF B0 w' m' (keepD (drvM m d) d v).1 ∧ m'.dleft = (keepD (drvM m d) d v).2.2 ∧ m.Like m' ∧ Ext w w'
theorem KeepR.mk {B0 : Nat} {m m' : Mac} {d E : MacD} {v : List (List UInt8)} {w w' : World} {er x : Int} (hk : keepD (drvM m d) d v = (E, er, x)) (hF : MacF B0 w' m' E) (hl : m'.dleft = x) (hm : m.Like m') (hx : Ext w w') : KeepR B0 m d v w (.returned (.tuple #[.agg m'.cells, .int .i64 er])) w' := by
  refine ⟨m', ?_, ?_, ?_, hm, hx⟩
  · rw [hk]
  · rw [hk]; exact hF
  · rw [hk]; exact hl
/-- a volume that was kept is seen -/
theorem lay_keep (H v : List (List UInt8)) (hlen : v.length = H.length) : ∀ k, k ≤ v.length → (keepL H v k).foldl layP H = (v.take k) ++ H.drop k
  | 0, _ => by simp [keepL]
  | k + 1, hk => by
    have ih := lay_keep H v hlen k (by omega)
    have hkv : k < v.length := by omega
    have hkH : k < H.length := by omega
    have e1 : v.getD k [] = v[k] := by rw [List.getD_eq_getElem?_getD, List.getElem?_eq_getElem hkv]; rfl
    have e2 : H.getD k [] = H[k] := by rw [List.getD_eq_getElem?_getD, List.getElem?_eq_getElem hkH]; rfl
    have e3 : v.take (k + 1) = v.take k ++ [v[k]] := List.take_succ_eq_append_getElem hkv
    have e4 : H.drop k = H[k] :: H.drop (k + 1) := List.drop_eq_getElem_cons hkH
    rw [keepL]
    split
    · rename_i h
      rw [e1, e2] at h
      rw [ih, e3, e4, h, List.append_assoc]; rfl
    · rw [List.foldl_append, ih, List.foldl_cons, List.foldl_nil, e1, lay_eq, if_pos (Int.natCast_nonneg k), e3, e4, Int.toNat_natCast, List.set_append_right _ _ (by rw [List.length_take]; omega), List.length_take, Nat.min_eq_left (by omega), Nat.sub_self, List.append_assoc]
      rfl
theorem lay_keep_all (H v : List (List UInt8)) (hlen : v.length = H.length) : (keepL H v v.length).foldl layP H = v := by
  rw [lay_keep H v hlen _ (Nat.le_refl _), List.take_length, List.drop_of_length_le (by omega), List.append_nil]
end Go.Proofs.YtkokmnaicfdjaaaGreatDoor
