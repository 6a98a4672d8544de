/- cache.Keep of the volume that is there. -/
import Derived.Test.YtkokmnaicfdjaaaGreatDoorVc14
import Derived.Test.YtkokmnaicfdjaaaGreatDoorVc15
import Derived.Test.YtkokmnaicfdjaaaGreatDoorVc18
import Derived.Test.YtkokmnaicfdjaaaGreatDoorVc7
namespace Go.Proofs.YtkokmnaicfdjaaaGreatDoor
set_option linter.unusedVariables false
set_option linter.unusedSimpArgs false
open Go.RowKit

theorem homeP_all {B : List (List UInt8)} {p : List WrT} (hj : jrnE B p = 0) : ∀ b ∈ homeP B p, b.length = 128 := by
  have hd := drvOk_of hj
  have key : ∀ (p : List WrT) (v : List (List UInt8)), (∀ x ∈ p, x.2.length = 128) → (∀ b ∈ v, b.length = 128) → ∀ b ∈ p.foldl putP v, b.length = 128 := fun p => by
    induction p with
    | nil => exact fun v _ hv => hv
    | cons x p ih =>
      intro v hp hv
      rw [List.foldl_cons]
      refine ih _ (fun y hy => hp y (by simp [hy])) (fun b hb => ?_)
      unfold putP at hb
      split at hb
      · rcases List.mem_or_eq_of_mem_set hb with hb | rfl
        · exact hv b hb
        · exact hp x (by simp)
      · exact hv b hb
  unfold homeP
  rw [if_neg (by simpa using hj)]
  exact key p _ (fun x hx => (hd.pend x hx).2.2) (fun b hb => hd.form b (List.mem_of_mem_drop hb))
set_option maxHeartbeats 2000000 in
set_option maxRecDepth 100000 in
theorem keep_same (m : Mac) (d : MacD) (A : Option Addr) (n c : Nat) (w : World) (h : MacIn w m d) (hs : MacSmall m) (hj : jrnE d.bl d.pe = 0) (hv : Strs w A n (homeP d.bl d.pe)) :
    Calls Tryz.prog 15 #[.agg m.cells, .slice A n c] w fun e w' => ∃ m' : Mac, e = .returned (.tuple #[.agg m'.cells, .int .i64 0]) ∧ Ext w w' ∧ MacIn w' m' { d with di := [] } ∧ MacTy w' m' := by
  have HO := Lib.hid (fun w h => omac_any m d w h hs)
  have HH := Lib.hid (fun w h1 h2 => home_any m.bl.A m.pe.A m.bl.n m.bl.c m.pe.n m.pe.c m.dleft d.bl d.pe w h1 h2 (maxLen_le h.pek.2.1) h.blk.2.2)
  have HALL := Lib.hid (homeP_all hj)
  have HM := Lib.hid h
  have HV := Lib.hid hv
  have hl := hv.1
  have hz := str_size
  have b0 := Box.new w 30 m.cells
  have x0 := (Ext.refl w).alloc (.cells m.cells 30)
  have z0 : (w.alloc (.cells m.cells 30)).heap.size = w.heap.size + 1 := World.size_alloc _ _
  clear h hs hv
  go_enter Tryz.func15, Tryz.ntmps15
  go_upto_region 1 with fail
  generalize w.alloc (.cells m.cells 30) = wa at b0 x0 z0 ⊢
  have bR0 := Box.new wa 30 zeroMacC
  have x1 : Ext w (wa.alloc (.cells zeroMacC 30)) := x0.alloc (.cells zeroMacC 30)
  have b1 := b0.ext ((Ext.refl wa).alloc (.cells zeroMacC 30))
  rw [z0] at bR0
  change Code.wp _ _ _ _ (wa.alloc (.cells zeroMacC 30))
  generalize wa.alloc (.cells zeroMacC 30) = w1 at bR0 x1 b1 ⊢
  generalize hG : w.heap.size = G at *
  clear b0 x0 z0
  clear wa
  go_upto_region 2 with (first
    | (refine wp_ld_mac (.tmp 2) rfl rfl G _ _ rfl b1 rfl ?_)
    | (go_at_call 32; refine (HO.out _ (HM.out.ext x1)).mono ?_; rintro e w2 ⟨fr, pr, pi, bl, pe, di, rfl, x2, hM2, hS2, hN2⟩)
    | (refine wp_st_mac (.tmp 6) (.tmp 14) rfl rfl w2.heap.size (m.with fr pr pi bl pe di) _ 30 rfl rfl (Box.new _ _ _) rfl ?_; intro w3 b3 g3))
  have x23 : Ext w2 w3 := ((Ext.refl w2).alloc _).grown g3 (fun j e => by cases e; exact Nat.le_refl _)
  have x3 := (x1.trans x2).trans x23
  have bb3 := (b1.ext x2).ext x23
  have bR3 := (bR0.ext x2).ext x23
  have hMM := Lib.hid hM2
  have y3 := x23
  have hlt2 : G + 1 < w2.heap.size := (bR0.ext x2).lt
  clear hM2 x1 x2 x23 b1 bR0 g3
  generalize hG6 : w2.heap.size = G6 at *
  have hsb := Lib.hid (HM.out.bl.strs.ext x3)
  have hsp := Lib.hid (HM.out.pe.wrs.ext x3)
  go_upto_region 3 with (first
    | (refine wp_ld_drvM (.tmp 15) rfl rfl G m 30 rfl bb3 ?_)
    | (go_at_call 22; refine (HH.out _ hsb.out hsp.out).mono ?_; rintro e w4 ⟨A1, c1, rfl, x4, own4⟩))
  have xx4 := x3.trans x4
  have b64 := b3.ext x4
  have bR4 := bR3.ext x4
  have y4 := y3.trans x4
  have hvA := Lib.hid (HV.out.ext xx4)
  have hv1 := Lib.hid (Strs.own own4)
  have hpos : 0 < (homeP d.bl d.pe).length := by rw [homeP_len hj]; have := (drvOk_of hj).least; omega
  have hNb : (homeP d.bl d.pe).length ≤ 1000 := by rw [homeP_len hj]; have := (drvOk_of hj).most; omega
  rw [hl] at HV hvA
  clear hl b3 bb3 bR3 y3 hsb hsp own4 x3 HV HH HO hS2
  generalize homeP d.bl d.pe = H at *
  have hmk := fun w => run_makeMap (P := Tryz.prog) 77 w
  go_upto_region 6 with fail
  clear hmk
  have xm := xx4.alloc (.map #[] 0)
  have xm4 : Ext w4 (w4.alloc (.map #[] 0)) := (Ext.refl _).alloc _
  have b65 := b64.ext xm4
  have bR5 := bR4.ext xm4
  have y5 := y4.trans xm4
  have hvA5 := Lib.hid (hvA.out.ext xm4)
  have hv15 := Lib.hid (hv1.out.ext xm4)
  have hmap := fun R => World.ownsMap_made (H := Unit) w4 Tryz.prog 3 R
  have hGm : G6 < w4.heap.size := b64.lt
  generalize w4.alloc (.map #[] 0) = w5 at xm b65 bR5 y5 hvA5 hv15 hmap ⊢
  generalize w4.heap.size = Bm at *
  clear xm4 b64 bR4 y4 hvA hv1 xx4 x4
  clear w4
  go_upto_region 7 with fail
  go_loop [9, 10, 27] (fun _ _ t => ∃ k : Nat, k ≤ H.length ∧ t = .int .i64 k) (fun _ _ t => H.length - (intOf t).toNat)
  case atStart => exact ⟨0, by omega, rfl⟩
  case round =>
    obtain ⟨k, hk, rfl⟩ := hrel
    by_cases hlt : k < H.length
    · obtain ⟨ba, oa, rfl, hca⟩ := hvA5.out.2 (by omega)
      obtain ⟨bb, ob, rfl, hcb⟩ := hv15.out.2 (by omega)
      have ca := hca k hlt
      have cb := hcb k hlt
      have hlk : ((H[k].length : Int) != 128) = false := by rw [HALL.out _ (List.getElem_mem hlt)]; rfl
      have hki : (k : Int) < (H.length : Int) := by omega
      clear hca hcb
      generalize H[k] = s at *
      go_wp2_with fail
      go_round
      case rel => exact ⟨k + 1, by omega, by go_num⟩
      case measure => simp [intOf]; omega
    · obtain rfl : k = H.length := by omega
      have hlen : ∀ ty, (Builtin.len_ #[77] ty #[.map (some Bm)]).run Tryz.prog w5 = .ok (.int .i64 0) w5 := fun ty => (hmap (fun _ => none)).len Tryz.underlying77 ty
      have bL := b65.cell 16
      have fL := b65.frozen 16
      go_upto_region 17 with fail
      have b66 : Box (w5.setCell ⟨G6, 16, none⟩ (.slice none 0 0)) G6 30 ({ m.with fr pr pi bl pe di with di := ⟨none, 0, 0⟩ } : Mac).cells := b65.set 16 _
      have bR6 := bR5.setOther (show G + 1 ≠ G6 by omega) (i := 16) (.slice none 0 0)
      have x6 := xm.setCell (p := ⟨G6, 16, none⟩) (by rw [hG]; show G ≤ G6; omega) (.slice none 0 0)
      have y6 := y5.setCell (p := ⟨G6, 16, none⟩) (by rw [hG6]; exact Nat.le_refl G6) (.slice none 0 0)
      have m6 := ((hmap (fun _ => none)).kept (grown_cells (g := G6) [.slice none 0 0] 16 w5) (show (some Bm : Option Nat) ≠ some G6 from fun e => by injection e with e; omega)).alloc (.cells #[.map (some Bm)] 77)
      change ((w5.setCell ⟨G6, 16, none⟩ (.slice none 0 0)).alloc (.cells #[.map (some Bm)] 77)).ownsMap _ _ _ _ _ _ at m6
      clear hlen bL fL b65 bR5 y5 hmap xm hvA5 hv15
      generalize w5.setCell ⟨G6, 16, none⟩ (.slice none 0 0) = w6 at b66 bR6 x6 y6 m6 ⊢
      go_upto_region 18 with (first
        | (go_at_call 34; refine (keys_any _ _).mono ?_; rintro e w7 ⟨rfl, rfl⟩; have c7 : (w6.alloc (.cells #[.map (some Bm)] 77)).cell? ⟨w6.heap.size, 0, none⟩ = some (.map (some Bm)) := (Box.new w6 77 #[.map (some Bm)]).cell 0)
        | (go_at_call 33; refine (sorted_nil w6.heap.size Bm 0 _ (by simp) c7 m6).mono ?_; rintro e w8 ⟨rfl, x8⟩))
      have x68 := ((Ext.refl w6).alloc (.cells #[.map (some Bm)] 77)).trans x8
      have b68 := b66.ext x68
      have bR8 := bR6.ext x68
      have xx8 := x6.trans x68
      have y8 := y6.trans x68
      clear x68 b66 bR6 x6 y6 m6 c7 x8
      go_loop [12, 55] (fun _ t => t = .int .i64 0) (fun _ t => 0)
      case atStart => rfl
      case round =>
        obtain rfl := hrel
        have q16 : w8.cell? ⟨G6, 16, none⟩ = some (.slice none 0 0) := b68.cell 16
        go_wp2_with (first
          | (refine wp_ld_mac (.tmp 6) rfl rfl G6 _ _ rfl b68 rfl ?_)
          | (refine wp_st_mac (.tmp 4) (.tmp 78) rfl rfl (G + 1) ({ m.with fr pr pi bl pe di with di := ⟨none, 0, 0⟩ } : Mac) _ 30 rfl rfl bR8 rfl ?_; intro w9 b9 g9))
        have xF := xx8.grown g9 (fun j e => by cases e; rw [hG]; exact Nat.le_succ _)
        have hm8 := (hMM.out.ext y8).grown (hN2.ext y8) bR8 g9
        have ht8 := (hN2.ext y8).grown bR8 g9
        exact bodyPost_ret (results_cell2 rfl _ _ (G + 1) _ _ _ (.int .i64 0) rfl rfl b9 Tryz.underlying30 rfl macSize) rfl ⟨{ m.with fr pr pi bl pe di with di := ⟨none, 0, 0⟩ }, rfl, xF, ⟨hm8.fr, hm8.pr, hm8.pi, hm8.bl, hm8.pe, nil_row _ _, hm8.frk, hm8.prk, hm8.pik, hm8.blk, hm8.pek, nil_ok, hm8.initk, hm8.innk, hm8.leftk⟩, ⟨ht8.fr, ht8.pr, ht8.pi, ht8.bl, ht8.pe, TyOk.nil _⟩⟩
end Go.Proofs.YtkokmnaicfdjaaaGreatDoor
/- The example of layer 28: awake is true. -/
namespace Go.Proofs.YtkokmnaicfdjaaaGreatDoor
set_option linter.unusedVariables false
set_option linter.unusedSimpArgs false
open Go.RowKit

theorem jrn_bare : jrnE (fmtB mk8) [] = 0 := by
  have hl : (fmtB mk8).length = 57 := by rw [fmtB_len, mk8_len]
  have hf : formE (fmtB mk8) = 0 := formE_all (fun b hb => by
    rcases List.mem_append.1 hb with hb | hb
    · rw [List.eq_of_mem_replicate hb, zs_len]
    · exact mk8_all b hb)
  unfold jrnE drvE
  rw [hl, hf]
  rfl
theorem home_bare : homeP (fmtB mk8) [] = mk8 := by
  unfold homeP
  rw [if_neg (by rw [jrn_bare]; decide)]
  show (fmtB mk8).drop 33 = mk8
  unfold fmtB
  rw [List.drop_append_of_le_length (by simp), List.drop_of_length_le (by simp), List.nil_append]
theorem run_st_mac (o : Oper) (a : Act) (w : World) (x y : Operand) (ho : o.op = .store 30 x y) (g : Nat) (m : Mac) (old : Array Value) (t : TypeId) (hx : a.eval x = .pointer (some ⟨g, 0, none⟩)) (hy : a.eval y = .agg m.cells) (hb : Box w g t old) (hold : old.size = 17) :
    (execOp a.eval o).run Tryz.prog w = .ok .skip (w.setRow g m.cells) := by
  unfold execOp
  simp only [ho, hx, hy, Instr.storeAt, Instr.sureAddr, Sem.run_bind, Sem.run_pure, Result.andThen_ok, run_storeVar_row w g t 30 old m.cells hb macSize hold (macC_one m)]
def viewV (w : World) (u : Value) : Prop := ∃ A c, u = .slice A 24 c ∧ Strs w A 24 mk8
def keepV (w : World) (u : Value) : Prop := ∃ m' : Mac, u = .tuple #[.agg m'.cells, .int .i64 0] ∧ MacIn w m' bareD ∧ MacTy w m'
def macV (w : World) (u : Value) : Prop := ∃ m' : Mac, u = .agg m'.cells ∧ MacIn w m' bareD ∧ MacTy w m'
def zeroV (w0 : World) (w : World) (u : Value) : Prop := ∃ g, u = .pointer (some ⟨g, 0, none⟩) ∧ Box w g 30 zeroMacC ∧ w0.heap.size ≤ g
theorem lasts_view : Lasts viewV := fun _ _ _ x ⟨A, c, e, h⟩ => ⟨A, c, e, h.ext x⟩
theorem lasts_keep : Lasts keepV := fun _ _ _ x ⟨m, e, h, t⟩ => ⟨m, e, h.ext x, t.ext x⟩
theorem lasts_mac : Lasts macV := fun _ _ _ x ⟨m, e, h, t⟩ => ⟨m, e, h.ext x, t.ext x⟩
theorem lasts_zero (w0 : World) : Lasts (zeroV w0) := fun _ _ _ x ⟨g, e, h, t⟩ => ⟨g, e, h.ext x, t⟩
set_option maxHeartbeats 4000000 in
set_option maxRecDepth 100000 in
theorem awake_any (w : World) : Calls Tryz.prog 10 #[] w fun e w' => e = .returned (.bool true) ∧ Ext w w' := by
  have HV := Lib.hid (fun (m : Mac) w (h : MacIn w m bareD) => view_any m bareD w h)
  rw [show viewP bareD.bl bareD.pe bareD.di = mk8 from home_bare, mk8_len] at HV
  have HK := Lib.hid (fun (m : Mac) (hs : MacSmall m) A c w (h : MacIn w m bareD) (s : Strs w A 24 mk8) => keep_same m bareD A 24 c w h hs jrn_bare (by rw [show homeP bareD.bl bareD.pe = mk8 from home_bare]; exact s))
  go_enter Tryz.func10, Tryz.ntmps10
  go_upto_region 2 with (first
    | (go_at_call 30; refine (bare_any _).mono ?_; rintro e w1 ⟨gf, gb, rfl, x1, hM⟩)
    | (refine wp_st_mac (.tmp 1) (.tmp 7) rfl rfl w1.heap.size (bareM gf gb) _ 30 rfl rfl (Box.new _ _ _) rfl ?_; intro w2 bA g2))
  have x12 : Ext w1 w2 := ((Ext.refl w1).alloc _).grown g2 (fun j e => by cases e; exact Nat.le_refl _)
  have xb := x1.trans x12
  replace hM := hM.ext x12
  have hsm : MacSmall (bareM gf gb) := ⟨by show 4 ≤ 100000; omega, Nat.zero_le _, Nat.zero_le _, by show 57 ≤ 100000; omega, Nat.zero_le _, Nat.zero_le _⟩
  replace HK := Lib.hid (HK.out (bareM gf gb) hsm)
  replace HV := Lib.hid (HV.out (bareM gf gb))
  clear g2 x1 x12 hsm
  go_cut [3, 4] (fun p s wx => s = .int .i64 0 ∧ ∃ (g : Nat) (m5 : Mac), p = .pointer (some ⟨g, 0, none⟩) ∧ Box wx g 30 m5.cells ∧ MacIn wx m5 bareD ∧ Ext w wx)
  case first =>
    refine wp_region_late 8 6 [[], [], [1], [0, 2], [3], [4], [4], []] (listV [isV (.agg (bareM gf gb).cells), isV (.agg (bareM gf gb).cells), viewV, keepV, keepV, macV, isV (.int .i64 0), zeroV w2]) (by kernel_rfl) (by kernel_rfl) (listV_ext (fun p hp => by simp only [List.mem_cons, List.not_mem_nil, or_false] at hp; rcases hp with rfl | rfl | rfl | rfl | rfl | rfl | rfl | rfl <;> first | exact lasts_is _ | exact lasts_keep | exact lasts_mac | exact lasts_view | exact lasts_zero w2)) ?_ (fun us => ?_)
    · intro o ho us w' hx hd
      injection ho with ho
      subst ho
      obtain ⟨m4, e4, hm4, ht4⟩ : keepV w' (us 4) := hd 4 (by simp)
      refine ⟨.int .i64 0, fun w'' => ?_, show isV (.int .i64 0) w' (.int .i64 0) from rfl⟩
      simp only [List.take_succ_cons, List.take_zero, putsL, Act.put]
      simp [execOp, Act.eval, Instr.extract, e4]
    simp only [List.take_succ_cons, List.take_zero, List.drop_succ_cons, List.drop_zero]
    rw [webWalk]
    refine And.intro (fun w' hx hd => ?_) ?_
    · clear hd
      refine web_of_list 10 rfl (by simp) rfl ?_
      go_wp2_with (refine wp_ld_mac (.tmp 1) rfl rfl w1.heap.size _ _ rfl (bA.ext hx) rfl ?_)
      exact ⟨Ext.refl _, rfl⟩
    simp only [Act.put, List.setIfInBounds_toArray, List.set_cons_zero, List.set_cons_succ]
    rw [webWalk]
    refine And.intro (fun w' hx hd => ?_) ?_
    · clear hd
      refine web_of_list 11 rfl (by simp [Act.put]) rfl ?_
      go_wp2_with (refine wp_ld_mac (.tmp 1) rfl rfl w1.heap.size _ _ rfl (bA.ext hx) rfl ?_)
      exact ⟨Ext.refl _, rfl⟩
    simp only [Act.put, List.setIfInBounds_toArray, List.set_cons_zero, List.set_cons_succ]
    rw [webWalk]
    refine And.intro (fun w' hx hd => ?_) ?_
    · have h1 := hd 1 (by simp)
      clear hd
      generalize us 1 = u1 at *
      obtain rfl : u1 = .agg (bareM gf gb).cells := h1
      refine web_of_list 12 rfl (by simp [Act.put]) rfl ?_
      go_wp2_with (go_at_call 11; refine (HV.out _ (hM.ext hx)).mono ?_; rintro e w5 ⟨A5, c5, rfl, x5, own5⟩)
      exact ⟨A5, c5, rfl, Strs.own own5⟩
    simp only [Act.put, List.setIfInBounds_toArray, List.set_cons_zero, List.set_cons_succ]
    rw [webWalk]
    refine And.intro (fun w' hx hd => ?_) ?_
    · have h0 := hd 0 (by simp)
      have h2 := hd 2 (by simp)
      clear hd
      generalize us 0 = u0 at *
      generalize us 2 = u2 at *
      obtain rfl : u0 = .agg (bareM gf gb).cells := h0
      obtain ⟨A2, c2, rfl, s2⟩ := h2
      refine web_of_list 13 rfl (by simp [Act.put]) rfl ?_
      go_wp2_with (go_at_call 15; refine (HK.out _ _ _ (hM.ext hx) s2).mono ?_; rintro e w6 ⟨m6, rfl, x6, hm6, ht6⟩)
      exact ⟨m6, rfl, hm6, ht6⟩
    simp only [Act.put, List.setIfInBounds_toArray, List.set_cons_zero, List.set_cons_succ]
    rw [webWalk]
    refine And.intro (fun w' hx hd => ?_) ?_
    · have h3 := hd 3 (by simp)
      clear hd
      generalize us 3 = u3 at *
      obtain ⟨m3, rfl, hm3, ht3⟩ := h3
      refine web_of_list 9 rfl (by simp [Act.put]) rfl ?_
      go_wp2_with fail
      exact ⟨Ext.refl _, m3, rfl, hm3, ht3⟩
    simp only [Act.put, List.setIfInBounds_toArray, List.set_cons_zero, List.set_cons_succ]
    rw [webWalk]
    refine And.intro (fun w' hx hd => ?_) ?_
    · have h4 := hd 4 (by simp)
      clear hd
      generalize us 4 = u4 at *
      obtain ⟨m4, rfl, hm4, ht4⟩ := h4
      refine web_of_list 14 rfl (by simp [Act.put]) rfl ?_
      go_wp2_with fail
      exact ⟨Ext.refl _, m4, rfl, hm4, ht4⟩
    simp only [Act.put, List.setIfInBounds_toArray, List.set_cons_zero, List.set_cons_succ]
    rw [webWalk]
    refine And.intro (fun w' hx hd => ?_) ?_
    · have h4 := hd 4 (by simp)
      clear hd
      generalize us 4 = u4 at *
      obtain ⟨m4, rfl, hm4, ht4⟩ := h4
      refine web_of_list 15 rfl (by simp [Act.put]) rfl ?_
      go_wp2_with fail
      exact ⟨Ext.refl _, rfl⟩
    simp only [Act.put, List.setIfInBounds_toArray, List.set_cons_zero, List.set_cons_succ]
    rw [webWalk]
    refine And.intro (fun w' hx hd => ?_) ?_
    · clear hd
      refine web_of_list 3 rfl (by simp [Act.put]) rfl ?_
      go_wp2_with fail
      exact ⟨(Ext.refl _).alloc _, _, rfl, Box.new _ _ _, hx.size⟩
    simp only [Act.put, List.setIfInBounds_toArray, List.set_cons_zero, List.set_cons_succ]
    rw [webWalk]
    · intro o ho w' hx hv
      injection ho with ho
      subst ho
      have h5 := hv 5 (by omega)
      have h6 := hv 6 (by omega)
      have h7 := hv 7 (by omega)
      clear hv
      generalize us 0 = u0 at *
      generalize us 1 = u1 at *
      generalize us 2 = u2 at *
      generalize us 3 = u3 at *
      generalize us 4 = u4 at *
      generalize us 5 = u5 at *
      generalize us 6 = u6 at *
      generalize us 7 = u7 at *
      obtain ⟨m5, rfl, hm5, ht5⟩ := h5
      obtain rfl : u6 = .int .i64 0 := h6
      obtain ⟨g7, rfl, b7, z7⟩ := h7
      refine ⟨w'.setRow g7 m5.cells, run_st_mac _ _ _ (.tmp 3) (.tmp 14) rfl g7 m5 _ _ rfl rfl b7 rfl, ?_⟩
      have b9 := setRow_box (ds := m5.cells) b7
      have g9 := setRow_grown w' g7 m5.cells
      have hm9 := hm5.grown ht5 b7 g9
      have x9 : Ext w (w'.setRow g7 m5.cells) := (xb.trans hx).grown g9 (fun j e => by cases e; exact Nat.le_trans xb.size z7)
      clear hm5 ht5 b7 g9 hx
      generalize w'.setRow g7 m5.cells = w9 at *
      go_wp2_with fail
      go_meet
      exact ⟨rfl, g7, m5, rfl, b9, hm9, x9⟩
  case rest =>
    obtain ⟨rfl, g5, m5, rfl, b5, hm5, x5⟩ := hcut
    have hd0 : m5.di.n = 0 := hm5.di.1
    obtain ⟨k0, k1, k2, k3, k4, k5, k6, k7, k8, k9, k10, k11, k12, k13, k14, k15, k16⟩ := mac_cells b5
    have HV2 := Lib.hid (view_any m5 bareD wc hm5)
    rw [show viewP bareD.bl bareD.pe bareD.di = mk8 from home_bare, mk8_len, show m5.cells = #[.int .u64 m5.clock, .int .i64 m5.quantum, .int .i64 m5.cur, .int .i64 m5.left, .slice m5.fr.A m5.fr.n m5.fr.c, .slice m5.pr.A m5.pr.n m5.pr.c, .int .i64 m5.next, .string (str m5.init), .slice m5.pi.A m5.pi.n m5.pi.c, .int .i64 m5.newPipe, .string (str m5.inn), .bool m5.fin, .int .u64 m5.told, .slice m5.bl.A m5.bl.n m5.bl.c, .slice m5.pe.A m5.pe.n m5.pe.c, .int .i64 m5.dleft, .slice m5.di.A 0 m5.di.c] by unfold Mac.cells; rw [hd0]] at HV2
    rw [hd0] at k16
    clear HV HK hM bA xb
    go_wp2_with (go_at_call 11; with_reducible (refine HV2.out.mono ?_); rintro e w7 ⟨A7, c7, rfl, x7, own7⟩)
    go_ret
    exact ⟨rfl, x5.trans x7⟩
end Go.Proofs.YtkokmnaicfdjaaaGreatDoor
