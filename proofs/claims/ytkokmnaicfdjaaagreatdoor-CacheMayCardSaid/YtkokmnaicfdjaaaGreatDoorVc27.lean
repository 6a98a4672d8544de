/- A volume kept, by the program. -/
import Derived.Test.YtkokmnaicfdjaaaGreatDoorVc26
import Derived.Test.YtkokmnaicfdjaaaGreatDoorVc18
import Derived.Test.YtkokmnaicfdjaaaGreatDoorVc15
import Derived.Maps.OwnOps
import Derived.Test.YtkokmnaicfdjaaaGreatDoorVc12
namespace Go.Proofs.YtkokmnaicfdjaaaGreatDoor
set_option linter.unusedVariables false
set_option linter.unusedSimpArgs false
open Go.RowKit

theorem grown_then {w a b : World} {g r : Option Nat} (h : w.grownBy a g) (k : a.grownBy b r) (hr : ∀ j, r = some j → w.heap.size ≤ j ∨ g = some j) : w.grownBy b g :=
  ⟨k.os.trans h.os, k.tape.trans h.tape, k.output.trans h.output, Nat.le_trans h.size k.size, fun i hi hne => (k.block i (Nat.lt_of_lt_of_le hi h.size) (fun e => by
    rcases hr i e.symm with h1 | h1
    · omega
    · exact hne h1.symm)).trans (h.block i hi hne)⟩
theorem own_ne_map {w : World} {base g size n : Nat} {e : TypeId} {v : Value} {xs : List Value} {es : Array MapEntry} {cl : Nat} (h : w.ownsRow base e size v n xs) (hb : w.heap[g]? = some (.map es cl)) : some g ≠ v.ownBlock := by
  rcases h.2 with ⟨rfl, _⟩ | ⟨g', cap, cur, rfl, _, hh, _⟩
  · simp [Value.ownBlock]
  · intro he
    have he' : g = g' := by simpa [Value.ownBlock] using he
    subst he'
    rw [hh] at hb; cases hb
theorem box_ne_map {w : World} {b g : Nat} {t : TypeId} {cs : Array Value} {es : Array MapEntry} {cl : Nat} (h : Box w b t cs) (hb : w.heap[g]? = some (.map es cl)) : b ≠ g := by
  rintro rfl
  have h1 : w.heap[b]? = some (.cells cs t (0, 0)) := h
  rw [h1] at hb; cases hb
theorem MacF.mapped {B0 : Nat} {w w' : World} {m : Mac} {d : MacD} {g : Nat} {es : Array MapEntry} {cl : Nat} (h : MacF B0 w m d) (hb : w.heap[g]? = some (.map es cl)) (hg : w.grownBy w' (some g)) (hB : B0 ≤ g) : MacF B0 w' m d := by
  have hk : ∀ (T : TypeId) (b : Nat) (cs : Array Value), Box w b T cs → some b ≠ some g := fun T b cs h e => box_ne_map h hb (by injection e)
  have hB' : ∀ k, some g = some k → B0 ≤ k := fun k e => by injection e with e; omega
  exact ⟨h.fr.keepsB (hk _) hB' hg, h.pr.keepsB (hk _) hB' hg, h.pi.keepsB (hk _) hB' hg, h.bl.keepsB (hk _) hB' hg, h.pe.keepsB (hk _) hB' hg, h.di.keepsB (hk _) hB' hg, h.initk, h.innk, h.leftk⟩
/-- numbers as a row -/
def intL (z : Int) : List Value := [.int .i64 z]
theorem int_flat (l : List Int) : l.flatMap intL = l.map encZ := by
  induction l with
  | nil => rfl
  | cons x l ih => rw [List.flatMap_cons, ih]; rfl
theorem ownsMap_ext {H : Type} {P : Program} {k : TypeId} {R : Value → Option (DataW H × List MemPlace)} {w w' : World} {b n : Nat} {D : DataW H} (h : w.ownsMap P k R b n D) (x : Ext w w') : w'.ownsMap P k R b n D := by
  obtain ⟨es, cl, hb, r⟩ := h
  exact ⟨es, cl, (x.block b (Array.getElem?_eq_some_iff.1 hb).1).trans hb, r⟩
theorem intKeyed : Maps.Keyed Tryz.prog 3 := Maps.int_keyed Tryz.underlying3
set_option maxRecDepth 100000 in
theorem key_i64 (k : Nat) (hk : k ≤ 100000) : keyOf Tryz.prog 3 (.int .i64 (k : Int)) = some (.int .i64 (k : Int)) := by
  have hw : (Lit.int .i64 (k : Int)).wf = true := (wf64 _).2 ⟨by omega, by omega⟩
  simp [keyOf, Tryz.underlying3, mapKey, hw]
theorem strZero (w : World) : (zeroValue 9).run Tryz.prog w = .ok (.string ⟨#[]⟩) w := by kernel_rfl
theorem str_read {s : List UInt8} (h : s.length ≤ 1000) : plainElem (H := Unit) Tryz.prog 9 (.string (str s)) = some (.lit (.string s), []) := by
  have := plainElem_string (H := Unit) (P := Tryz.prog) Tryz.underlying9 (s := str s) (by rw [str_size]; unfold maxLen; omega)
  rw [this]; simp [str]
set_option maxRecDepth 100000 in
/-- m[k], of texts -/
theorem wp_look_str {ops : Array Oper} {rest : List Oper} {o : Oper} {a : Act} {w : World} {Q : Exit → Act → World → Prop} (hg : o.guard = none) (m x : Operand) (hop : o.op = Op.lookup 77 m x false) (b n : Nat) (l : List WrT) (y : WrT)
    (hm : a.eval m = .map (some b)) (hown : w.ownsMap Tryz.prog 3 (plainElem Tryz.prog 9) b n (.map (entL l))) (hp : l.Pairwise fun x y => x.1 < y.1) (hy : y ∈ l) (hx : a.eval x = .int .i64 y.1) (h0 : 0 ≤ y.1) (h1 : y.1 ≤ 100000)
    (hK : wpList Tryz.prog ops Q rest (a.put o.dst (.string (str y.2))) w) : wpList Tryz.prog ops Q (o :: rest) a w := by
  refine wpList_plain hg fun K' hK' => ?_
  have hk := key_i64 y.1.toNat (by omega)
  rw [Int.toNat_of_nonneg h0] at hk
  obtain ⟨v, ps, hrun, hv⟩ := hown.lookup intKeyed Tryz.underlying77 (strZero w) (zd := .lit (.string [])) (zp := []) (str_read (s := []) (by simp)) hk
  rw [ent_at _ l hp y hy] at hv
  obtain rfl : v = .string (str y.2) := by
    unfold plainElem at hv
    rw [Tryz.underlying9] at hv
    split at hv
    · cases hv
    · split at hv <;> cases hv
    · rename_i s e1 
      split at hv
      · injection hv with hv
        injection hv with hv _
        injection hv with hv
        injection hv with hv
        rw [← hv]; exact congrArg Value.string (str_of s)
      · cases hv
    · cases hv
  unfold Oper.wp
  simp [execOp, hop, hm, hx, hrun, Result.andThen]
  exact hK' _ _ hK
set_option maxHeartbeats 4000000 in
set_option maxRecDepth 100000 in
theorem ckeep_any (B0 : Nat) (m : Mac) (d : MacD) (A : Option Addr) (n c : Nat) (v : List (List UInt8)) (w : World) (hB0 : B0 ≤ w.heap.size) (h : MacF B0 w m d) (hj : jrnE d.bl d.pe = 0) (hT : Tabs w) (hp : d.pe.length ≤ 1000) (hv : Strs w A n v) (hn : n ≤ 1000) :
    Calls Tryz.prog 15 #[.agg m.cells, .slice A n c] w (KeepR B0 m d v w) := by
  have HO := Lib.hid (fun w hi => omacF_any m d w hi h.small)
  have HH := Lib.hid (fun w h1 h2 => home_any m.bl.A m.pe.A m.bl.n m.bl.c m.pe.n m.pe.c m.dleft d.bl d.pe w h1 h2 (maxLen_le h.pe.k.ok.2.1) h.bl.k.ok.2.2)
  have HM := Lib.hid h
  have HV := Lib.hid hv
  have HJ := Lib.hid hj
  have HT := Lib.hid hT
  have HKD : ∀ x, keepD (drvM m d) d v = x → Hid (keepD (drvM m d) d v = x) := fun x h => Lib.hid h
  have hl := hv.1
  have hz := str_size
  have b0 := Box.new w 30 m.cells
  have x0 := (Ext.refl w).alloc (.cells m.cells 30)
  have z0 : (w.alloc (.cells m.cells 30)).heap.size = w.heap.size + 1 := World.size_alloc _ _
  subst hl
  clear h hv hj hT HKD
  go_enter Tryz.func15, Tryz.ntmps15
  go_upto_region 1 with fail
  generalize w.alloc (.cells m.cells 30) = wa at b0 x0 z0 ⊢
  have bR0 := Box.new wa 30 zeroMacC
  have x1 : Ext w (wa.alloc (.cells zeroMacC 30)) := x0.alloc (.cells zeroMacC 30)
  have b1 := b0.ext ((Ext.refl wa).alloc (.cells zeroMacC 30))
  rw [z0] at bR0
  change Code.wp _ _ _ _ (wa.alloc (.cells zeroMacC 30))
  generalize wa.alloc (.cells zeroMacC 30) = w1 at bR0 x1 b1 ⊢
  generalize hG : w.heap.size = G at *
  clear b0 x0 z0
  clear wa
  go_upto_region 2 with (first
    | (refine wp_ld_mac (.tmp 2) rfl rfl G _ _ rfl b1 rfl ?_)
    | (go_at_call 32; refine (HO.out _ (HM.out.ext x1).toIn).mono ?_; rintro e w2 ⟨fr, pr, pi, bl, pe, di, rfl, x2, hM2, hS2, hN2, hF2⟩)
    | (refine wp_st_mac (.tmp 6) (.tmp 14) rfl rfl w2.heap.size (m.with fr pr pi bl pe di) _ 30 rfl rfl (Box.new _ _ _) rfl ?_; intro w3 b3 g3))
  have x23 : Ext w2 w3 := ((Ext.refl w2).alloc _).grown g3 (fun j e => by cases e; exact Nat.le_refl _)
  have x3 := (x1.trans x2).trans x23
  have bb3 := (b1.ext x2).ext x23
  have bR3 := (bR0.ext x2).ext x23
  have hF3 := (hF2 B0).ext x23
  have hlt2 : G + 1 < w2.heap.size := (bR0.ext x2).lt
  clear hM2 hS2 hN2 hF2 x1 x2 x23 b1 bR0 g3 HO
  generalize hG6 : w2.heap.size = G6 at *
  have hsb := Lib.hid (HM.out.bl.k.row.strs.ext x3)
  have hsp := Lib.hid (HM.out.pe.k.row.wrs.ext x3)
  go_upto_region 3 with (first
    | (refine wp_ld_drvM (.tmp 15) rfl rfl G m 30 rfl bb3 ?_)
    | (go_at_call 22; refine (HH.out _ hsb.out hsp.out).mono ?_; rintro e w4 ⟨A1, c1, rfl, x4, own4⟩))
  have xx4 := x3.trans x4
  have b64 := b3.ext x4
  have bR4 := bR3.ext x4
  have hF4 := hF3.ext x4
  have hlast : ∀ (s : List UInt8), s.length = 128 → ((s.length : Int) != 128) = false := fun s h => by rw [h]; rfl
  have HL := Lib.hid hlast
  have hHn : (homeP d.bl d.pe).length ≤ 1000 := by rw [homeP_len HJ.out]; have := (drvOk_of HJ.out).most; omega
  have hNB : (homeP d.bl d.pe).length ≤ d.bl.length - 33 := by rw [homeP_len HJ.out]; exact Nat.le_refl _
  have hKd := Lib.hid (keepD_eq (drvM m d) d v)
  clear hlast b3 bb3 bR3 hF3 hsb hsp x3 x4 HH
  generalize homeP d.bl d.pe = H at *
  by_cases hvh : v.length = H.length
  · have dn : ((v.length : Int) != (H.length : Int)) = false := by
      have : (v.length : Int) = (H.length : Int) := by omega
      simp [this]
    have HK1 := Lib.hid (hKd.out.trans (if_neg (fun h => h hvh)))
    have HVH := Lib.hid hvh
    clear hKd hvh
    have hmk := fun w => run_makeMap (P := Tryz.prog) 77 w
    go_upto_region 6 with fail
    clear hmk dn
    have xm := xx4.alloc (.map #[] 0)
    have xm4 : Ext w4 (w4.alloc (.map #[] 0)) := (Ext.refl _).alloc _
    have b65 := b64.ext xm4
    have bR5 := bR4.ext xm4
    have hF5 := hF4.ext xm4
    have own5 := own_ext own4 xm4
    have hmap : (w4.alloc (.map #[] 0)).ownsMap Tryz.prog 3 (plainElem (H := Unit) Tryz.prog 9) w4.heap.size 0 (.map (entL [])) := World.ownsMap_made w4 Tryz.prog 3 _
    have hMB : (w4.alloc (.map #[] 0)).heap[w4.heap.size]? = some (.map #[] 0) := World.alloc_heap_new w4 _
    have hGm : G6 < w4.heap.size := b64.lt
    have hGm2 : G + 1 < w4.heap.size := bR4.lt
    generalize w4.alloc (.map #[] 0) = w5 at xm b65 bR5 hF5 own5 hmap hMB ⊢
    generalize w4.heap.size = Bm at *
    clear xm4 b64 bR4 hF4 own4 xx4
    go_upto_region 7 with fail
    go_loopw [9, 10, 27] (fun _ _ t wx => ∃ k : Nat, k ≤ v.length ∧ t = .int .i64 k ∧ (∀ b ∈ v.take k, b.length = 128) ∧ wx.ownsMap Tryz.prog 3 (plainElem (H := Unit) Tryz.prog 9) Bm k (.map (entL (keepL H v k))) ∧ w5.grownBy wx (some Bm)) (fun _ _ t _ => v.length - (intOf t).toNat)
    case atStart => exact ⟨0, by omega, rfl, by simp, hmap, grown_refl _ _⟩
    case round =>
      clear hmap
      obtain ⟨k, hk, rfl, hall, hown, hg⟩ := hrel
      have xk : Ext w wr := xm.grown hg (fun j e => by cases e; omega)
      have b6 := b65.grown hg (by intro e; injection e with e; omega)
      have bR6 := bR5.grown hg (by intro e; injection e with e; omega)
      have hF6 := hF5.mapped hMB hg (by omega)
      have hownH := own5.kept hg (.inr (own_ne_map own5 hMB).symm)
      have HG5 := Lib.hid hg
      clear hg hMB own5 b65 bR5 hF5 xm
      by_cases hlt : k < v.length
      · have hltH : k < H.length := by have := HVH.out; omega
        obtain ⟨ba, oa, rfl, hca⟩ := (HV.out.ext xk).2 (by omega)
        obtain ⟨bb, ob, rfl, hcb⟩ := (Strs.own hownH).2 (by omega)
        have ca := hca k hlt
        have cb := hcb k hltH
        have hki : (k : Int) < (v.length : Int) := by omega
        have hki2 : (k : Int) < (H.length : Int) := by omega
        have HA1 := Lib.hid (fun (h : v[k].length = 128) => show ∀ b ∈ v.take (k + 1), b.length = 128 from fun b hb => by
          rw [List.take_succ_eq_append_getElem hlt] at hb
          rcases List.mem_append.1 hb with hb | hb
          · exact hall b hb
          · rw [List.mem_singleton.1 hb]; exact h)
        have HE := Lib.hid (show keepL H v (k + 1) = if v[k] = H[k] then keepL H v k else keepL H v k ++ [((k : Int), v[k])] by
          rw [keepL, List.getD_eq_getElem?_getD, List.getD_eq_getElem?_getD, List.getElem?_eq_getElem hlt, List.getElem?_eq_getElem hltH]; rfl)
        have HFo := Lib.hid (fun (h : ¬ v[k].length = 128) => show formE v ≠ 0 from fun h0 => h (formE_mem h0 _ (List.getElem_mem hlt)))
        clear hca hcb hall hownH
        generalize v[k] = s at *
        generalize H[k] = s' at *
        by_cases h128 : s.length = 128
        · have hlk := HL.out _ h128
          by_cases heq : s = s'
          · subst heq
            have HE2 := Lib.hid (HE.out.trans (if_pos rfl))
            go_wp2_with fail
            go_roundw
            case rel => exact ⟨k + 1, by omega, by go_num, HA1.out h128, by rw [HE2.out]; exact hown.mono (by omega), HG5.out⟩
            case measure => simp [intOf]; omega
          · have HE2 := Lib.hid (HE.out.trans (if_neg heq))
            have e1 : ((str s).toList == (str s').toList) = false := by rw [ByteArray.toList_eq, ByteArray.toList_eq]; simpa [str] using heq
            have e2 : ((str s).toList != (str s').toList) = true := by rw [bne, e1]; rfl
            have H128 := Lib.hid h128
            clear heq h128
            go_wp2_with (at_mapUpdate; refine wpList_mapUpdate_own _ rfl _ _ _ 77 rfl 3 9 intKeyed Tryz.underlying77 (plainElem (H := Unit) Tryz.prog 9) Bm k _ rfl hown (by unfold maxLen; omega) _ _ (.int .i64 (k : Int)) rfl rfl (key_i64 k (by omega)) (.lit (.string s)) [] (str_read (by rw [H128.out]; omega)) ?_; intro w6 hown6 hg6)
            rw [ent_put _ _ _ (fun x hx => (keepL_mem H v k x hx).2.1), ← HE2.out] at hown6
            go_roundw
            case rel => exact ⟨k + 1, by omega, by go_num, HA1.out H128.out, hown6, grown_then HG5.out hg6 (fun j e => .inr e)⟩
            case measure => simp [intOf]; omega
        · have hlk : ((s.length : Int) != 128) = true := by simp; omega
          have HK2 := Lib.hid (HK1.out.trans (if_pos (HFo.out h128)))
          clear h128 hown
          go_wp2_with (first
            | (refine wp_ld_mac (.tmp 6) rfl rfl G6 _ _ rfl b6 rfl ?_)
            | (refine wp_st_mac (.tmp 4) (.tmp 35) rfl rfl (G + 1) (m.with fr pr pi bl pe di) _ 30 rfl rfl bR6 rfl ?_; intro w9 b9 g9))
          refine bodyPost_ret (results_cell2 rfl _ _ (G + 1) _ _ _ (.int .i64 3) rfl rfl b9 Tryz.underlying30 rfl macSize) rfl (KeepR.mk HK2.out (hF6.grown (by decide) bR6 g9) rfl ⟨rfl, rfl, rfl, rfl, rfl, rfl, rfl, rfl, rfl, rfl⟩ (xk.grown g9 (fun j e => by cases e; omega)))
      · obtain rfl : k = v.length := by omega
        rw [List.take_length] at hall
        have HK2 := Lib.hid (HK1.out.trans (if_neg (by rw [formE_all hall]; exact fun h => h rfl)))
        have HRW := Lib.hid (fun hl32 => keep_rise (H := H) (N := d.bl.length - 33) (by have := HVH.out; omega) hall hl32)
        have hpw := keepL_rise H v v.length
        have HMem := Lib.hid (keepL_mem H v v.length)
        have hll := keepL_len H v v.length
        clear hall hownH HL HK1
        generalize keepL H v v.length = l at *
        have hlen : ∀ ty, (Builtin.len_ #[77] ty #[.map (some Bm)]).run Tryz.prog wr = .ok (.int .i64 (l.length : Int)) wr := fun ty => by
          have := hown.len Tryz.underlying77 ty
          rw [ent_size] at this; exact this
        by_cases h32 : 32 < l.length
        · have d32 : decide ((32 : Int) < (l.length : Int)) = true := decide_eq_true (by omega)
          have HK3 := Lib.hid (HK2.out.trans (if_pos h32))
          clear hown
          go_wp2_with (first
            | (refine wp_ld_mac (.tmp 6) rfl rfl G6 _ _ rfl b6 rfl ?_)
            | (refine wp_st_mac (.tmp 4) (.tmp 49) rfl rfl (G + 1) (m.with fr pr pi bl pe di) _ 30 rfl rfl bR6 rfl ?_; intro w9 b9 g9))
          refine bodyPost_ret (results_cell2 rfl _ _ (G + 1) _ _ _ (.int .i64 6) rfl rfl b9 Tryz.underlying30 rfl macSize) rfl (KeepR.mk HK3.out (hF6.grown (by decide) bR6 g9) rfl ⟨rfl, rfl, rfl, rfl, rfl, rfl, rfl, rfl, rfl, rfl⟩ (xk.grown g9 (fun j e => by cases e; omega)))
        · have d32 : decide ((32 : Int) < (l.length : Int)) = false := decide_eq_false (by omega)
          have HK3 := Lib.hid (HK2.out.trans (if_neg h32))
          have HRW2 := Lib.hid (HRW.out (by omega))
          clear HK2 HRW
          have bL := b6.cell 16
          have fL := b6.frozen 16
          go_upto_region 17 with fail
          have b7 : Box (wr.setCell ⟨G6, 16, none⟩ (.slice none 0 0)) G6 30 ({ m.with fr pr pi bl pe di with di := ⟨none, 0, 0⟩ } : Mac).cells := b6.set 16 _
          have g7 := grown_cells (g := G6) [.slice none 0 0] 16 wr
          change wr.grownBy (wr.setCell ⟨G6, 16, none⟩ (.slice none 0 0)) (some G6) at g7
          have bR7 := bR6.grown g7 (by intro e; injection e with e; omega)
          have hF7 := hF6.grown (by decide) b6 g7
          have x7 := xk.grown g7 (fun j e => by cases e; omega)
          have hown7 := hown.kept g7 (fun e => by injection e with e; omega)
          clear hlen bL fL b6 bR6 hF6 xk hown g7
          generalize wr.setCell ⟨G6, 16, none⟩ (.slice none 0 0) = w7 at *
          have m7 := hown7.alloc (.cells #[.map (some Bm)] 77)
          go_upto_region 18 with (first
            | (go_at_call 34; refine (keys_any _ _).mono ?_; rintro e w9 ⟨rfl, rfl⟩; have c7 : (w7.alloc (.cells #[.map (some Bm)] 77)).cell? ⟨w7.heap.size, 0, none⟩ = some (.map (some Bm)) := (Box.new w7 77 #[.map (some Bm)]).cell 0)
            | (go_at_call 33; refine (sorted_any w7.heap.size Bm _ (.map (entL l)) _ (by simp) c7 m7 (by rw [ent_size]; unfold maxLen; omega) (by rw [ent_size]; omega)).mono ?_; rintro e w8 ⟨vs, ss, rfl, hperm, hS8, hnil, x8⟩; clear hnil; obtain ⟨⟨kA, kn, kc⟩, rfl, hks, hkk⟩ := own_sl hS8; have HKS := Lib.hid hks; clear hks))
          have hsl : ss.length = l.length := by rw [hperm.length_eq, ent_keys, List.length_map]
          obtain rfl : kn = l.length := HKS.out.trans hsl
          rw [hsl, keys_sorted l hpw (by rw [← ent_keys]; exact hperm)] at hS8
          have hS9 : w8.ownsRow (w7.alloc (.cells #[.map (some Bm)] 77)).heap.size 3 1 (.slice kA l.length kc) l.length ((l.map (·.1)).flatMap intL) := by rw [int_flat]; exact hS8
          have KS : RowF B0 intL 3 w8 ⟨kA, l.length, kc⟩ (l.map (·.1)) := RowF.own (own_row hS9 (fun _ _ => rfl) (by rw [List.length_map]) rfl) hkk (by show l.length ≤ 100000; omega) hS9
          have x78 := ((Ext.refl w7).alloc (.cells #[.map (some Bm)] 77)).trans x8
          have b8 := b7.ext x78
          have bR8 := bR7.ext x78
          have hF8 := hF7.ext x78
          have xx8 := x7.trans x78
          have m8 := ownsMap_ext m7 x8
          have hB8 : G6 < w8.heap.size := b8.lt
          have ho8 : w8.ownsRow w8.heap.size 57 2 (.slice none 0 0) 0 (([] : List WrT).flatMap wrL) := World.ownsRow_nil w8 _ _ _
          clear hsl HKS hperm hS8 hS9 m7 c7 x78 b7 bR7 hF7 x7 hown7 x8 hkk
          generalize hBASE : w8.heap.size = BASE at *
          go_loopw [12, 55] (fun _ t wx => ∃ (k : Nat) (s : Sl), k ≤ l.length ∧ t = .int .i64 k ∧ s.n = k ∧ Box wx G6 30 ({ m.with fr pr pi bl pe di with di := s } : Mac).cells ∧ RowF B0 wrL 57 wx s (l.take k) ∧ wx.ownsRow BASE 57 2 (.slice s.A s.n s.c) s.n ((l.take k).flatMap wrL) ∧ w8.grownBy wx (some G6)) (fun _ t _ => l.length - (intOf t).toNat)
          case atStart => exact ⟨0, ⟨none, 0, 0⟩, by omega, rfl, rfl, b8, RowF.nil, ho8, grown_refl _ _⟩
          case round =>
            clear ho8
            obtain ⟨k, s, hk2, rfl, hsn, bk, ks, os, hg⟩ := hrel
            have bRk := bR8.grown hg (by intro e; injection e with e; omega)
            have hFk := hF8.grown (by decide) b8 hg
            have xk : Ext w wr := xx8.grown hg (fun j e => by cases e; omega)
            have KSk := KS.grown (by decide) b8 hg
            have mk := m8.kept hg (fun e => by injection e with e; omega)
            have hsz : BASE ≤ wr.heap.size := by rw [← hBASE]; exact hg.size
            have HSN := Lib.hid hsn
            have HGr := Lib.hid hg
            clear hg hsn b8 bR8 hF8 xx8 m8 KS
            by_cases hlt2 : k < l.length
            · obtain ⟨b2, o2, hA2, hc2⟩ := KSk.k.row.2 (by show 0 < l.length; omega)
              have hA3 : kA = some ⟨b2, o2, none⟩ := hA2
              subst hA3
              have hlm : k < (l.map (·.1)).length := by rw [List.length_map]; exact hlt2
              have e1 : wr.cell? ⟨b2, o2 + k, none⟩ = some (.int .i64 l[k].1) := by
                have h := RowOf.cell (z := 1) (n := 0) hc2 (fun x _ => (rfl : (intL x).length = 1)) hlm (i := 0) (by omega) rfl
                rw [Nat.mul_one, Nat.add_zero, List.getElem_map] at h
                exact h
              have HT1 := Lib.hid (show l.take (k + 1) = l.take k ++ [l[k]] from List.take_succ_eq_append_getElem hlt2)
              have hym := List.getElem_mem hlt2
              have hyb := HMem.out _ hym
              have hkl : (k : Int) < (l.length : Int) := by omega
              have c16 : wr.cell? ⟨G6, 16, none⟩ = some (.slice s.A s.n s.c) := bk.cell 16
              clear hA2 hc2 hlm KSk
              generalize l[k] = y at *
              obtain ⟨y1, y2⟩ := y
              simp only at e1 hyb
              have hy0 := hyb.1
              have hy1 := hyb.2.1
              clear hyb
              have ya : Ext wr (wr.alloc (.cells #[.int .i64 y1, .string (str y2)] 57)) := (Ext.refl wr).alloc _
              have za := own_ext os ya
              go_upto_region 21 with (first
                | (at_lookup; refine wp_look_str rfl _ _ rfl Bm _ l (y1, y2) rfl mk hpw hym rfl hy0 (by omega) ?_)
                | (at_builtin; refine wp_app_wr (B0 := B0) (B := BASE) (y := (y1, y2)) s rfl _ _ rfl rfl rfl za (ks.k.row.1) wr_one (by have := HSN.out; omega) (by rw [World.size_alloc]; omega) ?_; intro s6 w6 hn6 k6 o6 g6; have HN6 := Lib.hid hn6; clear hn6; have b6 := (bk.ext ya).grown g6 (own_ne za (bk.ext ya) (by decide)); have c61 : w6.cell? ⟨G6, 16, none⟩ = some (.slice s.A s.n s.c) := b6.cell 16; have f61 := b6.frozen 16))
              have b7 := b6.set 16 (.slice s6.A s6.n s6.c)
              have gg7 : w6.grownBy (w6.setCell ⟨G6, 16, none⟩ (.slice s6.A s6.n s6.c)) (some G6) := grown_cells (g := G6) [.slice s6.A s6.n s6.c] 16 w6
              have hg1 := grown_then (HGr.out) (World.grownBy_alloc wr (.cells #[.int .i64 y1, .string (str y2)] 57) none) (fun j e => by cases e)
              have hg2 := grown_then hg1 g6 (fun j e => Or.inl (by rw [hBASE]; exact own_low za e))
              have hg3 := grown_then hg2 gg7 (fun j e => .inr e)
              have o7 := o6.kept gg7 (.inr (own_ne o6 b6 (by decide)).symm)
              have k7 := k6.grown (by decide) b6 gg7
              rw [← HT1.out] at o7 k7
              generalize w6.setCell ⟨G6, 16, none⟩ (.slice s6.A s6.n s6.c) = w7 at *
              clear b6 gg7 hg1 hg2 o6 k6 g6 za ya c16 c61 f61 e1 ks os bk hFk bRk xk mk hym hy0 hy1 HGr hkl
              go_wp2_with fail
              go_roundw
              case rel => exact ⟨k + 1, s6, by omega, by go_num, by rw [HN6.out, HSN.out], b7, k7, o7, hg3⟩
              case measure => simp [intOf]; omega
            · obtain rfl : k = l.length := by omega
              rw [List.take_length] at ks os
              have c16 : wr.cell? ⟨G6, 16, none⟩ = some (.slice s.A s.n s.c) := bk.cell 16
              have hFin : MacF B0 wr ({ m.with fr pr pi bl pe di with di := s } : Mac) { d with di := l } := ⟨hFk.fr, hFk.pr, hFk.pi, hFk.bl, hFk.pe, ks, hFk.initk, hFk.innk, hFk.leftk⟩
              clear KSk mk os ks hFk HGr
              by_cases h16 : 16 < l.length
              · have d16 : decide ((16 : Int) < (s.n : Int)) = true := decide_eq_true (by have := HSN.out; omega)
                have HK4 := Lib.hid (HK3.out.trans (if_pos h16))
                have HSy := Lib.hid (csync_any B0 ({ m.with fr pr pi bl pe di with di := s } : Mac) { d with di := l } wr (by omega) hFin HJ.out HRW2.out (HT.out.ext xk) hp)
                clear hFin h16
                go_wp2_with (first
                  | (refine wp_ld_mac (.tmp 6) rfl rfl G6 _ _ rfl bk rfl ?_)
                  | (go_at_call 20; refine HSy.out.mono ?_; rintro e w9 ⟨m9, rfl, hF9, hl9, hk9, x9⟩; have bR9 := bRk.ext x9; have HL9 := Lib.hid hl9; have HK9 := Lib.hid hk9; clear hl9 hk9)
                  | (refine wp_st_mac (.tmp 4) (.tmp 76) rfl rfl (G + 1) m9 _ 30 rfl rfl bR9 rfl ?_; intro w10 b10 g10))
                have hk9 := HK9.out
                refine bodyPost_ret (results_cell2 rfl _ _ (G + 1) _ _ _ (.int .i64 (commitP (drvM m d) l).2) rfl rfl b10 Tryz.underlying30 rfl macSize) rfl (KeepR.mk HK4.out (hF9.grown (by decide) bR9 g10) HL9.out ⟨hk9.clock, hk9.quantum, hk9.cur, hk9.left, hk9.next, hk9.init, hk9.newPipe, hk9.inn, hk9.fin, hk9.told⟩ ((xk.trans x9).grown g10 (fun j e => by cases e; omega)))
              · have d16 : decide ((16 : Int) < (s.n : Int)) = false := decide_eq_false (by have := HSN.out; omega)
                have HK4 := Lib.hid (HK3.out.trans (if_neg h16))
                clear h16
                go_wp2_with (first
                  | (refine wp_ld_mac (.tmp 6) rfl rfl G6 _ _ rfl bk rfl ?_)
                  | (refine wp_st_mac (.tmp 4) (.tmp 78) rfl rfl (G + 1) ({ m.with fr pr pi bl pe di with di := s } : Mac) _ 30 rfl rfl bRk rfl ?_; intro w10 b10 g10))
                refine bodyPost_ret (results_cell2 rfl _ _ (G + 1) _ _ _ (.int .i64 0) rfl rfl b10 Tryz.underlying30 rfl macSize) rfl (KeepR.mk HK4.out (hFin.grown (by decide) bRk g10) rfl ⟨rfl, rfl, rfl, rfl, rfl, rfl, rfl, rfl, rfl, rfl⟩ (xk.grown g10 (fun j e => by cases e; omega)))
  · have dn : ((v.length : Int) != (H.length : Int)) = true := by
      have : (v.length : Int) ≠ (H.length : Int) := by omega
      simpa using this
    have HK := Lib.hid (hKd.out.trans (if_pos hvh))
    clear hKd hvh
    go_wp2_with (first
      | (refine wp_ld_mac (.tmp 6) rfl rfl G6 _ _ rfl b64 rfl ?_)
      | (refine wp_st_mac (.tmp 4) (.tmp 23) rfl rfl (G + 1) (m.with fr pr pi bl pe di) _ 30 rfl rfl bR4 rfl ?_; intro w9 b9 g9))
    refine bodyPost_ret (results_cell2 rfl _ _ (G + 1) _ _ _ (.int .i64 2) rfl rfl b9 Tryz.underlying30 rfl macSize) rfl (KeepR.mk HK.out (hF4.grown (by decide) bR4 g9) rfl ⟨rfl, rfl, rfl, rfl, rfl, rfl, rfl, rfl, rfl, rfl⟩ (xx4.grown g9 (fun j e => by cases e; omega)))
end Go.Proofs.YtkokmnaicfdjaaaGreatDoor
/- A volume kept, by the document. -/
namespace Go.Proofs.YtkokmnaicfdjaaaGreatDoor
set_option linter.unusedVariables false
set_option linter.unusedSimpArgs false
open Go.RowKit

set_option maxHeartbeats 4000000 in
set_option maxRecDepth 100000 in
theorem rkeep_any (B0 : Nat) (m : Mac) (d : MacD) (A : Option Addr) (n c : Nat) (v : List (List UInt8)) (w : World) (hB0 : B0 ≤ w.heap.size) (h : MacF B0 w m d) (hj : jrnE d.bl d.pe = 0) (hp : d.pe.length ≤ 1000) (hv : Strs w A n v) (hn : n ≤ 1000) :
    Calls Tryz.prog 16 #[.agg m.cells, .slice A n c] w (KeepR B0 m d v w) := by
  have HH := Lib.hid (fun w h1 h2 => rhome_any m.bl.A m.pe.A m.bl.n m.bl.c m.pe.n m.pe.c m.dleft d.bl d.pe w h1 h2 (maxLen_le h.pe.k.ok.2.1))
  have HM := Lib.hid h
  have HV := Lib.hid hv
  have HJ := Lib.hid hj
  have hl := hv.1
  have hz := str_size
  have b0 := Box.new w 30 m.cells
  have x0 := (Ext.refl w).alloc (.cells m.cells 30)
  have z0 : (w.alloc (.cells m.cells 30)).heap.size = w.heap.size + 1 := World.size_alloc _ _
  subst hl
  clear h hv hj
  go_enter Tryz.func16, Tryz.ntmps16
  go_upto_region 1 with fail
  generalize w.alloc (.cells m.cells 30) = wa at b0 x0 z0 ⊢
  have bR0 := Box.new wa 30 zeroMacC
  have x3 : Ext w (wa.alloc (.cells zeroMacC 30)) := x0.alloc (.cells zeroMacC 30)
  have bb3 := b0.ext ((Ext.refl wa).alloc (.cells zeroMacC 30))
  rw [z0] at bR0
  change Code.wp _ _ _ _ (wa.alloc (.cells zeroMacC 30))
  generalize wa.alloc (.cells zeroMacC 30) = w3 at bR0 x3 bb3 ⊢
  generalize hG : w.heap.size = G at *
  clear b0 x0 z0
  clear wa
  have hsb := Lib.hid (HM.out.bl.k.row.strs.ext x3)
  have hsp := Lib.hid (HM.out.pe.k.row.wrs.ext x3)
  go_upto_region 2 with (first
    | (refine wp_ld_drvM (.tmp 9) rfl rfl G m 30 rfl bb3 ?_)
    | (go_at_call 31; refine (HH.out _ hsb.out hsp.out).mono ?_; rintro e w4 ⟨A1, c1, rfl, x4, own4⟩))
  have xx4 := x3.trans x4
  have b4 := bb3.ext x4
  have bR4 := bR0.ext x4
  have hF4 := HM.out.ext xx4
  have HL := Lib.hid (show ∀ (s : List UInt8), s.length = 128 → ((s.length : Int) != 128) = false from fun s h => by rw [h]; rfl)
  have hHn : (homeP d.bl d.pe).length ≤ 1000 := by rw [homeP_len HJ.out]; have := (drvOk_of HJ.out).most; omega
  have hNB : (homeP d.bl d.pe).length ≤ d.bl.length - 33 := by rw [homeP_len HJ.out]; exact Nat.le_refl _
  have hKd := Lib.hid (keepD_eq (drvM m d) d v)
  clear bb3 bR0 hsb hsp x3 x4 HH
  generalize homeP d.bl d.pe = H at *
  by_cases hvh : v.length = H.length
  · have dn : ((v.length : Int) != (H.length : Int)) = false := by
      have : (v.length : Int) = (H.length : Int) := by omega
      simp [this]
    have HK1 := Lib.hid (hKd.out.trans (if_neg (fun h => h hvh)))
    have HVH := Lib.hid hvh
    clear hKd hvh
    have x45 : Ext w4 (w4.alloc (.cells #[] 57)) := (Ext.refl _).alloc _
    have o5 : (w4.alloc (.cells #[] 57)).ownsRow w4.heap.size 57 2 (.slice (some ⟨w4.heap.size, 0, none⟩) 0 0) 0 ([] : List Value) := World.ownsRow_lit (base := w4.heap.size) (e := 57) (size := 2) w4 #[] 0 (by simp) (by decide) rfl
    have hsG : G + 1 < w4.heap.size := bR4.lt
    go_upto_region 6 with fail
    clear dn
    generalize hBASE : w4.heap.size = BASE at *
    generalize w4.alloc (.cells #[] 57) = w5 at *
    go_loopw [7, 8, 21] (fun u _ t wx => ∃ (k : Nat) (s : Sl), k ≤ v.length ∧ t = .int .i64 k ∧ u = .slice s.A s.n s.c ∧ (∀ b ∈ v.take k, b.length = 128) ∧ RowF B0 wrL 57 wx s (keepL H v k) ∧ wx.ownsRow BASE 57 2 (.slice s.A s.n s.c) s.n ((keepL H v k).flatMap wrL) ∧ Ext w4 wx) (fun _ _ t _ => v.length - (intOf t).toNat)
    case atStart => exact ⟨0, ⟨some ⟨BASE, 0, none⟩, 0, 0⟩, by omega, rfl, rfl, by simp, RowF.empty, o5, x45⟩
    case round =>
      clear o5 x45
      obtain ⟨k, s, hk, rfl, rfl, hall, ks, os, hx⟩ := hrel
      have xk : Ext w wr := xx4.trans hx
      have b6 := b4.ext hx
      have bR6 := bR4.ext hx
      have hF6 := hF4.ext hx
      have hownH := own_ext own4 hx
      have hsz : BASE ≤ wr.heap.size := by rw [← hBASE]; exact hx.size
      have HX := Lib.hid hx
      clear hx own4 b4 bR4 hF4 xx4
      by_cases hlt : k < v.length
      · have hltH : k < H.length := by have := HVH.out; omega
        obtain ⟨ba, oa, rfl, hca⟩ := (HV.out.ext xk).2 (by omega)
        obtain ⟨bb, ob, rfl, hcb⟩ := (Strs.own hownH).2 (by omega)
        have ca := hca k hlt
        have cb := hcb k hltH
        have hki : (k : Int) < (v.length : Int) := by omega
        have hki2 : (k : Int) < (H.length : Int) := by omega
        have HA1 := Lib.hid (fun (h : v[k].length = 128) => show ∀ b ∈ v.take (k + 1), b.length = 128 from fun b hb => by
          rw [List.take_succ_eq_append_getElem hlt] at hb
          rcases List.mem_append.1 hb with hb | hb
          · exact hall b hb
          · rw [List.mem_singleton.1 hb]; exact h)
        have HE := Lib.hid (show keepL H v (k + 1) = if v[k] = H[k] then keepL H v k else keepL H v k ++ [((k : Int), v[k])] by
          rw [keepL, List.getD_eq_getElem?_getD, List.getD_eq_getElem?_getD, List.getElem?_eq_getElem hlt, List.getElem?_eq_getElem hltH]; rfl)
        have HFo := Lib.hid (fun (h : ¬ v[k].length = 128) => show formE v ≠ 0 from fun h0 => h (formE_mem h0 _ (List.getElem_mem hlt)))
        have hkl := keepL_len H v k
        have HSN := Lib.hid (show s.n = (keepL H v k).length from ks.k.row.1)
        clear hca hcb hall hownH
        generalize v[k] = t at *
        generalize H[k] = t' at *
        by_cases h128 : t.length = 128
        · have hlk := HL.out _ h128
          by_cases heq : t = t'
          · subst heq
            have HE2 := Lib.hid (HE.out.trans (if_pos rfl))
            go_wp2_with fail
            go_quiet (fail)
            go_wp2_with fail
            go_roundw
            case rel => exact ⟨k + 1, s, by omega, by go_num, rfl, HA1.out h128, by rw [HE2.out]; exact ks.ext ((Ext.refl _).drewN _), by rw [HE2.out]; exact own_ext os ((Ext.refl _).drewN _), HX.out.drewN _⟩
            case measure => simp [intOf]; omega
          · have HE2 := Lib.hid (HE.out.trans (if_neg heq))
            have e1 : ((str t).toList == (str t').toList) = false := by rw [ByteArray.toList_eq, ByteArray.toList_eq]; simpa [str] using heq
            have e2 : ((str t).toList != (str t').toList) = true := by rw [bne, e1]; rfl
            have H128 := Lib.hid h128
            clear heq h128
            go_wp2_with fail
            go_quiet (fail)
            have ks1 := ks.ext ((Ext.refl wr).drewN nq)
            have os1 := own_ext os ((Ext.refl wr).drewN nq)
            have hx1 := HX.out.drewN nq
            have sz1 : BASE ≤ (wr.drewN nq).heap.size := hsz
            have ca1 : (wr.drewN nq).cell? ⟨ba, oa + k, none⟩ = some (.string (str t)) := ca
            generalize wr.drewN nq = wd at *
            have ya : Ext wd (wd.alloc (.cells #[.int .i64 (k : Int), .string (str t)] 57)) := (Ext.refl wd).alloc _
            have za := own_ext os1 ya
            go_wp2_with (at_builtin; refine wp_app_wr (B0 := B0) (B := BASE) (y := ((k : Int), t)) s rfl _ _ rfl rfl rfl za ks1.k.row.1 wr_one (by have := HSN.out; omega) (by rw [World.size_alloc]; omega) ?_; intro s6 w6 hn6 k6 o6 g6; have HN6 := Lib.hid hn6; clear hn6)
            have hx6 : Ext w4 w6 := (hx1.trans ya).grown g6 (fun j e => by rw [hBASE]; exact own_low za e)
            rw [← HE2.out] at k6 o6
            clear g6 za ya ca1 ks1 os1 hx1 ca cb e1 e2 ks os b6 bR6 hF6 xk
            go_roundw
            case rel => exact ⟨k + 1, s6, by omega, by go_num, rfl, HA1.out H128.out, k6, o6, hx6⟩
            case measure => simp [intOf]; omega
        · have hlk : ((t.length : Int) != 128) = true := by simp; omega
          have HK2 := Lib.hid (HK1.out.trans (if_pos (HFo.out h128)))
          clear h128
          go_wp2_with (first
            | (refine wp_ld_mac (.tmp 2) rfl rfl G _ _ rfl b6 rfl ?_)
            | (refine wp_st_mac (.tmp 4) (.tmp 30) rfl rfl (G + 1) m _ 30 rfl rfl bR6 rfl ?_; intro w9 b9 g9))
          refine bodyPost_ret (results_cell2 rfl _ _ (G + 1) _ _ _ (.int .i64 3) rfl rfl b9 Tryz.underlying30 rfl macSize) rfl (KeepR.mk HK2.out (hF6.grown (by decide) bR6 g9) rfl ⟨rfl, rfl, rfl, rfl, rfl, rfl, rfl, rfl, rfl, rfl⟩ (xk.grown g9 (fun j e => by cases e; omega)))
      · obtain rfl : k = v.length := by omega
        rw [List.take_length] at hall
        have HK2 := Lib.hid (HK1.out.trans (if_neg (by rw [formE_all hall]; exact fun h => h rfl)))
        have HRW := Lib.hid (fun hl32 => keep_rise (H := H) (N := d.bl.length - 33) (by have := HVH.out; omega) hall hl32)
        have hll := keepL_len H v v.length
        have HSN := Lib.hid (show s.n = (keepL H v v.length).length from ks.k.row.1)
        clear hall hownH HL HK1
        generalize keepL H v v.length = l at *
        by_cases h32 : 32 < l.length
        · have d32 : decide ((32 : Int) < (s.n : Int)) = true := decide_eq_true (by have := HSN.out; omega)
          have HK3 := Lib.hid (HK2.out.trans (if_pos h32))
          go_wp2_with (first
            | (refine wp_ld_mac (.tmp 2) rfl rfl G _ _ rfl b6 rfl ?_)
            | (refine wp_st_mac (.tmp 4) (.tmp 53) rfl rfl (G + 1) m _ 30 rfl rfl bR6 rfl ?_; intro w9 b9 g9))
          refine bodyPost_ret (results_cell2 rfl _ _ (G + 1) _ _ _ (.int .i64 6) rfl rfl b9 Tryz.underlying30 rfl macSize) rfl (KeepR.mk HK3.out (hF6.grown (by decide) bR6 g9) rfl ⟨rfl, rfl, rfl, rfl, rfl, rfl, rfl, rfl, rfl, rfl⟩ (xk.grown g9 (fun j e => by cases e; omega)))
        · have d32 : decide ((32 : Int) < (s.n : Int)) = false := decide_eq_false (by have := HSN.out; omega)
          have HK3 := Lib.hid (HK2.out.trans (if_neg h32))
          have HRW2 := Lib.hid (HRW.out (by omega))
          clear HK2 HRW
          have bL := b6.cell 16
          have fL := b6.frozen 16
          go_upto_region 16 with fail
          have b7 : Box (wr.setCell ⟨G, 16, none⟩ (.slice s.A s.n s.c)) G 30 ({ m with di := s } : Mac).cells := b6.set 16 _
          have g7 := grown_cells (g := G) [.slice s.A s.n s.c] 16 wr
          change wr.grownBy (wr.setCell ⟨G, 16, none⟩ (.slice s.A s.n s.c)) (some G) at g7
          have bR7 := bR6.grown g7 (by intro e; injection e with e; omega)
          have hF7 := hF6.grown (by decide) b6 g7
          have kd7 := ks.grown (by decide) b6 g7
          have x7 := xk.grown g7 (fun j e => by cases e; omega)
          clear bL fL b6 bR6 hF6 xk g7 ks os HX
          generalize wr.setCell ⟨G, 16, none⟩ (.slice s.A s.n s.c) = w7 at *
          have hFin : MacF B0 w7 ({ m with di := s } : Mac) { d with di := l } := ⟨hF7.fr, hF7.pr, hF7.pi, hF7.bl, hF7.pe, kd7, hF7.initk, hF7.innk, hF7.leftk⟩
          have hz7 : G + 1 < w7.heap.size := bR7.lt
          clear kd7 hF7
          by_cases h16 : 16 < l.length
          · have d16 : decide ((16 : Int) < (s.n : Int)) = true := decide_eq_true (by have := HSN.out; omega)
            have HK4 := Lib.hid (HK3.out.trans (if_pos h16))
            have HSy := Lib.hid (rsync_any B0 ({ m with di := s } : Mac) { d with di := l } w7 (by omega) hFin HJ.out HRW2.out hp)
            clear hFin h16
            go_wp2_with (first
              | (refine wp_ld_mac (.tmp 2) rfl rfl G _ _ rfl b7 rfl ?_)
              | (go_at_call 21; refine HSy.out.mono ?_; rintro e w9 ⟨m9, rfl, hF9, hl9, hk9, x9⟩; have bR9 := bR7.ext x9; have HL9 := Lib.hid hl9; have HK9 := Lib.hid hk9; clear hl9 hk9)
              | (refine wp_st_mac (.tmp 4) (.tmp 61) rfl rfl (G + 1) m9 _ 30 rfl rfl bR9 rfl ?_; intro w10 b10 g10))
            have hk9 := HK9.out
            refine bodyPost_ret (results_cell2 rfl _ _ (G + 1) _ _ _ (.int .i64 (commitP (drvM m d) l).2) rfl rfl b10 Tryz.underlying30 rfl macSize) rfl (KeepR.mk HK4.out (hF9.grown (by decide) bR9 g10) HL9.out ⟨hk9.clock, hk9.quantum, hk9.cur, hk9.left, hk9.next, hk9.init, hk9.newPipe, hk9.inn, hk9.fin, hk9.told⟩ ((x7.trans x9).grown g10 (fun j e => by cases e; omega)))
          · have d16 : decide ((16 : Int) < (s.n : Int)) = false := decide_eq_false (by have := HSN.out; omega)
            have HK4 := Lib.hid (HK3.out.trans (if_neg h16))
            clear h16
            go_wp2_with (first
              | (refine wp_ld_mac (.tmp 2) rfl rfl G _ _ rfl b7 rfl ?_)
              | (refine wp_st_mac (.tmp 4) (.tmp 63) rfl rfl (G + 1) ({ m with di := s } : Mac) _ 30 rfl rfl bR7 rfl ?_; intro w10 b10 g10))
            refine bodyPost_ret (results_cell2 rfl _ _ (G + 1) _ _ _ (.int .i64 0) rfl rfl b10 Tryz.underlying30 rfl macSize) rfl (KeepR.mk HK4.out (hFin.grown (by decide) bR7 g10) rfl ⟨rfl, rfl, rfl, rfl, rfl, rfl, rfl, rfl, rfl, rfl⟩ (x7.grown g10 (fun j e => by cases e; omega)))
  · have dn : ((v.length : Int) != (H.length : Int)) = true := by
      have : (v.length : Int) ≠ (H.length : Int) := by omega
      simpa using this
    have HK := Lib.hid (hKd.out.trans (if_pos hvh))
    clear hKd hvh
    go_wp2_with (first
      | (refine wp_ld_mac (.tmp 2) rfl rfl G _ _ rfl b4 rfl ?_)
      | (refine wp_st_mac (.tmp 4) (.tmp 17) rfl rfl (G + 1) m _ 30 rfl rfl bR4 rfl ?_; intro w9 b9 g9))
    refine bodyPost_ret (results_cell2 rfl _ _ (G + 1) _ _ _ (.int .i64 2) rfl rfl b9 Tryz.underlying30 rfl macSize) rfl (KeepR.mk HK.out (hF4.grown (by decide) bR4 g9) rfl ⟨rfl, rfl, rfl, rfl, rfl, rfl, rfl, rfl, rfl, rfl⟩ (xx4.grown g9 (fun j e => by cases e; omega)))
end Go.Proofs.YtkokmnaicfdjaaaGreatDoor
/- The walk of CacheKeeps. -/
namespace Go.Proofs.YtkokmnaicfdjaaaGreatDoor
set_option linter.unusedVariables false
set_option linter.unusedSimpArgs false
open Go.RowKit

/-- what keeping leaves of the rest -/
theorem keepD_rest (D : DrvD) (d : MacD) (v : List (List UInt8)) : (keepD D d v).1.fr = d.fr ∧ (keepD D d v).1.pr = d.pr ∧ (keepD D d v).1.pi = d.pi := by
  unfold keepD
  split
  · exact ⟨rfl, rfl, rfl⟩
  · split
    · exact ⟨rfl, rfl, rfl⟩
    · split
      · exact ⟨rfl, rfl, rfl⟩
      · split <;> exact ⟨rfl, rfl, rfl⟩
/-- a volume that was kept is seen -/
theorem keepD_view {D : DrvD} {d : MacD} {v : List (List UInt8)} (hb : D.bl = d.bl) (hpe : D.pe = d.pe) (hj : jrnE d.bl d.pe = 0) (he : (keepD D d v).2.1 = 0) : viewP (keepD D d v).1.bl (keepD D d v).1.pe (keepD D d v).1.di = v := by
  rw [keepD_eq] at he ⊢
  by_cases h1 : v.length = (homeP d.bl d.pe).length
  · rw [if_neg (fun h => h h1)] at he ⊢
    by_cases h2 : formE v = 0
    · rw [if_neg (fun h => h h2)] at he ⊢
      by_cases h3 : 32 < (keepL (homeP d.bl d.pe) v v.length).length
      · rw [if_pos h3] at he; cases he
      · rw [if_neg h3] at he ⊢
        by_cases h4 : 16 < (keepL (homeP d.bl d.pe) v v.length).length
        · rw [if_pos h4] at he ⊢
          have hl : RiseW (D.bl.length - 33) (keepL (homeP d.bl d.pe) v v.length) := keep_rise (by rw [h1, homeP_len hj, hb]; exact Nat.le_refl _) (formE_mem h2) (by omega)
          have hc := commit_home (D := D) (l := keepL (homeP d.bl d.pe) v v.length) (by rw [hb, hpe]; exact hj) hl he
          simp only [syncD]
          simp only at he
          rw [if_pos he]
          refine hc.trans ?_
          rw [hb, hpe]
          exact lay_keep_all _ _ h1
        · rw [if_neg h4]
          exact lay_keep_all _ _ h1
    · rw [if_pos h2] at he; cases he
  · rw [if_pos h1] at he; cases he
def TestK (m : Mac) (d : MacD) (n : Nat) (b : Bool) : Prop := b = false → DiskOk d ∧ MacLens m ∧ n ≤ 80
set_option maxHeartbeats 40000000 in
set_option maxRecDepth 100000 in
theorem cacheKeeps_any (m : Mac) (d : MacD) (A : Option Addr) (n c : Nat) (v : List (List UInt8)) (w : World) (h : MacIn w m d) (hr : MacReach m) (hT : Tabs w) (hv : Strs w A n v) (hn : n ≤ maxLen) :
    Calls Tryz.prog 4 #[.agg m.cells, .slice A n c] w fun e w' => e = .returned (.bool true) ∧ Ext w w' := by
  have HG := Lib.hid (fun w h => rgreat_any m d w h hr)
  have HC := Lib.hid (fun w h => rcheck_any m d w h)
  have HVo := Lib.hid (fun w h => vol_any A n c v w h (maxLen_le hn))
  have HV := Lib.hid (fun (m : Mac) (d : MacD) w h => view_any m d w h)
  have HA := Lib.hid awake_any
  have hl := hv.1
  go_enter Tryz.func4, Tryz.ntmps4
  go_upto_region 1 with fail
  have xa : Ext w (w.alloc (.cells m.cells 30)) := (Ext.refl _).alloc _
  have bm := Box.new w 30 m.cells
  have hTa := Lib.hid (hT.ext xa)
  have HVa := Lib.hid (hv.ext xa)
  generalize w.alloc (.cells m.cells 30) = w1 at *
  generalize hG : w.heap.size = G at *
  have HM0 := Lib.hid h
  have HM := Lib.hid (h.ext xa)
  have HNL := Lib.hid hl
  clear h hT hv hl hn
  go_cut [20] (fun s wx => ∃ b : Bool, s = .bool b ∧ Ext w1 wx ∧ TestK m d n b)
  case first =>
    clear HV HA
    go_wp2_with (first
      | (refine wp_ld_mac (.tmp 2) rfl rfl G _ _ rfl bm rfl ?_)
      | (refine wp_ld_mac_g (.tmp 2) rfl rfl G m 30 rfl bm2 ?_)
      | (go_at_call 8; refine (HG.out _ HM.out).mono ?_; rintro e w2 ⟨⟨z, rfl, hz⟩, x2⟩; have HZ := Lib.hid hz; clear hz; have bm2 := bm.ext x2; rcases Bool.eq_false_or_eq_true (decide (0 < z)) with dz | dz)
      | (go_at_call 9; refine (HC.out _ (HM.out.ext x2)).mono ?_; rintro e w3 ⟨⟨q, rfl, hn⟩, x3⟩; have HN := Lib.hid hn; clear hn; rcases Bool.eq_false_or_eq_true (q != 0) with dn | dn)
      | (go_at_call 14; refine (HVo.out _ ((HVa.out.ext x2).ext x3)).mono ?_; rintro e w4 ⟨b4, rfl, hb4, rfl⟩; have HB4 := Lib.hid hb4; clear hb4))
    · go_meet
      exact ⟨true, rfl, x2, fun h => by cases h⟩
    · go_meet
      exact ⟨true, rfl, x2.trans x3, fun h => by cases h⟩
    · go_meet
      exact ⟨b4, rfl, x2.trans x3, fun h => ⟨HN.out (by simpa using dn), HZ.out (by simpa using dz), HB4.out h⟩⟩
  case rest =>
    obtain ⟨b, rfl, x2, hd⟩ := hcut
    cases b with
    | true =>
      go_wp2_with (go_at_call 10; refine (HA.out _).mono ?_; rintro e w3 ⟨rfl, x3⟩)
      go_ret
      exact ⟨rfl, (xa.trans x2).trans x3⟩
    | false =>
      have hlens := (hd rfl).2.1
      have hdk := (hd rfl).1
      have hn80 := (hd rfl).2.2
      have hj := hdk.1
      have hp : d.pe.length ≤ 1000 := by have := hlens.pe; have := HM.out.pe.1; omega
      have HS1 : ∀ (w : World) (a : G ≤ w.heap.size) (b : MacF G w m d) (c' : Tabs w) (s : Strs w A n v), Calls Tryz.prog 15 #[.agg m.cells, .slice A n c] w fun e w' => ∃ m' : Mac, e = .returned (.tuple #[.agg m'.cells, .int .i64 (keepD (drvM m d) d v).2.1]) ∧ MacF G w' m' (keepD (drvM m d) d v).1 ∧ m'.dleft = (keepD (drvM m d) d v).2.2 ∧ m.Like m' ∧ Ext w w' := fun w a b c' s => ckeep_any G m d A n c v w a b hj c' hp s (by omega)
      have HS2 : ∀ (w : World) (a : G ≤ w.heap.size) (b : MacF G w m d) (s : Strs w A n v), Calls Tryz.prog 16 #[.agg m.cells, .slice A n c] w fun e w' => ∃ m' : Mac, e = .returned (.tuple #[.agg m'.cells, .int .i64 (keepD (drvM m d) d v).2.1]) ∧ MacF G w' m' (keepD (drvM m d) d v).1 ∧ m'.dleft = (keepD (drvM m d) d v).2.2 ∧ m.Like m' ∧ Ext w w' := fun w a b s => rkeep_any G m d A n c v w a b hj hp s (by omega)
      have hkv := keepD_view (D := drvM m d) (v := v) rfl rfl hj
      have hkr := keepD_rest (drvM m d) d v
      generalize hR : keepD (drvM m d) d v = R at HS1 HS2 hkv hkr
      clear hR
      obtain ⟨dk, er, lx⟩ := R
      simp only at HS1 HS2 hkv hkr
      have HSa := Lib.hid HS1
      have HSb := Lib.hid HS2
      have HKV := Lib.hid hkv
      have HKR := Lib.hid hkr
      have hF := (hG ▸ MacF.old HM0.out hlens.small : MacF G w m d)
      have HF := Lib.hid (hF.ext (xa.trans x2))
      have HSm := Lib.hid hlens.small
      have bm2 := bm.ext x2
      have hGs : G < wc.heap.size := bm2.lt
      have xc := xa.trans x2
      have HTc := Lib.hid (hTa.out.ext x2)
      have HVc := Lib.hid (HVa.out.ext x2)
      clear HS1 HS2 hkv hkr hdk hlens hd hp HG HC hF x2 xa bm hTa HVa HVo hj
      go_upto_region 4 with (first
        | (refine wp_ld_mac (.tmp 2) rfl rfl G _ _ rfl bm2 rfl ?_)
        | (go_at_call 15; refine (HSa.out _ (by omega) HF.out HTc.out HVc.out).mono ?_; rintro e w3 ⟨m3, rfl, hF3, hl3, hk3, x3⟩; have HL3 := Lib.hid hl3; have HK3 := Lib.hid hk3; clear hl3 hk3)
        | (refine wp_st_mac (.tmp 5) (.tmp 26) rfl rfl w3.heap.size m3 _ 30 rfl rfl (Box.new _ _ _) rfl ?_; intro w4 b4 g4))
      have x34 : Ext w3 w4 := ((Ext.refl w3).alloc _).grown g4 (fun j e => by cases e; exact Nat.le_refl _)
      have x4 := x3.trans x34
      have hF4 := hF3.ext x34
      have bm4 := bm2.ext x4
      have HF4 := Lib.hid (HF.out.ext x4)
      have HV4 := Lib.hid (HVc.out.ext x4)
      have xc4 := xc.trans x4
      have hGs4 : G < w4.heap.size := bm4.lt
      clear g4 x34 x3 hF3 bm2 x4 xc hGs HVc
      generalize w3.heap.size = g3 at *
      go_upto_region 5 with (first
        | (refine wp_ld_mac (.tmp 2) rfl rfl G _ _ rfl bm4 rfl ?_)
        | (go_at_call 16; refine (HSb.out _ (by omega) HF4.out HV4.out).mono ?_; rintro e w5 ⟨m5, rfl, hF5, hl5, hk5, x5⟩; have HL5 := Lib.hid hl5; have HK5 := Lib.hid hk5; clear hl5 hk5)
        | (refine wp_st_mac (.tmp 7) (.tmp 32) rfl rfl w5.heap.size m5 _ 30 rfl rfl (Box.new _ _ _) rfl ?_; intro w6 b6 g6))
      have x56 : Ext w5 w6 := ((Ext.refl w5).alloc _).grown g6 (fun j e => by cases e; exact Nat.le_refl _)
      have x6 := x5.trans x56
      have hA6 := hF4.ext x6
      have hB6 := hF5.ext x56
      have bm6 := bm4.ext x6
      have b46 := b4.ext x6
      have HF6 := Lib.hid (HF4.out.ext x6)
      have HV6 := Lib.hid (HV4.out.ext x6)
      have xc6 := xc4.trans x6
      clear g6 x56 x5 hF5 hF4 bm4 b4 x6 xc4 HSa HSb HV4
      generalize w5.heap.size = g5 at *
      have HSD := Lib.hid (fun w a b c d => sameDrive_yes m3.bl m3.pe m5.bl m5.pe m3.dleft dk.bl dk.pe w a b c d)
      rw [show drvC m5.bl m5.pe m3.dleft = drvC m5.bl m5.pe m5.dleft by rw [HL3.out, HL5.out]] at HSD
      have HW := Lib.hid (fun w a b => writes_yes m3.di m5.di dk.di w a b hA6.di.k.small)
      have HAp := Lib.hid (fun w h a b c => apart_yes m m3 d w HK3.out h a b c ⟨hA6.fr.k.ok, hA6.pr.k.ok, hA6.pi.k.ok⟩ HSm.out)
      rw [← HKR.out.1, ← HKR.out.2.1, ← HKR.out.2.2] at HAp
      have HA6 := Lib.hid hA6
      have HB6 := Lib.hid hB6
      clear hA6 hB6
      have e16 : w6.cell? ⟨g3, 16, none⟩ = some (.slice m3.di.A m3.di.n m3.di.c) := b46.cell 16
      have e16' : w6.cell? ⟨g5, 16, none⟩ = some (.slice m5.di.A m5.di.n m5.di.c) := b6.cell 16
      go_upto_region 7 with (first
        | (refine wp_ld_drvM_g (.tmp 38) rfl rfl g3 m3 30 rfl b46 ?_)
        | (refine wp_ld_drvM_g (.tmp 40) rfl rfl g5 m5 30 rfl b6 ?_)
        | (go_at_call 17; refine (HSD.out _ HA6.out.bl.k HB6.out.bl.k HA6.out.pe.k HB6.out.pe.k).mono ?_; rintro e w7 ⟨rfl, x7⟩; have b47 := b46.ext x7; have b67 := b6.ext x7; have e17 : w7.cell? ⟨g3, 16, none⟩ = some (.slice m3.di.A m3.di.n m3.di.c) := b47.cell 16; have e17' : w7.cell? ⟨g5, 16, none⟩ = some (.slice m5.di.A m5.di.n m5.di.c) := b67.cell 16)
        | (go_at_call 18; refine (HW.out _ (HA6.out.di.k.row.ext x7) (HB6.out.di.k.row.ext x7)).mono ?_; rintro e w8 ⟨rfl, x8⟩; have b48 := b47.ext x8; have bm8 := (bm6.ext x7).ext x8)
        | (refine wp_ld_mac_g (.tmp 5) rfl rfl g3 m3 30 rfl b48 ?_)
        | (refine wp_ld_mac_g (.tmp 2) rfl rfl G m 30 rfl bm8 ?_)
        | (go_at_call 19; refine (HAp.out _ ((HF6.out.ext x7).ext x8).toIn ((HA6.out.ext x7).ext x8).fr.k.row ((HA6.out.ext x7).ext x8).pr.k.row ((HA6.out.ext x7).ext x8).pi.k.row).mono ?_; rintro e w9 ⟨rfl, x9⟩))
      have xc9 := ((xc6.trans x7).trans x8).trans x9
      have b39 := b48.ext x9
      have HA9 := Lib.hid (((HA6.out.ext x7).ext x8).ext x9)
      have HV9 := Lib.hid (((HV6.out.ext x7).ext x8).ext x9)
      clear xc6 x7 x8 x9 b48 bm8 b47 b67 b46 b6 bm6 e16 e16' e17 e17' HA6 HB6 HF6 HSD HW HAp HL5 HK5 HF4 HF HTc HV6
      by_cases her : er = 0
      · subst her
        have hv3 := HV.out m3 dk
        rw [HKV.out rfl] at hv3
        have HV3 := Lib.hid hv3
        have HS := Lib.hid same16_yes
        clear hv3 HV HKV
        obtain rfl : n = v.length := HNL.out
        have hVb : v.length ≤ 9223372036854775807 := by omega
        go_wp2_with (first
          | (refine wp_ld_mac_g (.tmp 5) rfl rfl g3 m3 30 rfl b39 ?_)
          | (go_at_call 11; (have hq := HV3.out _ HA9.out.toIn; with_reducible (refine hq.mono ?_)); clear hq; rintro e w11 ⟨A2, c2, rfl, x11, own11⟩; have s11 := Strs.own own11)
          | (go_at_call 12; (have hq := HS.out A2 A v.length c2 c v w11 s11 (HV9.out.ext x11) hVb; with_reducible (refine hq.mono ?_)); clear hq; rintro e w12 ⟨rfl, x12⟩)
          | (go_at_call 10; refine (HA.out _).mono ?_; rintro e w15 ⟨rfl, x15⟩))
        go_ret
        exact ⟨rfl, ((xc9.trans x11).trans x12).trans x15⟩
      · have dne : (er != 0) = true := by simpa using her
        clear her
        go_wp2_with (go_at_call 10; refine (HA.out _).mono ?_; rintro e w10 ⟨rfl, x10⟩)
        go_ret
        exact ⟨rfl, xc9.trans x10⟩
end Go.Proofs.YtkokmnaicfdjaaaGreatDoor
