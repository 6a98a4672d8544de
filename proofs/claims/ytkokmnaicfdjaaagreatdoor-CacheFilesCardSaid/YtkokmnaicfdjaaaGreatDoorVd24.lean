/- A volume kept, by the program. -/
import Derived.Test.YtkokmnaicfdjaaaGreatDoorVd20
import Derived.Test.YtkokmnaicfdjaaaGreatDoorVd23
import Derived.Test.YtkokmnaicfdjaaaGreatDoorVd19
import Derived.Maps.OwnOps
import Derived.Test.YtkokmnaicfdjaaaGreatDoorVd16
import Derived.Test.YtkokmnaicfdjaaaGreatDoorVd5
namespace Go.Proofs.YtkokmnaicfdjaaaGreatDoor
set_option linter.unusedVariables false
set_option linter.unusedSimpArgs false
open Go.RowKit

theorem grown_then {w a b : World} {g r : Option Nat} (h : w.grownBy a g) (k : a.grownBy b r) (hr : ∀ j, r = some j → w.heap.size ≤ j ∨ g = some j) : w.grownBy b g :=
  ⟨k.os.trans h.os, k.tape.trans h.tape, k.output.trans h.output, Nat.le_trans h.size k.size, fun i hi hne => (k.block i (Nat.lt_of_lt_of_le hi h.size) (fun e => by
    rcases hr i e.symm with h1 | h1
    · omega
    · exact hne h1.symm)).trans (h.block i hi hne)⟩
theorem own_ne_map {w : World} {base g size n : Nat} {e : TypeId} {v : Value} {xs : List Value} {es : Array MapEntry} {cl : Nat} (h : w.ownsRow base e size v n xs) (hb : w.heap[g]? = some (.map es cl)) : some g ≠ v.ownBlock := by
  rcases h.2 with ⟨rfl, _⟩ | ⟨g', cap, cur, rfl, _, hh, _⟩
  · simp [Value.ownBlock]
  · intro he
    have he' : g = g' := by simpa [Value.ownBlock] using he
    subst he'
    rw [hh] at hb; cases hb
theorem box_ne_map {w : World} {b g : Nat} {t : TypeId} {cs : Array Value} {es : Array MapEntry} {cl : Nat} (h : Box w b t cs) (hb : w.heap[g]? = some (.map es cl)) : b ≠ g := by
  rintro rfl
  have h1 : w.heap[b]? = some (.cells cs t (0, 0)) := h
  rw [h1] at hb; cases hb
theorem MacF.mapped {B0 : Nat} {w w' : World} {m : Mac} {d : MacD} {g : Nat} {es : Array MapEntry} {cl : Nat} (h : MacF B0 w m d) (hb : w.heap[g]? = some (.map es cl)) (hg : w.grownBy w' (some g)) (hB : B0 ≤ g) : MacF B0 w' m d := by
  have hk : ∀ (T : TypeId) (b : Nat) (cs : Array Value), Box w b T cs → some b ≠ some g := fun T b cs h e => box_ne_map h hb (by injection e)
  have hB' : ∀ k, some g = some k → B0 ≤ k := fun k e => by injection e with e; omega
  exact ⟨h.fr.keepsB (hk _) hB' hg, h.pr.keepsB (hk _) hB' hg, h.pi.keepsB (hk _) hB' hg, h.bl.keepsB (hk _) hB' hg, h.pe.keepsB (hk _) hB' hg, h.di.keepsB (hk _) hB' hg, h.initk, h.innk, h.leftk⟩
/-- numbers as a row -/
def intL (z : Int) : List Value := [.int .i64 z]
theorem int_flat (l : List Int) : l.flatMap intL = l.map encZ := by
  induction l with
  | nil => rfl
  | cons x l ih => rw [List.flatMap_cons, ih]; rfl
theorem ownsMap_ext {H : Type} {P : Program} {k : TypeId} {R : Value → Option (DataW H × List MemPlace)} {w w' : World} {b n : Nat} {D : DataW H} (h : w.ownsMap P k R b n D) (x : Ext w w') : w'.ownsMap P k R b n D := by
  obtain ⟨es, cl, hb, r⟩ := h
  exact ⟨es, cl, (x.block b (Array.getElem?_eq_some_iff.1 hb).1).trans hb, r⟩
theorem intKeyed : Maps.Keyed Tryz.prog 3 := Maps.int_keyed Tryz.underlying3
set_option maxRecDepth 100000 in
theorem key_i64 (k : Nat) (hk : k ≤ 100000) : keyOf Tryz.prog 3 (.int .i64 (k : Int)) = some (.int .i64 (k : Int)) := by
  have hw : (Lit.int .i64 (k : Int)).wf = true := (wf64 _).2 ⟨by omega, by omega⟩
  simp [keyOf, Tryz.underlying3, mapKey, hw]
theorem strZero (w : World) : (zeroValue 9).run Tryz.prog w = .ok (.string ⟨#[]⟩) w := by kernel_rfl
theorem str_read {s : List UInt8} (h : s.length ≤ 1000) : plainElem (H := Unit) Tryz.prog 9 (.string (str s)) = some (.lit (.string s), []) := by
  have := plainElem_string (H := Unit) (P := Tryz.prog) Tryz.underlying9 (s := str s) (by rw [str_size]; unfold maxLen; omega)
  rw [this]; simp [str]
set_option maxRecDepth 100000 in
/-- m[k], of texts -/
theorem wp_look_str {ops : Array Oper} {rest : List Oper} {o : Oper} {a : Act} {w : World} {Q : Exit → Act → World → Prop} (hg : o.guard = none) (m x : Operand) (hop : o.op = Op.lookup 77 m x false) (b n : Nat) (l : List WrT) (y : WrT)
    (hm : a.eval m = .map (some b)) (hown : w.ownsMap Tryz.prog 3 (plainElem Tryz.prog 9) b n (.map (keyL l))) (hp : l.Pairwise fun x y => x.1 < y.1) (hy : y ∈ l) (hx : a.eval x = .int .i64 y.1) (h0 : 0 ≤ y.1) (h1 : y.1 ≤ 100000)
    (hK : wpList Tryz.prog ops Q rest (a.put o.dst (.string (str y.2))) w) : wpList Tryz.prog ops Q (o :: rest) a w := by
  refine wpList_plain hg fun K' hK' => ?_
  have hk := key_i64 y.1.toNat (by omega)
  rw [Int.toNat_of_nonneg h0] at hk
  obtain ⟨v, ps, hrun, hv⟩ := hown.lookup intKeyed Tryz.underlying77 (strZero w) (zd := .lit (.string [])) (zp := []) (str_read (s := []) (by simp)) hk
  rw [ent_at _ l hp y hy] at hv
  obtain rfl : v = .string (str y.2) := by
    unfold plainElem at hv
    rw [Tryz.underlying9] at hv
    split at hv
    · cases hv
    · split at hv <;> cases hv
    · rename_i s e1 
      split at hv
      · injection hv with hv
        injection hv with hv _
        injection hv with hv
        injection hv with hv
        rw [← hv]; exact congrArg Value.string (str_of s)
      · cases hv
    · cases hv
  unfold Oper.wp
  simp [execOp, hop, hm, hx, hrun, Result.andThen]
  exact hK' _ _ hK
set_option maxHeartbeats 4000000 in
set_option maxRecDepth 100000 in
theorem ckeep_any (B0 : Nat) (m : Mac) (d : MacD) (A : Option Addr) (n c : Nat) (v : List (List UInt8)) (w : World) (hB0 : B0 ≤ w.heap.size) (h : MacF B0 w m d) (hj : jrnE d.bl d.pe = 0) (hT : Tabs w) (hp : d.pe.length ≤ 1000) (hv : Strs w A n v) (hn : n ≤ 1000) :
    Calls Tryz.prog 15 #[.agg m.cells, .slice A n c] w (KeepR B0 m d v w) := by
  have HO := Lib.hid (fun w hi => omacF_any m d w hi h.small)
  have HH := Lib.hid (fun w h1 h2 => home_any m.bl.A m.pe.A m.bl.n m.bl.c m.pe.n m.pe.c m.dleft d.bl d.pe w h1 h2 (maxLen_le h.pe.k.ok.2.1) h.bl.k.ok.2.2)
  have HM := Lib.hid h
  have HV := Lib.hid hv
  have HJ := Lib.hid hj
  have HT := Lib.hid hT
  have HKD : ∀ x, keepD (drvM m d) d v = x → Hid (keepD (drvM m d) d v = x) := fun x h => Lib.hid h
  have hl := hv.1
  have hz := str_size
  have b0 := Box.new w 30 m.cells
  have x0 := (Ext.refl w).alloc (.cells m.cells 30)
  have z0 : (w.alloc (.cells m.cells 30)).heap.size = w.heap.size + 1 := World.size_alloc _ _
  subst hl
  clear h hv hj hT HKD
  go_enter Tryz.func15, Tryz.ntmps15
  go_upto_region 1 with fail
  generalize w.alloc (.cells m.cells 30) = wa at b0 x0 z0 ⊢
  have bR0 := Box.new wa 30 zeroMacC
  have x1 : Ext w (wa.alloc (.cells zeroMacC 30)) := x0.alloc (.cells zeroMacC 30)
  have b1 := b0.ext ((Ext.refl wa).alloc (.cells zeroMacC 30))
  rw [z0] at bR0
  change Code.wp _ _ _ _ (wa.alloc (.cells zeroMacC 30))
  generalize wa.alloc (.cells zeroMacC 30) = w1 at bR0 x1 b1 ⊢
  generalize hG : w.heap.size = G at *
  clear b0 x0 z0
  clear wa
  go_upto_region 2 with (first
    | (refine wp_ld_mac (.tmp 2) rfl rfl G _ _ rfl b1 rfl ?_)
    | (go_at_call 32; refine (HO.out _ (HM.out.ext x1).toIn).mono ?_; rintro e w2 ⟨fr, pr, pi, bl, pe, di, rfl, x2, hM2, hS2, hN2, hF2⟩)
    | (refine wp_st_mac (.tmp 6) (.tmp 14) rfl rfl w2.heap.size (m.with fr pr pi bl pe di) _ 30 rfl rfl (Box.new _ _ _) rfl ?_; intro w3 b3 g3))
  have x23 : Ext w2 w3 := ((Ext.refl w2).alloc _).grown g3 (fun j e => by cases e; exact Nat.le_refl _)
  have x3 := (x1.trans x2).trans x23
  have bb3 := (b1.ext x2).ext x23
  have bR3 := (bR0.ext x2).ext x23
  have hF3 := (hF2 B0).ext x23
  have hlt2 : G + 1 < w2.heap.size := (bR0.ext x2).lt
  clear hM2 hS2 hN2 hF2 x1 x2 x23 b1 bR0 g3 HO
  generalize hG6 : w2.heap.size = G6 at *
  have hsb := Lib.hid (HM.out.bl.k.row.strs.ext x3)
  have hsp := Lib.hid (HM.out.pe.k.row.wrs.ext x3)
  go_upto_region 3 with (first
    | (refine wp_ld_drvM (.tmp 15) rfl rfl G m 30 rfl bb3 ?_)
    | (go_at_call 22; refine (HH.out _ hsb.out hsp.out).mono ?_; rintro e w4 ⟨A1, c1, rfl, x4, own4⟩))
  have xx4 := x3.trans x4
  have b64 := b3.ext x4
  have bR4 := bR3.ext x4
  have hF4 := hF3.ext x4
  have hlast : ∀ (s : List UInt8), s.length = 128 → ((s.length : Int) != 128) = false := fun s h => by rw [h]; rfl
  have HL := Lib.hid hlast
  have hHn : (homeP d.bl d.pe).length ≤ 1000 := by rw [homeP_len HJ.out]; have := (drvOk_of HJ.out).most; omega
  have hNB : (homeP d.bl d.pe).length ≤ d.bl.length - 33 := by rw [homeP_len HJ.out]; exact Nat.le_refl _
  have hKd := Lib.hid (keepD_eq (drvM m d) d v)
  clear hlast b3 bb3 bR3 hF3 hsb hsp x3 x4 HH
  generalize homeP d.bl d.pe = H at *
  by_cases hvh : v.length = H.length
  · have dn : ((v.length : Int) != (H.length : Int)) = false := by
      have : (v.length : Int) = (H.length : Int) := by omega
      simp [this]
    have HK1 := Lib.hid (hKd.out.trans (if_neg (fun h => h hvh)))
    have HVH := Lib.hid hvh
    clear hKd hvh
    have hmk := fun w => run_makeMap (P := Tryz.prog) 77 w
    go_upto_region 6 with fail
    clear hmk dn
    have xm := xx4.alloc (.map #[] 0)
    have xm4 : Ext w4 (w4.alloc (.map #[] 0)) := (Ext.refl _).alloc _
    have b65 := b64.ext xm4
    have bR5 := bR4.ext xm4
    have hF5 := hF4.ext xm4
    have own5 := own_ext own4 xm4
    have hmap : (w4.alloc (.map #[] 0)).ownsMap Tryz.prog 3 (plainElem (H := Unit) Tryz.prog 9) w4.heap.size 0 (.map (keyL [])) := World.ownsMap_made w4 Tryz.prog 3 _
    have hMB : (w4.alloc (.map #[] 0)).heap[w4.heap.size]? = some (.map #[] 0) := World.alloc_heap_new w4 _
    have hGm : G6 < w4.heap.size := b64.lt
    have hGm2 : G + 1 < w4.heap.size := bR4.lt
    generalize w4.alloc (.map #[] 0) = w5 at xm b65 bR5 hF5 own5 hmap hMB ⊢
    generalize w4.heap.size = Bm at *
    clear xm4 b64 bR4 hF4 own4 xx4
    go_upto_region 7 with fail
    go_loopw [9, 10, 27] (fun _ _ t wx => ∃ k : Nat, k ≤ v.length ∧ t = .int .i64 k ∧ (∀ b ∈ v.take k, b.length = 128) ∧ wx.ownsMap Tryz.prog 3 (plainElem (H := Unit) Tryz.prog 9) Bm k (.map (keyL (keepL H v k))) ∧ w5.grownBy wx (some Bm)) (fun _ _ t _ => v.length - (intOf t).toNat)
    case atStart => exact ⟨0, by omega, rfl, by simp, hmap, grown_refl _ _⟩
    case round =>
      clear hmap
      obtain ⟨k, hk, rfl, hall, hown, hg⟩ := hrel
      have xk : Ext w wr := xm.grown hg (fun j e => by cases e; omega)
      have b6 := b65.grown hg (by intro e; injection e with e; omega)
      have bR6 := bR5.grown hg (by intro e; injection e with e; omega)
      have hF6 := hF5.mapped hMB hg (by omega)
      have hownH := own5.kept hg (.inr (own_ne_map own5 hMB).symm)
      have HG5 := Lib.hid hg
      clear hg hMB own5 b65 bR5 hF5 xm
      by_cases hlt : k < v.length
      · have hltH : k < H.length := by have := HVH.out; omega
        obtain ⟨ba, oa, rfl, hca⟩ := (HV.out.ext xk).2 (by omega)
        obtain ⟨bb, ob, rfl, hcb⟩ := (Strs.own hownH).2 (by omega)
        have ca := hca k hlt
        have cb := hcb k hltH
        have hki : (k : Int) < (v.length : Int) := by omega
        have hki2 : (k : Int) < (H.length : Int) := by omega
        have HA1 := Lib.hid (fun (h : v[k].length = 128) => show ∀ b ∈ v.take (k + 1), b.length = 128 from fun b hb => by
          rw [List.take_succ_eq_append_getElem hlt] at hb
          rcases List.mem_append.1 hb with hb | hb
          · exact hall b hb
          · rw [List.mem_singleton.1 hb]; exact h)
        have HE := Lib.hid (show keepL H v (k + 1) = if v[k] = H[k] then keepL H v k else keepL H v k ++ [((k : Int), v[k])] by
          rw [keepL, List.getD_eq_getElem?_getD, List.getD_eq_getElem?_getD, List.getElem?_eq_getElem hlt, List.getElem?_eq_getElem hltH]; rfl)
        have HFo := Lib.hid (fun (h : ¬ v[k].length = 128) => show formE v ≠ 0 from fun h0 => h (formE_mem h0 _ (List.getElem_mem hlt)))
        clear hca hcb hall hownH
        generalize v[k] = s at *
        generalize H[k] = s' at *
        by_cases h128 : s.length = 128
        · have hlk := HL.out _ h128
          by_cases heq : s = s'
          · subst heq
            have HE2 := Lib.hid (HE.out.trans (if_pos rfl))
            go_wp2_with fail
            go_roundw
            case rel => exact ⟨k + 1, by omega, by go_num, HA1.out h128, by rw [HE2.out]; exact hown.mono (by omega), HG5.out⟩
            case measure => simp [intOf]; omega
          · have HE2 := Lib.hid (HE.out.trans (if_neg heq))
            have e1 : ((str s).toList == (str s').toList) = false := by rw [ByteArray.toList_eq, ByteArray.toList_eq]; simpa [str] using heq
            have e2 : ((str s).toList != (str s').toList) = true := by rw [bne, e1]; rfl
            have H128 := Lib.hid h128
            clear heq h128
            go_wp2_with (at_mapUpdate; refine wpList_mapUpdate_own _ rfl _ _ _ 77 rfl 3 9 intKeyed Tryz.underlying77 (plainElem (H := Unit) Tryz.prog 9) Bm k _ rfl hown (by unfold maxLen; omega) _ _ (.int .i64 (k : Int)) rfl rfl (key_i64 k (by omega)) (.lit (.string s)) [] (str_read (by rw [H128.out]; omega)) ?_; intro w6 hown6 hg6)
            rw [ent_put _ _ _ (fun x hx => (keepL_mem H v k x hx).2.1), ← HE2.out] at hown6
            go_roundw
            case rel => exact ⟨k + 1, by omega, by go_num, HA1.out H128.out, hown6, grown_then HG5.out hg6 (fun j e => .inr e)⟩
            case measure => simp [intOf]; omega
        · have hlk : ((s.length : Int) != 128) = true := by simp; omega
          have HK2 := Lib.hid (HK1.out.trans (if_pos (HFo.out h128)))
          clear h128 hown
          go_wp2_with (first
            | (refine wp_ld_mac (.tmp 6) rfl rfl G6 _ _ rfl b6 rfl ?_)
            | (refine wp_st_mac (.tmp 4) (.tmp 35) rfl rfl (G + 1) (m.with fr pr pi bl pe di) _ 30 rfl rfl bR6 rfl ?_; intro w9 b9 g9))
          refine bodyPost_ret (results_cell2 rfl _ _ (G + 1) _ _ _ (.int .i64 3) rfl rfl b9 Tryz.underlying30 rfl macSize) rfl (KeepR.mk HK2.out (hF6.grown (by decide) bR6 g9) rfl ⟨rfl, rfl, rfl, rfl, rfl, rfl, rfl, rfl, rfl, rfl⟩ (xk.grown g9 (fun j e => by cases e; omega)))
      · obtain rfl : k = v.length := by omega
        rw [List.take_length] at hall
        have HK2 := Lib.hid (HK1.out.trans (if_neg (by rw [formE_all hall]; exact fun h => h rfl)))
        have HRW := Lib.hid (fun hl32 => keep_rise (H := H) (N := d.bl.length - 33) (by have := HVH.out; omega) hall hl32)
        have hpw := keepL_rise H v v.length
        have HMem := Lib.hid (keepL_mem H v v.length)
        have hll := keepL_len H v v.length
        clear hall hownH HL HK1
        generalize keepL H v v.length = l at *
        have hlen : ∀ ty, (Builtin.len_ #[77] ty #[.map (some Bm)]).run Tryz.prog wr = .ok (.int .i64 (l.length : Int)) wr := fun ty => by
          have := hown.len Tryz.underlying77 ty
          rw [ent_size] at this; exact this
        by_cases h32 : 32 < l.length
        · have d32 : decide ((32 : Int) < (l.length : Int)) = true := decide_eq_true (by omega)
          have HK3 := Lib.hid (HK2.out.trans (if_pos h32))
          clear hown
          go_wp2_with (first
            | (refine wp_ld_mac (.tmp 6) rfl rfl G6 _ _ rfl b6 rfl ?_)
            | (refine wp_st_mac (.tmp 4) (.tmp 49) rfl rfl (G + 1) (m.with fr pr pi bl pe di) _ 30 rfl rfl bR6 rfl ?_; intro w9 b9 g9))
          refine bodyPost_ret (results_cell2 rfl _ _ (G + 1) _ _ _ (.int .i64 6) rfl rfl b9 Tryz.underlying30 rfl macSize) rfl (KeepR.mk HK3.out (hF6.grown (by decide) bR6 g9) rfl ⟨rfl, rfl, rfl, rfl, rfl, rfl, rfl, rfl, rfl, rfl⟩ (xk.grown g9 (fun j e => by cases e; omega)))
        · have d32 : decide ((32 : Int) < (l.length : Int)) = false := decide_eq_false (by omega)
          have HK3 := Lib.hid (HK2.out.trans (if_neg h32))
          have HRW2 := Lib.hid (HRW.out (by omega))
          clear HK2 HRW
          have bL := b6.cell 16
          have fL := b6.frozen 16
          go_upto_region 17 with fail
          have b7 : Box (wr.setCell ⟨G6, 16, none⟩ (.slice none 0 0)) G6 30 ({ m.with fr pr pi bl pe di with di := ⟨none, 0, 0⟩ } : Mac).cells := b6.set 16 _
          have g7 := grown_cells (g := G6) [.slice none 0 0] 16 wr
          change wr.grownBy (wr.setCell ⟨G6, 16, none⟩ (.slice none 0 0)) (some G6) at g7
          have bR7 := bR6.grown g7 (by intro e; injection e with e; omega)
          have hF7 := hF6.grown (by decide) b6 g7
          have x7 := xk.grown g7 (fun j e => by cases e; omega)
          have hown7 := hown.kept g7 (fun e => by injection e with e; omega)
          clear hlen bL fL b6 bR6 hF6 xk hown g7
          generalize wr.setCell ⟨G6, 16, none⟩ (.slice none 0 0) = w7 at *
          have m7 := hown7.alloc (.cells #[.map (some Bm)] 77)
          go_upto_region 18 with (first
            | (go_at_call 34; refine (keys_any _ _).mono ?_; rintro e w9 ⟨rfl, rfl⟩; have c7 : (w7.alloc (.cells #[.map (some Bm)] 77)).cell? ⟨w7.heap.size, 0, none⟩ = some (.map (some Bm)) := (Box.new w7 77 #[.map (some Bm)]).cell 0)
            | (go_at_call 33; refine (sorted_any w7.heap.size Bm _ (.map (keyL l)) _ (by simp) c7 m7 (by rw [ent_size]; unfold maxLen; omega) (by rw [ent_size]; omega)).mono ?_; rintro e w8 ⟨vs, ss, rfl, hperm, hS8, hnil, x8⟩; clear hnil; obtain ⟨⟨kA, kn, kc⟩, rfl, hks, hkk⟩ := own_sl hS8; have HKS := Lib.hid hks; clear hks))
          have hsl : ss.length = l.length := by rw [hperm.length_eq, ent_keys, List.length_map]
          obtain rfl : kn = l.length := HKS.out.trans hsl
          rw [hsl, keys_sorted l hpw (by rw [← ent_keys]; exact hperm)] at hS8
          have hS9 : w8.ownsRow (w7.alloc (.cells #[.map (some Bm)] 77)).heap.size 3 1 (.slice kA l.length kc) l.length ((l.map (·.1)).flatMap intL) := by rw [int_flat]; exact hS8
          have KS : RowF B0 intL 3 w8 ⟨kA, l.length, kc⟩ (l.map (·.1)) := RowF.own (own_row hS9 (fun _ _ => rfl) (by rw [List.length_map]) rfl) hkk (by show l.length ≤ 100000; omega) hS9
          have x78 := ((Ext.refl w7).alloc (.cells #[.map (some Bm)] 77)).trans x8
          have b8 := b7.ext x78
          have bR8 := bR7.ext x78
          have hF8 := hF7.ext x78
          have xx8 := x7.trans x78
          have m8 := ownsMap_ext m7 x8
          have hB8 : G6 < w8.heap.size := b8.lt
          have ho8 : w8.ownsRow w8.heap.size 57 2 (.slice none 0 0) 0 (([] : List WrT).flatMap wrL) := World.ownsRow_nil w8 _ _ _
          clear hsl HKS hperm hS8 hS9 m7 c7 x78 b7 bR7 hF7 x7 hown7 x8 hkk
          generalize hBASE : w8.heap.size = BASE at *
          go_loopw [12, 55] (fun _ t wx => ∃ (k : Nat) (s : Sl), k ≤ l.length ∧ t = .int .i64 k ∧ s.n = k ∧ Box wx G6 30 ({ m.with fr pr pi bl pe di with di := s } : Mac).cells ∧ RowF B0 wrL 57 wx s (l.take k) ∧ wx.ownsRow BASE 57 2 (.slice s.A s.n s.c) s.n ((l.take k).flatMap wrL) ∧ w8.grownBy wx (some G6)) (fun _ t _ => l.length - (intOf t).toNat)
          case atStart => exact ⟨0, ⟨none, 0, 0⟩, by omega, rfl, rfl, b8, RowF.nil, ho8, grown_refl _ _⟩
          case round =>
            clear ho8
            obtain ⟨k, s, hk2, rfl, hsn, bk, ks, os, hg⟩ := hrel
            have bRk := bR8.grown hg (by intro e; injection e with e; omega)
            have hFk := hF8.grown (by decide) b8 hg
            have xk : Ext w wr := xx8.grown hg (fun j e => by cases e; omega)
            have KSk := KS.grown (by decide) b8 hg
            have mk := m8.kept hg (fun e => by injection e with e; omega)
            have hsz : BASE ≤ wr.heap.size := by rw [← hBASE]; exact hg.size
            have HSN := Lib.hid hsn
            have HGr := Lib.hid hg
            clear hg hsn b8 bR8 hF8 xx8 m8 KS
            by_cases hlt2 : k < l.length
            · obtain ⟨b2, o2, hA2, hc2⟩ := KSk.k.row.2 (by show 0 < l.length; omega)
              have hA3 : kA = some ⟨b2, o2, none⟩ := hA2
              subst hA3
              have hlm : k < (l.map (·.1)).length := by rw [List.length_map]; exact hlt2
              have e1 : wr.cell? ⟨b2, o2 + k, none⟩ = some (.int .i64 l[k].1) := by
                have h := RowOf.cell (z := 1) (n := 0) hc2 (fun x _ => (rfl : (intL x).length = 1)) hlm (i := 0) (by omega) rfl
                rw [Nat.mul_one, Nat.add_zero, List.getElem_map] at h
                exact h
              have HT1 := Lib.hid (show l.take (k + 1) = l.take k ++ [l[k]] from List.take_succ_eq_append_getElem hlt2)
              have hym := List.getElem_mem hlt2
              have hyb := HMem.out _ hym
              have hkl : (k : Int) < (l.length : Int) := by omega
              have c16 : wr.cell? ⟨G6, 16, none⟩ = some (.slice s.A s.n s.c) := bk.cell 16
              clear hA2 hc2 hlm KSk
              generalize l[k] = y at *
              obtain ⟨y1, y2⟩ := y
              simp only at e1 hyb
              have hy0 := hyb.1
              have hy1 := hyb.2.1
              clear hyb
              have ya : Ext wr (wr.alloc (.cells #[.int .i64 y1, .string (str y2)] 57)) := (Ext.refl wr).alloc _
              have za := own_ext os ya
              go_upto_region 21 with (first
                | (at_lookup; refine wp_look_str rfl _ _ rfl Bm _ l (y1, y2) rfl mk hpw hym rfl hy0 (by omega) ?_)
                | (at_builtin; refine wp_app_wr (B0 := B0) (B := BASE) (y := (y1, y2)) s rfl _ _ rfl rfl rfl za (ks.k.row.1) wr_one (by have := HSN.out; omega) (by rw [World.size_alloc]; omega) ?_; intro s6 w6 hn6 k6 o6 g6; have HN6 := Lib.hid hn6; clear hn6; have b6 := (bk.ext ya).grown g6 (own_ne za (bk.ext ya) (by decide)); have c61 : w6.cell? ⟨G6, 16, none⟩ = some (.slice s.A s.n s.c) := b6.cell 16; have f61 := b6.frozen 16))
              have b7 := b6.set 16 (.slice s6.A s6.n s6.c)
              have gg7 : w6.grownBy (w6.setCell ⟨G6, 16, none⟩ (.slice s6.A s6.n s6.c)) (some G6) := grown_cells (g := G6) [.slice s6.A s6.n s6.c] 16 w6
              have hg1 := grown_then (HGr.out) (World.grownBy_alloc wr (.cells #[.int .i64 y1, .string (str y2)] 57) none) (fun j e => by cases e)
              have hg2 := grown_then hg1 g6 (fun j e => Or.inl (by rw [hBASE]; exact own_low za e))
              have hg3 := grown_then hg2 gg7 (fun j e => .inr e)
              have o7 := o6.kept gg7 (.inr (own_ne o6 b6 (by decide)).symm)
              have k7 := k6.grown (by decide) b6 gg7
              rw [← HT1.out] at o7 k7
              generalize w6.setCell ⟨G6, 16, none⟩ (.slice s6.A s6.n s6.c) = w7 at *
              clear b6 gg7 hg1 hg2 o6 k6 g6 za ya c16 c61 f61 e1 ks os bk hFk bRk xk mk hym hy0 hy1 HGr hkl
              go_wp2_with fail
              go_roundw
              case rel => exact ⟨k + 1, s6, by omega, by go_num, by rw [HN6.out, HSN.out], b7, k7, o7, hg3⟩
              case measure => simp [intOf]; omega
            · obtain rfl : k = l.length := by omega
              rw [List.take_length] at ks os
              have c16 : wr.cell? ⟨G6, 16, none⟩ = some (.slice s.A s.n s.c) := bk.cell 16
              have hFin : MacF B0 wr ({ m.with fr pr pi bl pe di with di := s } : Mac) { d with di := l } := ⟨hFk.fr, hFk.pr, hFk.pi, hFk.bl, hFk.pe, ks, hFk.initk, hFk.innk, hFk.leftk⟩
              clear KSk mk os ks hFk HGr
              by_cases h16 : 16 < l.length
              · have d16 : decide ((16 : Int) < (s.n : Int)) = true := decide_eq_true (by have := HSN.out; omega)
                have HK4 := Lib.hid (HK3.out.trans (if_pos h16))
                have HSy := Lib.hid (csync_any B0 ({ m.with fr pr pi bl pe di with di := s } : Mac) { d with di := l } wr (by omega) hFin HJ.out HRW2.out (HT.out.ext xk) hp)
                clear hFin h16
                go_wp2_with (first
                  | (refine wp_ld_mac (.tmp 6) rfl rfl G6 _ _ rfl bk rfl ?_)
                  | (go_at_call 20; refine HSy.out.mono ?_; rintro e w9 ⟨m9, rfl, hF9, hl9, hk9, x9⟩; have bR9 := bRk.ext x9; have HL9 := Lib.hid hl9; have HK9 := Lib.hid hk9; clear hl9 hk9)
                  | (refine wp_st_mac (.tmp 4) (.tmp 76) rfl rfl (G + 1) m9 _ 30 rfl rfl bR9 rfl ?_; intro w10 b10 g10))
                have hk9 := HK9.out
                refine bodyPost_ret (results_cell2 rfl _ _ (G + 1) _ _ _ (.int .i64 (commitP (drvM m d) l).2) rfl rfl b10 Tryz.underlying30 rfl macSize) rfl (KeepR.mk HK4.out (hF9.grown (by decide) bR9 g10) HL9.out ⟨hk9.clock, hk9.quantum, hk9.cur, hk9.left, hk9.next, hk9.init, hk9.newPipe, hk9.inn, hk9.fin, hk9.told⟩ ((xk.trans x9).grown g10 (fun j e => by cases e; omega)))
              · have d16 : decide ((16 : Int) < (s.n : Int)) = false := decide_eq_false (by have := HSN.out; omega)
                have HK4 := Lib.hid (HK3.out.trans (if_neg h16))
                clear h16
                go_wp2_with (first
                  | (refine wp_ld_mac (.tmp 6) rfl rfl G6 _ _ rfl bk rfl ?_)
                  | (refine wp_st_mac (.tmp 4) (.tmp 78) rfl rfl (G + 1) ({ m.with fr pr pi bl pe di with di := s } : Mac) _ 30 rfl rfl bRk rfl ?_; intro w10 b10 g10))
                refine bodyPost_ret (results_cell2 rfl _ _ (G + 1) _ _ _ (.int .i64 0) rfl rfl b10 Tryz.underlying30 rfl macSize) rfl (KeepR.mk HK4.out (hFin.grown (by decide) bRk g10) rfl ⟨rfl, rfl, rfl, rfl, rfl, rfl, rfl, rfl, rfl, rfl⟩ (xk.grown g10 (fun j e => by cases e; omega)))
  · have dn : ((v.length : Int) != (H.length : Int)) = true := by
      have : (v.length : Int) ≠ (H.length : Int) := by omega
      simpa using this
    have HK := Lib.hid (hKd.out.trans (if_pos hvh))
    clear hKd hvh
    go_wp2_with (first
      | (refine wp_ld_mac (.tmp 6) rfl rfl G6 _ _ rfl b64 rfl ?_)
      | (refine wp_st_mac (.tmp 4) (.tmp 23) rfl rfl (G + 1) (m.with fr pr pi bl pe di) _ 30 rfl rfl bR4 rfl ?_; intro w9 b9 g9))
    refine bodyPost_ret (results_cell2 rfl _ _ (G + 1) _ _ _ (.int .i64 2) rfl rfl b9 Tryz.underlying30 rfl macSize) rfl (KeepR.mk HK.out (hF4.grown (by decide) bR4 g9) rfl ⟨rfl, rfl, rfl, rfl, rfl, rfl, rfl, rfl, rfl, rfl⟩ (xx4.grown g9 (fun j e => by cases e; omega)))
end Go.Proofs.YtkokmnaicfdjaaaGreatDoor
/- cache.Keep of the volume that is there. -/
namespace Go.Proofs.YtkokmnaicfdjaaaGreatDoor
set_option linter.unusedVariables false
set_option linter.unusedSimpArgs false
open Go.RowKit

theorem homeP_all {B : List (List UInt8)} {p : List WrT} (hj : jrnE B p = 0) : ∀ b ∈ homeP B p, b.length = 128 := by
  have hd := drvOk_of hj
  have key : ∀ (p : List WrT) (v : List (List UInt8)), (∀ x ∈ p, x.2.length = 128) → (∀ b ∈ v, b.length = 128) → ∀ b ∈ p.foldl putP v, b.length = 128 := fun p => by
    induction p with
    | nil => exact fun v _ hv => hv
    | cons x p ih =>
      intro v hp hv
      rw [List.foldl_cons]
      refine ih _ (fun y hy => hp y (by simp [hy])) (fun b hb => ?_)
      unfold putP at hb
      split at hb
      · rcases List.mem_or_eq_of_mem_set hb with hb | rfl
        · exact hv b hb
        · exact hp x (by simp)
      · exact hv b hb
  unfold homeP
  rw [if_neg (by simpa using hj)]
  exact key p _ (fun x hx => (hd.pend x hx).2.2) (fun b hb => hd.form b (List.mem_of_mem_drop hb))
set_option maxHeartbeats 2000000 in
set_option maxRecDepth 100000 in
theorem keep_same (m : Mac) (d : MacD) (A : Option Addr) (n c : Nat) (w : World) (h : MacIn w m d) (hs : MacSmall m) (hj : jrnE d.bl d.pe = 0) (hv : Strs w A n (homeP d.bl d.pe)) :
    Calls Tryz.prog 15 #[.agg m.cells, .slice A n c] w fun e w' => ∃ m' : Mac, e = .returned (.tuple #[.agg m'.cells, .int .i64 0]) ∧ Ext w w' ∧ MacIn w' m' { d with di := [] } ∧ MacTy w' m' := by
  have HO := Lib.hid (fun w h => omac_any m d w h hs)
  have HH := Lib.hid (fun w h1 h2 => home_any m.bl.A m.pe.A m.bl.n m.bl.c m.pe.n m.pe.c m.dleft d.bl d.pe w h1 h2 (maxLen_le h.pek.2.1) h.blk.2.2)
  have HALL := Lib.hid (homeP_all hj)
  have HM := Lib.hid h
  have HV := Lib.hid hv
  have hl := hv.1
  have hz := str_size
  have b0 := Box.new w 30 m.cells
  have x0 := (Ext.refl w).alloc (.cells m.cells 30)
  have z0 : (w.alloc (.cells m.cells 30)).heap.size = w.heap.size + 1 := World.size_alloc _ _
  clear h hs hv
  go_enter Tryz.func15, Tryz.ntmps15
  go_upto_region 1 with fail
  generalize w.alloc (.cells m.cells 30) = wa at b0 x0 z0 ⊢
  have bR0 := Box.new wa 30 zeroMacC
  have x1 : Ext w (wa.alloc (.cells zeroMacC 30)) := x0.alloc (.cells zeroMacC 30)
  have b1 := b0.ext ((Ext.refl wa).alloc (.cells zeroMacC 30))
  rw [z0] at bR0
  change Code.wp _ _ _ _ (wa.alloc (.cells zeroMacC 30))
  generalize wa.alloc (.cells zeroMacC 30) = w1 at bR0 x1 b1 ⊢
  generalize hG : w.heap.size = G at *
  clear b0 x0 z0
  clear wa
  go_upto_region 2 with (first
    | (refine wp_ld_mac (.tmp 2) rfl rfl G _ _ rfl b1 rfl ?_)
    | (go_at_call 32; refine (HO.out _ (HM.out.ext x1)).mono ?_; rintro e w2 ⟨fr, pr, pi, bl, pe, di, rfl, x2, hM2, hS2, hN2⟩)
    | (refine wp_st_mac (.tmp 6) (.tmp 14) rfl rfl w2.heap.size (m.with fr pr pi bl pe di) _ 30 rfl rfl (Box.new _ _ _) rfl ?_; intro w3 b3 g3))
  have x23 : Ext w2 w3 := ((Ext.refl w2).alloc _).grown g3 (fun j e => by cases e; exact Nat.le_refl _)
  have x3 := (x1.trans x2).trans x23
  have bb3 := (b1.ext x2).ext x23
  have bR3 := (bR0.ext x2).ext x23
  have hMM := Lib.hid hM2
  have y3 := x23
  have hlt2 : G + 1 < w2.heap.size := (bR0.ext x2).lt
  clear hM2 x1 x2 x23 b1 bR0 g3
  generalize hG6 : w2.heap.size = G6 at *
  have hsb := Lib.hid (HM.out.bl.strs.ext x3)
  have hsp := Lib.hid (HM.out.pe.wrs.ext x3)
  go_upto_region 3 with (first
    | (refine wp_ld_drvM (.tmp 15) rfl rfl G m 30 rfl bb3 ?_)
    | (go_at_call 22; refine (HH.out _ hsb.out hsp.out).mono ?_; rintro e w4 ⟨A1, c1, rfl, x4, own4⟩))
  have xx4 := x3.trans x4
  have b64 := b3.ext x4
  have bR4 := bR3.ext x4
  have y4 := y3.trans x4
  have hvA := Lib.hid (HV.out.ext xx4)
  have hv1 := Lib.hid (Strs.own own4)
  have hpos : 0 < (homeP d.bl d.pe).length := by rw [homeP_len hj]; have := (drvOk_of hj).least; omega
  have hNb : (homeP d.bl d.pe).length ≤ 1000 := by rw [homeP_len hj]; have := (drvOk_of hj).most; omega
  rw [hl] at HV hvA
  clear hl b3 bb3 bR3 y3 hsb hsp own4 x3 HV HH HO hS2
  generalize homeP d.bl d.pe = H at *
  have hmk := fun w => run_makeMap (P := Tryz.prog) 77 w
  go_upto_region 6 with fail
  clear hmk
  have xm := xx4.alloc (.map #[] 0)
  have xm4 : Ext w4 (w4.alloc (.map #[] 0)) := (Ext.refl _).alloc _
  have b65 := b64.ext xm4
  have bR5 := bR4.ext xm4
  have y5 := y4.trans xm4
  have hvA5 := Lib.hid (hvA.out.ext xm4)
  have hv15 := Lib.hid (hv1.out.ext xm4)
  have hmap := fun R => World.ownsMap_made (H := Unit) w4 Tryz.prog 3 R
  have hGm : G6 < w4.heap.size := b64.lt
  generalize w4.alloc (.map #[] 0) = w5 at xm b65 bR5 y5 hvA5 hv15 hmap ⊢
  generalize w4.heap.size = Bm at *
  clear xm4 b64 bR4 y4 hvA hv1 xx4 x4
  clear w4
  go_upto_region 7 with fail
  go_loop [9, 10, 27] (fun _ _ t => ∃ k : Nat, k ≤ H.length ∧ t = .int .i64 k) (fun _ _ t => H.length - (intOf t).toNat)
  case atStart => exact ⟨0, by omega, rfl⟩
  case round =>
    obtain ⟨k, hk, rfl⟩ := hrel
    by_cases hlt : k < H.length
    · obtain ⟨ba, oa, rfl, hca⟩ := hvA5.out.2 (by omega)
      obtain ⟨bb, ob, rfl, hcb⟩ := hv15.out.2 (by omega)
      have ca := hca k hlt
      have cb := hcb k hlt
      have hlk : ((H[k].length : Int) != 128) = false := by rw [HALL.out _ (List.getElem_mem hlt)]; rfl
      have hki : (k : Int) < (H.length : Int) := by omega
      clear hca hcb
      generalize H[k] = s at *
      go_wp2_with fail
      go_round
      case rel => exact ⟨k + 1, by omega, by go_num⟩
      case measure => simp [intOf]; omega
    · obtain rfl : k = H.length := by omega
      have hlen : ∀ ty, (Builtin.len_ #[77] ty #[.map (some Bm)]).run Tryz.prog w5 = .ok (.int .i64 0) w5 := fun ty => (hmap (fun _ => none)).len Tryz.underlying77 ty
      have bL := b65.cell 16
      have fL := b65.frozen 16
      go_upto_region 17 with fail
      have b66 : Box (w5.setCell ⟨G6, 16, none⟩ (.slice none 0 0)) G6 30 ({ m.with fr pr pi bl pe di with di := ⟨none, 0, 0⟩ } : Mac).cells := b65.set 16 _
      have bR6 := bR5.setOther (show G + 1 ≠ G6 by omega) (i := 16) (.slice none 0 0)
      have x6 := xm.setCell (p := ⟨G6, 16, none⟩) (by rw [hG]; show G ≤ G6; omega) (.slice none 0 0)
      have y6 := y5.setCell (p := ⟨G6, 16, none⟩) (by rw [hG6]; exact Nat.le_refl G6) (.slice none 0 0)
      have m6 := ((hmap (fun _ => none)).kept (grown_cells (g := G6) [.slice none 0 0] 16 w5) (show (some Bm : Option Nat) ≠ some G6 from fun e => by injection e with e; omega)).alloc (.cells #[.map (some Bm)] 77)
      change ((w5.setCell ⟨G6, 16, none⟩ (.slice none 0 0)).alloc (.cells #[.map (some Bm)] 77)).ownsMap _ _ _ _ _ _ at m6
      clear hlen bL fL b65 bR5 y5 hmap xm hvA5 hv15
      generalize w5.setCell ⟨G6, 16, none⟩ (.slice none 0 0) = w6 at b66 bR6 x6 y6 m6 ⊢
      go_upto_region 18 with (first
        | (go_at_call 34; refine (keys_any _ _).mono ?_; rintro e w7 ⟨rfl, rfl⟩; have c7 : (w6.alloc (.cells #[.map (some Bm)] 77)).cell? ⟨w6.heap.size, 0, none⟩ = some (.map (some Bm)) := (Box.new w6 77 #[.map (some Bm)]).cell 0)
        | (go_at_call 33; refine (sorted_nil w6.heap.size Bm 0 _ (by simp) c7 m6).mono ?_; rintro e w8 ⟨rfl, x8⟩))
      have x68 := ((Ext.refl w6).alloc (.cells #[.map (some Bm)] 77)).trans x8
      have b68 := b66.ext x68
      have bR8 := bR6.ext x68
      have xx8 := x6.trans x68
      have y8 := y6.trans x68
      clear x68 b66 bR6 x6 y6 m6 c7 x8
      go_loop [12, 55] (fun _ t => t = .int .i64 0) (fun _ t => 0)
      case atStart => rfl
      case round =>
        obtain rfl := hrel
        have q16 : w8.cell? ⟨G6, 16, none⟩ = some (.slice none 0 0) := b68.cell 16
        go_wp2_with (first
          | (refine wp_ld_mac (.tmp 6) rfl rfl G6 _ _ rfl b68 rfl ?_)
          | (refine wp_st_mac (.tmp 4) (.tmp 78) rfl rfl (G + 1) ({ m.with fr pr pi bl pe di with di := ⟨none, 0, 0⟩ } : Mac) _ 30 rfl rfl bR8 rfl ?_; intro w9 b9 g9))
        have xF := xx8.grown g9 (fun j e => by cases e; rw [hG]; exact Nat.le_succ _)
        have hm8 := (hMM.out.ext y8).grown (hN2.ext y8) bR8 g9
        have ht8 := (hN2.ext y8).grown bR8 g9
        exact bodyPost_ret (results_cell2 rfl _ _ (G + 1) _ _ _ (.int .i64 0) rfl rfl b9 Tryz.underlying30 rfl macSize) rfl ⟨{ m.with fr pr pi bl pe di with di := ⟨none, 0, 0⟩ }, rfl, xF, ⟨hm8.fr, hm8.pr, hm8.pi, hm8.bl, hm8.pe, nil_row _ _, hm8.frk, hm8.prk, hm8.pik, hm8.blk, hm8.pek, nil_ok, hm8.initk, hm8.innk, hm8.leftk⟩, ⟨ht8.fr, ht8.pr, ht8.pi, ht8.bl, ht8.pe, TyOk.nil _⟩⟩
end Go.Proofs.YtkokmnaicfdjaaaGreatDoor
/- The example of layer 28: awake is true. -/
namespace Go.Proofs.YtkokmnaicfdjaaaGreatDoor
set_option linter.unusedVariables false
set_option linter.unusedSimpArgs false
open Go.RowKit

theorem jrn_bare : jrnE (fmtB mk8) [] = 0 := by
  have hl : (fmtB mk8).length = 57 := by rw [fmtB_len, mk8_len]
  have hf : formE (fmtB mk8) = 0 := formE_all (fun b hb => by
    rcases List.mem_append.1 hb with hb | hb
    · rw [List.eq_of_mem_replicate hb, zs_len]
    · exact mk8_all b hb)
  unfold jrnE drvE
  rw [hl, hf]
  rfl
theorem home_bare : homeP (fmtB mk8) [] = mk8 := by
  unfold homeP
  rw [if_neg (by rw [jrn_bare]; decide)]
  show (fmtB mk8).drop 33 = mk8
  unfold fmtB
  rw [List.drop_append_of_le_length (by simp), List.drop_of_length_le (by simp), List.nil_append]
theorem run_st_mac (o : Oper) (a : Act) (w : World) (x y : Operand) (ho : o.op = .store 30 x y) (g : Nat) (m : Mac) (old : Array Value) (t : TypeId) (hx : a.eval x = .pointer (some ⟨g, 0, none⟩)) (hy : a.eval y = .agg m.cells) (hb : Box w g t old) (hold : old.size = 17) :
    (execOp a.eval o).run Tryz.prog w = .ok .skip (w.setRow g m.cells) := by
  unfold execOp
  simp only [ho, hx, hy, Instr.storeAt, Instr.sureAddr, Sem.run_bind, Sem.run_pure, Result.andThen_ok, run_storeVar_row w g t 30 old m.cells hb macSize hold (macC_one m)]
def viewV (w : World) (u : Value) : Prop := ∃ A c, u = .slice A 24 c ∧ Strs w A 24 mk8
def keepV (w : World) (u : Value) : Prop := ∃ m' : Mac, u = .tuple #[.agg m'.cells, .int .i64 0] ∧ MacIn w m' bareD ∧ MacTy w m'
def macV (w : World) (u : Value) : Prop := ∃ m' : Mac, u = .agg m'.cells ∧ MacIn w m' bareD ∧ MacTy w m'
def zeroV (w0 : World) (w : World) (u : Value) : Prop := ∃ g, u = .pointer (some ⟨g, 0, none⟩) ∧ Box w g 30 zeroMacC ∧ w0.heap.size ≤ g
theorem lasts_view : Lasts viewV := fun _ _ _ x ⟨A, c, e, h⟩ => ⟨A, c, e, h.ext x⟩
theorem lasts_keep : Lasts keepV := fun _ _ _ x ⟨m, e, h, t⟩ => ⟨m, e, h.ext x, t.ext x⟩
theorem lasts_mac : Lasts macV := fun _ _ _ x ⟨m, e, h, t⟩ => ⟨m, e, h.ext x, t.ext x⟩
theorem lasts_zero (w0 : World) : Lasts (zeroV w0) := fun _ _ _ x ⟨g, e, h, t⟩ => ⟨g, e, h.ext x, t⟩
set_option maxHeartbeats 4000000 in
set_option maxRecDepth 100000 in
theorem awake_any (w : World) : Calls Tryz.prog 10 #[] w fun e w' => e = .returned (.bool true) ∧ Ext w w' := by
  have HV := Lib.hid (fun (m : Mac) w (h : MacIn w m bareD) => view_any m bareD w h)
  rw [show viewP bareD.bl bareD.pe bareD.di = mk8 from home_bare, mk8_len] at HV
  have HK := Lib.hid (fun (m : Mac) (hs : MacSmall m) A c w (h : MacIn w m bareD) (s : Strs w A 24 mk8) => keep_same m bareD A 24 c w h hs jrn_bare (by rw [show homeP bareD.bl bareD.pe = mk8 from home_bare]; exact s))
  go_enter Tryz.func10, Tryz.ntmps10
  go_upto_region 2 with (first
    | (go_at_call 30; refine (bare_any _).mono ?_; rintro e w1 ⟨gf, gb, rfl, x1, hM⟩)
    | (refine wp_st_mac (.tmp 1) (.tmp 7) rfl rfl w1.heap.size (bareM gf gb) _ 30 rfl rfl (Box.new _ _ _) rfl ?_; intro w2 bA g2))
  have x12 : Ext w1 w2 := ((Ext.refl w1).alloc _).grown g2 (fun j e => by cases e; exact Nat.le_refl _)
  have xb := x1.trans x12
  replace hM := hM.ext x12
  have hsm : MacSmall (bareM gf gb) := ⟨by show 4 ≤ 100000; omega, Nat.zero_le _, Nat.zero_le _, by show 57 ≤ 100000; omega, Nat.zero_le _, Nat.zero_le _⟩
  replace HK := Lib.hid (HK.out (bareM gf gb) hsm)
  replace HV := Lib.hid (HV.out (bareM gf gb))
  clear g2 x1 x12 hsm
  go_cut [3, 4] (fun p s wx => s = .int .i64 0 ∧ ∃ (g : Nat) (m5 : Mac), p = .pointer (some ⟨g, 0, none⟩) ∧ Box wx g 30 m5.cells ∧ MacIn wx m5 bareD ∧ Ext w wx)
  case first =>
    refine wp_region_late 8 6 [[], [], [1], [0, 2], [3], [4], [4], []] (listV [isV (.agg (bareM gf gb).cells), isV (.agg (bareM gf gb).cells), viewV, keepV, keepV, macV, isV (.int .i64 0), zeroV w2]) (by kernel_rfl) (by kernel_rfl) (listV_ext (fun p hp => by simp only [List.mem_cons, List.not_mem_nil, or_false] at hp; rcases hp with rfl | rfl | rfl | rfl | rfl | rfl | rfl | rfl <;> first | exact lasts_is _ | exact lasts_keep | exact lasts_mac | exact lasts_view | exact lasts_zero w2)) ?_ (fun us => ?_)
    · intro o ho us w' hx hd
      injection ho with ho
      subst ho
      obtain ⟨m4, e4, hm4, ht4⟩ : keepV w' (us 4) := hd 4 (by simp)
      refine ⟨.int .i64 0, fun w'' => ?_, show isV (.int .i64 0) w' (.int .i64 0) from rfl⟩
      simp only [List.take_succ_cons, List.take_zero, putsL, Act.put]
      simp [execOp, Act.eval, Instr.extract, e4]
    simp only [List.take_succ_cons, List.take_zero, List.drop_succ_cons, List.drop_zero]
    rw [webWalk]
    refine And.intro (fun w' hx hd => ?_) ?_
    · clear hd
      refine web_of_list 10 rfl (by simp) rfl ?_
      go_wp2_with (refine wp_ld_mac (.tmp 1) rfl rfl w1.heap.size _ _ rfl (bA.ext hx) rfl ?_)
      exact ⟨Ext.refl _, rfl⟩
    simp only [Act.put, List.setIfInBounds_toArray, List.set_cons_zero, List.set_cons_succ]
    rw [webWalk]
    refine And.intro (fun w' hx hd => ?_) ?_
    · clear hd
      refine web_of_list 11 rfl (by simp [Act.put]) rfl ?_
      go_wp2_with (refine wp_ld_mac (.tmp 1) rfl rfl w1.heap.size _ _ rfl (bA.ext hx) rfl ?_)
      exact ⟨Ext.refl _, rfl⟩
    simp only [Act.put, List.setIfInBounds_toArray, List.set_cons_zero, List.set_cons_succ]
    rw [webWalk]
    refine And.intro (fun w' hx hd => ?_) ?_
    · have h1 := hd 1 (by simp)
      clear hd
      generalize us 1 = u1 at *
      obtain rfl : u1 = .agg (bareM gf gb).cells := h1
      refine web_of_list 12 rfl (by simp [Act.put]) rfl ?_
      go_wp2_with (go_at_call 11; refine (HV.out _ (hM.ext hx)).mono ?_; rintro e w5 ⟨A5, c5, rfl, x5, own5⟩)
      exact ⟨A5, c5, rfl, Strs.own own5⟩
    simp only [Act.put, List.setIfInBounds_toArray, List.set_cons_zero, List.set_cons_succ]
    rw [webWalk]
    refine And.intro (fun w' hx hd => ?_) ?_
    · have h0 := hd 0 (by simp)
      have h2 := hd 2 (by simp)
      clear hd
      generalize us 0 = u0 at *
      generalize us 2 = u2 at *
      obtain rfl : u0 = .agg (bareM gf gb).cells := h0
      obtain ⟨A2, c2, rfl, s2⟩ := h2
      refine web_of_list 13 rfl (by simp [Act.put]) rfl ?_
      go_wp2_with (go_at_call 15; refine (HK.out _ _ _ (hM.ext hx) s2).mono ?_; rintro e w6 ⟨m6, rfl, x6, hm6, ht6⟩)
      exact ⟨m6, rfl, hm6, ht6⟩
    simp only [Act.put, List.setIfInBounds_toArray, List.set_cons_zero, List.set_cons_succ]
    rw [webWalk]
    refine And.intro (fun w' hx hd => ?_) ?_
    · have h3 := hd 3 (by simp)
      clear hd
      generalize us 3 = u3 at *
      obtain ⟨m3, rfl, hm3, ht3⟩ := h3
      refine web_of_list 9 rfl (by simp [Act.put]) rfl ?_
      go_wp2_with fail
      exact ⟨Ext.refl _, m3, rfl, hm3, ht3⟩
    simp only [Act.put, List.setIfInBounds_toArray, List.set_cons_zero, List.set_cons_succ]
    rw [webWalk]
    refine And.intro (fun w' hx hd => ?_) ?_
    · have h4 := hd 4 (by simp)
      clear hd
      generalize us 4 = u4 at *
      obtain ⟨m4, rfl, hm4, ht4⟩ := h4
      refine web_of_list 14 rfl (by simp [Act.put]) rfl ?_
      go_wp2_with fail
      exact ⟨Ext.refl _, m4, rfl, hm4, ht4⟩
    simp only [Act.put, List.setIfInBounds_toArray, List.set_cons_zero, List.set_cons_succ]
    rw [webWalk]
    refine And.intro (fun w' hx hd => ?_) ?_
    · have h4 := hd 4 (by simp)
      clear hd
      generalize us 4 = u4 at *
      obtain ⟨m4, rfl, hm4, ht4⟩ := h4
      refine web_of_list 15 rfl (by simp [Act.put]) rfl ?_
      go_wp2_with fail
      exact ⟨Ext.refl _, rfl⟩
    simp only [Act.put, List.setIfInBounds_toArray, List.set_cons_zero, List.set_cons_succ]
    rw [webWalk]
    refine And.intro (fun w' hx hd => ?_) ?_
    · clear hd
      refine web_of_list 3 rfl (by simp [Act.put]) rfl ?_
      go_wp2_with fail
      exact ⟨(Ext.refl _).alloc _, _, rfl, Box.new _ _ _, hx.size⟩
    simp only [Act.put, List.setIfInBounds_toArray, List.set_cons_zero, List.set_cons_succ]
    rw [webWalk]
    · intro o ho w' hx hv
      injection ho with ho
      subst ho
      have h5 := hv 5 (by omega)
      have h6 := hv 6 (by omega)
      have h7 := hv 7 (by omega)
      clear hv
      generalize us 0 = u0 at *
      generalize us 1 = u1 at *
      generalize us 2 = u2 at *
      generalize us 3 = u3 at *
      generalize us 4 = u4 at *
      generalize us 5 = u5 at *
      generalize us 6 = u6 at *
      generalize us 7 = u7 at *
      obtain ⟨m5, rfl, hm5, ht5⟩ := h5
      obtain rfl : u6 = .int .i64 0 := h6
      obtain ⟨g7, rfl, b7, z7⟩ := h7
      refine ⟨w'.setRow g7 m5.cells, run_st_mac _ _ _ (.tmp 3) (.tmp 14) rfl g7 m5 _ _ rfl rfl b7 rfl, ?_⟩
      have b9 := setRow_box (ds := m5.cells) b7
      have g9 := setRow_grown w' g7 m5.cells
      have hm9 := hm5.grown ht5 b7 g9
      have x9 : Ext w (w'.setRow g7 m5.cells) := (xb.trans hx).grown g9 (fun j e => by cases e; exact Nat.le_trans xb.size z7)
      clear hm5 ht5 b7 g9 hx
      generalize w'.setRow g7 m5.cells = w9 at *
      go_wp2_with fail
      go_meet
      exact ⟨rfl, g7, m5, rfl, b9, hm9, x9⟩
  case rest =>
    obtain ⟨rfl, g5, m5, rfl, b5, hm5, x5⟩ := hcut
    have hd0 : m5.di.n = 0 := hm5.di.1
    obtain ⟨k0, k1, k2, k3, k4, k5, k6, k7, k8, k9, k10, k11, k12, k13, k14, k15, k16⟩ := mac_cells b5
    have HV2 := Lib.hid (view_any m5 bareD wc hm5)
    rw [show viewP bareD.bl bareD.pe bareD.di = mk8 from home_bare, mk8_len, show m5.cells = #[.int .u64 m5.clock, .int .i64 m5.quantum, .int .i64 m5.cur, .int .i64 m5.left, .slice m5.fr.A m5.fr.n m5.fr.c, .slice m5.pr.A m5.pr.n m5.pr.c, .int .i64 m5.next, .string (str m5.init), .slice m5.pi.A m5.pi.n m5.pi.c, .int .i64 m5.newPipe, .string (str m5.inn), .bool m5.fin, .int .u64 m5.told, .slice m5.bl.A m5.bl.n m5.bl.c, .slice m5.pe.A m5.pe.n m5.pe.c, .int .i64 m5.dleft, .slice m5.di.A 0 m5.di.c] by unfold Mac.cells; rw [hd0]] at HV2
    rw [hd0] at k16
    clear HV HK hM bA xb
    go_wp2_with (go_at_call 11; with_reducible (refine HV2.out.mono ?_); rintro e w7 ⟨A7, c7, rfl, x7, own7⟩)
    go_ret
    exact ⟨rfl, x5.trans x7⟩
end Go.Proofs.YtkokmnaicfdjaaaGreatDoor
