/- BLAKE2s: the document's tables and signs. -/
import Derived.Test.YtkokmnaicfdjaaaGreatDoorVc23
import Derived.Test.YtkokmnaicfdjaaaGreatDoorVc14
import Derived.Test.YtkokmnaicfdjaaaGreatDoorVc7
import Derived.Test.YtkokmnaicfdjaaaGreatDoorVc12
import Derived.Test.YtkokmnaicfdjaaaGreatDoorVc6
import Derived.Test.YtkokmnaicfdjaaaGreatDoorVc13
import Derived.Laws.MakeOwn
namespace Go.Proofs.YtkokmnaicfdjaaaGreatDoor
set_option linter.unusedVariables false
set_option linter.unusedSimpArgs false
open Go.RowKit

set_option maxRecDepth 100000 in
theorem eight02 (w : World) : Calls Tryz.prog 174 #[] w fun e w' => e = .returned (.agg (u32A 8 eightP)) ∧ Ext w w' := by
  go_enter Tryz.func174, Tryz.ntmps174
  go_upto_region 1 with fail
  have r0 := Box.new w 216 zero8
  have x0 : Ext w (w.alloc (.cells zero8 216)) := (Ext.refl w).alloc _
  change Code.wp _ _ _ _ (w.alloc (.cells zero8 216))
  generalize w.alloc (.cells zero8 216) = w1 at *
  generalize hG : w.heap.size = G at *
  go_wp2_with (refine wp_st8 (.tmp 0) (.tmp 1) rfl rfl G eightP _ 216 rfl (by kernel_rfl) r0 rfl ?_; intro w2 b2 g2)
  exact bodyPost_ret (results_cell1 rfl _ _ G _ _ _ rfl b2 Tryz.underlying216 rfl (by rw [u32A_size]; exact a8Size)) rfl ⟨rfl, x0.grown g2 (fun j e => by cases e; omega)⟩
/-- a sign of a row as a number -/
def signP (n : Nat) : Nat := if n < 10 then 48 + n else 87 + n
set_option maxRecDepth 100000 in
theorem place02 (n : Nat) (hn : n < 16) (w : World) : Calls Tryz.prog 220 #[.int .u8 (signP n : Int)] w fun e w' => e = .returned (.int .i64 (n : Int)) ∧ w = w' := by
  by_cases h : n < 10
  · rw [show signP n = 48 + n by unfold signP; rw [if_pos h]]
    have d : decide ((97 : Int) ≤ 48 + (n : Int)) = false := by simp; omega
    have e : (48 : Int) + (n : Int) - 48 = (n : Int) := by omega
    go_enter Tryz.func220, Tryz.ntmps220
    go_wp2_with fail
    go_ret
    exact ⟨by simp, rfl⟩
  · rw [show signP n = 87 + n by unfold signP; rw [if_neg h]]
    have d : decide ((97 : Int) ≤ 87 + (n : Int)) = true := by simp; omega
    go_enter Tryz.func220, Tryz.ntmps220
    go_wp2_with fail
    go_ret
    refine ⟨congrArg Ending.returned (show Value.int .i64 ((87 : Int) + (n : Int) - 97 + 10) = _ from ?_), rfl⟩
    rw [show (87 : Int) + (n : Int) - 97 + 10 = n by omega]
def rowS (k : Nat) : List UInt8 := (List.range 16).map fun j => UInt8.ofNat (signP (rowP k j))
set_option maxRecDepth 100000 in
theorem rows02 (w : World) : Calls Tryz.prog 219 #[] w fun e w' => ∃ b, e = .returned (.slice (some ⟨b, 0, none⟩) 10 10) ∧ Ext w w' ∧ ∀ k, k < 10 → w'.cell? ⟨b, k, none⟩ = some (.string (str (rowS k))) := by
  go_enter Tryz.func219, Tryz.ntmps219
  go_wp2_with fail
  go_ret
  refine ⟨_, rfl, (Ext.refl w).alloc _, fun k hk => ?_⟩
  rw [(Box.new w 9 _).cell k]
  have e : ∀ k : Fin 10, ((List.range 10).map fun k => Value.string (str (rowS k))).toArray[(k : Nat)]? = some (.string (str (rowS k))) := fun k => by simp
  exact (show _ = _ from e ⟨k, hk⟩)
end Go.Proofs.YtkokmnaicfdjaaaGreatDoor
/- BLAKE2s: a block taken in by the document. -/
namespace Go.Proofs.YtkokmnaicfdjaaaGreatDoor
set_option linter.unusedVariables false
set_option linter.unusedSimpArgs false
open Go.RowKit

/-- a text's byte as a number -/
def byt (l : List UInt8) (i : Nat) : Nat := (l.getD i 0).toNat
theorem byt_lt (l : List UInt8) (i : Nat) : byt l i < 256 := UInt8.toNat_lt _
theorem idx_str (l : List UInt8) (i : Int) (k : Nat) (hi : i = (k : Int)) (h : k < l.length) (w : World) : (Instr.index 9 (.string (str l)) (.int .i64 i)).run Tryz.prog w = .ok (.int .u8 ((byt l k : Nat) : Int)) w := by
  subst hi
  unfold byt
  rw [run_index_string w 9 (str l) .i64 (k : Int) Tryz.underlying9, dif_pos ⟨by omega, by rw [str_size]; omega⟩]
  rw [List.getD_eq_getElem?_getD, List.getElem?_eq_getElem h]
  rfl
def quadP (i : Nat) : Nat × Nat × Nat × Nat := if i < 4 then (i, i + 4, i + 8, i + 12) else (i - 4, 4 + (i - 4 + 1) % 4, 8 + (i - 4 + 2) % 4, 12 + (i - 4 + 3) % 4)
/-- the first i of a row's mixes -/
def partP (r : Nat → Nat) (m v : Nat → BitVec 32) : Nat → (Nat → BitVec 32)
  | 0 => v
  | i + 1 => mixP (partP r m v i) (quadP i).1 (quadP i).2.1 (quadP i).2.2.1 (quadP i).2.2.2 (m (r (2 * i))) (m (r (2 * i + 1)))
theorem partP_8 (r : Nat → Nat) (m v : Nat → BitVec 32) : partP r m v 8 = roundP r m v := rfl
theorem rowS_len (k : Nat) : (rowS k).length = 16 := rfl
theorem rowS_at {k j : Nat} (hk : k < 10) (hj : j < 16) : byt (rowS k) j = signP (rowP k j) := by
  have h := row_lt hk hj
  unfold byt rowS
  rw [List.getD_eq_getElem?_getD, List.getElem?_map, List.getElem?_range hj]
  show (UInt8.ofNat (signP (rowP k j))).toNat = _
  rw [UInt8.toNat_ofNat']
  unfold signP
  split <;> omega
set_option maxHeartbeats 8000000 in
set_option maxRecDepth 100000 in
theorem take02_any (h : Nat → BitVec 32) (bl : List UInt8) (n : Nat) (last : Bool) (w : World) (hbl : bl.length = 64) (hn : n < 18446744073709551616) :
    Calls Tryz.prog 207 #[.agg (u32A 8 h), .string (str bl), .int .u64 (n : Int), .bool last] w fun e w' => e = .returned (.agg (u32A 8 (takeP h (wordP (byt bl)) n last))) ∧ Ext w w' := by
  have hz : (str bl).size = 64 := by rw [str_size, hbl]
  go_enter Tryz.func207, Tryz.ntmps207
  go_upto_region 2 with fail
  have bh0 := Box.new w 216 (u32A 8 h)
  have br0 := Box.new (w.alloc (.cells (u32A 8 h) 216)) 216 zero8
  have bv0 := Box.new ((w.alloc (.cells (u32A 8 h) 216)).alloc (.cells zero8 216)) 61 zero16
  have bm0 := Box.new (((w.alloc (.cells (u32A 8 h) 216)).alloc (.cells zero8 216)).alloc (.cells zero16 61)) 61 zero16
  have x0 := ((((Ext.refl w).alloc (.cells (u32A 8 h) 216)).alloc (.cells zero8 216)).alloc (.cells zero16 61)).alloc (.cells zero16 61)
  change Code.wp _ _ _ _ ((((w.alloc (.cells (u32A 8 h) 216)).alloc (.cells zero8 216)).alloc (.cells zero16 61)).alloc (.cells zero16 61))
  have bh := ((bh0.ext ((Ext.refl _).alloc (.cells zero8 216))).ext ((Ext.refl _).alloc (.cells zero16 61))).ext ((Ext.refl _).alloc (.cells zero16 61))
  have br := (br0.ext ((Ext.refl _).alloc (.cells zero16 61))).ext ((Ext.refl _).alloc (.cells zero16 61))
  have bv := bv0.ext ((Ext.refl _).alloc (.cells zero16 61))
  simp only [World.size_alloc] at br bv bm0
  clear bh0 br0 bv0
  generalize (((w.alloc (.cells (u32A 8 h) 216)).alloc (.cells zero8 216)).alloc (.cells zero16 61)).alloc (.cells zero16 61) = w1 at *
  rw [show zero16 = u32A 16 (fun _ => 0#32) by kernel_rfl] at bv bm0
  generalize hG : w.heap.size = G at *
  go_upto_region 3 with (first
    | (go_at_call 174; refine (eight02 _).mono ?_; rintro e w2 ⟨rfl, x2⟩)
    | (refine wp_st8 (.tmp 11) (.tmp 20) rfl rfl w2.heap.size eightP _ 216 rfl rfl (Box.new _ _ _) (by kernel_rfl) ?_; intro w3 be g3))
  have y3 : Ext w2 w3 := ((Ext.refl w2).alloc _).grown g3 (fun j e => by cases e; exact Nat.le_refl _)
  have x3 := x0.trans (x2.trans y3)
  have bh3 := bh.ext (x2.trans y3)
  have br3 := br.ext (x2.trans y3)
  have bv3 := bv.ext (x2.trans y3)
  have bm3 := bm0.ext (x2.trans y3)
  have hge : G + 1 + 1 + 1 < w2.heap.size := (bm0.ext x2).lt
  clear bh br bv bm0 x0 x2 y3 g3
  generalize w2.heap.size = ge at *
  go_wp2_with fail
  go_loopw [12] (fun i wx => ∃ k : Nat, k ≤ 16 ∧ i = .int .i64 k ∧ Box wx (G + 1 + 1 + 1) 61 (u32A 16 (fun j => if j < k then wordP (byt bl) j else 0#32)) ∧ Box wx (G + 1 + 1) 61 (u32A 16 (fun j => if j < k then (if j < 8 then h j else eightP (j - 8)) else 0#32)) ∧ Box wx G 216 (u32A 8 h) ∧ Box wx (G + 1) 216 zero8 ∧ Box wx ge 216 (u32A 8 eightP) ∧ Ext w wx) (fun i _ => 16 - (intOf i).toNat)
  case atStart => exact ⟨0, by omega, rfl, by rw [u32A_congr (V' := fun _ => 0#32) (fun i _ => by simp)]; exact bm3, by rw [u32A_congr (V' := fun _ => 0#32) (fun i _ => by simp)]; exact bv3, bh3, br3, by assumption, x3⟩
  case round =>
    clear bm3 bv3 bh3 br3 x3
    obtain ⟨k, hk, rfl, bm, bv, bh, br, be, xk⟩ := hrel
    by_cases hlt : k < 16
    · have hki : (k : Int) < 16 := by omega
      have c0 := idx_str bl (4 * (k : Int)) (4 * k) (by omega) (by omega)
      have c1 := idx_str bl (4 * (k : Int) + 1) (4 * k + 1) (by omega) (by omega)
      have c2 := idx_str bl (4 * (k : Int) + 2) (4 * k + 2) (by omega) (by omega)
      have c3 := idx_str bl (4 * (k : Int) + 3) (4 * k + 3) (by omega) (by omega)
      have b0 := byt_lt bl (4 * k)
      have b1 := byt_lt bl (4 * k + 1)
      have b2 := byt_lt bl (4 * k + 2)
      have b3 := byt_lt bl (4 * k + 3)
      have HW : Hid (wordP (byt bl) k = BitVec.ofNat 32 (byt bl (4 * k) + byt bl (4 * k + 1) * 256 + byt bl (4 * k + 2) * 65536 + byt bl (4 * k + 3) * 16777216)) := Lib.hid rfl
      generalize byt bl (4 * k) = n0 at *
      generalize byt bl (4 * k + 1) = n1 at *
      generalize byt bl (4 * k + 2) = n2 at *
      generalize byt bl (4 * k + 3) = n3 at *
      go_upto_region 6 with fail
      try simp only [Act.put]
      refine wp_region_later_tail 31 (by kernel_rfl) (by kernel_rfl) ?_
      simp only [List.take_succ_cons, List.take_zero, List.drop_succ_cons, List.drop_zero]
      repeat (go_big_quiet_step (fail))
      refine wpQuiet_nil ?_
      rintro z ⟨x, rfl⟩
      have bm1 := bm.ext x.ext
      have f1 := bm1.frozen k
      have i1 := box_u32 bm1 hlt
      have HV : (n0 : Int) + (n1 : Int) * 256 + (n2 : Int) * 65536 + (n3 : Int) * 16777216 = ((wordP (byt bl) k).toNat : Int) := by
        rw [HW.out, BitVec.toNat_ofNat, Nat.mod_eq_of_lt (show _ < 4294967296 by omega)]; omega
      have bm2 := box_upd bm1 k (wordP (byt bl) k)
      rw [u32A_congr (V' := fun j => if j < k + 1 then wordP (byt bl) j else 0#32) (fun j _ => by
        simp only [upd]
        by_cases e : j = k
        · subst e; simp
        · rw [if_neg e]; by_cases e2 : j < k
          · rw [if_pos e2, if_pos (by omega)]
          · rw [if_neg e2, if_neg (by omega)])] at bm2
      have bv2 := (bv.ext x.ext).setOther (show G + 1 + 1 ≠ G + 1 + 1 + 1 by omega) (i := k) (.int .u32 ((wordP (byt bl) k).toNat : Int))
      have bh2 := (bh.ext x.ext).setOther (show G ≠ G + 1 + 1 + 1 by omega) (i := k) (.int .u32 ((wordP (byt bl) k).toNat : Int))
      have br2 := (br.ext x.ext).setOther (show G + 1 ≠ G + 1 + 1 + 1 by omega) (i := k) (.int .u32 ((wordP (byt bl) k).toNat : Int))
      have be2 := (be.ext x.ext).setOther (show ge ≠ G + 1 + 1 + 1 by omega) (i := k) (.int .u32 ((wordP (byt bl) k).toNat : Int))
      have x2 := (xk.trans x.ext).setCell (p := ⟨G + 1 + 1 + 1, k, none⟩) (by rw [hG]; show G ≤ G + 1 + 1 + 1; omega) (.int .u32 ((wordP (byt bl) k).toNat : Int))
      go_upto_region 7 with fail
      generalize x.now.setCell ⟨G + 1 + 1 + 1, k, none⟩ (.int .u32 ((wordP (byt bl) k).toNat : Int)) = w4 at *
      clear c0 c1 c2 c3 HV HW bm1 f1 i1 bv bh br be bm xk
      clear x
      have iv : w4.cell? ⟨G + 1 + 1, k, none⟩ = some (.int .u32 _) := box_u32 bv2 hlt
      have fv := bv2.frozen k
      have fin : ∀ y, y = (if k < 8 then h k else eightP (k - 8)) → Box (w4.setCell ⟨G + 1 + 1, k, none⟩ (.int .u32 (y.toNat : Int))) (G + 1 + 1) 61 (u32A 16 (fun j => if j < k + 1 then (if j < 8 then h j else eightP (j - 8)) else 0#32)) := fun y hy => by
        have := box_upd bv2 k y
        rw [u32A_congr (V' := fun j => if j < k + 1 then (if j < 8 then h j else eightP (j - 8)) else 0#32) (fun j _ => by
          simp only [upd]
          by_cases e : j = k
          · subst e; rw [if_pos rfl, if_pos (Nat.lt_succ_self _), hy]
          · rw [if_neg e]; by_cases e2 : j < k
            · rw [if_pos e2, if_pos (show j < k + 1 by omega)]
            · rw [if_neg e2, if_neg (show ¬ j < k + 1 by omega)])] at this
        exact this
      by_cases h8 : k < 8
      · have ch := box_u32 bh2 h8
        have hF := Lib.hid (fin (h k) (by rw [if_pos h8]))
        clear fin
        go_wp2_with fail
        go_roundw
        case rel => exact ⟨k + 1, by omega, by go_num, bm2.setOther (by omega) _, hF.out, bh2.setOther (by omega) _, br2.setOther (by omega) _, be2.setOther (by omega) _, x2.setCell (by rw [hG]; show G ≤ G + 1 + 1; omega) _⟩
        case measure => simp [intOf]; omega
      · have ch := box_u32 be2 (show k - 8 < 8 by omega)
        have hF := Lib.hid (fin (eightP (k - 8)) (by rw [if_neg h8]))
        clear fin
        go_wp2_with fail
        go_roundw
        case rel => exact ⟨k + 1, by omega, by go_num, bm2.setOther (by omega) _, hF.out, bh2.setOther (by omega) _, br2.setOther (by omega) _, be2.setOther (by omega) _, x2.setCell (by rw [hG]; show G ≤ G + 1 + 1; omega) _⟩
        case measure => simp [intOf]; omega
    · rw [u32A_congr (V' := wordP (byt bl)) (fun j hj => by rw [if_pos (show j < k by omega)])] at bm
      rw [u32A_congr (V' := fun j => if j < 8 then h j else eightP (j - 8)) (fun j hj => by rw [if_pos (show j < k by omega)])] at bv
      have hki : ¬ ((k : Int) < 16) := by omega
      have hkn : ¬ k < 16 := hlt
      generalize k = k0 at *
      obtain ⟨V0, hV0⟩ : ∃ V, V = (fun j => if j < 8 then h j else eightP (j - 8)) := ⟨_, rfl⟩
      rw [← hV0] at bv
      have HV0 := Lib.hid hV0
      clear hV0 be hk
      obtain ⟨M, hM⟩ : ∃ M, M = wordP (byt bl) := ⟨_, rfl⟩
      rw [← hM] at bm
      have HM := Lib.hid hM
      clear hM
      have k12 : wr.cell? ⟨G + 1 + 1, 12, none⟩ = some (.int .u32 ((V0 12).toNat : Int)) := box_u32 bv (by omega)
      have f12 := bv.frozen 12
      have hX := xorM (V0 12) n
      go_upto_region 11 with fail
      rw [show (V0 12).toNat ^^^ n % 4294967296 = (V0 12 ^^^ BitVec.ofNat 32 n).toNat by rw [BitVec.toNat_xor, BitVec.toNat_ofNat]]
      have bv1 := box_upd bv 12 (V0 12 ^^^ BitVec.ofNat 32 n)
      have bh1 := bh.setOther (show G ≠ G + 1 + 1 by omega) (i := 12) (.int .u32 ((V0 12 ^^^ BitVec.ofNat 32 n).toNat : Int))
      have br1 := br.setOther (show G + 1 ≠ G + 1 + 1 by omega) (i := 12) (.int .u32 ((V0 12 ^^^ BitVec.ofNat 32 n).toNat : Int))
      have bm1 := bm.setOther (show G + 1 + 1 + 1 ≠ G + 1 + 1 by omega) (i := 12) (.int .u32 ((V0 12 ^^^ BitVec.ofNat 32 n).toNat : Int))
      have x1 := xk.setCell (p := ⟨G + 1 + 1, 12, none⟩) (by rw [hG]; show G ≤ G + 1 + 1; omega) (.int .u32 ((V0 12 ^^^ BitVec.ofNat 32 n).toNat : Int))
      generalize wr.setCell ⟨G + 1 + 1, 12, none⟩ (.int .u32 ((V0 12 ^^^ BitVec.ofNat 32 n).toNat : Int)) = w5 at *
      obtain ⟨V1, hV1⟩ : ∃ V, V = upd V0 12 (V0 12 ^^^ BitVec.ofNat 32 n) := ⟨_, rfl⟩
      rw [← hV1] at bv1
      have HV1 := Lib.hid hV1
      clear hV1 bv bh br bm xk k12 f12 hX
      have k13 : w5.cell? ⟨G + 1 + 1, 13, none⟩ = some (.int .u32 ((V1 13).toNat : Int)) := box_u32 bv1 (by omega)
      have f13 := bv1.frozen 13
      have hX := xorD (V1 13) n hn
      go_upto_region 12 with fail
      rw [show (V1 13).toNat ^^^ n / 4294967296 % 4294967296 = (V1 13 ^^^ BitVec.ofNat 32 (n / 4294967296)).toNat by rw [BitVec.toNat_xor, BitVec.toNat_ofNat]]
      have bv2 := box_upd bv1 13 (V1 13 ^^^ BitVec.ofNat 32 (n / 4294967296))
      have bh2 := bh1.setOther (show G ≠ G + 1 + 1 by omega) (i := 13) (.int .u32 ((V1 13 ^^^ BitVec.ofNat 32 (n / 4294967296)).toNat : Int))
      have br2 := br1.setOther (show G + 1 ≠ G + 1 + 1 by omega) (i := 13) (.int .u32 ((V1 13 ^^^ BitVec.ofNat 32 (n / 4294967296)).toNat : Int))
      have bm2 := bm1.setOther (show G + 1 + 1 + 1 ≠ G + 1 + 1 by omega) (i := 13) (.int .u32 ((V1 13 ^^^ BitVec.ofNat 32 (n / 4294967296)).toNat : Int))
      have x2 := x1.setCell (p := ⟨G + 1 + 1, 13, none⟩) (by rw [hG]; show G ≤ G + 1 + 1; omega) (.int .u32 ((V1 13 ^^^ BitVec.ofNat 32 (n / 4294967296)).toNat : Int))
      generalize w5.setCell ⟨G + 1 + 1, 13, none⟩ (.int .u32 ((V1 13 ^^^ BitVec.ofNat 32 (n / 4294967296)).toNat : Int)) = w6 at *
      obtain ⟨V2, hV2⟩ : ∃ V, V = upd V1 13 (V1 13 ^^^ BitVec.ofNat 32 (n / 4294967296)) := ⟨_, rfl⟩
      rw [← hV2] at bv2
      have HV2 := Lib.hid hV2
      clear hV2 bv1 bh1 br1 bm1 x1 k13 f13 hX
      go_upto_if 83 with fail
      go_cut [84, 85, 86, 87] (fun _ _ _ _ wx => Box wx (G + 1 + 1) 61 (u32A 16 (if last then upd V2 14 (~~~ V2 14) else V2)) ∧ Box wx G 216 (u32A 8 h) ∧ Box wx (G + 1) 216 zero8 ∧ Box wx (G + 1 + 1 + 1) 61 (u32A 16 M) ∧ Ext w wx)
      case first =>
        have k14 := box_u32 bv2 (show 14 < 16 by omega)
        have f14 := bv2.frozen 14
        have hlt14 : (V2 14).toNat < 4294967296 := (V2 14).isLt
        cases last with
        | false =>
          go_wp2_with fail
          go_meet
          exact ⟨bv2, bh2, br2, bm2, x2⟩
        | true =>
          go_wp2_with fail
          go_meet
          rw [if_pos trivial, show (4294967295 : Int) - ((V2 14).toNat : Int) = ((~~~(V2 14)).toNat : Int) by rw [BitVec.toNat_not]; show _ = ((4294967295 - (V2 14).toNat : Nat) : Int); omega]
          exact ⟨box_upd bv2 14 _, bh2.setOther (by omega) _, br2.setOther (by omega) _, bm2.setOther (by omega) _, x2.setCell (by rw [hG]; show G ≤ G + 1 + 1; omega) _⟩
      case rest =>
      obtain ⟨bv3, bh3, br3, bm3, x3⟩ := hcut
      clear bv2 bh2 br2 bm2 x2
      rw [show (if last then upd V2 14 (~~~ V2 14) else V2) = firstP h n last by
        have e0 := HV0.out; have e1 := HV1.out; have e2 := HV2.out
        subst e2 e1 e0; rfl] at bv3
      clear HV0 HV1 HV2
      clear V0 V1 V2
      go_wp2_with fail
      go_loopw [13] (fun i wx => ∃ k : Nat, k ≤ 10 ∧ i = .int .i64 k ∧ Box wx (G + 1 + 1) 61 (u32A 16 (roundsP M (firstP h n last) k)) ∧ Box wx G 216 (u32A 8 h) ∧ Box wx (G + 1) 216 zero8 ∧ Box wx (G + 1 + 1 + 1) 61 (u32A 16 M) ∧ Ext w wx) (fun i _ => 10 - (intOf i).toNat)
      case atStart => exact ⟨0, by omega, rfl, bv3, bh3, br3, bm3, x3⟩
      case round =>
        clear bv3 bh3 br3 bm3 x3
        obtain ⟨k, hk, rfl, bv, bh, br, bm, xk⟩ := hrel
        by_cases hlt : k < 10
        · have hki : (k : Int) < 10 := by omega
          have HR := Lib.hid (show roundsP M (firstP h n last) (k + 1) = roundP (rowP k) M (roundsP M (firstP h n last) k) from rfl)
          have HRL := Lib.hid (fun j (hj : j < 16) => row_lt hlt hj)
          have HRS := Lib.hid (fun (i : Int) (j : Nat) (e : i = (j : Int)) (hj : j < 16) (w : World) => (idx_str (rowS k) i j e (by rw [rowS_len]; exact hj) w).trans (by rw [rowS_at hlt hj]))
          generalize roundsP M (firstP h n last) k = U at *
          go_wp2_with (go_at_call 219; refine (rows02 _).mono ?_; rintro e w7 ⟨gq, rfl, x7, hrow⟩; have hrk := hrow k hlt; clear hrow)
          have bv7 := bv.ext x7
          have bh7 := bh.ext x7
          have br7 := br.ext x7
          have bm7 := bm.ext x7
          have xx7 := xk.trans x7
          clear bv bh br bm xk x7 hrk
          go_loopw [15] (fun i wx => ∃ i' : Nat, i' ≤ 8 ∧ i = .int .i64 i' ∧ Box wx (G + 1 + 1) 61 (u32A 16 (partP (rowP k) M U i')) ∧ Box wx G 216 (u32A 8 h) ∧ Box wx (G + 1) 216 zero8 ∧ Box wx (G + 1 + 1 + 1) 61 (u32A 16 M) ∧ Ext w wx) (fun i _ => 8 - (intOf i).toNat)
          case atStart => exact ⟨0, by omega, rfl, bv7, bh7, br7, bm7, xx7⟩
          case round =>
            clear bv7 bh7 br7 bm7 xx7
            obtain ⟨i, hi, rfl, bv, bh, br, bm, xk⟩ := hrel
            by_cases hlt' : i < 8
            · have HE := Lib.hid (show partP (rowP k) M U (i + 1) = mixP (partP (rowP k) M U i) (quadP i).1 (quadP i).2.1 (quadP i).2.2.1 (quadP i).2.2.2 (M (rowP k (2 * i))) (M (rowP k (2 * i + 1))) from rfl)
              have P1 := Lib.hid (fun w => place02 (rowP k (2 * i)) (HRL.out _ (by omega)) w)
              have P2 := Lib.hid (fun w => place02 (rowP k (2 * i + 1)) (HRL.out _ (by omega)) w)
              have l1 : (rowP k (2 * i) : Int) < 16 := by have := HRL.out (2 * i) (by omega); omega
              have l2 : (rowP k (2 * i + 1) : Int) < 16 := by have := HRL.out (2 * i + 1) (by omega); omega
              have n1 : ∀ z : Later wr, z.now.cell? ⟨G + 1 + 1 + 1, rowP k (2 * i), none⟩ = some (.int .u32 ((M (rowP k (2 * i))).toNat : Int)) := fun z => box_u32 (bm.ext z.ext) (HRL.out _ (by omega))
              have n2 : ∀ z : Later wr, z.now.cell? ⟨G + 1 + 1 + 1, rowP k (2 * i + 1), none⟩ = some (.int .u32 ((M (rowP k (2 * i + 1))).toNat : Int)) := fun z => box_u32 (bm.ext z.ext) (HRL.out _ (by omega))
              have s1 := HRS.out (2 * (i : Int)) (2 * i) (by omega) (by omega)
              have s2 := HRS.out (2 * (i : Int) + 1) (2 * i + 1) (by omega) (by omega)
              have hii : (i : Int) < 8 := by omega
              generalize partP (rowP k) M U i = Ui at *
              generalize rowP k (2 * i) = q1 at *
              generalize rowP k (2 * i + 1) = q2 at *
              go_upto_region 21 with fail
              try simp only [Act.put]
              refine wp_region_later (by kernel_rfl) (by kernel_rfl) ?_
              repeat (first
                | go_big_quiet_step (with_reducible exact later_of_same (P1.out _))
                | go_big_quiet_step (with_reducible exact later_of_same (P2.out _)))
              refine wpQuiet_nil ?_
              rintro z ⟨x, rfl⟩
              clear n1 n2 s1 s2 l1 l2 P1 P2
              generalize M q1 = X at *
              generalize M q2 = Y at *
              have bvx := bv.ext x.ext
              have bhx := bh.ext x.ext
              have brx := br.ext x.ext
              have bmx := bm.ext x.ext
              have xx := xk.trans x.ext
              clear bv bh br bm xk
              rcases (show i = 0 ∨ i = 1 ∨ i = 2 ∨ i = 3 ∨ i = 4 ∨ i = 5 ∨ i = 6 ∨ i = 7 by omega) with rfl | rfl | rfl | rfl | rfl | rfl | rfl | rfl
              · go_wp2_with (first
                  | (refine wp_ld16 (.tmp 9) rfl rfl (G + 1 + 1) Ui 61 rfl bvx ?_)
                  | (go_at_call 221; refine (rmix_any Ui 0 4 8 12 X Y _ (by omega) (by omega) (by omega) (by omega)).mono ?_; rintro e w8 ⟨rfl, x8⟩; have bv8 := bvx.ext x8)
                  | (refine wp_st16 (.tmp 9) (.tmp 127) rfl rfl (G + 1 + 1) _ _ 61 rfl rfl bv8 (by rw [u32A_size]) ?_; intro w9 bv9 g9))
                go_roundw
                case rel => exact ⟨1, by omega, rfl, by rw [HE.out]; exact bv9, (bhx.ext x8).grown g9 (by intro e; injection e with e; omega), (brx.ext x8).grown g9 (by intro e; injection e with e; omega), (bmx.ext x8).grown g9 (by intro e; injection e with e; omega), (xx.trans x8).grown g9 (fun j e => by cases e; rw [hG]; omega)⟩
                case measure => simp [intOf]
              · go_wp2_with (first
                  | (refine wp_ld16 (.tmp 9) rfl rfl (G + 1 + 1) Ui 61 rfl bvx ?_)
                  | (go_at_call 221; refine (rmix_any Ui 1 5 9 13 X Y _ (by omega) (by omega) (by omega) (by omega)).mono ?_; rintro e w8 ⟨rfl, x8⟩; have bv8 := bvx.ext x8)
                  | (refine wp_st16 (.tmp 9) (.tmp 127) rfl rfl (G + 1 + 1) _ _ 61 rfl rfl bv8 (by rw [u32A_size]) ?_; intro w9 bv9 g9))
                go_roundw
                case rel => exact ⟨2, by omega, rfl, by rw [HE.out]; exact bv9, (bhx.ext x8).grown g9 (by intro e; injection e with e; omega), (brx.ext x8).grown g9 (by intro e; injection e with e; omega), (bmx.ext x8).grown g9 (by intro e; injection e with e; omega), (xx.trans x8).grown g9 (fun j e => by cases e; rw [hG]; omega)⟩
                case measure => simp [intOf]
              · go_wp2_with (first
                  | (refine wp_ld16 (.tmp 9) rfl rfl (G + 1 + 1) Ui 61 rfl bvx ?_)
                  | (go_at_call 221; refine (rmix_any Ui 2 6 10 14 X Y _ (by omega) (by omega) (by omega) (by omega)).mono ?_; rintro e w8 ⟨rfl, x8⟩; have bv8 := bvx.ext x8)
                  | (refine wp_st16 (.tmp 9) (.tmp 127) rfl rfl (G + 1 + 1) _ _ 61 rfl rfl bv8 (by rw [u32A_size]) ?_; intro w9 bv9 g9))
                go_roundw
                case rel => exact ⟨3, by omega, rfl, by rw [HE.out]; exact bv9, (bhx.ext x8).grown g9 (by intro e; injection e with e; omega), (brx.ext x8).grown g9 (by intro e; injection e with e; omega), (bmx.ext x8).grown g9 (by intro e; injection e with e; omega), (xx.trans x8).grown g9 (fun j e => by cases e; rw [hG]; omega)⟩
                case measure => simp [intOf]
              · go_wp2_with (first
                  | (refine wp_ld16 (.tmp 9) rfl rfl (G + 1 + 1) Ui 61 rfl bvx ?_)
                  | (go_at_call 221; refine (rmix_any Ui 3 7 11 15 X Y _ (by omega) (by omega) (by omega) (by omega)).mono ?_; rintro e w8 ⟨rfl, x8⟩; have bv8 := bvx.ext x8)
                  | (refine wp_st16 (.tmp 9) (.tmp 127) rfl rfl (G + 1 + 1) _ _ 61 rfl rfl bv8 (by rw [u32A_size]) ?_; intro w9 bv9 g9))
                go_roundw
                case rel => exact ⟨4, by omega, rfl, by rw [HE.out]; exact bv9, (bhx.ext x8).grown g9 (by intro e; injection e with e; omega), (brx.ext x8).grown g9 (by intro e; injection e with e; omega), (bmx.ext x8).grown g9 (by intro e; injection e with e; omega), (xx.trans x8).grown g9 (fun j e => by cases e; rw [hG]; omega)⟩
                case measure => simp [intOf]
              · go_wp2_with (first
                  | (refine wp_ld16 (.tmp 9) rfl rfl (G + 1 + 1) Ui 61 rfl bvx ?_)
                  | (go_at_call 221; refine (rmix_any Ui 0 5 10 15 X Y _ (by omega) (by omega) (by omega) (by omega)).mono ?_; rintro e w8 ⟨rfl, x8⟩; have bv8 := bvx.ext x8)
                  | (refine wp_st16 (.tmp 9) (.tmp 146) rfl rfl (G + 1 + 1) _ _ 61 rfl rfl bv8 (by rw [u32A_size]) ?_; intro w9 bv9 g9))
                go_roundw
                case rel => exact ⟨5, by omega, rfl, by rw [HE.out]; exact bv9, (bhx.ext x8).grown g9 (by intro e; injection e with e; omega), (brx.ext x8).grown g9 (by intro e; injection e with e; omega), (bmx.ext x8).grown g9 (by intro e; injection e with e; omega), (xx.trans x8).grown g9 (fun j e => by cases e; rw [hG]; omega)⟩
                case measure => simp [intOf]
              · go_wp2_with (first
                  | (refine wp_ld16 (.tmp 9) rfl rfl (G + 1 + 1) Ui 61 rfl bvx ?_)
                  | (go_at_call 221; refine (rmix_any Ui 1 6 11 12 X Y _ (by omega) (by omega) (by omega) (by omega)).mono ?_; rintro e w8 ⟨rfl, x8⟩; have bv8 := bvx.ext x8)
                  | (refine wp_st16 (.tmp 9) (.tmp 146) rfl rfl (G + 1 + 1) _ _ 61 rfl rfl bv8 (by rw [u32A_size]) ?_; intro w9 bv9 g9))
                go_roundw
                case rel => exact ⟨6, by omega, rfl, by rw [HE.out]; exact bv9, (bhx.ext x8).grown g9 (by intro e; injection e with e; omega), (brx.ext x8).grown g9 (by intro e; injection e with e; omega), (bmx.ext x8).grown g9 (by intro e; injection e with e; omega), (xx.trans x8).grown g9 (fun j e => by cases e; rw [hG]; omega)⟩
                case measure => simp [intOf]
              · go_wp2_with (first
                  | (refine wp_ld16 (.tmp 9) rfl rfl (G + 1 + 1) Ui 61 rfl bvx ?_)
                  | (go_at_call 221; refine (rmix_any Ui 2 7 8 13 X Y _ (by omega) (by omega) (by omega) (by omega)).mono ?_; rintro e w8 ⟨rfl, x8⟩; have bv8 := bvx.ext x8)
                  | (refine wp_st16 (.tmp 9) (.tmp 146) rfl rfl (G + 1 + 1) _ _ 61 rfl rfl bv8 (by rw [u32A_size]) ?_; intro w9 bv9 g9))
                go_roundw
                case rel => exact ⟨7, by omega, rfl, by rw [HE.out]; exact bv9, (bhx.ext x8).grown g9 (by intro e; injection e with e; omega), (brx.ext x8).grown g9 (by intro e; injection e with e; omega), (bmx.ext x8).grown g9 (by intro e; injection e with e; omega), (xx.trans x8).grown g9 (fun j e => by cases e; rw [hG]; omega)⟩
                case measure => simp [intOf]
              · go_wp2_with (first
                  | (refine wp_ld16 (.tmp 9) rfl rfl (G + 1 + 1) Ui 61 rfl bvx ?_)
                  | (go_at_call 221; refine (rmix_any Ui 3 4 9 14 X Y _ (by omega) (by omega) (by omega) (by omega)).mono ?_; rintro e w8 ⟨rfl, x8⟩; have bv8 := bvx.ext x8)
                  | (refine wp_st16 (.tmp 9) (.tmp 146) rfl rfl (G + 1 + 1) _ _ 61 rfl rfl bv8 (by rw [u32A_size]) ?_; intro w9 bv9 g9))
                go_roundw
                case rel => exact ⟨8, by omega, rfl, by rw [HE.out]; exact bv9, (bhx.ext x8).grown g9 (by intro e; injection e with e; omega), (brx.ext x8).grown g9 (by intro e; injection e with e; omega), (bmx.ext x8).grown g9 (by intro e; injection e with e; omega), (xx.trans x8).grown g9 (fun j e => by cases e; rw [hG]; omega)⟩
                case measure => simp [intOf]
            · obtain rfl : i = 8 := by omega
              rw [partP_8, ← HR.out] at bv
              clear hi hlt'
              go_wp2_with fail
              go_roundw
              case rel => exact ⟨k + 1, by omega, by go_num, bv, bh, br, bm, xk⟩
              case measure => simp [intOf]; omega
        · have HK10 := Lib.hid (show k = 10 by omega)
          have hki10 : ¬ ((k : Int) < 10) := by omega
          rw [HK10.out] at bv
          have HTK := Lib.hid (show ∀ i, takeP h M n last i = h i ^^^ (roundsP M (firstP h n last) 10 i ^^^ roundsP M (firstP h n last) 10 (i + 8)) from fun _ => rfl)
          obtain ⟨TK, hTK0⟩ : ∃ V, V = takeP h M n last := ⟨_, rfl⟩
          rw [← hTK0] at HTK
          have HT0 := Lib.hid hTK0
          clear hTK0 bm
          generalize roundsP M (firstP h n last) 10 = U at *
          go_wp2_with fail
          go_loopw [19] (fun i wx => ∃ q : Nat, q ≤ 8 ∧ i = .int .i64 q ∧ Box wx (G + 1 + 1) 61 (u32A 16 U) ∧ Box wx G 216 (u32A 8 (fun j => if j < q then TK j else h j)) ∧ Box wx (G + 1) 216 zero8 ∧ Ext w wx) (fun i _ => 8 - (intOf i).toNat)
          case atStart => exact ⟨0, by omega, rfl, bv, by rw [u32A_congr (V' := h) (fun i _ => by simp)]; exact bh, br, xk⟩
          case round =>
            clear bv bh br xk
            obtain ⟨q, hq, rfl, bv, bh, br, xk⟩ := hrel
            by_cases hlq : q < 8
            · have hqi : (q : Int) < 8 := by omega
              have c1 : ∀ z : Later wr, z.now.cell? ⟨G, q, none⟩ = some (.int .u32 ((h q).toNat : Int)) := fun z => (box_u32 (bh.ext z.ext) hlq).trans (by rw [if_neg (by omega)])
              have c2 : ∀ z : Later wr, z.now.cell? ⟨G + 1 + 1, q, none⟩ = some (.int .u32 ((U q).toNat : Int)) := fun z => box_u32 (bv.ext z.ext) (by omega)
              have c3 : ∀ z : Later wr, z.now.cell? ⟨G + 1 + 1, q + 8, none⟩ = some (.int .u32 ((U (q + 8)).toNat : Int)) := fun z => box_u32 (bv.ext z.ext) (by omega)
              have hX : bits .xor .u32 (bits .xor .u32 ((h q).toNat : Int) ((U q).toNat : Int)) ((U (q + 8)).toNat : Int) = (((TK q).toNat : Nat) : Int) := by rw [xor32, xor32, HTK.out, BitVec.xor_assoc]
              go_upto_region 29 with fail
              try simp only [Act.put]
              refine wp_region_later_tail 14 (by kernel_rfl) (by kernel_rfl) ?_
              simp only [List.take_succ_cons, List.take_zero, List.drop_succ_cons, List.drop_zero]
              repeat (go_big_quiet_step (fail))
              refine wpQuiet_nil ?_
              rintro z ⟨x, rfl⟩
              have bh1 := bh.ext x.ext
              have f1 := bh1.frozen q
              have i1 := box_u32 bh1 hlq
              clear c1 c2 c3
              go_wp2_with fail
              have bh2 := box_upd bh1 q (TK q)
              rw [u32A_congr (V' := fun j => if j < q + 1 then TK j else h j) (fun j _ => by
                simp only [upd]
                by_cases e : j = q
                · subst e; rw [if_pos rfl, if_pos (Nat.lt_succ_self _)]
                · rw [if_neg e]; by_cases e2 : j < q
                  · rw [if_pos e2, if_pos (show j < q + 1 by omega)]
                  · rw [if_neg e2, if_neg (show ¬ j < q + 1 by omega)])] at bh2
              go_roundw
              case rel => exact ⟨q + 1, by omega, by go_num, (bv.ext x.ext).setOther (by omega) _, bh2, (br.ext x.ext).setOther (by omega) _, (xk.trans x.ext).setCell (by rw [hG]; exact Nat.le_refl G) _⟩
              case measure => simp [intOf]; omega
            · rw [u32A_congr (V' := TK) (fun j hj => by rw [if_pos (show j < q by omega)])] at bh
              have hqi : ¬ ((q : Int) < 8) := by omega
              go_wp2_with (first
                | (refine wp_ld8 (.tmp 4) rfl rfl G TK 216 rfl bh ?_)
                | (refine wp_st8 (.tmp 8) (.tmp 165) rfl rfl (G + 1) TK _ 216 rfl rfl br rfl ?_; intro w9 b9 g9))
              rw [← HM.out, ← HT0.out]
              exact bodyPost_ret (results_cell1 rfl _ _ (G + 1) _ _ _ rfl b9 Tryz.underlying216 rfl (by rw [u32A_size]; exact a8Size)) rfl ⟨rfl, xk.grown g9 (fun j e => by cases e; omega)⟩
end Go.Proofs.YtkokmnaicfdjaaaGreatDoor
/- BLAKE2s: the document's digest of parts. -/
namespace Go.Proofs.YtkokmnaicfdjaaaGreatDoor
set_option linter.unusedVariables false
set_option linter.unusedSimpArgs false
open Go.RowKit

set_option maxHeartbeats 1000000 in
set_option maxRecDepth 100000 in
theorem joined02 (A : Option Addr) (n c : Nat) (L : List (List UInt8)) (w : World) (h : Strs w A n L) (hn : n ≤ 9223372036854775807) (hl : L.flatten.length < 1073741824) :
    Calls Tryz.prog 176 #[.slice A n c] w fun e w' => e = .returned (.string (str L.flatten)) ∧ w = w' := by
  have happ := str_app
  have hz := str_size
  have hnl := h.1
  have HS := Lib.hid h
  clear h
  go_enter Tryz.func176, Tryz.ntmps176
  go_wp2_with fail
  go_loop [3, 4] (fun s i => ∃ k : Nat, k ≤ n ∧ i = .int .i64 k ∧ s = .string (str (L.take k).flatten)) (fun _ i => n - (intOf i).toNat)
  case atStart => exact ⟨0, by omega, rfl, rfl⟩
  case round =>
    obtain ⟨k, hk, rfl, rfl⟩ := hrel
    by_cases hlt : k < n
    · obtain ⟨b, o, rfl, hcell⟩ := HS.out.2 (by omega)
      have ck := hcell k (by omega)
      have hki : (k : Int) < (n : Int) := by omega
      have HT := Lib.hid (show (L.take (k + 1)).flatten = (L.take k).flatten ++ L[k]'(by omega) by rw [List.take_succ_eq_append_getElem (by omega), List.flatten_append]; simp)
      have hb : (L.take k).flatten.length + (L[k]'(by omega)).length < 1073741824 := by
        have h1 := flat_le (L := L) (k := k + 1)
        rw [HT.out, List.length_append] at h1; omega
      clear hcell
      generalize L[k]'(by omega) = p at *
      generalize (L.take k).flatten = q at *
      go_wp2_with fail
      go_round
      case rel => exact ⟨k + 1, by omega, by go_num, by rw [HT.out]⟩
      case measure => simp [intOf]; omega
    · have hki : ¬ ((k : Int) < (n : Int)) := by omega
      rw [List.take_of_length_le (by omega)]
      go_wp2_with fail
      go_ret
      exact ⟨rfl, rfl⟩
theorem drop_str (l : List UInt8) (a : Nat) (h : a ≤ l.length) : (str l).extract a l.length = str (l.drop a) := by rw [str_ext, List.take_of_length_le (by rw [List.length_drop]; omega)]
theorem byt_pad {B : List UInt8} {k z : Nat} (hk : B.length ≤ 64 * k + 64) (hz : (B.drop (64 * k)).length + z = 64) {i : Nat} (hi : i < 64) : byt (B.drop (64 * k) ++ List.replicate z 0) i = blockP B k i := by
  unfold byt blockP
  rw [List.take_of_length_le (by omega)]
  by_cases h : i < (B.drop (64 * k)).length
  · rw [getD_app h]
  · rw [List.getD_eq_getElem?_getD, List.getElem?_append_right (by omega), List.getElem?_replicate, if_pos (by omega), List.getD_eq_getElem?_getD, List.getElem?_eq_none (by omega)]; rfl
set_option maxHeartbeats 4000000 in
set_option maxRecDepth 100000 in
theorem digest02 (h0 : Nat → BitVec 32) (B : List UInt8) (w : World) (hl : B.length < 1073741824) :
    Calls Tryz.prog 175 #[.agg (u32A 8 h0), .string (str B)] w fun e w' => e = .returned (.agg (digA h0 B)) ∧ Ext w w' := by
  have hz := str_size
  go_enter Tryz.func175, Tryz.ntmps175
  go_upto_region 1 with fail
  have bh0 := Box.new w 216 (u32A 8 h0)
  have br0 := Box.new (w.alloc (.cells (u32A 8 h0) 216)) 169 (u8A 32 fun _ => 0)
  have x0 := ((Ext.refl w).alloc (.cells (u32A 8 h0) 216)).alloc (.cells (u8A 32 fun _ => 0) 169)
  have bh := bh0.ext ((Ext.refl _).alloc (.cells (u8A 32 fun _ => 0) 169))
  change Code.wp _ _ _ _ ((w.alloc (.cells (u32A 8 h0) 216)).alloc (.cells (u8A 32 fun _ => 0) 169))
  rw [World.size_alloc] at br0
  clear bh0
  generalize (w.alloc (.cells (u32A 8 h0) 216)).alloc (.cells (u8A 32 fun _ => 0) 169) = w1 at *
  generalize hG : w.heap.size = G at *
  go_wp2_with fail
  go_loopw [5, 6, 7, 8] (fun n _ _ _ wx => ∃ k : Nat, k ≤ cntP B.length ∧ n = .int .i64 ((64 * k : Nat) : Int) ∧ Box wx G 216 (u32A 8 (hsP h0 B k)) ∧ Box wx (G + 1) 169 (u8A 32 fun _ => 0) ∧ Ext w wx) (fun n _ _ _ _ => B.length + 64 - (intOf n).toNat)
  case atStart => exact ⟨0, Nat.zero_le _, rfl, bh, br0, x0⟩
  case round =>
    clear bh br0 x0
    obtain ⟨k, hk, rfl, bh, br, xk⟩ := hrel
    have hkl : 64 * k ≤ B.length := by unfold cntP at hk; omega
    have hdr := drop_str B (64 * k) hkl
    by_cases hlt : 64 * k + 64 < B.length
    · have hbl : ((B.drop (64 * k)).take 64).length = 64 := by rw [List.length_take, List.length_drop]; omega
      have hex : (str B).extract (64 * k) (64 * k + 64) = str ((B.drop (64 * k)).take 64) := by rw [str_ext, Nat.add_sub_cancel_left]
      have HT := Lib.hid (show takeP (hsP h0 B k) (wordP (byt ((B.drop (64 * k)).take 64))) (64 * k + 64) false = hsP h0 B (k + 1) from rfl)
      have hck : k + 1 ≤ cntP B.length := by unfold cntP; omega
      have HB := Lib.hid hbl
      generalize (B.drop (64 * k)).take 64 = bl at *
      have hi1 : ¬ ((B.length : Int) ≤ ((64 * k : Nat) : Int) + 64) := by omega
      clear hbl
      obtain ⟨T, hT⟩ : ∃ T, T = 64 * k := ⟨_, rfl⟩
      have HTT := Lib.hid hT
      rw [← hT] at hkl hex hlt hi1 ⊢
      clear hT hdr
      go_wp2_with (first
        | (refine wp_ld8 (.tmp 2) rfl rfl G _ 216 rfl bh ?_)
        | (go_at_call 207; refine (take02_any (hsP h0 B k) bl (T + 64) false _ HB.out (by omega)).mono ?_; rintro e w3 ⟨rfl, x3⟩; have bh3 := bh.ext x3)
        | (refine wp_st8 (.tmp 2) (.tmp 39) rfl rfl G _ _ 216 rfl rfl bh3 (by rw [u32A_size]) ?_; intro w4 b4 g4))
      have hb4 := b4
      rw [HTT.out, HT.out] at hb4
      go_roundw
      case rel => exact ⟨k + 1, hck, by rw [show ((64 * (k + 1) : Nat) : Int) = (T : Int) + 64 by have := HTT.out; omega], hb4, (br.ext x3).grown g4 (by intro e; injection e with e; omega), (xk.trans x3).grown g4 (fun j e => by cases e; omega)⟩
      case measure => simp [intOf]; omega
    · have hi1 : (B.length : Int) ≤ ((64 * k : Nat) : Int) + 64 := by omega
      have HK := Lib.hid (show k = cntP B.length by unfold cntP at hk ⊢; omega)
      have HDl := Lib.hid (show (B.drop (64 * k)).length = B.length - 64 * k from List.length_drop)
      have HP := Lib.hid (fun z (hz : (B.drop (64 * k)).length + z = 64) => (show takeP (hsP h0 B k) (wordP (byt (B.drop (64 * k) ++ List.replicate z 0))) B.length true = finalP h0 B by
        unfold finalP
        rw [← HK.out]
        exact takeP_congr fun j hj => wordP_congr (fun i hi => byt_pad (by omega) hz hi) hj))
      obtain ⟨T, hT⟩ : ∃ T, T = 64 * k := ⟨_, rfl⟩
      rw [← hT] at hkl hdr hlt hi1 HDl HP ⊢
      clear hT
      generalize B.drop T = R at *
      have hR := HDl.out
      go_wp2_with fail
      go_loopw [8] (fun s wx => ∃ z : Nat, R.length + z ≤ 64 ∧ s = .string (str (R ++ List.replicate z 0)) ∧ wr = wx) (fun s _ => 64 - strLen s)
      case atStart => exact ⟨0, by omega, by rw [List.replicate_zero, List.append_nil], rfl⟩
      case round =>
        obtain ⟨z, hzl, rfl, rfl⟩ := hrel
        have hln : (R ++ List.replicate z (0 : UInt8)).length = R.length + z := by simp
        have HN := Lib.hid (show R ++ List.replicate (z + 1) (0 : UInt8) = (R ++ List.replicate z 0) ++ [0] by rw [List.replicate_succ', List.append_assoc])
        have hap : ∀ l : List UInt8, str l ++ ({ data := #[0] } : ByteArray) = str (l ++ [0]) := fun l => str_app l [0]
        have hone : (({ data := #[0] } : ByteArray)).size = 1 := rfl
        by_cases hz64 : R.length + z < 64
        · generalize R ++ List.replicate z (0 : UInt8) = q at *
          go_wp2_with fail
          go_roundw
          case rel => exact ⟨z + 1, by omega, by rw [HN.out], trivial⟩
          case measure => simp [strLen, hz]; omega
        · have HPz := Lib.hid (HP.out z (by omega))
          have HBz := Lib.hid (show (R ++ List.replicate z (0 : UInt8)).length = 64 by omega)
          have hq64 : ¬ (((R ++ List.replicate z (0 : UInt8)).length : Int) < 64) := by omega
          generalize R ++ List.replicate z (0 : UInt8) = q at *
          clear HN hln hap hone
          go_upto_region 15 with (first
            | (refine wp_ld8 (.tmp 2) rfl rfl G _ 216 rfl bh ?_)
            | (go_at_call 207; refine (take02_any (hsP h0 B k) q B.length true _ HBz.out (by omega)).mono ?_; rintro e w3 ⟨rfl, x3⟩; have bh3 := bh.ext x3)
            | (refine wp_st8 (.tmp 2) (.tmp 39) rfl rfl G _ _ 216 rfl rfl bh3 (by rw [u32A_size]) ?_; intro w4 b4 g4))
          rw [HPz.out] at b4
          have br4 := (br.ext x3).grown g4 (show (some (G + 1) : Option Nat) ≠ some G by intro e; injection e with e; omega)
          have x4 := (xk.trans x3).grown g4 (fun j e => by cases e; omega)
          change Code.wp _ _ _ _ (w4.alloc (.cells (u8A 32 fun _ => 0) 169))
          have d5 := Box.new w4 169 (u8A 32 fun _ => 0)
          have x45 : Ext w4 (w4.alloc (.cells (u8A 32 fun _ => 0) 169)) := (Ext.refl w4).alloc _
          have bh5 := b4.ext x45
          have br5 := br4.ext x45
          have x5 := x4.trans x45
          have hgd : G + 1 < w4.heap.size := br4.lt
          generalize w4.alloc (.cells (u8A 32 fun _ => 0) 169) = w5 at *
          generalize w4.heap.size = gd at *
          have HFi := Lib.hid (show digA h0 B = u8A 32 (fun p => (finalP h0 B (p / 4)).toNat / 256 ^ (p % 4) % 256) from rfl)
          obtain ⟨F, hF⟩ : ∃ F, F = finalP h0 B := ⟨_, rfl⟩
          rw [← hF] at bh5 HFi
          clear hF br br4 bh bh3 b4 xk x3 x4 x45 g4 hdr HP HPz HBz HDl HK hq64 hi1 hlt hkl hR
          go_wp2_with fail
          go_loopw [10] (fun i wx => ∃ q : Nat, q ≤ 32 ∧ i = .int .i64 q ∧ Box wx gd 169 (u8A 32 (fun p => if p < q then (F (p / 4)).toNat / 256 ^ (p % 4) % 256 else 0)) ∧ Box wx G 216 (u32A 8 F) ∧ Box wx (G + 1) 169 (u8A 32 fun _ => 0) ∧ Ext w wx) (fun i _ => 32 - (intOf i).toNat)
          case atStart => exact ⟨0, by omega, rfl, by rw [u8A_congr (D' := fun _ => 0) (fun i _ => by simp)]; exact d5, bh5, br5, x5⟩
          case round =>
            clear d5 bh5 br5 x5
            obtain ⟨i, hi, rfl, dq, bh, br, xk⟩ := hrel
            by_cases hli : i < 32
            · have hii : (i : Int) < 32 := by omega
              have ch : _root_.Go.World.cell? _ ⟨G, i / 4, none⟩ = some (.int .u32 ((F (i / 4)).toNat : Int)) := box_u32 bh (by omega)
              have fz := dq.frozen i
              have iz := (dq.cell i).trans (u8A_get hli)
              have key : ∀ x : Nat, x = (F (i / 4)).toNat / 256 ^ (i % 4) % 256 → Box (_root_.Go.World.setCell _ ⟨gd, i, none⟩ (.int .u8 (x : Int))) gd 169 (u8A 32 (fun p => if p < i + 1 then (F (p / 4)).toNat / 256 ^ (p % 4) % 256 else 0)) := fun x hx => by
                have h1 := dq.set i (.int .u8 (x : Int))
                rw [u8A_set, u8A_congr (D' := fun p => if p < i + 1 then (F (p / 4)).toNat / 256 ^ (p % 4) % 256 else 0) (fun p _ => by
                  simp only [updN]
                  by_cases e : p = i
                  · subst e; rw [if_pos rfl, if_pos (Nat.lt_succ_self _), hx]
                  · rw [if_neg e]; by_cases e2 : p < i
                    · rw [if_pos e2, if_pos (show p < i + 1 by omega)]
                    · rw [if_neg e2, if_neg (show ¬ p < i + 1 by omega)])] at h1
                exact h1
              have KEY := Lib.hid key
              clear key
              have HX := Lib.hid (F (i / 4)).isLt
              generalize (F (i / 4)).toNat = X at *
              go_wp2_with fail
              clear ch
              go_loop [11, 12] (fun x t => ∃ j : Nat, j ≤ i % 4 ∧ t = .int .i64 j ∧ x = .int .u32 ((X / 256 ^ j : Nat) : Int)) (fun _ t => i % 4 - (intOf t).toNat)
              case atStart => exact ⟨0, by omega, rfl, by simp⟩
              case round =>
                obtain ⟨j, hj, rfl, rfl⟩ := hrel
                have hy : X / 256 ^ j < 4294967296 := Nat.lt_of_le_of_lt (Nat.div_le_self _ _) HX.out
                by_cases hlj : j < i % 4
                · have HN := Lib.hid (show X / 256 ^ (j + 1) = X / 256 ^ j / 256 by rw [Nat.pow_succ, Nat.div_div_eq_div_mul])
                  have hji : (j : Int) < (i : Int) % 4 := by omega
                  generalize X / 256 ^ j = y at *
                  go_wp2_with fail
                  go_round
                  case rel => exact ⟨j + 1, by omega, by go_num, by rw [HN.out]; go_num⟩
                  case measure => simp [intOf]; omega
                · have hje : j = i % 4 := by omega
                  have hji : ¬ ((j : Int) < (i : Int) % 4) := by omega
                  have hk2 := KEY.out (X / 256 ^ j % 256) (by rw [hje])
                  clear hje
                  generalize X / 256 ^ j = y at *
                  rw [show ((y % 256 : Nat) : Int) = (y : Int) % 256 by omega] at hk2
                  go_wp2_with fail
                  go_roundw
                  case rel => exact ⟨i + 1, by omega, by go_num, hk2, bh.setOther (by omega) _, br.setOther (by omega) _, xk.setCell (by rw [hG]; show G ≤ gd; omega) _⟩
                  case measure => simp [intOf]; omega
            · rw [u8A_congr (D' := fun p => (F (p / 4)).toNat / 256 ^ (p % 4) % 256) (fun j hj => by rw [if_pos (show j < i by omega)])] at dq
              have hii : ¬ ((i : Int) < 32) := by omega
              go_wp2_with (first
                | (refine wp_ld_dig (.tmp 9) rfl rfl gd _ 169 rfl dq ?_)
                | (refine wp_st_dig (.tmp 4) (.tmp 63) rfl rfl (G + 1) _ _ 169 rfl rfl br rfl ?_; intro w9 b9 g9))
              exact bodyPost_ret (results_cell1 rfl _ _ (G + 1) _ _ _ rfl b9 Tryz.underlying169 rfl (by rw [u8A_size]; exact digSize)) rfl ⟨congrArg (fun a => Ending.returned (.agg a)) HFi.out.symm, xk.grown g9 (fun j e => by cases e; omega)⟩
end Go.Proofs.YtkokmnaicfdjaaaGreatDoor
/- BLAKE2s: the document's Sum. -/
namespace Go.Proofs.YtkokmnaicfdjaaaGreatDoor
set_option linter.unusedVariables false
set_option linter.unusedSimpArgs false
open Go.RowKit

section
variable {C : World → Prop} {o : Oper} {a : Act} {K : Act → Prop}
theorem quiet_ld8 (x : Operand) (h : o.op = .load 216 x) (b : Nat) (hx : a.eval x = .pointer (some ⟨b, 0, none⟩)) (V : Nat → BitVec 32) (t : TypeId) (hc : ∀ w, C w → Box w b t (u32A 8 V)) (hk : K (a.put o.dst (.agg (u32A 8 V)))) : o.quiet Tryz.prog a C K :=
  ⟨_, fun w hw => by
    have hr : w.rangeAt b 0 (u32A 8 V).toList := fun j v hj => by rw [Nat.zero_add, (hc w hw).cell j, ← hj, Array.getElem?_toList]
    unfold Oper.quietAt execOp
    simp only [h, hx, Instr.loadAt, Instr.sureAddr, Sem.run_bind, Sem.run_pure, Result.andThen_ok, run_loadVar_mid w b 0 216 (u32A 8 V).toList _ hr Tryz.underlying216 rfl (by rw [Array.length_toList, u32A_size]; exact a8Size)]
    exact ⟨rfl, rfl⟩, by simpa using hk⟩
end
set_option maxHeartbeats 2000000 in
set_option maxRecDepth 100000 in
theorem sum02_any (A : Option Addr) (n c : Nat) (L : List (List UInt8)) (w : World) (h : Strs w A n L) (hl : L.flatten.length < 1073741824) (hn : n ≤ 9223372036854775807) :
    Calls Tryz.prog 128 #[.slice A n c] w fun e w' => e = .returned (.agg (digA startP L.flatten)) ∧ Ext w w' := by
  go_enter Tryz.func128, Tryz.ntmps128
  go_upto_region 1 with fail
  change Code.wp _ _ _ _ (w.alloc (.cells (u8A 32 fun _ => 0) 169))
  have r0 := Box.new w 169 (u8A 32 fun _ => 0)
  have x0 : Ext w (w.alloc (.cells (u8A 32 fun _ => 0) 169)) := (Ext.refl w).alloc _
  generalize w.alloc (.cells (u8A 32 fun _ => 0) 169) = w1 at *
  generalize hG : w.heap.size = G at *
  go_upto_region 2 with (first
    | (go_at_call 174; refine (eight02 _).mono ?_; rintro e w2 ⟨rfl, x2⟩)
    | (refine wp_st8 (.tmp 3) (.tmp 4) rfl rfl w2.heap.size eightP _ 216 rfl rfl (Box.new _ _ _) (by kernel_rfl) ?_; intro w3 b3 g3))
  have y3 : Ext w2 w3 := ((Ext.refl w2).alloc _).grown g3 (fun j e => by cases e; exact Nat.le_refl _)
  have x3 := (x0.trans x2).trans y3
  have r3 := (r0.ext x2).ext y3
  have hGg : G < w2.heap.size := (r0.ext x2).lt
  have c0 : w3.cell? ⟨w2.heap.size, 0, none⟩ = some (.int .u32 ((eightP 0).toNat : Int)) := box_u32 b3 (by omega)
  have f0 := b3.frozen 0
  have hX : bits .xor .u32 ((eightP 0).toNat : Int) 16842784 = ((startP 0).toNat : Int) := by kernel_rfl
  clear r0 x0 x2 y3 g3
  generalize w2.heap.size = g at *
  go_upto_region 3 with fail
  have hb4 := box_upd b3 0 (startP 0)
  rw [show upd eightP 0 (startP 0) = startP from rfl] at hb4
  have r4 := r3.setOther (show G ≠ g by omega) (i := 0) (.int .u32 ((startP 0).toNat : Int))
  have x4 := x3.setCell (p := ⟨g, 0, none⟩) (by rw [hG]; show G ≤ g; omega) (.int .u32 ((startP 0).toNat : Int))
  generalize w3.setCell ⟨g, 0, none⟩ (.int .u32 ((startP 0).toNat : Int)) = w4 at *
  clear c0 f0 hX b3 r3 x3
  have hs4 := h.ext x4
  have HJ : ∀ x : Later w4, Hid (Calls Tryz.prog 176 #[.slice A n c] x.now fun e w' => e = .returned (.string (str L.flatten)) ∧ x.now = w') := fun x => Lib.hid (joined02 A n c L _ (hs4.ext x.ext) hn hl)
  have HD : ∀ x : Later w4, Hid (Calls Tryz.prog 175 #[.agg (u32A 8 startP), .string (str L.flatten)] x.now fun e w' => e = .returned (.agg (digA startP L.flatten)) ∧ Ext x.now w') := fun x => Lib.hid (digest02 startP L.flatten _ hl)
  have hbA : ∀ wx, (∃ x : Later w4, wx = x.now) → Box wx g 216 (u32A 8 startP) := fun wx ⟨x, e⟩ => by rw [e]; exact hb4.ext x.ext
  have HBA := Lib.hid hbA
  clear hbA hs4 h
  try simp only [Act.put]
  refine wp_region_later_tail 4 (by kernel_rfl) (by kernel_rfl) ?_
  simp only [List.take_succ_cons, List.take_zero, List.drop_succ_cons, List.drop_zero]
  repeat (first
    | (go_big_quiet_want; refine quiet_ld8 (.tmp 3) rfl g rfl startP 216 HBA.out ?_; simp only [Act.put, List.setIfInBounds_toArray, List.set_cons_zero, List.set_cons_succ]; go_big_quiet_on)
    | go_big_quiet_step (with_reducible exact later_of_same (HJ _).out)
    | go_big_quiet_step (with_reducible exact later_of (HD _).out))
  refine wpQuiet_nil ?_
  rintro z ⟨x, rfl⟩
  have r5 := r4.ext x.ext
  have hD : digA startP L.flatten = u8A 32 (fun p => (finalP startP L.flatten (p / 4)).toNat / 256 ^ (p % 4) % 256) := rfl
  generalize (fun p => (finalP startP L.flatten (p / 4)).toNat / 256 ^ (p % 4) % 256) = D at hD
  rw [hD]
  have HD' := Lib.hid hD
  clear hD
  go_wp2_with (refine wp_st_dig (.tmp 2) (.tmp 12) rfl rfl G D _ 169 rfl rfl r5 rfl ?_; intro w9 b9 g9)
  exact bodyPost_ret (results_cell1 rfl _ _ G _ _ _ rfl b9 Tryz.underlying169 rfl (by rw [u8A_size]; exact digSize)) rfl ⟨congrArg (fun a => Ending.returned (.agg a)) HD'.out.symm, (x4.trans x.ext).grown g9 (fun j e => by cases e; omega)⟩
end Go.Proofs.YtkokmnaicfdjaaaGreatDoor
/- Drives: copied, by the program. -/
namespace Go.Proofs.YtkokmnaicfdjaaaGreatDoor
set_option linter.unusedVariables false
set_option linter.unusedSimpArgs false
open Go.RowKit

/-- a drive as plain data -/
structure DrvD where
  bl : List (List UInt8)
  pe : List WrT
  left : Int
/-- the value is a drive that holds this -/
def drvV (B0 : Nat) (D : DrvD) (w : World) (u : Value) : Prop := ∃ bl pe : Sl, u = .agg #[.slice bl.A bl.n bl.c, .slice pe.A pe.n pe.c, .int .i64 D.left] ∧ RowF B0 stL 9 w bl D.bl ∧ RowF B0 wrL 57 w pe D.pe
def strsV (B0 : Nat) (B : List (List UInt8)) (w : World) (u : Value) : Prop := ∃ s : Sl, u = .slice s.A s.n s.c ∧ RowF B0 stL 9 w s B
def wrsV (B0 : Nat) (p : List WrT) (w : World) (u : Value) : Prop := ∃ s : Sl, u = .slice s.A s.n s.c ∧ RowF B0 wrL 57 w s p
theorem lasts_drv (B0 : Nat) (D : DrvD) : Lasts (drvV B0 D) := fun _ _ _ x ⟨s, t, e, h, k⟩ => ⟨s, t, e, h.ext x, k.ext x⟩
/-- the same, of rows of the call's own from block base on -/
def drvO (B0 base : Nat) (D : DrvD) (w : World) (u : Value) : Prop := ∃ bl pe : Sl, u = .agg #[.slice bl.A bl.n bl.c, .slice pe.A pe.n pe.c, .int .i64 D.left] ∧ RowF B0 stL 9 w bl D.bl ∧ RowF B0 wrL 57 w pe D.pe ∧ w.ownsRow base 9 1 (.slice bl.A bl.n bl.c) bl.n (D.bl.flatMap stL) ∧ w.ownsRow base 57 2 (.slice pe.A pe.n pe.c) pe.n (D.pe.flatMap wrL)
def strsO (B0 base : Nat) (B : List (List UInt8)) (w : World) (u : Value) : Prop := ∃ s : Sl, u = .slice s.A s.n s.c ∧ RowF B0 stL 9 w s B ∧ w.ownsRow base 9 1 (.slice s.A s.n s.c) s.n (B.flatMap stL)
def wrsO (B0 base : Nat) (p : List WrT) (w : World) (u : Value) : Prop := ∃ s : Sl, u = .slice s.A s.n s.c ∧ RowF B0 wrL 57 w s p ∧ w.ownsRow base 57 2 (.slice s.A s.n s.c) s.n (p.flatMap wrL)
theorem drvO.toV {B0 base : Nat} {D : DrvD} {w : World} {u : Value} (h : drvO B0 base D w u) : drvV B0 D w u := by
  obtain ⟨s, t, e, h, k, _, _⟩ := h
  exact ⟨s, t, e, h, k⟩
theorem lasts_drO (B0 base : Nat) (D : DrvD) : Lasts (drvO B0 base D) := fun _ _ _ x ⟨s, t, e, h, k, o, q⟩ => ⟨s, t, e, h.ext x, k.ext x, own_ext o x, own_ext q x⟩
theorem lasts_strO (B0 base : Nat) (B : List (List UInt8)) : Lasts (strsO B0 base B) := fun _ _ _ x ⟨s, e, h, o⟩ => ⟨s, e, h.ext x, own_ext o x⟩
theorem lasts_wrO (B0 base : Nat) (p : List WrT) : Lasts (wrsO B0 base p) := fun _ _ _ x ⟨s, e, h, o⟩ => ⟨s, e, h.ext x, own_ext o x⟩
theorem lasts_strs (B0 : Nat) (B : List (List UInt8)) : Lasts (strsV B0 B) := fun _ _ _ x ⟨s, e, h⟩ => ⟨s, e, h.ext x⟩
theorem lasts_wrs (B0 : Nat) (p : List WrT) : Lasts (wrsV B0 p) := fun _ _ _ x ⟨s, e, h⟩ => ⟨s, e, h.ext x⟩
set_option maxHeartbeats 4000000 in
set_option maxRecDepth 100000 in
theorem dcopied_any (B0 : Nat) (bl pe : Sl) (left : Int) (B : List (List UInt8)) (p : List WrT) (w : World) (hB0 : B0 ≤ w.heap.size) (hb : RowK stL w bl B) (hp : RowK wrL w pe p) :
    Calls Tryz.prog 123 #[.agg #[.slice bl.A bl.n bl.c, .slice pe.A pe.n pe.c, .int .i64 left]] w fun e w' => ∃ v, e = .returned v ∧ drvO B0 w.heap.size ⟨B, p, left⟩ w' v ∧ Ext w w' := by
  go_enter Tryz.func123, Tryz.ntmps123
  go_upto_region 1 with fail
  have b0 := Box.new w 28 #[.slice bl.A bl.n bl.c, .slice pe.A pe.n pe.c, .int .i64 left]
  have r0 := Box.new (w.alloc (.cells #[.slice bl.A bl.n bl.c, .slice pe.A pe.n pe.c, .int .i64 left] 28)) 28 #[.slice none 0 0, .slice none 0 0, .int .i64 0]
  have x0 := ((Ext.refl w).alloc (.cells #[.slice bl.A bl.n bl.c, .slice pe.A pe.n pe.c, .int .i64 left] 28)).alloc (.cells #[.slice none 0 0, .slice none 0 0, .int .i64 0] 28)
  have b1 := b0.ext ((Ext.refl _).alloc (.cells #[.slice none 0 0, .slice none 0 0, .int .i64 0] 28))
  rw [World.size_alloc] at r0
  clear b0
  generalize (w.alloc (.cells #[.slice bl.A bl.n bl.c, .slice pe.A pe.n pe.c, .int .i64 left] 28)).alloc (.cells #[.slice none 0 0, .slice none 0 0, .int .i64 0] 28) = w1 at *
  generalize hG : w.heap.size = G at *
  refine wp_region_web' 9 [[], [0], [1], [], [3], [4], [], [6], [2, 5, 7]] (listV [isV (.pointer (some ⟨G, 0, none⟩)), isV (.slice bl.A bl.n bl.c), strsO B0 G B, isV (.pointer (some ⟨G, 1, none⟩)), isV (.slice pe.A pe.n pe.c), wrsO B0 G p, isV (.pointer (some ⟨G, 2, none⟩)), isV (.int .i64 left), drvO B0 G ⟨B, p, left⟩]) (by kernel_rfl) (by kernel_rfl) (listV_ext (fun p hp => by simp only [List.mem_cons, List.not_mem_nil, or_false] at hp; rcases hp with rfl | rfl | rfl | rfl | rfl | rfl | rfl | rfl | rfl <;> first | exact lasts_drO _ _ _ | exact lasts_is _ | exact lasts_strO _ _ _ | exact lasts_wrO _ _ _)) (fun us => ?_)
  simp only [List.take_succ_cons, List.take_zero, List.drop_succ_cons, List.drop_zero]
  rw [webWalk]
  refine And.intro (fun w' hx hd => ?_) ?_
  · clear hd
    refine web_of_list 3 rfl (by simp) rfl ?_
    go_wp2_with fail
    exact ⟨Ext.refl _, rfl⟩
  simp only [Act.put, List.setIfInBounds_toArray, List.set_cons_zero, List.set_cons_succ]
  rw [webWalk]
  refine And.intro (fun w' hx hd => ?_) ?_
  · have h0 := hd 0 (by simp)
    clear hd
    generalize us 0 = u0 at *
    obtain rfl : u0 = .pointer (some ⟨G, 0, none⟩) := h0
    have q0 : w'.cell? ⟨G, 0, none⟩ = some (.slice bl.A bl.n bl.c) := (b1.ext hx).cell 0
    refine web_of_list 4 rfl (by simp [Act.put]) rfl ?_
    go_wp2_with fail
    exact ⟨Ext.refl _, rfl⟩
  simp only [Act.put, List.setIfInBounds_toArray, List.set_cons_zero, List.set_cons_succ]
  rw [webWalk]
  refine And.intro (fun w' hx hd => ?_) ?_
  · have h1 := hd 1 (by simp)
    clear hd
    generalize us 1 = u1 at *
    obtain rfl : u1 = .slice bl.A bl.n bl.c := h1
    have kk := hb.ext (x0.trans hx)
    refine web_of_list 5 rfl (by simp [Act.put]) rfl ?_
    go_wp2_with (at_builtin; refine wp_app_copy stL 23 9 1 16 (.string ⟨#[]⟩) w'.heap.size bl Tryz.underlying23 strInfo (by omega) rfl rfl _ _ rfl rfl rfl kk.row kk.ok (fun _ _ => rfl) (fun x _ => stL_one x) (by have := kk.small; omega) (Nat.le_refl _) ?_; intro s' w9 hn' hk' hr' ho' x'; have HN := Lib.hid hn'; clear hn')
    have e0 := HN.out
    have hsm := kk.small
    exact ⟨s', rfl, RowF.own hr' hk' (by omega) ho', own_base ho' (by have h1 := x0.size; have h2 := hx.size; omega)⟩
  simp only [Act.put, List.setIfInBounds_toArray, List.set_cons_zero, List.set_cons_succ]
  rw [webWalk]
  refine And.intro (fun w' hx hd => ?_) ?_
  · clear hd
    refine web_of_list 6 rfl (by simp [Act.put]) rfl ?_
    go_wp2_with fail
    exact ⟨Ext.refl _, rfl⟩
  simp only [Act.put, List.setIfInBounds_toArray, List.set_cons_zero, List.set_cons_succ]
  rw [webWalk]
  refine And.intro (fun w' hx hd => ?_) ?_
  · have h3 := hd 3 (by simp)
    clear hd
    generalize us 3 = u3 at *
    obtain rfl : u3 = .pointer (some ⟨G, 1, none⟩) := h3
    have q1 : w'.cell? ⟨G, 1, none⟩ = some (.slice pe.A pe.n pe.c) := (b1.ext hx).cell 1
    refine web_of_list 7 rfl (by simp [Act.put]) rfl ?_
    go_wp2_with fail
    exact ⟨Ext.refl _, rfl⟩
  simp only [Act.put, List.setIfInBounds_toArray, List.set_cons_zero, List.set_cons_succ]
  rw [webWalk]
  refine And.intro (fun w' hx hd => ?_) ?_
  · have h4 := hd 4 (by simp)
    clear hd
    generalize us 4 = u4 at *
    obtain rfl : u4 = .slice pe.A pe.n pe.c := h4
    have kk := hp.ext (x0.trans hx)
    refine web_of_list 8 rfl (by simp [Act.put]) rfl ?_
    go_wp2_with (at_builtin; refine wp_app_copy wrL 26 57 2 24 (.agg #[.int .i64 0, .string ⟨#[]⟩]) w'.heap.size pe Tryz.underlying26 wrInfo (by omega) rfl rfl _ _ rfl rfl rfl kk.row kk.ok (fun _ _ => rfl) (fun x _ => wrL_one x) (by have := kk.small; omega) (Nat.le_refl _) ?_; intro s' w9 hn' hk' hr' ho' x'; have HN := Lib.hid hn'; clear hn')
    have e0 := HN.out
    have hsm := kk.small
    exact ⟨s', rfl, RowF.own hr' hk' (by omega) ho', own_base ho' (by have h1 := x0.size; have h2 := hx.size; omega)⟩
  simp only [Act.put, List.setIfInBounds_toArray, List.set_cons_zero, List.set_cons_succ]
  rw [webWalk]
  refine And.intro (fun w' hx hd => ?_) ?_
  · clear hd
    refine web_of_list 9 rfl (by simp [Act.put]) rfl ?_
    go_wp2_with fail
    exact ⟨Ext.refl _, rfl⟩
  simp only [Act.put, List.setIfInBounds_toArray, List.set_cons_zero, List.set_cons_succ]
  rw [webWalk]
  refine And.intro (fun w' hx hd => ?_) ?_
  · have h6 := hd 6 (by simp)
    clear hd
    generalize us 6 = u6 at *
    obtain rfl : u6 = .pointer (some ⟨G, 2, none⟩) := h6
    have q2 : w'.cell? ⟨G, 2, none⟩ = some (.int .i64 left) := (b1.ext hx).cell 2
    refine web_of_list 10 rfl (by simp [Act.put]) rfl ?_
    go_wp2_with fail
    exact ⟨Ext.refl _, rfl⟩
  simp only [Act.put, List.setIfInBounds_toArray, List.set_cons_zero, List.set_cons_succ]
  rw [webWalk]
  refine And.intro (fun w' hx hd => ?_) ?_
  · have h2 := hd 2 (by simp)
    have h5 := hd 5 (by simp)
    have h7 := hd 7 (by simp)
    clear hd
    generalize us 2 = u2 at *
    generalize us 5 = u5 at *
    generalize us 7 = u7 at *
    obtain ⟨s1, rfl, k1, o1⟩ := h2
    obtain ⟨s2, rfl, k2, o2⟩ := h5
    obtain rfl : u7 = .int .i64 left := h7
    refine web_of_list 11 rfl (by simp [Act.put]) rfl ?_
    go_wp2_with fail
    exact ⟨Ext.refl _, s1, s2, rfl, k1, k2, o1, o2⟩
  simp only [Act.put, List.setIfInBounds_toArray, List.set_cons_zero, List.set_cons_succ]
  rw [webWalk]
  intro w' hx hv
  have h8 := hv 8 (by omega)
  clear hv
  generalize us 0 = u0 at *
  generalize us 1 = u1 at *
  generalize us 2 = u2 at *
  generalize us 3 = u3 at *
  generalize us 4 = u4 at *
  generalize us 5 = u5 at *
  generalize us 6 = u6 at *
  generalize us 7 = u7 at *
  generalize us 8 = u8 at *
  obtain ⟨s1, s2, rfl, k1, k2, o1, o2⟩ := h8
  have r9 := r0.ext hx
  go_wp2_with (refine wp_st_drv (.tmp 2) (.tmp 11) rfl rfl (G + 1) s1 s2 left _ 28 rfl rfl r9 rfl ?_; intro w9 b9 g9)
  have x9 := (x0.trans hx).grown g9 (fun j e => by cases e; omega)
  exact bodyPost_ret (results_cell1 rfl _ _ (G + 1) _ _ _ rfl b9 Tryz.underlying28 rfl drvSize) rfl ⟨_, rfl, ⟨s1, s2, rfl, k1.grown (by decide) r9 g9, k2.grown (by decide) r9 g9, o1.kept g9 (.inr (own_ne o1 r9 (by decide)).symm), o2.kept g9 (.inr (own_ne o2 r9 (by decide)).symm)⟩, x9⟩
set_option maxHeartbeats 4000000 in
set_option maxRecDepth 100000 in
theorem wcopied_any (B0 : Nat) (bl pe : Sl) (left : Int) (B : List (List UInt8)) (p : List WrT) (w : World) (hB0 : B0 ≤ w.heap.size) (hb : RowK stL w bl B) (hp : RowK wrL w pe p) :
    Calls Tryz.prog 72 #[.agg #[.slice bl.A bl.n bl.c, .slice pe.A pe.n pe.c, .int .i64 left]] w fun e w' => ∃ v, e = .returned v ∧ drvO B0 w.heap.size ⟨B, p, left⟩ w' v ∧ Ext w w' := by
  go_enter Tryz.func72, Tryz.ntmps72
  go_upto_region 1 with fail
  have b0 := Box.new w 28 #[.slice bl.A bl.n bl.c, .slice pe.A pe.n pe.c, .int .i64 left]
  have r0 := Box.new (w.alloc (.cells #[.slice bl.A bl.n bl.c, .slice pe.A pe.n pe.c, .int .i64 left] 28)) 28 #[.slice none 0 0, .slice none 0 0, .int .i64 0]
  have x0 := ((Ext.refl w).alloc (.cells #[.slice bl.A bl.n bl.c, .slice pe.A pe.n pe.c, .int .i64 left] 28)).alloc (.cells #[.slice none 0 0, .slice none 0 0, .int .i64 0] 28)
  have b1 := b0.ext ((Ext.refl _).alloc (.cells #[.slice none 0 0, .slice none 0 0, .int .i64 0] 28))
  rw [World.size_alloc] at r0
  clear b0
  generalize (w.alloc (.cells #[.slice bl.A bl.n bl.c, .slice pe.A pe.n pe.c, .int .i64 left] 28)).alloc (.cells #[.slice none 0 0, .slice none 0 0, .int .i64 0] 28) = w1 at *
  generalize hG : w.heap.size = G at *
  refine wp_region_web' 9 [[], [0], [1], [], [3], [4], [], [6], [2, 5, 7]] (listV [isV (.pointer (some ⟨G, 0, none⟩)), isV (.slice bl.A bl.n bl.c), strsO B0 G B, isV (.pointer (some ⟨G, 1, none⟩)), isV (.slice pe.A pe.n pe.c), wrsO B0 G p, isV (.pointer (some ⟨G, 2, none⟩)), isV (.int .i64 left), drvO B0 G ⟨B, p, left⟩]) (by kernel_rfl) (by kernel_rfl) (listV_ext (fun p hp => by simp only [List.mem_cons, List.not_mem_nil, or_false] at hp; rcases hp with rfl | rfl | rfl | rfl | rfl | rfl | rfl | rfl | rfl <;> first | exact lasts_drO _ _ _ | exact lasts_is _ | exact lasts_strO _ _ _ | exact lasts_wrO _ _ _)) (fun us => ?_)
  simp only [List.take_succ_cons, List.take_zero, List.drop_succ_cons, List.drop_zero]
  rw [webWalk]
  refine And.intro (fun w' hx hd => ?_) ?_
  · clear hd
    refine web_of_list 3 rfl (by simp) rfl ?_
    go_wp2_with fail
    exact ⟨Ext.refl _, rfl⟩
  simp only [Act.put, List.setIfInBounds_toArray, List.set_cons_zero, List.set_cons_succ]
  rw [webWalk]
  refine And.intro (fun w' hx hd => ?_) ?_
  · have h0 := hd 0 (by simp)
    clear hd
    generalize us 0 = u0 at *
    obtain rfl : u0 = .pointer (some ⟨G, 0, none⟩) := h0
    have q0 : w'.cell? ⟨G, 0, none⟩ = some (.slice bl.A bl.n bl.c) := (b1.ext hx).cell 0
    refine web_of_list 4 rfl (by simp [Act.put]) rfl ?_
    go_wp2_with fail
    exact ⟨Ext.refl _, rfl⟩
  simp only [Act.put, List.setIfInBounds_toArray, List.set_cons_zero, List.set_cons_succ]
  rw [webWalk]
  refine And.intro (fun w' hx hd => ?_) ?_
  · have h1 := hd 1 (by simp)
    clear hd
    generalize us 1 = u1 at *
    obtain rfl : u1 = .slice bl.A bl.n bl.c := h1
    have kk := hb.ext (x0.trans hx)
    refine web_of_list 5 rfl (by simp [Act.put]) rfl ?_
    go_wp2_with (at_builtin; refine wp_app_copy stL 23 9 1 16 (.string ⟨#[]⟩) w'.heap.size bl Tryz.underlying23 strInfo (by omega) rfl rfl _ _ rfl rfl rfl kk.row kk.ok (fun _ _ => rfl) (fun x _ => stL_one x) (by have := kk.small; omega) (Nat.le_refl _) ?_; intro s' w9 hn' hk' hr' ho' x'; have HN := Lib.hid hn'; clear hn')
    have e0 := HN.out
    have hsm := kk.small
    exact ⟨s', rfl, RowF.own hr' hk' (by omega) ho', own_base ho' (by have h1 := x0.size; have h2 := hx.size; omega)⟩
  simp only [Act.put, List.setIfInBounds_toArray, List.set_cons_zero, List.set_cons_succ]
  rw [webWalk]
  refine And.intro (fun w' hx hd => ?_) ?_
  · clear hd
    refine web_of_list 6 rfl (by simp [Act.put]) rfl ?_
    go_wp2_with fail
    exact ⟨Ext.refl _, rfl⟩
  simp only [Act.put, List.setIfInBounds_toArray, List.set_cons_zero, List.set_cons_succ]
  rw [webWalk]
  refine And.intro (fun w' hx hd => ?_) ?_
  · have h3 := hd 3 (by simp)
    clear hd
    generalize us 3 = u3 at *
    obtain rfl : u3 = .pointer (some ⟨G, 1, none⟩) := h3
    have q1 : w'.cell? ⟨G, 1, none⟩ = some (.slice pe.A pe.n pe.c) := (b1.ext hx).cell 1
    refine web_of_list 7 rfl (by simp [Act.put]) rfl ?_
    go_wp2_with fail
    exact ⟨Ext.refl _, rfl⟩
  simp only [Act.put, List.setIfInBounds_toArray, List.set_cons_zero, List.set_cons_succ]
  rw [webWalk]
  refine And.intro (fun w' hx hd => ?_) ?_
  · have h4 := hd 4 (by simp)
    clear hd
    generalize us 4 = u4 at *
    obtain rfl : u4 = .slice pe.A pe.n pe.c := h4
    have kk := hp.ext (x0.trans hx)
    refine web_of_list 8 rfl (by simp [Act.put]) rfl ?_
    go_wp2_with (at_builtin; refine wp_app_copy wrL 26 57 2 24 (.agg #[.int .i64 0, .string ⟨#[]⟩]) w'.heap.size pe Tryz.underlying26 wrInfo (by omega) rfl rfl _ _ rfl rfl rfl kk.row kk.ok (fun _ _ => rfl) (fun x _ => wrL_one x) (by have := kk.small; omega) (Nat.le_refl _) ?_; intro s' w9 hn' hk' hr' ho' x'; have HN := Lib.hid hn'; clear hn')
    have e0 := HN.out
    have hsm := kk.small
    exact ⟨s', rfl, RowF.own hr' hk' (by omega) ho', own_base ho' (by have h1 := x0.size; have h2 := hx.size; omega)⟩
  simp only [Act.put, List.setIfInBounds_toArray, List.set_cons_zero, List.set_cons_succ]
  rw [webWalk]
  refine And.intro (fun w' hx hd => ?_) ?_
  · clear hd
    refine web_of_list 9 rfl (by simp [Act.put]) rfl ?_
    go_wp2_with fail
    exact ⟨Ext.refl _, rfl⟩
  simp only [Act.put, List.setIfInBounds_toArray, List.set_cons_zero, List.set_cons_succ]
  rw [webWalk]
  refine And.intro (fun w' hx hd => ?_) ?_
  · have h6 := hd 6 (by simp)
    clear hd
    generalize us 6 = u6 at *
    obtain rfl : u6 = .pointer (some ⟨G, 2, none⟩) := h6
    have q2 : w'.cell? ⟨G, 2, none⟩ = some (.int .i64 left) := (b1.ext hx).cell 2
    refine web_of_list 10 rfl (by simp [Act.put]) rfl ?_
    go_wp2_with fail
    exact ⟨Ext.refl _, rfl⟩
  simp only [Act.put, List.setIfInBounds_toArray, List.set_cons_zero, List.set_cons_succ]
  rw [webWalk]
  refine And.intro (fun w' hx hd => ?_) ?_
  · have h2 := hd 2 (by simp)
    have h5 := hd 5 (by simp)
    have h7 := hd 7 (by simp)
    clear hd
    generalize us 2 = u2 at *
    generalize us 5 = u5 at *
    generalize us 7 = u7 at *
    obtain ⟨s1, rfl, k1, o1⟩ := h2
    obtain ⟨s2, rfl, k2, o2⟩ := h5
    obtain rfl : u7 = .int .i64 left := h7
    refine web_of_list 11 rfl (by simp [Act.put]) rfl ?_
    go_wp2_with fail
    exact ⟨Ext.refl _, s1, s2, rfl, k1, k2, o1, o2⟩
  simp only [Act.put, List.setIfInBounds_toArray, List.set_cons_zero, List.set_cons_succ]
  rw [webWalk]
  intro w' hx hv
  have h8 := hv 8 (by omega)
  clear hv
  generalize us 0 = u0 at *
  generalize us 1 = u1 at *
  generalize us 2 = u2 at *
  generalize us 3 = u3 at *
  generalize us 4 = u4 at *
  generalize us 5 = u5 at *
  generalize us 6 = u6 at *
  generalize us 7 = u7 at *
  generalize us 8 = u8 at *
  obtain ⟨s1, s2, rfl, k1, k2, o1, o2⟩ := h8
  have r9 := r0.ext hx
  go_wp2_with (refine wp_st_drv (.tmp 2) (.tmp 11) rfl rfl (G + 1) s1 s2 left _ 28 rfl rfl r9 rfl ?_; intro w9 b9 g9)
  have x9 := (x0.trans hx).grown g9 (fun j e => by cases e; omega)
  exact bodyPost_ret (results_cell1 rfl _ _ (G + 1) _ _ _ rfl b9 Tryz.underlying28 rfl drvSize) rfl ⟨_, rfl, ⟨s1, s2, rfl, k1.grown (by decide) r9 g9, k2.grown (by decide) r9 g9, o1.kept g9 (.inr (own_ne o1 r9 (by decide)).symm), o2.kept g9 (.inr (own_ne o2 r9 (by decide)).symm)⟩, x9⟩
end Go.Proofs.YtkokmnaicfdjaaaGreatDoor
/- A journal's head: plain; filled, zeros. -/
namespace Go.Proofs.YtkokmnaicfdjaaaGreatDoor
set_option linter.unusedVariables false
set_option linter.unusedSimpArgs false
open Go.RowKit

/-- a number in two bytes -/
def two2 (n : Int) : List UInt8 := [b8 (n % 256), b8 (n / 256)]
def fillP (s : List UInt8) (n : Nat) : List UInt8 := s ++ zs (n - s.length)
theorem fillP_len {s : List UInt8} {n : Nat} (h : s.length ≤ n) : (fillP s n).length = n := by simp [fillP, zs_len]; omega
def namesP (l : List WrT) : List UInt8 := [104, 105, 98, 106] ++ two2 l.length ++ l.flatMap fun x => two2 x.1
theorem namesP_len (l : List WrT) : (namesP l).length = 6 + 2 * l.length := by
  unfold namesP
  rw [List.length_append, List.length_append]
  have : (l.flatMap fun x => two2 x.1).length = 2 * l.length := by
    induction l with
    | nil => rfl
    | cons x l ih => rw [List.flatMap_cons, List.length_append, ih]; simp [two2]; omega
  rw [this]; simp [two2]
def digN (B : List UInt8) : List Int := (List.range 32).map fun i => (((finalP startP B (i / 4)).toNat / 256 ^ (i % 4) % 256 : Nat) : Int)
def digL (B : List UInt8) : List UInt8 := (digN B).map b8
theorem digL_len (B : List UInt8) : (digL B).length = 32 := by simp [digL, digN]
def hfirP (l : List WrT) : List UInt8 := fillP (namesP l) 70
def headP (l : List WrT) : List UInt8 := fillP (hfirP l ++ digL (hfirP l :: l.map (·.2)).flatten) 128
/-- writes that a head may be of -/
def WrsIn (l : List WrT) : Prop := l.length ≤ 32 ∧ ∀ x ∈ l, (0 ≤ x.1 ∧ x.1 ≤ 65535) ∧ x.2.length = 128
theorem hfirP_len {l : List WrT} (h : WrsIn l) : (hfirP l).length = 70 := fillP_len (by rw [namesP_len]; have := h.1; omega)
theorem headP_len {l : List WrT} (h : WrsIn l) : (headP l).length = 128 := fillP_len (by rw [List.length_append, hfirP_len h, digL_len]; omega)
theorem flat_short (l : List WrT) (h : ∀ x ∈ l, x.2.length = 128) : (l.map (·.2)).flatten.length = 128 * l.length := by
  induction l with
  | nil => rfl
  | cons x l ih => rw [List.map_cons, List.flatten_cons, List.length_append, ih (fun y hy => h y (List.mem_cons_of_mem _ hy)), h x List.mem_cons_self, List.length_cons]; omega
theorem headBytes {l : List WrT} (h : WrsIn l) : (hfirP l :: l.map (·.2)).flatten.length < 1073741824 := by
  rw [List.flatten_cons, List.length_append, hfirP_len h, flat_short l (fun x hx => (h.2 x hx).2)]
  have := h.1; omega
/-- the text of a digest -/
theorem conv_dig {w : World} {g : Nat} {t : TypeId} {B : List UInt8} (h : Box w g t (digA startP B)) (c : Nat) :
    (convert 101 9 (.slice (some ⟨g, 0, none⟩) 32 c)).run Tryz.prog w = .ok (.string (str (digL B))) w := by
  refine run_convert_bytes_arg (P := Tryz.prog) _ 101 5 Tryz.underlying101 Tryz.underlying5 _ _ _ c (digN B) (by simp [digN]) (fun i hi => ?_) 9 Tryz.underlying9
  rw [Nat.zero_add, h.cell i, digA, u8A_get hi]
  simp [digN, hi]
set_option maxHeartbeats 400000 in
theorem filled_any (s : List UInt8) (n : Nat) (w : World) (hs : s.length ≤ n) (hn : n ≤ 1000) :
    Calls Tryz.prog 121 #[.string (str s), .int .i64 n] w fun e w' => e = .returned (.string (str (fillP s n))) ∧ Ext w w' := by
  have hz := str_size
  have hap := str_app
  have HR := Lib.hid (fun w => repeat_any (n - s.length) w (by omega))
  rw [show ((n - s.length : Nat) : Int) = (n : Int) - (s.length : Int) by omega] at HR
  have HF := Lib.hid (show fillP s n = s ++ List.replicate (n - s.length) 0 from rfl)
  have hk : (⟨#[0]⟩ : ByteArray) = str [0] := rfl
  by_cases hle : s.length = n
  · have hd : decide ((n : Int) ≤ (s.length : Int)) = true := by simp; omega
    go_enter Tryz.func121, Tryz.ntmps121
    go_wp2_with fail
    go_ret
    refine ⟨?_, Ext.refl _⟩
    rw [HF.out, hle]; simp
  · have hd : decide ((n : Int) ≤ (s.length : Int)) = false := by simp; omega
    go_enter Tryz.func121, Tryz.ntmps121
    go_wp2_with (go_at_call 106; refine (HR.out _).mono ?_; rintro e w1 ⟨rfl, x1⟩)
    go_ret
    exact ⟨by rw [HF.out]; rfl, x1⟩
set_option maxHeartbeats 400000 in
theorem zeros16_any (n : Nat) (w : World) (h : n ≤ 100000) :
    Calls Tryz.prog 127 #[.int .i64 n] w fun e w' => e = .returned (.string (str (zs n))) ∧ w = w' := by
  have hz := str_size
  have hap := str_app
  have hk : (⟨#[0]⟩ : ByteArray) = str [0] := rfl
  go_enter Tryz.func127, Tryz.ntmps127
  go_wp2_with fail
  go_loop [3, 4] (fun s i => ∃ k : Nat, k ≤ n ∧ i = .int .i64 k ∧ s = .string (str (zs k))) (fun _ i => n - (intOf i).toNat)
  case atStart => exact ⟨0, by omega, rfl, rfl⟩
  case round =>
    obtain ⟨k, hk2, rfl, rfl⟩ := hrel
    have hl := zs_len k
    have HZ := Lib.hid (show zs (k + 1) = zs k ++ [0] from List.replicate_succ')
    by_cases hlt : k < n
    · go_wp2_with fail
      go_round
      case rel => exact ⟨k + 1, by omega, by go_num, by rw [HZ.out]⟩
      case measure => simp [intOf]; omega
    · obtain rfl : k = n := by omega
      go_wp2_with fail
      go_ret
      exact ⟨rfl, rfl⟩
end Go.Proofs.YtkokmnaicfdjaaaGreatDoor
/- A journal's head, by the program. -/
namespace Go.Proofs.YtkokmnaicfdjaaaGreatDoor
set_option linter.unusedVariables false
set_option linter.unusedSimpArgs false
open Go.RowKit

theorem Bld.ext {B b : Nat} {l : List UInt8} {w w' : World} (h : Bld B b l w) (x : Ext w w') : Bld B b l w' := by
  obtain ⟨hB, v, hb, hown, hne⟩ := h
  exact ⟨hB, v, Box.ext hb x, own_ext hown x, hne⟩
theorem Bld.more {B b base z n : Nat} {l : List UInt8} {w w' : World} {u : Value} {xs : List Value} {t : TypeId} (h : Bld B b l w) (o : w.ownsRow base t z u n xs) (h1 : t ≠ 148) (h2 : t ≠ 5) (hg : w.grownBy w' u.ownBlock) : Bld B b l w' := by
  obtain ⟨hB, v, hb, hown, hne⟩ := h
  refine ⟨hB, v, Box.grown hb hg (own_ne o hb h1), hown.kept hg ?_, hne⟩
  rcases hown.2 with ⟨e, _⟩ | ⟨g, cap, cur, e, _, hh, _⟩
  · exact .inl (by rw [e]; rfl)
  · exact .inr (by rw [e]; exact own_ne o (show Box w g 5 cur from hh) h2)
theorem Bld.box {B b : Nat} {l : List UInt8} {w : World} (h : Bld B b l w) : ∃ cs, Box w b 148 cs := by
  obtain ⟨hB, v, hb, hown, hne⟩ := h
  exact ⟨_, hb⟩
theorem own_kept8 {w w' : World} {b base z n : Nat} {u : Value} {xs : List Value} {t : TypeId} {cs : Array Value} (o : w.ownsRow base t z u n xs) (hk : Lib.OthersKept 5 (some b) w w') (hb : Box w b 148 cs) (h1 : t ≠ 148) (h2 : t ≠ 5) : w'.ownsRow base t z u n xs := by
  refine ⟨o.1, ?_⟩
  rcases o.2 with c | ⟨g, cap, cur, e, hB, hh, r⟩
  · exact .inl c
  · refine .inr ⟨g, cap, cur, e, hB, box_kept (show Box w g t cur from hh) hk (fun e2 => own_ne o hb h1 (by rw [e, e2]; rfl)) h2, r⟩
theorem Ext.below {a w w' : World} {B : Nat} (x : Ext a w) (q : Below B w w') (h : a.heap.size = B) : Ext a w' := by
  subst h
  exact Below.trans x q
theorem strs_box1 (w : World) (s : List UInt8) : Strs (w.alloc (.cells #[.string (str s)] 9)) (some ⟨w.heap.size, 0, none⟩) 1 [s] :=
  ⟨rfl, fun _ => ⟨w.heap.size, 0, rfl, fun j hj => by
    obtain rfl : j = 0 := by simp at hj; omega
    exact (Box.new w 9 #[.string (str s)]).cell 0⟩⟩
theorem bld_fresh (w : World) : Bld0 w.heap.size w.heap.size (w.alloc (.cells #[.pointer none, .slice none 0 0] 148)) := by
  rcases Lib.fresh_isBuilder 148 5 w with h | h
  · exact h
  · exact absurd h.cell0 (by rw [Box.cell (Box.new w _ _) 0]; simp)
theorem wp_make0 {ops : Array Oper} {rest : List Oper} {o : Oper} {a : Act} {Q : Exit → Act → World → Prop} {w : World} {c : Nat} (base : Nat) (hgd : o.guard = none) (x y : Operand)
    (ho : o.op = .makeSlice 23 x y) (hx : a.eval x = .int .i64 0) (hy : a.eval y = .int .i64 c) (hc : c ≤ 100000) (hb : base ≤ w.heap.size)
    (hK : ∀ w', w'.ownsRow base 9 1 (.slice (some ⟨w.heap.size, 0, none⟩) 0 c) 0 (strL []) → Ext w w' → wpList Tryz.prog ops Q rest (a.put o.dst (.slice (some ⟨w.heap.size, 0, none⟩) 0 c)) w') : wpList Tryz.prog ops Q (o :: rest) a w := by
  refine wpList_plain hgd fun K hK' => ?_
  obtain ⟨i, hi, hz, h1, h2⟩ := info_parts strInfo
  obtain ⟨w', hr, ho', hg⟩ := run_make_own (P := Tryz.prog) w base 23 9 i _ 1 Tryz.underlying23 hi hz h1 .i64 .i64 c (by rw [h2]; omega) (by unfold maxLen; omega) hb
  unfold Oper.wp execOp
  simp only [ho, hx, hy, Sem.run_bind, Sem.run_pure, Result.andThen_ok, hr]
  exact hK' _ _ (hK w' ho' (ext_grown hg))
set_option maxHeartbeats 400000 in
set_option maxRecDepth 100000 in
theorem head_any (B0 : Nat) (l : List WrT) (s : Sl) (w : World) (h : RowF B0 wrL 57 w s l) (hl : WrsIn l) (hT : Tabs w) :
    Calls Tryz.prog 75 #[.slice s.A s.n s.c] w fun e w' => e = .returned (.string (str (headP l))) ∧ Ext w w' := by
  have hn : s.n = l.length := h.k.row.1
  have hl32 := hl.1
  have hk4 : (⟨#[104, 105, 98, 106]⟩ : ByteArray) = str [104, 105, 98, 106] := rfl
  have HL := Lib.hid hl
  have HR := Lib.hid h
  have HT := Lib.hid hT
  clear h hT hl
  obtain ⟨A, n, c⟩ := s
  simp only at *
  subst hn
  have u0 : IntKind.u64.wrap (l.length : Int) = l.length := by rw [IntKind.wrap_u64]; omega
  have F0 := bld_fresh w
  have x0 : Ext w (w.alloc (.cells #[.pointer none, .slice none 0 0] 148)) := (Ext.refl w).alloc _
  have hsz0 : w.heap.size ≤ (w.alloc (.cells #[.pointer none, .slice none 0 0] 148)).heap.size := x0.size
  go_enter Tryz.func75, Tryz.ntmps75
  go_upto_region 2 with fail
  generalize w.alloc (.cells #[.pointer none, .slice none 0 0] 148) = w1 at *
  generalize hG : w.heap.size = G at *
  go_upto_region 3 with (go_at_call 105; refine (writeString_keeps G G [] [104, 105, 98, 106] w1 (.inl ⟨F0, rfl⟩) hsz0 (by simp) (by simp)).mono ?_; rintro e w2 ⟨rfl, f2, q2, _⟩)
  have x2 : Ext w w2 := x0.below q2 hG
  have z2 : G ≤ w2.heap.size := Nat.le_trans hsz0 q2.size
  rw [List.nil_append] at f2
  clear F0 x0 hsz0 q2
  go_upto_region 4 with (first
    | (go_at_call 120; refine (put2 (l.length : Int) _ (by omega) (by omega)).mono ?_; rintro e w3 ⟨rfl, x3⟩; have f3 := f2.ext x3; have hz3 := Nat.le_trans z2 x3.size)
    | (go_at_call 105; refine (writeString_keeps G G _ (two2 (l.length : Int)) w3 (.inr f3) hz3 (by simp) (by simp [two2])).mono ?_; rintro e w4 ⟨rfl, f4, q4, _⟩))
  have x4 : Ext w w4 := (x2.trans x3).below q4 hG
  have z4 : G ≤ w4.heap.size := Nat.le_trans hz3 q4.size
  clear x2 z2 f2 x3 f3 hz3 q4
  have HN0 := Lib.hid (show [104, 105, 98, 106] ++ two2 (l.length : Int) = [104, 105, 98, 106] ++ two2 (l.length : Int) ++ (l.take 0).flatMap (fun x => two2 x.1) by simp)
  rw [HN0.out] at f4
  go_upto_region 5 with (refine wp_make0 (c := l.length + 1) G rfl _ _ rfl rfl rfl (by omega) z4 ?_; intro w5 o5 x5)
  have f5 := f4.ext x5
  have z5 : G ≤ w5.heap.size := Nat.le_trans z4 x5.size
  have x5' := x4.trans x5
  clear x4 f4 x5 z4
  generalize w4.heap.size = g4 at *
  have v6 := strs_box1 w5 []
  have hk0 : (⟨#[]⟩ : ByteArray) = str [] := rfl
  have y5 : Ext w5 (w5.alloc (.cells #[.string (str [])] 9)) := (Ext.refl w5).alloc _
  have o5' := own_ext o5 y5
  have f5' := f5.ext y5
  have x5y := x5'.trans y5
  have z5' : G ≤ (w5.alloc (.cells #[.string (str [])] 9)).heap.size := Nat.le_trans z5 y5.size
  clear o5 f5 x5' z5
  go_upto_region 6 with (at_builtin; refine wp_app_strs G rfl _ _ rfl rfl rfl o5' v6 (by omega) z5' (by omega) ?_; intro u6 w6 o6 g6)
  have f6 := f5'.more o5' (by decide) (by decide) g6
  have x6 : Ext w w6 := x5y.grown g6 (fun k e => by rw [hG]; exact own_low o5' e)
  clear v6 y5 o5' f5' x5y z5' g6
  have hsm := HR.out.k.small
  simp only at hsm
  rw [Nat.zero_add, List.nil_append] at o6
  go_upto_region 7 with fail
  clear hk0
  go_loopw [4, 24] (fun u i wx => ∃ k : Nat, k ≤ l.length ∧ i = .int .i64 k ∧ Ext w wx ∧ wx.ownsRow G 9 1 u (k + 1) (strL ([] :: (l.take k).map (·.2))) ∧ Bld G G ([104, 105, 98, 106] ++ two2 (l.length : Int) ++ (l.take k).flatMap (fun x => two2 x.1)) wx) (fun _ i _ => l.length - (intOf i).toNat)
  case atStart => exact ⟨0, by omega, rfl, x6, o6, f6⟩
  case round =>
    clear x6 o6 f6 HN0
    obtain ⟨k, hk, rfl, xk, ok, fk⟩ := hrel
    by_cases hlt : k < l.length
    · have pk := HR.out.ext xk
      obtain ⟨b2, o2, hA, hcell⟩ := pk.k.row.wrs.2 (by show 0 < l.length; omega)
      subst hA
      have e1 := (hcell k hlt).1
      have e2 := (hcell k hlt).2
      have hki : (k : Int) < (l.length : Int) := by omega
      have HY := Lib.hid (HL.out.2 l[k] (List.getElem_mem _))
      have HT1 := Lib.hid (show (l.take (k + 1)).map (·.2) = (l.take k).map (·.2) ++ [l[k].2] by rw [List.take_succ_eq_append_getElem hlt, List.map_append]; rfl)
      have HT2 := Lib.hid (show (l.take (k + 1)).flatMap (fun x => two2 x.1) = (l.take k).flatMap (fun x => two2 x.1) ++ two2 l[k].1 by rw [List.take_succ_eq_append_getElem hlt, List.flatMap_append]; simp)
      have HLn := Lib.hid (show (([104, 105, 98, 106] : List UInt8) ++ two2 (l.length : Int) ++ (l.take k).flatMap (fun x : WrT => two2 x.1)).length ≤ 100000000000 by
        have h1 : ((l.take k).flatMap (fun x : WrT => two2 x.1)).length = 2 * (l.take k).length := by
          generalize l.take k = m
          induction m with
          | nil => rfl
          | cons x m ih => rw [List.flatMap_cons, List.length_append, ih]; simp [two2]; omega
        rw [List.length_append, h1, List.length_take]
        simp [two2]; omega)
      clear hcell
      generalize l[k] = y at *
      clear pk
      have hy0 : 0 ≤ y.1 := HY.out.1.1
      have hy1 : y.1 ≤ 65535 := HY.out.1.2
      have u1 : IntKind.u64.wrap y.1 = y.1 := by rw [IntKind.wrap_u64]; omega
      go_upto_region 9 with fail
      have y5 : Ext wr (wr.alloc (.cells #[.int .i64 y.1, .string (str y.2)] 57)) := (Ext.refl wr).alloc _
      have bw := Box.new wr 57 #[.int .i64 y.1, .string (str y.2)]
      have fk5 := fk.ext y5
      have ok5 := own_ext ok y5
      have zk : G ≤ wr.heap.size := by rw [← hG]; exact xk.size
      clear fk ok e1 e2
      generalize wr.alloc (.cells #[.int .i64 y.1, .string (str y.2)] 57) = w7 at *
      generalize wr.heap.size = gw at *
      have d0 : w7.cell? ⟨gw, 0, none⟩ = some (.int .i64 y.1) := bw.cell 0
      generalize hP : ([104, 105, 98, 106] : List UInt8) ++ two2 (l.length : Int) ++ (l.take k).flatMap (fun x : WrT => two2 x.1) = P at *
      have HP := Lib.hid hP
      clear hP
      have z7 : G ≤ w7.heap.size := by have := bw.lt; omega
      go_upto_region 10 with (first
        | (go_at_call 120; refine (put2 y.1 w7 hy0 hy1).mono ?_; rintro e w8 ⟨rfl, x8⟩; have f8 := fk5.ext x8; have o8 := own_ext ok5 x8; have b8 := bw.ext x8; have z8 := Nat.le_trans z7 x8.size)
        | (go_at_call 105; refine (writeString_keeps G G P (two2 y.1) w8 (.inr f8) z8 HLn.out (by simp [two2])).mono ?_; rintro e w9 ⟨rfl, f9, q9, k9⟩))
      obtain ⟨cs8, bb8⟩ := f8.box
      have o9 := own_kept8 o8 k9 bb8 (by decide) (by decide)
      have b9 := box_kept b8 k9 (b8.ne bb8 (by decide)) (by decide)
      have x9 : Ext w w9 := ((xk.trans y5).trans x8).below q9 hG
      have z9 : G ≤ w9.heap.size := Nat.le_trans z8 q9.size
      clear f8 o8 b8 z8 q9 k9 bb8 fk5 ok5 bw d0 z7 y5 x8 xk
      have d1 : w9.cell? ⟨gw, 1, none⟩ = some (.string (str y.2)) := b9.cell 1
      have v9 := strs_box1 w9 y.2
      have y9 : Ext w9 (w9.alloc (.cells #[.string (str y.2)] 9)) := (Ext.refl w9).alloc _
      have o9' := own_ext o9 y9
      have f9' := f9.ext y9
      have x9y := x9.trans y9
      have z9' : G ≤ (w9.alloc (.cells #[.string (str y.2)] 9)).heap.size := Nat.le_trans z9 y9.size
      clear o9 f9 x9 z9
      go_wp2_with (at_builtin; refine wp_app_strs G rfl _ _ rfl rfl rfl o9' v9 (by omega) z9' (by omega) ?_; intro u10 w10 o10 g10)
      have f10 := f9'.more o9' (by decide) (by decide) g10
      have x10 := x9y.grown g10 (fun k e => by rw [hG]; exact own_low o9' e)
      clear g10 o9' f9' x9y y9 v9
      go_roundw
      case rel => exact ⟨k + 1, by omega, by go_num, x10, by rw [HT1.out]; exact o10, by rw [HT2.out, ← List.append_assoc, HP.out]; exact f10⟩
      case measure => simp [intOf]; omega
    · obtain rfl : k = l.length := by omega
      rw [List.take_length] at ok fk
      have hNL := namesP_len l
      rw [show [104, 105, 98, 106] ++ two2 (l.length : Int) ++ l.flatMap (fun x => two2 x.1) = namesP l from rfl] at fk
      have zk : G ≤ wr.heap.size := by rw [← hG]; exact xk.size
      go_upto_region 13 with (first
        | (go_at_call 107; refine (bldString_any G G (namesP l) wr fk zk).mono ?_; rintro e w8 ⟨rfl, q8, k8⟩)
        | (go_at_call 121; refine (filled_any (namesP l) 70 w8 (by omega) (by omega)).mono ?_; rintro e w9 ⟨rfl, x9⟩))
      obtain ⟨csk, bbk⟩ := fk.box
      have o9 := own_ext (own_kept8 ok k8 bbk (by decide) (by decide)) x9
      have z8 : G ≤ w8.heap.size := Nat.le_trans zk q8.size
      have x9' : Ext w w9 := (xk.below q8 hG).trans x9
      clear ok k8 bbk fk xk q8 x9 zk z8
      rw [show fillP (namesP l) 70 = hfirP l from rfl]
      obtain ⟨g, cap, rfl, hg, _⟩ := Strs.own' o9 (by omega)
      have c9 : w9.cell? ⟨g, 0, none⟩ = some (.string (str [])) := o9.cellAt 0 (by omega)
      have fr9 := o9.frozenAt 0
      have o10 := own_set (i := 0) o9 (hfirP l)
      rw [List.set_cons_zero] at o10
      have x10 := x9'.setCell (p := ⟨g, 0, none⟩) (by rw [hG]; exact hg) (.string (str (hfirP l)))
      go_upto_region 14 with fail
      clear c9 fr9 o9 x9'
      generalize w9.setCell ⟨g, 0, none⟩ (.string (str (hfirP l))) = w10 at *
      obtain ⟨g', cap', hsl, _, s10⟩ := Strs.own' o10 (by omega)
      injection hsl with e1 _ _
      rw [← e1] at s10
      clear o10 e1
      have HB := headBytes HL.out
      have T10 := HT.out.ext x10
      have HD := Lib.hid (show headP l = fillP (hfirP l ++ digL (hfirP l :: l.map (·.2)).flatten) 128 from rfl)
      have hf70 := hfirP_len HL.out
      generalize hB : (hfirP l :: l.map (·.2)).flatten = B at *
      go_upto_region 15 with (first
        | (go_at_call 122; refine (sum_any _ _ _ _ w10 s10 (by rw [hB]; exact HB) (by omega) T10).mono ?_; rw [hB]; rintro e w11 ⟨rfl, x11⟩)
        | (refine wp_st_dig (.tmp 8) (.tmp 45) rfl rfl w11.heap.size _ _ 169 rfl rfl (Box.new _ _ _) (by kernel_rfl) ?_; intro w12 b12 g12))
      have y12 : Ext w11 w12 := ((Ext.refl w11).alloc _).grown g12 (fun j e => by cases e; exact Nat.le_refl _)
      have x12 := (x10.trans x11).trans y12
      have hc := conv_dig (show Box w12 w11.heap.size 169 (digA startP B) from b12) 32
      have hdl := digL_len B
      have hap := str_app
      have hz := str_size
      clear b12 g12 y12 x10 x11 s10 T10
      generalize w11.heap.size = g11 at *
      generalize digL B = D at *
      go_wp2_with (go_at_call 121; refine (filled_any (hfirP l ++ D) 128 w12 (by rw [List.length_append]; omega) (by omega)).mono ?_; rintro e w13 ⟨rfl, x13⟩)
      go_ret
      exact ⟨by rw [HD.out]; rfl, x12.trans x13⟩
end Go.Proofs.YtkokmnaicfdjaaaGreatDoor
/- A journal's head, by the document. -/
namespace Go.Proofs.YtkokmnaicfdjaaaGreatDoor
set_option linter.unusedVariables false
set_option linter.unusedSimpArgs false
open Go.RowKit

set_option maxHeartbeats 400000 in
set_option maxRecDepth 100000 in
theorem rhead16_any (B0 : Nat) (l : List WrT) (s : Sl) (w : World) (h : RowF B0 wrL 57 w s l) (hl : WrsIn l) (hpos : 0 < l.length) :
    Calls Tryz.prog 82 #[.slice s.A s.n s.c] w fun e w' => e = .returned (.string (str (headP l))) ∧ Ext w w' := by
  have hn : s.n = l.length := h.k.row.1
  have hl32 := hl.1
  have hk4 : (⟨#[104, 105, 98, 106]⟩ : ByteArray) = str [104, 105, 98, 106] := rfl
  have hz := str_size
  have hap := str_app
  have HL := Lib.hid hl
  have HR := Lib.hid h
  clear h hl
  obtain ⟨A, n, c⟩ := s
  simp only at *
  subst hn
  have u0 : IntKind.u64.wrap (l.length : Int) = l.length := by rw [IntKind.wrap_u64]; omega
  have hsm := HR.out.k.small
  simp only at hsm
  go_enter Tryz.func82, Tryz.ntmps82
  go_upto_region 2 with (go_at_call 126; refine (rput2 (l.length : Int) _ (by omega) (by omega)).mono ?_; rintro e w1 ⟨rfl, x1⟩)
  go_upto_region 4 with fail
  have o2 : (w1.alloc (.cells #[] 9)).ownsRow w1.heap.size 9 1 (.slice (some ⟨w1.heap.size, 0, none⟩) 0 0) 0 (strL []) := World.ownsRow_lit (base := w1.heap.size) (e := 9) (size := 1) w1 #[] 0 (by simp) (by decide) rfl
  have x2 := x1.trans ((Ext.refl w1).alloc (.cells #[] 9))
  have hG : w.heap.size ≤ w1.heap.size := x1.size
  clear x1 hk4
  go_loopw [3, 4, 15] (fun s u i wx => ∃ k : Nat, k ≤ l.length ∧ i = .int .i64 k ∧ s = .string (str ([104, 105, 98, 106] ++ two2 (l.length : Int) ++ (l.take k).flatMap (fun x => two2 x.1))) ∧ Ext w wx ∧ w1.heap.size ≤ wx.heap.size ∧ wx.ownsRow w1.heap.size 9 1 u k (strL ((l.take k).map (·.2)))) (fun _ _ i _ => l.length - (intOf i).toNat)
  case atStart => exact ⟨0, by omega, rfl, by simp [two2], x2, by rw [World.size_alloc]; omega, o2⟩
  case round =>
    clear x2 o2
    obtain ⟨k, hk, rfl, rfl, xk, zk, ok⟩ := hrel
    by_cases hlt : k < l.length
    · have pk := HR.out.ext xk
      obtain ⟨b2, o2, hA, hcell⟩ := pk.k.row.wrs.2 (by show 0 < l.length; omega)
      subst hA
      have e1 := (hcell k hlt).1
      have e2 := (hcell k hlt).2
      have hki : (k : Int) < (l.length : Int) := by omega
      have HY := Lib.hid (HL.out.2 l[k] (List.getElem_mem _))
      have HT1 := Lib.hid (show (l.take (k + 1)).map (·.2) = (l.take k).map (·.2) ++ [l[k].2] by rw [List.take_succ_eq_append_getElem hlt, List.map_append]; rfl)
      have HT2 := Lib.hid (show (l.take (k + 1)).flatMap (fun x => two2 x.1) = (l.take k).flatMap (fun x => two2 x.1) ++ two2 l[k].1 by rw [List.take_succ_eq_append_getElem hlt, List.flatMap_append]; simp)
      have HLn := (show (([104, 105, 98, 106] : List UInt8) ++ two2 (l.length : Int) ++ (l.take k).flatMap (fun x : WrT => two2 x.1)).length ≤ 100000000000 by
        have h1 : ((l.take k).flatMap (fun x : WrT => two2 x.1)).length = 2 * (l.take k).length := by
          generalize l.take k = m
          induction m with
          | nil => rfl
          | cons x m ih => rw [List.flatMap_cons, List.length_append, ih]; simp [two2]; omega
        rw [List.length_append, h1, List.length_take]
        simp [two2]; omega)
      clear hcell pk
      generalize l[k] = y at *
      have hy0 : 0 ≤ y.1 := HY.out.1.1
      have hy1 : y.1 ≤ 65535 := HY.out.1.2
      have u1 : IntKind.u64.wrap y.1 = y.1 := by rw [IntKind.wrap_u64]; omega
      generalize hP : ([104, 105, 98, 106] : List UInt8) ++ two2 (l.length : Int) ++ (l.take k).flatMap (fun x : WrT => two2 x.1) = P at *
      have HP := Lib.hid hP
      clear hP
      go_upto_region 7 with (go_at_call 126; refine (rput2 y.1 wr hy0 hy1).mono ?_; rintro e w8 ⟨rfl, x8⟩)
      have e28 := x8.keep e2
      have xk8 := xk.trans x8
      have ok8 := own_ext ok x8
      have x8s := x8.size
      clear e1 e2 ok xk x8
      have v9 := strs_box1 w8 y.2
      have y9 : Ext w8 (w8.alloc (.cells #[.string (str y.2)] 9)) := (Ext.refl w8).alloc _
      have o9' := own_ext ok8 y9
      have x9y := xk8.trans y9
      have z9' : w1.heap.size ≤ (w8.alloc (.cells #[.string (str y.2)] 9)).heap.size := Nat.le_trans (Nat.le_trans zk x8s) y9.size
      clear ok8 xk8
      go_wp2_with (at_builtin; refine wp_app_strs w1.heap.size rfl _ _ rfl rfl rfl o9' v9 (by omega) z9' (by omega) ?_; intro u10 w10 o10 g10)
      have x10 := x9y.grown g10 (fun k e => by have := own_low o9' e; omega)
      have g10s := g10.size
      clear g10 o9' x9y y9 v9
      go_roundw
      case rel => exact ⟨k + 1, by omega, by go_num, by rw [HT2.out, ← List.append_assoc, HP.out]; rfl, x10, Nat.le_trans z9' g10s, by rw [HT1.out]; exact o10⟩
      case measure => simp [intOf]; omega
    · obtain rfl : k = l.length := by omega
      rw [List.take_length] at ok
      rw [List.take_length]
      have hNL := namesP_len l
      rw [show [104, 105, 98, 106] ++ two2 (l.length : Int) ++ l.flatMap (fun x => two2 x.1) = namesP l from rfl]
      have hNB : (namesP l).length ≤ 70 := by omega
      have hzl := zs_len
      have HZ := Lib.hid (fun w => zeros16_any (70 - (namesP l).length) w (by omega))
      rw [show ((70 - (namesP l).length : Nat) : Int) = 70 - ((namesP l).length : Int) by omega] at HZ
      clear hNL
      have HF := Lib.hid (show namesP l ++ zs (70 - (namesP l).length) = hfirP l from rfl)
      go_upto_region 10 with (go_at_call 127; refine (HZ.out _).mono ?_; rintro e w8 ⟨rfl, rfl⟩)
      rw [HF.out]
      have y8 : Ext wr (wr.alloc (.cells #[.string (str (hfirP l))] 9)) := (Ext.refl wr).alloc _
      have o8 : (wr.alloc (.cells #[.string (str (hfirP l))] 9)).ownsRow wr.heap.size 9 1 (.slice (some ⟨wr.heap.size, 0, none⟩) 1 1) 1 (strL [hfirP l]) := own_of_box (Box.new wr 9 #[.string (str (hfirP l))]) rfl (Nat.le_refl _) (by unfold maxLen; omega)
      obtain ⟨ga, ca, rfl, _, sa⟩ := Strs.own' ok hpos
      have sa8 := sa.ext y8
      have z8 : wr.heap.size ≤ (wr.alloc (.cells #[.string (str (hfirP l))] 9)).heap.size := y8.size
      have x8 := xk.trans y8
      have hxk := xk.size
      clear ok sa y8
      have HB := headBytes HL.out
      have HD := Lib.hid (show headP l = fillP (hfirP l ++ digL (hfirP l :: l.map (·.2)).flatten) 128 from rfl)
      have hf70 := hfirP_len HL.out
      generalize hB : (hfirP l :: l.map (·.2)).flatten = B at *
      go_upto_region 11 with (first
        | (at_builtin; refine wp_app_strs wr.heap.size rfl _ _ rfl rfl rfl o8 sa8 (by omega) z8 (by omega) ?_; intro u10 w10 o10 g10; rw [List.singleton_append] at o10; obtain ⟨g', cap', rfl, _, s10⟩ := Strs.own' o10 (by omega); have x10 := x8.grown g10 (fun k e => by have := own_low o8 e; omega))
        | (go_at_call 128; refine (sum02_any _ _ _ _ w10 s10 (by rw [hB]; exact HB) (by omega)).mono ?_; rw [hB]; rintro e w11 ⟨rfl, x11⟩)
        | (refine wp_st_dig (.tmp 6) (.tmp 46) rfl rfl w11.heap.size _ _ 169 rfl rfl (Box.new _ _ _) (by kernel_rfl) ?_; intro w12 b12 g12))
      have y12 : Ext w11 w12 := ((Ext.refl w11).alloc _).grown g12 (fun j e => by cases e; exact Nat.le_refl _)
      have x12 := (x10.trans x11).trans y12
      have hc : ∀ x : Later w12, (convert 101 9 (.slice (some ⟨w11.heap.size, 0, none⟩) 32 32)).run Tryz.prog x.now = .ok (.string (str (digL B))) x.now := fun x => conv_dig (Box.ext (show Box w12 w11.heap.size 169 (digA startP B) from b12) x.ext) 32
      have hdl := digL_len B
      clear b12 g12 y12 x10 x11 s10 o10 g10 o8 sa8 z8 x8
      generalize w11.heap.size = g11 at *
      generalize digL B = D at *
      have HE := Lib.hid (show headP l = hfirP l ++ (D ++ zs 26) by rw [HD.out]; unfold fillP; rw [List.length_append, hf70, hdl, List.append_assoc])
      go_wp2_with fail
      refine wp_region_later (by kernel_rfl) (by kernel_rfl) ?_
      simp only [Act.put]
      repeat (go_big_quiet_step ((with_reducible exact later_of_same (zeros16_any 26 _ (by omega)))))
      refine wpQuiet_nil ?_
      rintro w13 ⟨x, rfl⟩
      clear hc
      go_wp2_with fail
      go_ret
      exact ⟨by rw [HE.out]; rfl, x12.trans x.ext⟩
end Go.Proofs.YtkokmnaicfdjaaaGreatDoor
/- Drives: a block put, by the program. -/
namespace Go.Proofs.YtkokmnaicfdjaaaGreatDoor
set_option linter.unusedVariables false
set_option linter.unusedSimpArgs false
open Go.RowKit

def leftP (x : Int) : Int := if 0 < x then x - 1 else x
/-- a block put: the drive, the error -/
def putDP (D : DrvD) (i : Int) (s : List UInt8) : DrvD × Int := if D.left = 0 then (D, 17) else (⟨D.bl, D.pe ++ [(i, s)], leftP D.left⟩, 0)
theorem wp_app_wr {B0 : Nat} {ops : Array Oper} {rest : List Oper} {o : Oper} {a : Act} {w : World} {Q : Exit → Act → World → Prop} {B g : Nat} (s : Sl) {l : List WrT} {y : WrT} (hgd : o.guard = none) (sl x : Operand)
    (ho : o.op = .call { callee := .builtin .append, args := #[sl, x], argTypes := #[26, 26] }) (hs : a.eval sl = .slice s.A s.n s.c) (hx : a.eval x = .slice (some ⟨g, 0, none⟩) 1 1)
    (h0 : w.ownsRow B 57 2 (.slice s.A s.n s.c) s.n (l.flatMap wrL)) (hl : s.n = l.length) (hb : Box w g 57 (wrL y).toArray) (hn : s.n ≤ 99999) (hB : B ≤ w.heap.size)
    (hK : ∀ (s' : Sl) (w' : World), s'.n = s.n + 1 → RowF B0 wrL 57 w' s' (l ++ [y]) → w'.ownsRow B 57 2 (.slice s'.A s'.n s'.c) s'.n ((l ++ [y]).flatMap wrL) → w.grownBy w' (Value.slice s.A s.n s.c).ownBlock → wpList Tryz.prog ops Q rest (a.put o.dst (.slice s'.A s'.n s'.c)) w') : wpList Tryz.prog ops Q (o :: rest) a w := by
  refine wpList_plain hgd fun K hK' => ?_
  obtain ⟨i, hi, hz, h1, h2⟩ := info_parts wrInfo
  obtain ⟨v', w', hr, ho2, hg, _, _⟩ := run_append_own_at (P := Tryz.prog) w B 26 o.type 57 i _ 2 24 Tryz.underlying26 hi hz h1 h2 rfl (by decide) (.slice s.A s.n s.c) s.n (l.flatMap wrL) h0 ⟨g, 0, none⟩ 1 1 (wrL y) rfl (fun j u hj => by
    have ha : (⟨g, 0, none⟩ : Addr).add j = ⟨g, j, none⟩ := by unfold Addr.add; split <;> simp_all
    rw [ha, hb.cell j]; simpa using hj) (wrL_one y) (by unfold maxLen; omega) (by omega) hB
  unfold Oper.wp execOp
  simp only [ho, resolve, invoke, builtin, Sem.run_bind, Sem.run_pure, Result.andThen_ok, List.map_toArray, List.map_cons, List.map_nil, hs, hx, hr]
  obtain ⟨s', rfl, hs', hk'⟩ := own_sl ho2
  have e : l.flatMap wrL ++ wrL y = (l ++ [y]).flatMap wrL := by rw [List.flatMap_append]; simp
  rw [e] at ho2
  have hR := own_row ho2 (fun x _ => wrL_len x) (by rw [List.length_append, hl]; rfl) hs'
  rw [← hs'] at ho2
  exact hK' _ _ (hK s' w' hs' (RowF.own hR hk' (by omega) ho2) ho2 hg)
theorem wr_one {w : World} {i : Int} {s : List UInt8} : Box (w.alloc (.cells #[.int .i64 i, .string (str s)] 57)) w.heap.size 57 (wrL (i, s)).toArray := Box.new _ _ _
theorem RowF.keeps {α : Type} {B0 : Nat} {f : α → List Value} {T : TypeId} {w w' : World} {s : Sl} {l : List α} {row : Option Nat} (h : RowF B0 f T w s l) (hk : ∀ b cs, Box w b T cs → some b ≠ row) (hg : w.grownBy w' row) (hB : ∀ k, row = some k → B0 ≤ k) : RowF B0 f T w' s l :=
  h.keepsB hk hB hg
set_option maxHeartbeats 2000000 in
set_option maxRecDepth 100000 in
theorem dput_any (B0 : Nat) (D : DrvD) (v : Value) (i : Nat) (s : List UInt8) (w : World) (hB0 : B0 ≤ w.heap.size) (hv : drvV B0 D w v) (hi : i < D.bl.length) (hs : s.length = 128) (hp : D.pe.length ≤ 90000) (hL : D.left ≤ 9223372036854775807) :
    Calls Tryz.prog 119 #[v, .int .i64 (i : Int), .string (str s)] w fun e w' => ∃ v', e = .returned (.tuple #[v', .int .i64 (putDP D i s).2]) ∧ drvV B0 (putDP D i s).1 w' v' ∧ Ext w w' := by
  obtain ⟨bl, pe, rfl, kb, kp⟩ := hv
  have hz := str_size
  have hbn := kb.k.row.1
  have hpn := kp.k.row.1
  have HH := Lib.hid (fun w => has_any bl.A pe.A bl.n bl.c pe.n pe.c D.left (i : Int) w)
  rw [show decide (0 ≤ (i : Int) ∧ (i : Int) < (bl.n : Int)) = true by simp; omega] at HH
  have HC := Lib.hid (fun w h0 h1 h2 => dcopied_any B0 bl pe D.left D.bl D.pe w h0 h1 h2)
  have hs' : ((s.length : Int) != 128) = false := by rw [hs]; rfl
  have KB := Lib.hid kb
  have KP := Lib.hid kp
  have HBN := Lib.hid hbn
  have HPN := Lib.hid hpn
  clear kb kp hbn hpn
  obtain ⟨B, p, left⟩ := D
  simp only at *
  have b0 := Box.new w 28 #[.slice bl.A bl.n bl.c, .slice pe.A pe.n pe.c, .int .i64 left]
  have r0 := Box.new (w.alloc (.cells #[.slice bl.A bl.n bl.c, .slice pe.A pe.n pe.c, .int .i64 left] 28)) 28 #[.slice none 0 0, .slice none 0 0, .int .i64 0]
  have x0 := ((Ext.refl w).alloc (.cells #[.slice bl.A bl.n bl.c, .slice pe.A pe.n pe.c, .int .i64 left] 28)).alloc (.cells #[.slice none 0 0, .slice none 0 0, .int .i64 0] 28)
  have b1 := b0.ext ((Ext.refl _).alloc (.cells #[.slice none 0 0, .slice none 0 0, .int .i64 0] 28))
  rw [World.size_alloc] at r0
  clear b0
  go_enter Tryz.func119, Tryz.ntmps119
  go_upto_region 1 with fail
  generalize (w.alloc (.cells #[.slice bl.A bl.n bl.c, .slice pe.A pe.n pe.c, .int .i64 left] 28)).alloc (.cells #[.slice none 0 0, .slice none 0 0, .int .i64 0] 28) = w1 at *
  generalize hG : w.heap.size = G at *
  go_upto_region 6 with (first
    | (refine wp_ld_drv (.tmp 3) rfl rfl G _ _ rfl b1 rfl ?_)
    | (refine wp_ld_drv (.tmp 3) rfl rfl G _ _ rfl b2 rfl ?_)
    | (go_at_call 124; refine (HH.out _).mono ?_; rintro e w2 ⟨rfl, x2⟩; have b2 := b1.ext x2)
    | (go_at_call 123; refine (HC.out _ (by have := (x0.trans x2).size; omega) (KB.out.ext (x0.trans x2)).k (KP.out.ext (x0.trans x2)).k).mono ?_; rintro e w3 ⟨v3, rfl, ⟨bl3, pe3, rfl, kb3, kp3, ob3, op3⟩, x3⟩)
    | (refine wp_st_drv (.tmp 8) (.tmp 19) rfl rfl w3.heap.size bl3 pe3 left _ 28 rfl rfl (Box.new _ _ _) rfl ?_; intro w4 b4 g4))
  have y4 : Ext w3 w4 := ((Ext.refl w3).alloc _).grown g4 (fun j e => by cases e; exact Nat.le_refl _)
  have kb4 := kb3.ext y4
  have kp4 := kp3.ext y4
  have ob4 := own_ext ob3 y4
  have op4 := own_ext op3 y4
  have x4 := ((x0.trans x2).trans x3).trans y4
  have r4 := ((r0.ext x2).ext x3).ext y4
  have hlt2 : G + 1 < w2.heap.size := (r0.ext x2).lt
  have hg2 : w2.heap.size ≤ w3.heap.size := x3.size
  have hsz4 : w2.heap.size ≤ w4.heap.size := Nat.le_trans hg2 y4.size
  clear kb3 kp3 ob3 op3 x0 x2 x3 y4 r0 b1 b2 g4 HH HC
  generalize w3.heap.size = g at *
  generalize w2.heap.size = B2 at *
  have c1 : w4.cell? ⟨g, 1, none⟩ = some (.slice pe3.A pe3.n pe3.c) := b4.cell 1
  have c2 : w4.cell? ⟨g, 2, none⟩ = some (.int .i64 left) := b4.cell 2
  by_cases hl0 : left = 0
  · subst hl0
    have hP := Lib.hid (show putDP ⟨B, p, 0⟩ (i : Int) s = (⟨B, p, 0⟩, 17) from rfl)
    go_wp2_with (first
      | (refine wp_ld_drv (.tmp 8) rfl rfl g _ _ rfl b4 rfl ?_)
      | (refine wp_st_drv (.tmp 6) (.tmp 23) rfl rfl (G + 1) bl3 pe3 0 _ 28 rfl rfl r4 rfl ?_; intro w5 b5 g5))
    refine bodyPost_ret (results_cell2 rfl _ _ (G + 1) _ _ _ (.int .i64 17) rfl rfl b5 Tryz.underlying28 rfl drvSize) rfl ?_
    rw [hP.out]
    exact ⟨_, rfl, ⟨bl3, pe3, rfl, kb4.grown (by decide) r4 g5, kp4.grown (by decide) r4 g5⟩, x4.grown g5 (fun j e => by cases e; omega)⟩
  · have hl0' : (left == 0) = false := by simpa using hl0
    have hP := Lib.hid (show putDP ⟨B, p, left⟩ (i : Int) s = (⟨B, p ++ [((i : Int), s)], leftP left⟩, 0) by unfold putDP; rw [if_neg hl0])
    clear hl0
    go_upto_region 9 with (at_builtin; refine wp_app_wr (B0 := B0) (B := B2) (y := ((i : Int), s)) pe3 rfl _ _ rfl rfl rfl (own_ext op4 ((Ext.refl w4).alloc _)) kp4.k.row.1 wr_one (by have := kp4.k.row.1; omega) (by rw [World.size_alloc]; omega) ?_; intro s6 w6 hn6 k6 o6 g6; have HN6 := Lib.hid hn6; clear hn6; have z6 := own_ext op4 ((Ext.refl w4).alloc (.cells #[.int .i64 (i : Int), .string (str s)] 57)); have b6 := (b4.ext ((Ext.refl w4).alloc (.cells #[.int .i64 (i : Int), .string (str s)] 57))).grown g6 (own_ne z6 (b4.ext ((Ext.refl w4).alloc _)) (by decide)); have c61 : w6.cell? ⟨g, 1, none⟩ = some (.slice pe3.A pe3.n pe3.c) := b6.cell 1; have f61 := b6.frozen 1)
    have y5 : Ext w4 (w4.alloc (.cells #[.int .i64 (i : Int), .string (str s)] 57)) := (Ext.refl w4).alloc _
    have r6 := (r4.ext y5).grown g6 (own_ne z6 (r4.ext y5) (by decide))
    have x6 : Ext w w6 := (x4.trans y5).grown g6 (fun k e => by have := own_low z6 e; omega)
    have kb6 := (kb4.ext y5).keeps (fun b cs hb => own_ne z6 hb (by decide)) g6 (fun k e => by have := own_low z6 e; omega)
    have b7 := b6.set 1 (.slice s6.A s6.n s6.c)
    have x7 := x6.setCell (p := ⟨g, 1, none⟩) (by rw [hG]; show G ≤ g; omega) (.slice s6.A s6.n s6.c)
    have r7 := r6.setOther (show G + 1 ≠ g by omega) (i := 1) (.slice s6.A s6.n s6.c)
    have gg7 : w6.grownBy (w6.setCell ⟨g, 1, none⟩ (.slice s6.A s6.n s6.c)) (some g) := grown_cells (g := g) [.slice s6.A s6.n s6.c] 1 w6
    have kb7 := kb6.grown (by decide) b6 gg7
    have kp7 := k6.grown (by decide) b6 gg7
    generalize w6.setCell ⟨g, 1, none⟩ (.slice s6.A s6.n s6.c) = w7 at *
    clear kb6 k6 b6 x6 r6 gg7 z6 y5 c61 f61 g6 o6 kb4 kp4 ob4 op4 r4 x4 c1 c2 b4
    have b7' : Box w7 g 28 (drvC bl3 s6 left) := b7
    clear b7
    have c2 : w7.cell? ⟨g, 2, none⟩ = some (.int .i64 left) := b7'.cell 2
    have f2 := b7'.frozen 2
    by_cases hpos : 0 < left
    · have dp : decide (0 < left) = true := decide_eq_true hpos
      have HPL := Lib.hid (show leftP left = left - 1 by unfold leftP; rw [if_pos hpos])
      have b8 : Box (w7.setCell ⟨g, 2, none⟩ (.int .i64 (left - 1))) g 28 (drvC bl3 s6 (left - 1)) := b7'.set 2 _
      have x8 := x7.setCell (p := ⟨g, 2, none⟩) (by rw [hG]; show G ≤ g; omega) (.int .i64 (left - 1))
      have r8 := r7.setOther (show G + 1 ≠ g by omega) (i := 2) (.int .i64 (left - 1))
      have gg8 : w7.grownBy (w7.setCell ⟨g, 2, none⟩ (.int .i64 (left - 1))) (some g) := grown_cells (g := g) [.int .i64 (left - 1)] 2 w7
      have kb8 := kb7.grown (by decide) b7' gg8
      have kp8 := kp7.grown (by decide) b7' gg8
      clear gg8 kb7 kp7 x7 r7
      go_wp2_with (first
        | (refine wp_ld_drv (.tmp 8) rfl rfl g _ _ rfl b8 rfl ?_)
        | (refine wp_st_drv (.tmp 6) (.tmp 39) rfl rfl (G + 1) bl3 s6 (left - 1) _ 28 rfl rfl r8 rfl ?_; intro w9 b9 g9))
      refine bodyPost_ret (results_cell2 rfl _ _ (G + 1) _ _ _ (.int .i64 0) rfl rfl b9 Tryz.underlying28 rfl drvSize) rfl ?_
      rw [hP.out, HPL.out]
      exact ⟨_, rfl, ⟨bl3, s6, rfl, kb8.grown (by decide) r8 g9, kp8.grown (by decide) r8 g9⟩, x8.grown g9 (fun j e => by cases e; omega)⟩
    · have dp : decide (0 < left) = false := decide_eq_false hpos
      have HPL := Lib.hid (show leftP left = left by unfold leftP; rw [if_neg hpos])
      go_wp2_with (first
        | (refine wp_ld_drv (.tmp 8) rfl rfl g _ _ rfl b7' rfl ?_)
        | (refine wp_st_drv (.tmp 6) (.tmp 39) rfl rfl (G + 1) bl3 s6 left _ 28 rfl rfl r7 rfl ?_; intro w9 b9 g9))
      refine bodyPost_ret (results_cell2 rfl _ _ (G + 1) _ _ _ (.int .i64 0) rfl rfl b9 Tryz.underlying28 rfl drvSize) rfl ?_
      rw [hP.out, HPL.out]
      exact ⟨_, rfl, ⟨bl3, s6, rfl, kb7.grown (by decide) r7 g9, kp7.grown (by decide) r7 g9⟩, x7.grown g9 (fun j e => by cases e; omega)⟩
end Go.Proofs.YtkokmnaicfdjaaaGreatDoor
/- Drives: flushed, by the program. -/
namespace Go.Proofs.YtkokmnaicfdjaaaGreatDoor
set_option linter.unusedVariables false
set_option linter.unusedSimpArgs false
open Go.RowKit

theorem flatSt (l : List (List UInt8)) : l.flatMap stL = strL l := by
  induction l with
  | nil => rfl
  | cons x l ih => rw [List.flatMap_cons, ih]; rfl
/-- all is sure: the drive, the error -/
def flushDP (D : DrvD) : DrvD × Int := if D.left = 0 then (D, 17) else (⟨D.pe.foldl layP D.bl, [], leftP D.left⟩, 0)
set_option maxHeartbeats 4000000 in
set_option maxRecDepth 100000 in
theorem dflush_any (B0 : Nat) (D : DrvD) (v : Value) (w : World) (hB0 : B0 ≤ w.heap.size) (hv : drvV B0 D w v) (hpos : 0 < D.bl.length) (hL : D.left ≤ 9223372036854775807) :
    Calls Tryz.prog 76 #[v] w fun e w' => ∃ v', e = .returned (.tuple #[v', .int .i64 (flushDP D).2]) ∧ drvV B0 (flushDP D).1 w' v' ∧ Ext w w' := by
  obtain ⟨bl, pe, rfl, kb, kp⟩ := hv
  have HC := Lib.hid (fun w h0 h1 h2 => dcopied_any B0 bl pe D.left D.bl D.pe w h0 h1 h2)
  have KB := Lib.hid kb
  have KP := Lib.hid kp
  clear kb kp
  obtain ⟨B, p, left⟩ := D
  simp only at *
  have b0 := Box.new w 28 #[.slice bl.A bl.n bl.c, .slice pe.A pe.n pe.c, .int .i64 left]
  have r0 := Box.new (w.alloc (.cells #[.slice bl.A bl.n bl.c, .slice pe.A pe.n pe.c, .int .i64 left] 28)) 28 #[.slice none 0 0, .slice none 0 0, .int .i64 0]
  have x0 := ((Ext.refl w).alloc (.cells #[.slice bl.A bl.n bl.c, .slice pe.A pe.n pe.c, .int .i64 left] 28)).alloc (.cells #[.slice none 0 0, .slice none 0 0, .int .i64 0] 28)
  have b1 := b0.ext ((Ext.refl _).alloc (.cells #[.slice none 0 0, .slice none 0 0, .int .i64 0] 28))
  rw [World.size_alloc] at r0
  clear b0
  go_enter Tryz.func76, Tryz.ntmps76
  go_upto_region 1 with fail
  generalize (w.alloc (.cells #[.slice bl.A bl.n bl.c, .slice pe.A pe.n pe.c, .int .i64 left] 28)).alloc (.cells #[.slice none 0 0, .slice none 0 0, .int .i64 0] 28) = w1 at *
  generalize hG : w.heap.size = G at *
  go_upto_region 2 with (first
    | (refine wp_ld_drv (.tmp 1) rfl rfl G _ _ rfl b1 rfl ?_)
    | (go_at_call 123; refine (HC.out _ (by have := x0.size; omega) (KB.out.ext x0).k (KP.out.ext x0).k).mono ?_; rintro e w3 ⟨v3, rfl, ⟨bl3, pe3, rfl, kb3, kp3, ob3, op3⟩, x3⟩)
    | (refine wp_st_drv (.tmp 4) (.tmp 8) rfl rfl w3.heap.size bl3 pe3 left _ 28 rfl rfl (Box.new _ _ _) rfl ?_; intro w4 b4 g4))
  have y4 : Ext w3 w4 := ((Ext.refl w3).alloc _).grown g4 (fun j e => by cases e; exact Nat.le_refl _)
  have kb4 := kb3.ext y4
  have kp4 := kp3.ext y4
  have ob4 := own_ext ob3 y4
  have x4 := (x0.trans x3).trans y4
  have r4 := (r0.ext x3).ext y4
  have hlt2 : G + 1 < w1.heap.size := r0.lt
  have hg2 : w1.heap.size ≤ w3.heap.size := x3.size
  clear kb3 kp3 ob3 op3 x0 x3 y4 r0 b1 g4 HC
  generalize w3.heap.size = g at *
  generalize w1.heap.size = B2 at *
  have c2 : w4.cell? ⟨g, 2, none⟩ = some (.int .i64 left) := b4.cell 2
  by_cases hl0 : left = 0
  · subst hl0
    have hP := Lib.hid (show flushDP ⟨B, p, 0⟩ = (⟨B, p, 0⟩, 17) from rfl)
    go_wp2_with (first
      | (refine wp_ld_drv (.tmp 4) rfl rfl g _ _ rfl b4 rfl ?_)
      | (refine wp_st_drv (.tmp 2) (.tmp 12) rfl rfl (G + 1) bl3 pe3 0 _ 28 rfl rfl r4 rfl ?_; intro w5 b5 g5))
    refine bodyPost_ret (results_cell2 rfl _ _ (G + 1) _ _ _ (.int .i64 17) rfl rfl b5 Tryz.underlying28 rfl drvSize) rfl ?_
    rw [hP.out]
    exact ⟨_, rfl, ⟨bl3, pe3, rfl, kb4.grown (by decide) r4 g5, kp4.grown (by decide) r4 g5⟩, x4.grown g5 (fun j e => by cases e; omega)⟩
  · have hl0' : (left == 0) = false := by simpa using hl0
    have hP := Lib.hid (show flushDP ⟨B, p, left⟩ = (⟨p.foldl layP B, [], leftP left⟩, 0) by unfold flushDP; rw [if_neg hl0])
    clear hl0
    have hbn : bl3.n = B.length := kb4.k.row.1
    have hsm := kb4.k.small
    have hok := kb4.k.ok
    rw [flatSt, hbn] at ob4
    obtain ⟨gb, cap, hsl, hgb, _⟩ := Strs.own' ob4 (by omega)
    have KP4 := Lib.hid kp4
    obtain ⟨hp1, hp2⟩ := kp4.k.row.wrs
    obtain ⟨A3, n3, c3⟩ := bl3
    simp only at hbn hsl hsm hok
    injection hsl with e1 e2 e3
    subst e1 e3 hbn
    have HP1 := Lib.hid hp1
    have c1 : w4.cell? ⟨g, 1, none⟩ = some (.slice pe3.A pe3.n pe3.c) := b4.cell 1
    clear hp1
    go_upto_region 5 with fail
    have HZ : ∀ (w' : World), Ext w w' → w'.ownsRow B2 9 1 (.slice (some ⟨gb, 0, none⟩) B.length c3) B.length (strL (p.foldl layP B)) → RowF B0 stL 9 w' ⟨some ⟨gb, 0, none⟩, B.length, c3⟩ (p.foldl layP B) := fun w' _ h => by
      have h' := h
      rw [← flatSt] at h'
      exact RowF.own (own_row h' (fun _ _ => rfl) (foldl_lay_len p B).symm rfl) hok hsm h'
    have HZZ := Lib.hid HZ
    clear HZ
    have k0 := kb4
    clear kb4
    go_loopw [16] (fun i wx => ∃ k : Nat, k ≤ p.length ∧ i = .int .i64 k ∧ Ext w wx ∧ wx.ownsRow B2 9 1 (.slice (some ⟨gb, 0, none⟩) B.length c3) B.length (strL ((p.take k).foldl layP B)) ∧ RowF B0 wrL 57 wx pe3 p ∧ Box wx g 28 (drvC ⟨some ⟨gb, 0, none⟩, B.length, c3⟩ pe3 left) ∧ Box wx (G + 1) 28 #[.slice none 0 0, .slice none 0 0, .int .i64 0]) (fun i _ => p.length - (intOf i).toNat)
    case atStart => exact ⟨0, by omega, rfl, x4, ob4, KP4.out, b4, r4⟩
    case round =>
      clear x4 ob4 b4 r4 c1 c2 KP4 hp2 k0
      clear kp4
      obtain ⟨k, hk, rfl, xk, ok, pk, bk, rk⟩ := hrel
      by_cases hlt : k < p.length
      · obtain ⟨b2, o2, hA, hcell⟩ := pk.k.row.wrs.2 (by rw [pk.k.row.1]; omega)
        have e1 := (hcell k hlt).1
        have e2 := (hcell k hlt).2
        have HT := Lib.hid (foldl_lay_take hlt B)
        have HVl := Lib.hid (foldl_lay_len (p.take k) B)
        clear hcell
        have hki : (k : Int) < (pe3.n : Int) := by have := pk.k.row.1; omega
        generalize p[k] = y at *
        generalize (p.take k).foldl layP B = V at *
        have PK := Lib.hid pk
        clear pk
        obtain ⟨A9, n9, c9⟩ := pe3
        simp only at hA hki
        subst hA
        have hsm9 : n9 ≤ 100000 := PK.out.k.small
        have hpn9 : n9 = p.length := PK.out.k.row.1
        have hple : p.length ≤ 100000 := by omega
        clear hpn9
        go_upto_region 7 with fail
        have y5 : Ext wr (wr.alloc (.cells #[.int .i64 y.1, .string (str y.2)] 57)) := (Ext.refl wr).alloc _
        have bw := Box.new wr 57 #[.int .i64 y.1, .string (str y.2)]
        have bk5 := bk.ext y5
        generalize wr.alloc (.cells #[.int .i64 y.1, .string (str y.2)] 57) = w5 at *
        generalize wr.heap.size = gw at *
        clear e1 e2
        by_cases hh : 0 ≤ y.1 ∧ y.1 < (B.length : Int)
        · obtain ⟨y1, y2⟩ := y
          simp only at hh bw y5
          obtain ⟨q, rfl⟩ : ∃ q : Nat, y1 = q := ⟨y1.toNat, by omega⟩
          have hqN : q < B.length := by omega
          have HY := Lib.hid (show layP V ((q : Int), y2) = V.set q y2 by unfold layP; simp only; rw [if_pos (by have := HVl.out; omega)]; rfl)
          have HH := Lib.hid (fun w => has_any (some ⟨gb, 0, none⟩) (some ⟨b2, o2, none⟩) B.length c3 n9 c9 left (q : Int) w)
          rw [show decide (0 ≤ (q : Int) ∧ (q : Int) < (B.length : Int)) = true by simp; omega] at HH
          have hqi : (q : Int) < (B.length : Int) := by omega
          have d00 : w5.cell? ⟨gw, 0, none⟩ = some (.int .i64 (q : Int)) := bw.cell 0
          go_wp2_with (first
            | (refine wp_ld_drv (.tmp 4) rfl rfl g _ _ rfl bk5 rfl ?_)
            | (go_at_call 124; refine (HH.out _).mono ?_; rintro e w6 ⟨rfl, x6⟩; have y6 := y5.trans x6; have ok6 := own_ext ok y6; have c0 : w6.cell? ⟨g, 0, none⟩ = some (.slice (some ⟨gb, 0, none⟩) B.length c3) := (bk.ext y6).cell 0; have d0 : w6.cell? ⟨gw, 0, none⟩ = some (.int .i64 (q : Int)) := (bw.ext x6).cell 0; have d1 : w6.cell? ⟨gw, 1, none⟩ = some (.string (str y2)) := (bw.ext x6).cell 1; have kc : w6.cell? ⟨gb, q, none⟩ = some (.string (str (V.getD q []))) := (ok6.cellAt q (by omega)).trans (by have := HVl.out; simp [strL, this, hqN, List.getD_eq_getElem?_getD]); have kf := ok6.frozenAt q))
          have hpk6 := PK.out.ext y6
          have bk6 := bk.ext y6
          have rk6 := rk.ext y6
          have hne1 : g ≠ gb := fun e => own_ne ok6 bk6 (by decide) (by rw [e]; rfl)
          have hne2 : G + 1 ≠ gb := fun e => own_ne ok6 rk6 (by decide) (by rw [e]; rfl)
          go_roundw
          case rel => exact ⟨k + 1, by omega, by go_num, (xk.trans y6).setCell (by rw [hG]; show G ≤ gb; omega) _, by rw [HT.out, HY.out]; exact own_set ok6 _, hpk6.keeps (row := some gb) (fun b cs hb e => by injection e with e; subst e; exact own_ne ok6 hb (by decide) rfl) (grown_cells (g := gb) [.string (str y2)] q w6) (fun k e => by injection e with e; omega), bk6.setOther hne1 _, rk6.setOther hne2 _⟩
          case measure => simp [intOf]; omega
        · have HY := Lib.hid (show layP V y = V by unfold layP; rw [if_neg (by have := HVl.out; omega)])
          have HH := Lib.hid (fun w => has_any (some ⟨gb, 0, none⟩) (some ⟨b2, o2, none⟩) B.length c3 n9 c9 left y.1 w)
          rw [show decide (0 ≤ y.1 ∧ y.1 < (B.length : Int)) = false from decide_eq_false hh] at HH
          have d0 : w5.cell? ⟨gw, 0, none⟩ = some (.int .i64 y.1) := bw.cell 0
          clear hh
          go_wp2_with (first
            | (refine wp_ld_drv (.tmp 4) rfl rfl g _ _ rfl bk5 rfl ?_)
            | (go_at_call 124; refine (HH.out _).mono ?_; rintro e w6 ⟨rfl, x6⟩; have y6 := y5.trans x6))
          go_roundw
          case rel => exact ⟨k + 1, by omega, by go_num, xk.trans y6, by rw [HT.out, HY.out]; exact own_ext ok y6, PK.out.ext y6, bk.ext y6, rk.ext y6⟩
          case measure => simp [intOf]; omega
      · rw [List.take_of_length_le (by omega)] at ok
        have hki : ¬ ((k : Int) < (pe3.n : Int)) := by have := HP1.out; omega
        have hl5 := HZZ.out wr xk ok
        have hin5 : RowF B0 stL 9 wr ⟨some ⟨gb, 0, none⟩, B.length, c3⟩ (p.foldl layP B) := hl5
        clear hl5 ok HZZ pk
        have c2 : wr.cell? ⟨g, 2, none⟩ = some (.int .i64 left) := bk.cell 2
        have c1 : wr.cell? ⟨g, 1, none⟩ = some (.slice pe3.A pe3.n pe3.c) := bk.cell 1
        have f1 := bk.frozen 1
        go_upto_region 11 with fail
        have b7' : Box (wr.setCell ⟨g, 1, none⟩ (.slice none 0 0)) g 28 (drvC ⟨some ⟨gb, 0, none⟩, B.length, c3⟩ ⟨none, 0, 0⟩ left) := bk.set 1 _
        have x7 := xk.setCell (p := ⟨g, 1, none⟩) (by rw [hG]; show G ≤ g; omega) (.slice none 0 0)
        have r7 := rk.setOther (show G + 1 ≠ g by omega) (i := 1) (.slice none 0 0)
        have gg7 : wr.grownBy (wr.setCell ⟨g, 1, none⟩ (.slice none 0 0)) (some g) := grown_cells (g := g) [.slice none 0 0] 1 wr
        have kb7 := hin5.grown (by decide) bk gg7
        generalize wr.setCell ⟨g, 1, none⟩ (.slice none 0 0) = w7 at *
        have kp7 : ∀ w9 : World, RowF B0 wrL 57 w9 ⟨none, 0, 0⟩ [] := fun w9 => ⟨⟨⟨rfl, fun h => absurd h (Nat.lt_irrefl 0)⟩, ⟨fun _ => ⟨rfl, rfl⟩, Nat.zero_le _, Nat.le_refl _⟩, Nat.zero_le _⟩, fun h => absurd h (Nat.lt_irrefl 0)⟩
        have KP7 := Lib.hid kp7
        clear hin5 bk xk rk gg7 c1 c2 f1 kp7
        have c2 : w7.cell? ⟨g, 2, none⟩ = some (.int .i64 left) := b7'.cell 2
        have f2 := b7'.frozen 2
        by_cases hps : 0 < left
        · have dp : decide (0 < left) = true := decide_eq_true hps
          have HPL := Lib.hid (show leftP left = left - 1 by unfold leftP; rw [if_pos hps])
          have b8 : Box (w7.setCell ⟨g, 2, none⟩ (.int .i64 (left - 1))) g 28 (drvC ⟨some ⟨gb, 0, none⟩, B.length, c3⟩ ⟨none, 0, 0⟩ (left - 1)) := b7'.set 2 _
          have x8 := x7.setCell (p := ⟨g, 2, none⟩) (by rw [hG]; show G ≤ g; omega) (.int .i64 (left - 1))
          have r8 := r7.setOther (show G + 1 ≠ g by omega) (i := 2) (.int .i64 (left - 1))
          have gg8 : w7.grownBy (w7.setCell ⟨g, 2, none⟩ (.int .i64 (left - 1))) (some g) := grown_cells (g := g) [.int .i64 (left - 1)] 2 w7
          have kb8 := kb7.grown (by decide) b7' gg8
          clear gg8 kb7 x7 r7
          go_wp2_with (first
            | (refine wp_ld_drv (.tmp 4) rfl rfl g _ _ rfl b8 rfl ?_)
            | (refine wp_st_drv (.tmp 2) (.tmp 40) rfl rfl (G + 1) ⟨some ⟨gb, 0, none⟩, B.length, c3⟩ ⟨none, 0, 0⟩ (left - 1) _ 28 rfl rfl r8 rfl ?_; intro w9 b9 g9))
          refine bodyPost_ret (results_cell2 rfl _ _ (G + 1) _ _ _ (.int .i64 0) rfl rfl b9 Tryz.underlying28 rfl drvSize) rfl ?_
          rw [hP.out, HPL.out]
          exact ⟨_, rfl, ⟨_, _, rfl, kb8.grown (by decide) r8 g9, KP7.out _⟩, x8.grown g9 (fun j e => by cases e; omega)⟩
        · have dp : decide (0 < left) = false := decide_eq_false hps
          have HPL := Lib.hid (show leftP left = left by unfold leftP; rw [if_neg hps])
          go_wp2_with (first
            | (refine wp_ld_drv (.tmp 4) rfl rfl g _ _ rfl b7' rfl ?_)
            | (refine wp_st_drv (.tmp 2) (.tmp 40) rfl rfl (G + 1) ⟨some ⟨gb, 0, none⟩, B.length, c3⟩ ⟨none, 0, 0⟩ left _ 28 rfl rfl r7 rfl ?_; intro w9 b9 g9))
          refine bodyPost_ret (results_cell2 rfl _ _ (G + 1) _ _ _ (.int .i64 0) rfl rfl b9 Tryz.underlying28 rfl drvSize) rfl ?_
          rw [hP.out, HPL.out]
          exact ⟨_, rfl, ⟨_, _, rfl, kb7.grown (by decide) r7 g9, KP7.out _⟩, x7.grown g9 (fun j e => by cases e; omega)⟩
end Go.Proofs.YtkokmnaicfdjaaaGreatDoor
