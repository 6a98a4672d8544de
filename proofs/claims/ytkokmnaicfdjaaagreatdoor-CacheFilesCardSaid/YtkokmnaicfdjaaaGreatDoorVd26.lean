/- An inode as it stands on a volume (extent.file): its cells; is, size, at. -/
import Derived.Test.YtkokmnaicfdjaaaGreatDoorVd25
import Derived.Test.YtkokmnaicfdjaaaGreatDoorVd13
import Derived.Test.YtkokmnaicfdjaaaGreatDoorVd5
import Derived.Test.YtkokmnaicfdjaaaGreatDoorVd7
import Derived.Test.YtkokmnaicfdjaaaGreatDoorVd18
import Derived.Test.YtkokmnaicfdjaaaGreatDoorVd12
namespace Go.Proofs.YtkokmnaicfdjaaaGreatDoor
set_option linter.unusedVariables false
set_option linter.unusedSimpArgs false
open Go.RowKit

structure FileT where
  v : List (List UInt8)
  I : Int
  n : Int
  x : List Int
def fileL (F : FileT) : List Value := [.int .i64 (F.v.length : Int), .int .i64 F.I, .int .i64 1, .int .i64 2, .int .i64 3, .int .i64 (3 + (F.I + 1) / 2), .int .i64 F.n, .int .i64 (F.x.getD 0 0), .int .i64 (F.x.getD 1 0), .int .i64 (F.x.getD 2 0), .int .i64 (F.x.getD 3 0), .int .i64 (F.x.getD 4 0), .int .i64 (F.x.getD 5 0), .int .i64 (F.x.getD 6 0), .int .i64 (F.x.getD 7 0), .int .i64 (F.x.getD 8 0), .int .i64 (F.x.getD 9 0), .int .i64 (F.x.getD 10 0), .int .i64 (F.x.getD 11 0)]
def fileC (s : Sl) (F : FileT) : Array Value := (Value.slice s.A s.n s.c :: fileL F).toArray
/-- is that the number of a block that files may have? -/
def isB (v : List (List UInt8)) (I b : Int) : Bool := decide (3 + (I + 1) / 2 ≤ b) && decide (b < (v.length : Int))
/-- the number of the block k, as the inode has it -/
def numAt (v : List (List UInt8)) (I : Int) (x : List Int) (k : Nat) : Int :=
  if k < 6 then x.getD (4 + k) 0 else if isB v I (x.getD 10 0) then fnum (v.getD (x.getD 10 0).toNat []) (2 * (k - 6)) 2 else 0
/-- the block k, or -1 -/
def atP (v : List (List UInt8)) (I : Int) (x : List Int) (k : Nat) : Int := if isB v I (numAt v I x k) then numAt v I x k else -1
def sizeP (x : List Int) : Int := min (x.getD 3 0) 8960
set_option maxHeartbeats 1000000 in
set_option maxRecDepth 100000 in
theorem fis_any (g : Nat) (s : Sl) (F : FileT) (b : Int) (w : World) (h : Box w g 138 (fileC s F)) :
    Calls Tryz.prog 147 #[.pointer (some ⟨g, 0, none⟩), .int .i64 b] w fun e w' => e = .returned (.bool (isB F.v F.I b)) ∧ w = w' := by
  have c6 : w.cell? ⟨g, 6, none⟩ = some (.int .i64 (3 + (F.I + 1) / 2)) := h.cell 6
  have c1 : w.cell? ⟨g, 1, none⟩ = some (.int .i64 (F.v.length : Int)) := h.cell 1
  clear h
  unfold isB
  generalize 3 + (F.I + 1) / 2 = dt at *
  go_enter Tryz.func147, Tryz.ntmps147
  rcases Bool.eq_false_or_eq_true (decide (dt ≤ b)) with d1 | d1
  · go_wp2_with fail
    go_ret
    exact ⟨by rw [d1]; rfl, rfl⟩
  · go_wp2_with fail
    go_ret
    exact ⟨by rw [d1]; rfl, rfl⟩
set_option maxHeartbeats 1000000 in
set_option maxRecDepth 100000 in
theorem fsize_any (g : Nat) (s : Sl) (F : FileT) (w : World) (h : Box w g 138 (fileC s F)) :
    Calls Tryz.prog 102 #[.pointer (some ⟨g, 0, none⟩)] w fun e w' => e = .returned (.int .i64 (sizeP F.x)) ∧ w = w' := by
  have c6 : w.cell? ⟨g, 11, none⟩ = some (.int .i64 (F.x.getD 3 0)) := h.cell 11
  clear h
  unfold sizeP
  generalize F.x.getD 3 0 = z at *
  go_enter Tryz.func102, Tryz.ntmps102
  go_wp2_with fail
  go_ret
  exact ⟨rfl, rfl⟩
/-- such a file stands there -/
structure FileOk (F : FileT) : Prop where
  good : Good F.v F.I
  n1 : 1 ≤ F.n
  n2 : F.n ≤ F.I
  len : F.x.length = 12
  fits : fitsB F.x = true
theorem fdirect {w : World} {g : Nat} {s : Sl} {F : FileT} (h : Box w g 138 (fileC s F)) {k : Nat} (hk : k < 6) : w.cell? ⟨g, 12 + k, none⟩ = some (.int .i64 (F.x.getD (4 + k) 0)) := by
  rcases (by omega : k = 0 ∨ k = 1 ∨ k = 2 ∨ k = 3 ∨ k = 4 ∨ k = 5) with rfl | rfl | rfl | rfl | rfl | rfl
  · exact h.cell 12
  · exact h.cell 13
  · exact h.cell 14
  · exact h.cell 15
  · exact h.cell 16
  · exact h.cell 17
theorem isB_le {v : List (List UInt8)} {I b : Int} (h : isB v I b = true) : 3 + (I + 1) / 2 ≤ b ∧ b < (v.length : Int) := by
  unfold isB at h
  simpa using h
theorem atP_yes {v : List (List UInt8)} {I b : Int} {x : List Int} {k : Nat} (h : numAt v I x k = b) (hb : isB v I b = true) : atP v I x k = b := by unfold atP; rw [h, if_pos hb]
theorem atP_no {v : List (List UInt8)} {I b : Int} {x : List Int} {k : Nat} (h : numAt v I x k = b) (hb : isB v I b = false) : atP v I x k = -1 := by unfold atP; rw [h, if_neg (by rw [hb]; simp)]
theorem cell_getD {w : World} {b o : Nat} {v : List (List UInt8)} (h : ∀ (j : Nat) (h : j < v.length), w.cell? ⟨b, o + j, none⟩ = some (.string (str v[j]))) {k : Nat} (hk : k < v.length) : w.cell? ⟨b, o + k, none⟩ = some (.string (str (v.getD k []))) := by
  rw [h k hk, List.getD_eq_getElem?_getD, List.getElem?_eq_getElem hk]; rfl
set_option maxHeartbeats 4000000 in
set_option maxRecDepth 100000 in
theorem fat_any (g : Nat) (s : Sl) (F : FileT) (k : Nat) (w : World) (h : Box w g 138 (fileC s F)) (hr : Strs w s.A s.n F.v) (hF : FileOk F) (hk : k < 70) :
    Calls Tryz.prog 146 #[.pointer (some ⟨g, 0, none⟩), .int .i64 (k : Int)] w fun e w' => e = .returned (.int .i64 (atP F.v F.I F.x k)) ∧ Ext w w' := by
  have HIS := Lib.hid (fun b w h => fis_any g s F b w h)
  have hpl := plan_bd hF.good.plan
  obtain ⟨hl, hv2⟩ := hr
  by_cases h6 : k < 6
  · have hn : numAt F.v F.I F.x k = F.x.getD (4 + k) 0 := by unfold numAt; rw [if_pos h6]
    have HY := Lib.hid (fun h => atP_yes hn h)
    have HNo := Lib.hid (fun h => atP_no hn h)
    have cd := fdirect h h6
    have hki : (k : Int) < 6 := by omega
    have hkd : decide ((k : Int) < 6) = true := decide_eq_true hki
    clear hv2 hn
    generalize F.x.getD (4 + k) 0 = b at *
    go_enter Tryz.func146, Tryz.ntmps146
    cases hb : isB F.v F.I b with
    | true =>
      have HB := Lib.hid hb
      have HA := Lib.hid (HY.out hb)
      clear hb HY HNo
      go_wp2_with (go_at_call 147; refine (HIS.out b _ h).mono ?_; rintro e w2 ⟨rfl, rfl⟩; rw [HB.out])
      go_ret
      exact ⟨by rw [HA.out]; rfl, Ext.refl _⟩
    | false =>
      have HB := Lib.hid hb
      have HA := Lib.hid (HNo.out hb)
      clear hb HY HNo
      go_wp2_with (go_at_call 147; refine (HIS.out b _ h).mono ?_; rintro e w2 ⟨rfl, rfl⟩; rw [HB.out])
      go_ret
      exact ⟨by rw [HA.out]; rfl, Ext.refl _⟩
  · have hkd : decide ((k : Int) < 6) = false := decide_eq_false (by omega)
    have ci : w.cell? ⟨g, 18, none⟩ = some (.int .i64 (F.x.getD 10 0)) := h.cell 18
    have cv : w.cell? ⟨g, 0, none⟩ = some (.slice s.A s.n s.c) := h.cell 0
    cases hi : isB F.v F.I (F.x.getD 10 0) with
    | false =>
      have hn : numAt F.v F.I F.x k = 0 := by unfold numAt; rw [if_neg h6, hi]; rfl
      have h0 : isB F.v F.I 0 = false := by unfold isB; rw [show decide (3 + (F.I + 1) / 2 ≤ 0) = false from decide_eq_false (by omega)]; rfl
      have HA := Lib.hid (atP_no hn h0)
      have HB := Lib.hid hi
      have H0 := Lib.hid h0
      clear hi hn h0 hv2
      generalize F.x.getD 10 0 = ind at *
      go_enter Tryz.func146, Tryz.ntmps146
      go_wp2_with (first
        | (go_at_call 147; (have hq := HIS.out ind _ h; rw [HB.out] at hq; with_reducible (refine hq.mono ?_)); clear hq; rintro e w2 ⟨rfl, rfl⟩)
        | (go_at_call 147; (have hq := HIS.out 0 _ h; rw [H0.out] at hq; with_reducible (refine hq.mono ?_)); clear hq; rintro e w2 ⟨rfl, rfl⟩))
      go_ret
      exact ⟨by rw [HA.out]; rfl, Ext.refl _⟩
    | true =>
      have hn : numAt F.v F.I F.x k = fnum (F.v.getD (F.x.getD 10 0).toNat []) (2 * (k - 6)) 2 := by unfold numAt; rw [if_neg h6, if_pos hi]
      have HY := Lib.hid (fun h => atP_yes hn h)
      have HNo := Lib.hid (fun h => atP_no hn h)
      have hib := isB_le hi
      obtain ⟨b, o, hsA, hcell⟩ := hv2 (by omega)
      rw [hsA] at cv
      have hgl : (F.v.getD (F.x.getD 10 0).toNat []).length = 128 := getD_len hF.good (by omega)
      have cb : w.cell? ⟨b, o + (F.x.getD 10 0).toNat, none⟩ = some (.string (str (F.v.getD (F.x.getD 10 0).toNat []))) := cell_getD hcell (by omega)
      have HB := Lib.hid hi
      clear hi hn hcell hv2
      generalize F.x.getD 10 0 = ind at *
      obtain ⟨q, rfl⟩ : ∃ q : Nat, ind = (q : Int) := ⟨ind.toNat, by omega⟩
      rw [Int.toNat_natCast] at cb hgl HY HNo
      generalize F.v.getD q [] = blk at *
      have hqs : (q : Int) < (s.n : Int) := by omega
      obtain ⟨z, hz⟩ : ∃ z, k - 6 = z := ⟨_, rfl⟩
      have hkz : (k : Int) = (z : Int) + 6 := by omega
      rw [hz] at HY HNo
      rw [hkz]
      rw [hkz] at hkd
      have hzk : z < 64 := by omega
      have HG := Lib.hid (fun w => get_ext blk (2 * z) (2 * z + 2) 2 w rfl (.inr (.inl rfl)) (by omega))
      have hfb := fnum_bd blk (2 * z) 2 (by omega)
      have hsz : (str blk).size = 128 := by rw [str_size, hgl]
      have w1 : IntKind.i64.wrap ((z : Int) + 6 - 6) = (z : Int) := by rw [IntKind.wrap_i64]; omega
      have w2 : IntKind.i64.wrap (2 * (z : Int)) = ((2 * z : Nat) : Int) := by rw [IntKind.wrap_i64]; omega
      have w3 : IntKind.i64.wrap (((2 * z : Nat) : Int) + 2) = ((2 * z + 2 : Nat) : Int) := by rw [IntKind.wrap_i64]; omega
      have w4 : IntKind.i64.wrap (fnum blk (2 * z) 2) = fnum blk (2 * z) 2 := by rw [IntKind.wrap_i64]; omega
      generalize fnum blk (2 * z) 2 = num at *
      clear h6 hk hkz hz hF hpl hl hib
      go_enter Tryz.func146, Tryz.ntmps146
      go_wp2_with (first
        | (go_at_call 147; (have hq := HIS.out (q : Int) _ h; rw [HB.out] at hq; with_reducible (refine hq.mono ?_)); clear hq; rintro e w2 ⟨rfl, rfl⟩))
      have ci' : ∀ y : Later w, y.now.cell? ⟨g, 18, none⟩ = some (.int .i64 (q : Int)) := fun y => y.ext.keep ci
      have cv' : ∀ y : Later w, y.now.cell? ⟨g, 0, none⟩ = some (.slice (some ⟨b, o, none⟩) s.n s.c) := fun y => y.ext.keep cv
      have cb' : ∀ y : Later w, y.now.cell? ⟨b, o + q, none⟩ = some (.string (str blk)) := fun y => y.ext.keep cb
      have t1 : ((2 * z : Nat) : Int).toNat = 2 * z := by omega
      refine wp_region_later (by kernel_rfl) (by kernel_rfl) ?_
      repeat (go_big_quiet_step ((exact later_of_same (HG.out _))))
      refine wpQuiet_nil ?_
      rintro w5 ⟨x5, rfl⟩
      have h5 := h.ext x5.ext
      clear ci' cv' cb'
      cases hb : isB F.v F.I num with
      | true =>
        have HB2 := Lib.hid hb
        have HA := Lib.hid (HY.out hb)
        clear hb HY HNo
        go_wp2_with (go_at_call 147; refine (HIS.out num _ h5).mono ?_; rintro e w2 ⟨rfl, rfl⟩; rw [HB2.out])
        go_ret
        exact ⟨by rw [HA.out]; rfl, x5.ext⟩
      | false =>
        have HB2 := Lib.hid hb
        have HA := Lib.hid (HNo.out hb)
        clear hb HY HNo
        go_wp2_with (go_at_call 147; refine (HIS.out num _ h5).mono ?_; rintro e w2 ⟨rfl, rfl⟩; rw [HB2.out])
        go_ret
        exact ⟨by rw [HA.out]; rfl, x5.ext⟩
end Go.Proofs.YtkokmnaicfdjaaaGreatDoor
/- extent.opened on a volume that is one. -/
namespace Go.Proofs.YtkokmnaicfdjaaaGreatDoor
set_option linter.unusedVariables false
set_option linter.unusedSimpArgs false
open Go.RowKit

theorem fileSize : (Tryz.prog.info? 138).map (·.size) = some 20 := by kernel_rfl
def fileZ : Array Value := #[.slice none 0 0, .int .i64 0, .int .i64 0, .int .i64 0, .int .i64 0, .int .i64 0, .int .i64 0, .int .i64 0, .int .i64 0, .int .i64 0, .int .i64 0, .int .i64 0, .int .i64 0, .int .i64 0, .int .i64 0, .int .i64 0, .int .i64 0, .int .i64 0, .int .i64 0, .int .i64 0]
theorem fileC_one (s : Sl) (F : FileT) : (fileC s F).all (·.oneCell') = true := all_oneCell_toArray (fun v hv => by
  simp only [fileL, List.mem_cons, List.not_mem_nil, or_false] at hv
  rcases hv with h | h | h | h | h | h | h | h | h | h | h | h | h | h | h | h | h | h | h | h <;> (subst h; rfl))
section
variable {ops : Array Oper} {rest : List Oper} {o : Oper} {a : Act} {w : World} {Q : Exit → Act → World → Prop}
theorem wp_st_file (x y : Operand) (hgd : o.guard = none) (ho : o.op = .store 138 x y) (g : Nat) (s : Sl) (F : FileT) (old : Array Value) (t : TypeId) (hx : a.eval x = .pointer (some ⟨g, 0, none⟩)) (hy : a.eval y = .agg (fileC s F))
    (hb : Box w g t old) (hold : old.size = 20) (hK : ∀ w', Box w' g t (fileC s F) → w.grownBy w' (some g) → wpList Tryz.prog ops Q rest (a.put o.dst undef) w') : wpList Tryz.prog ops Q (o :: rest) a w :=
  wp_st _ x y hgd ho g _ _ t hx hy hb fileSize hold (fileC_one s F) hK
theorem wp_st_fileZ (x y : Operand) (hgd : o.guard = none) (ho : o.op = .store 138 x y) (g : Nat) (old : Array Value) (t : TypeId) (hx : a.eval x = .pointer (some ⟨g, 0, none⟩)) (hy : a.eval y = .agg fileZ)
    (hb : Box w g t old) (hold : old.size = 20) (hK : ∀ w', Box w' g t fileZ → w.grownBy w' (some g) → wpList Tryz.prog ops Q rest (a.put o.dst undef) w') : wpList Tryz.prog ops Q (o :: rest) a w :=
  wp_st _ x y hgd ho g _ _ t hx hy hb fileSize hold (by kernel_rfl) hK
end
def ofV (B : Nat) (A : Option Addr) (n c : Nat) (v : List (List UInt8)) (I k : Int) (x : List Int) : Nat → World → Value → Prop
  | 0, _, u => u = .slice A n c
  | 1, w, u => w.ownsRow B 9 1 u n (strL v)
  | 2, _, u => u = .agg (intVals [(v.length : Int), I, 1, 2, 3, 3 + (I + 1) / 2])
  | 3, _, u => u = .int .i64 k
  | 4, _, u => u = .agg (intVals x)
  | 5, w, u => ∃ s : Sl, u = .agg (fileC s ⟨v, I, k, x⟩) ∧ s.n = n ∧ w.ownsRow B 9 1 (.slice s.A s.n s.c) n (strL v)
  | _, _, _ => True
theorem ofV_ext {B : Nat} {A : Option Addr} {n c : Nat} {v : List (List UInt8)} {I k : Int} {x : List Int} (j : Nat) (w w' : World) (u : Value) (hx : Ext w w') (h : ofV B A n c v I k x j w u) : ofV B A n c v I k x j w' u := by
  match j, h with
  | 0, h => exact h
  | 1, h => exact own_ext h hx
  | 2, h => exact h
  | 3, h => exact h
  | 4, h => exact h
  | 5, ⟨s, e, hn, hb⟩ => exact ⟨s, e, hn, own_ext hb hx⟩
  | _ + 6, _ => trivial
def OpenedR (B : Nat) (v : List (List UInt8)) (I k : Int) (e : Ending) (w' : World) : Prop :=
  ∃ s : Sl, e = .returned (.tuple #[.agg (fileC s ⟨v, I, k, inoAt v k⟩), .int .i64 0]) ∧ s.n = v.length ∧ w'.ownsRow B 9 1 (.slice s.A s.n s.c) v.length (strL v)
set_option maxHeartbeats 4000000 in
set_option maxRecDepth 100000 in
theorem opened_yes (A : Option Addr) (n c : Nat) (v : List (List UInt8)) (I k : Int) (w : World) (hv : Strs w A n v) (hg : Good v I) (hk1 : 1 ≤ k) (hk2 : k ≤ I) :
    Calls Tryz.prog 99 #[.slice A n c, .int .i64 k] w fun e w' => OpenedR w.heap.size v I k e w' ∧ Ext w w' := by
  have hpl := plan_bd hg.plan
  have hnv := hv.1
  have HGt := Lib.hid (fun w h => iget_yes A n c v I k w h hg hk1 hk2)
  have HO := Lib.hid (fun w h => of_yes A n c v I w h hg)
  have x0 := (Ext.refl w).alloc (.cells fileZ 138)
  have b0 := Box.new w 138 fileZ
  have HV := Lib.hid (hv.ext x0)
  have HI12 := Lib.hid (inoAt_len v k)
  subst hnv
  clear hv hg hk1 hk2
  unfold OpenedR
  go_enter Tryz.func99, Tryz.ntmps99
  go_upto_region 1 with fail
  change Code.wp _ _ _ _ (w.alloc (.cells fileZ 138))
  generalize w.alloc (.cells fileZ 138) = w1 at *
  generalize hG : w.heap.size = G at *
  obtain ⟨x, hxi⟩ : ∃ x, x = inoAt v k := ⟨_, rfl⟩
  rw [← hxi] at HGt HI12
  have HXI := Lib.hid hxi
  clear hxi
  go_upto_region 2 with (first
    | (go_at_call 97; refine (HGt.out _ HV.out).mono ?_; rintro e w2 ⟨rfl, x2⟩)
    | (refine wp_st_ino (.tmp 6) (.tmp 13) rfl rfl w2.heap.size x zero12 134 rfl rfl (Box.new _ _ _) HI12.out rfl ?_; intro w3 b3 g3))
  have x23 : Ext w2 w3 := ((Ext.refl w2).alloc _).grown g3 (fun j e => by cases e; exact Nat.le_refl _)
  have x13 := x2.trans x23
  have b03 := b0.ext x13
  have HV3 := Lib.hid (HV.out.ext x13)
  have xw3 := x0.trans x13
  clear g3 x23 x2 b0 x13 x0 HV
  generalize w2.heap.size = g3 at *
  go_upto_region 5 with (first
    | (go_at_call 39; refine (HO.out _ HV3.out).mono ?_; rintro e w4 ⟨rfl, x4⟩)
    | (rw [geomV_eq]; refine wp_st_geom (.tmp 8) (.tmp 22) rfl rfl w4.heap.size _ [0, 0, 0, 0, 0, 0] 88 rfl rfl (Box.new _ _ _) rfl rfl ?_; intro w5 b5 g5))
  have x45 : Ext w4 w5 := ((Ext.refl w4).alloc _).grown g5 (fun j e => by cases e; exact Nat.le_refl _)
  have x35 := x4.trans x45
  have b05 := b03.ext x35
  have b35 := b3.ext x35
  have HV5 := Lib.hid (HV3.out.ext x35)
  have xw5 := xw3.trans x35
  clear g5 x45 x4 b03 b3 x35 xw3 HV3 HGt HO
  generalize w4.heap.size = g5 at *
  have hsz := xw5.size
  rw [hG] at hsz
  go_wp2_with fail
  refine wp_region_web' 6 [[], [0], [], [], [], [1, 2, 3, 4]] (ofV G A v.length c v I k x) (by kernel_rfl) (by kernel_rfl) ofV_ext (fun us => ?_)
  simp only [List.take_succ_cons, List.take_zero, List.drop_succ_cons, List.drop_zero]
  refine ⟨fun w' hx hd => ?_, fun w' hx hd => ?_, fun w' hx hd => ?_, fun w' hx hd => ?_, fun w' hx hd => ?_, fun w' hx hd => ?_, fun w' hx hv => ?_⟩
  · refine web_of_list 28 rfl (by simp [Act.put]) rfl ?_
    go_wp2_with fail
    exact ⟨Ext.refl _, rfl⟩
  · have h0 := hd 0 (by simp)
    clear hd
    generalize us 0 = u0 at *
    obtain rfl : u0 = .slice A v.length c := h0
    have hs2 := HV5.out.ext hx
    refine web_of_list 29 rfl (by simp [Act.put]) rfl ?_
    go_wp2_with (refine wp_app_nil G rfl _ _ rfl rfl rfl hs2 (by omega) (by have := hx.size; omega) (by omega) ?_; intro u' w2 own2 xx)
    exact own2
  · refine web_of_list 30 rfl (by simp [Act.put]) rfl ?_
    go_wp2_with (refine wp_ld_geom (.tmp 8) rfl rfl g5 _ 88 rfl (b5.ext hx) rfl ?_)
    exact ⟨Ext.refl _, rfl⟩
  · refine web_of_list 31 rfl (by simp [Act.put]) rfl ?_
    go_wp2_with fail
    exact ⟨Ext.refl _, rfl⟩
  · refine web_of_list 32 rfl (by simp [Act.put]) rfl ?_
    go_wp2_with (refine wp_ld_ino (.tmp 6) rfl rfl g3 x 134 rfl (b35.ext hx) HI12.out ?_)
    exact ⟨Ext.refl _, rfl⟩
  · have h1 := hd 1 (by simp)
    have h2 := hd 2 (by simp)
    have h3 := hd 3 (by simp)
    have h4 := hd 4 (by simp)
    clear hd
    generalize us 0 = u0 at *
    generalize us 1 = u1 at *
    generalize us 2 = u2 at *
    generalize us 3 = u3 at *
    generalize us 4 = u4 at *
    have own1 : w'.ownsRow G 9 1 u1 v.length (strL v) := h1
    obtain rfl : u2 = .agg (intVals [(v.length : Int), I, 1, 2, 3, 3 + (I + 1) / 2]) := h2
    obtain rfl : u3 = .int .i64 k := h3
    obtain rfl : u4 = .agg (intVals x) := h4
    clear h1
    obtain ⟨g, cap, rfl, hgb, _⟩ := Strs.own' own1 (by omega)
    obtain ⟨y0, y1, y2, y3, y4, y5, y6, y7, y8, y9, y10, y11, rfl⟩ := list12 HI12.out
    have OW := Lib.hid own1
    refine web_of_list 33 rfl (by simp [Act.put]) rfl ?_
    simp only [intVals, List.map_cons, List.map_nil]
    go_wp2_with fail
    exact ⟨Ext.refl _, ⟨some ⟨g, 0, none⟩, v.length, cap⟩, rfl, rfl, OW.out⟩
  · have h5 := hv 5 (by omega)
    clear hv
    generalize us 0 = u0 at *
    generalize us 1 = u1 at *
    generalize us 2 = u2 at *
    generalize us 3 = u3 at *
    generalize us 4 = u4 at *
    generalize us 5 = u5 at *
    obtain ⟨s, rfl, hsn, own5⟩ : ∃ s : Sl, u5 = .agg (fileC s ⟨v, I, k, x⟩) ∧ s.n = v.length ∧ w'.ownsRow G 9 1 (.slice s.A s.n s.c) v.length (strL v) := h5
    have b0' := b05.ext hx
    have OW := Lib.hid own5
    have HSN := Lib.hid hsn
    have hne := Lib.hid (own_ne own5 b0' (by decide))
    clear own5 hsn
    go_wp2_with (refine wp_st_file (.tmp 4) (.tmp 33) rfl rfl G s ⟨v, I, k, x⟩ _ 138 rfl rfl b0' rfl ?_; intro w8 b8 g8)
    refine bodyPost_ret (results_cell2 rfl _ _ G _ _ _ (.int .i64 0) rfl rfl b8 Tryz.underlying138 rfl fileSize) rfl ?_
    exact ⟨⟨s, by rw [← HXI.out], HSN.out, by rw [hG]; exact OW.out.kept g8 (.inr hne.out.symm)⟩, (xw5.trans hx).grown g8 (fun j e => by cases e; rw [hG]; exact Nat.le_refl _)⟩
set_option maxHeartbeats 1000000 in
set_option maxRecDepth 100000 in
theorem opened_no (A : Option Addr) (n c : Nat) (v : List (List UInt8)) (I k : Int) (w : World) (hv : Strs w A n v) (hg : Good v I) (hk : k < 1 ∨ I < k) :
    Calls Tryz.prog 99 #[.slice A n c, .int .i64 k] w fun e w' => e = .returned (.tuple #[.agg fileZ, .int .i64 2]) ∧ Ext w w' := by
  have HGt := Lib.hid (fun w h => iget_no A n c v I k w h hg hk)
  have x0 := (Ext.refl w).alloc (.cells fileZ 138)
  have b0 := Box.new w 138 fileZ
  have HV := Lib.hid (hv.ext x0)
  clear hv hg hk
  go_enter Tryz.func99, Tryz.ntmps99
  go_upto_region 1 with fail
  change Code.wp _ _ _ _ (w.alloc (.cells fileZ 138))
  generalize w.alloc (.cells fileZ 138) = w1 at *
  generalize hG : w.heap.size = G at *
  go_upto_region 2 with (first
    | (go_at_call 97; refine (HGt.out _ HV.out).mono ?_; rintro e w2 ⟨rfl, x2⟩)
    | (refine wp_st_ino (.tmp 6) (.tmp 13) rfl rfl w2.heap.size zero12 zero12 134 rfl rfl (Box.new _ _ _) rfl rfl ?_; intro w3 b3 g3))
  have x23 : Ext w2 w3 := ((Ext.refl w2).alloc _).grown g3 (fun j e => by cases e; exact Nat.le_refl _)
  have x13 := x2.trans x23
  have b03 := b0.ext x13
  have xw3 := x0.trans x13
  clear g3 x23 x2 b0 x13 x0 HV b3
  generalize w2.heap.size = g3 at *
  go_wp2_with (refine wp_st_fileZ (.tmp 4) (.tmp 17) rfl rfl G _ 138 rfl rfl b03 rfl ?_; intro w8 b8 g8)
  refine bodyPost_ret (results_cell2 rfl _ _ G _ _ _ (.int .i64 2) rfl rfl b8 Tryz.underlying138 rfl fileSize) rfl ?_
  exact ⟨rfl, xw3.grown g8 (fun j e => by cases e; rw [hG]; exact Nat.le_refl _)⟩
end Go.Proofs.YtkokmnaicfdjaaaGreatDoor
/- An inode as it stands on a volume, written: lay, keep, take, name, place. -/
namespace Go.Proofs.YtkokmnaicfdjaaaGreatDoor
set_option linter.unusedVariables false
set_option linter.unusedSimpArgs false
open Go.RowKit

theorem Ext.under {w0 w w' : World} {B : Nat} (h : Ext w0 w) (k : Below B w w') (hB : w0.heap.size ≤ B) : Ext w0 w' := Below.trans h (Below.mono k hB)
/-- a file's cells lie in a block of their own, its volume in a row of its own, both from B on -/
def FileIn (B : Nat) (w : World) (g : Nat) (F : FileT) : Prop := FileOk F ∧ B ≤ g ∧ ∃ b cap, Box w g 138 (fileC ⟨some ⟨b, 0, none⟩, F.v.length, cap⟩ F) ∧ w.ownsRow B 9 1 (.slice (some ⟨b, 0, none⟩) F.v.length cap) F.v.length (strL F.v)
theorem FileIn.ext {B : Nat} {w w' : World} {g : Nat} {F : FileT} (h : FileIn B w g F) (x : Ext w w') : FileIn B w' g F := by
  obtain ⟨ho, hB, b, cap, h1, h2⟩ := h
  exact ⟨ho, hB, b, cap, h1.ext x, own_ext h2 x⟩
def FileT.lay (F : FileT) (q p : Nat) (d : List UInt8) : FileT := { F with v := F.v.set q (overL (F.v.getD q []) p d) }
theorem FileOk.lay {F : FileT} (h : FileOk F) {q p : Nat} {d : List UInt8} (hq : 3 ≤ q) (hl : q < F.v.length) (hp : p + d.length ≤ 128) : FileOk (F.lay q p d) := by
  have hb := getD_len h.good hl
  exact ⟨h.good.set (by omega) (by omega) (by rw [overL_len _ _ _ (by omega), hb]), h.n1, h.n2, h.len, h.fits⟩
theorem lay_cells (F : FileT) (q p : Nat) (d : List UInt8) (s : Sl) : fileC s (F.lay q p d) = fileC s F := by
  unfold fileC fileL FileT.lay
  simp only [List.length_set]
set_option maxHeartbeats 4000000 in
set_option maxRecDepth 100000 in
theorem flay_any (B g : Nat) (F : FileT) (q p : Nat) (d : List UInt8) (w : World) (h : FileIn B w g F) (hq : 3 ≤ q) (hl : q < F.v.length) (hp : p + d.length ≤ 128) :
    Calls Tryz.prog 101 #[.pointer (some ⟨g, 0, none⟩), .int .i64 (q : Int), .int .i64 (p : Int), .string (str d)] w fun e w' => e = .returned (.tuple #[]) ∧ FileIn B w' g (F.lay q p d) ∧ Below B w w' := by
  obtain ⟨hok, hB, b, cap, hbx, own⟩ := h
  have hn := plan_bd hok.good.plan
  have HOK := Lib.hid (hok.lay hq hl hp)
  have hblk := getD_len hok.good hl
  have hgb : B ≤ b := by
    obtain ⟨g', cap', e, hge, _⟩ := Strs.own' own (by omega)
    injection e with e1 _ _; injection e1 with e1; injection e1 with e1 _ _; omega
  have hbg : g ≠ b := by
    have := own_ne own hbx (by decide)
    intro e; exact this (by rw [e]; rfl)
  have cv : ∀ y : Later w, y.now.cell? ⟨g, 0, none⟩ = some (.slice (some ⟨b, 0, none⟩) F.v.length cap) := fun y => (hbx.ext y.ext).cell 0
  have k0 : w.cell? ⟨b, q, none⟩ = some (.string (str (F.v.getD q []))) := (own.cellAt q (by omega)).trans (by simp [strL, hl, List.getD_eq_getElem?_getD])
  have hz := str_size
  have hsz : (str (F.v.getD q [])).size = 128 := by rw [str_size, hblk]
  have HEQ := Lib.hid (show (F.lay q p d).v = F.v.set q (overL (F.v.getD q []) p d) from rfl)
  have hql : (q : Int) < (F.v.length : Int) := by omega
  have cv0 := cv ⟨w, Ext.refl _⟩
  simp only at cv0
  have HBX := Lib.hid hbx
  have OWN := Lib.hid own
  clear hok hbx own
  generalize hblkE : F.v.getD q [] = blk at *
  go_enter Tryz.func101, Tryz.ntmps101
  go_wp2_with fail
  have hse := str_ext
  have hap := str_app
  have t0 : (0 : Int) ≤ (q : Int) := by omega
  have t1 : (0 : Int) ≤ (p : Int) := by omega
  have t2 : IntKind.i64.wrap ((p : Int) + (d.length : Int)) = ((p + d.length : Nat) : Int) := by rw [IntKind.wrap_i64]; omega
  have t3 : (0 : Int) ≤ ((p + d.length : Nat) : Int) := by omega
  have t5 : (p : Int) ≤ 128 := by omega
  have t6 : ((p + d.length : Nat) : Int) ≤ 128 := by omega
  have l1 : min p 128 = p := by omega
  refine wp_region_later_tail 18 (by kernel_rfl) (by kernel_rfl) ?_
  simp only [List.take_succ_cons, List.take_zero, List.drop_succ_cons, List.drop_zero]
  repeat (go_big_quiet_step (fail))
  refine wpQuiet_nil ?_
  rintro w7 ⟨y, rfl⟩
  clear cv hse hap hz t2 l1
  have own7 := own_ext OWN.out y.ext
  have b7 := HBX.out.ext y.ext
  have xy := Lib.hid y.ext
  have k7 := y.ext.keep k0
  have kf7 := own7.frozenAt q
  generalize y.now = w7 at own7 b7 xy k7 kf7 ⊢
  have OW7 := Lib.hid own7
  have B7 := Lib.hid b7
  clear own7 b7 k0 cv0
  go_wp2_with fail
  go_end0
  have hov : List.take p blk ++ (d ++ List.take (128 - (p + d.length)) (List.drop (p + d.length) blk)) = overL blk p d := by
    unfold overL
    rw [List.append_assoc, List.take_of_length_le (l := List.drop (p + d.length) blk) (by rw [List.length_drop, hblk]; omega)]
  refine ⟨rfl, ⟨HOK.out, hB, b, cap, ?_, ?_⟩, ?_⟩
  · rw [lay_cells, HEQ.out, List.length_set]
    exact B7.out.far (p := ⟨b, q, none⟩) hbg _
  · rw [HEQ.out, List.length_set, hov]
    exact own_set OW7.out _
  · exact Below.setCell (Below.mono xy.out (by have := HBX.out.lt; omega)) (p := ⟨b, q, none⟩) hgb _
/-- the inode written -/
def FileT.keep (F : FileT) : FileT := { F with v := putAt F.v F.n F.x }
theorem FileOk.keep {F : FileT} (h : FileOk F) : FileOk F.keep := ⟨h.good.putAt h.n1 h.n2 F.x, h.n1, h.n2, h.len, h.fits⟩
theorem keep_cells (F : FileT) (s : Sl) : fileC s F.keep = fileC s F := by
  unfold fileC fileL FileT.keep
  simp only [putAt_len]
theorem ino_range {w : World} {g : Nat} {s : Sl} {F : FileT} (hx : F.x.length = 12) (h : Box w g 138 (fileC s F)) : w.rangeAt g 8 (intVals F.x).toList := fun j v hj => by
  refine (h.cell (8 + j)).trans ?_
  rw [← hj]
  obtain ⟨y0, y1, y2, y3, y4, y5, y6, y7, y8, y9, y10, y11, he⟩ := list12 hx
  have hj12 : j < 12 := by have := (List.getElem?_eq_some_iff.1 hj).1; rw [he] at this; simpa [intVals] using this
  unfold fileC fileL
  rw [he]
  rcases (by omega : j = 0 ∨ j = 1 ∨ j = 2 ∨ j = 3 ∨ j = 4 ∨ j = 5 ∨ j = 6 ∨ j = 7 ∨ j = 8 ∨ j = 9 ∨ j = 10 ∨ j = 11) with rfl | rfl | rfl | rfl | rfl | rfl | rfl | rfl | rfl | rfl | rfl | rfl <;> rfl
section
variable {C : World → Prop} {o : Oper} {a : Act} {K : Act → Prop}
theorem quiet_load_at {P : Program} (ty : TypeId) (x : Operand) (h : o.op = .load ty x) (b i : Nat) (hx : a.eval x = .pointer (some ⟨b, i, none⟩)) (cs : List Value) (d : TypeDesc) (hc : ∀ w, C w → w.rangeAt b i cs)
    (hu : P.underlying ty = some d) (hd : d.isRow = true) (hi : (P.info? ty).map (·.size) = some cs.length) (hk : K (a.put o.dst (.agg cs.toArray))) : o.quiet P a C K :=
  ⟨_, fun w hw => by
    unfold Oper.quietAt execOp
    simp only [h, hx, Instr.loadAt, Instr.sureAddr, Sem.run_bind, Sem.run_pure, Result.andThen_ok, run_loadVar_mid w b i ty cs d (hc w hw) hu hd hi]
    exact ⟨rfl, rfl⟩, hk⟩
theorem quiet_ld_fino (x : Operand) (h : o.op = .load 134 x) (b : Nat) (hx : a.eval x = .pointer (some ⟨b, 8, none⟩)) (xs : List Int) (hl : xs.length = 12) (hc : ∀ w, C w → w.rangeAt b 8 (intVals xs).toList) (hk : K (a.put o.dst (.agg (intVals xs)))) : o.quiet Tryz.prog a C K :=
  quiet_load_at _ x h b 8 hx _ _ hc Tryz.underlying134 rfl (by rw [Array.length_toList, intVals_size, hl]; exact inoSize) hk
end
def kpV (v : List (List UInt8)) (B : Nat) (w : World) (u : Value) : Prop := ∃ A, u = .tuple #[A, .int .i64 0] ∧ w.ownsRow B 9 1 A v.length (strL v)
theorem lasts_kp (v : List (List UInt8)) (B : Nat) : Lasts (kpV v B) := fun _ _ _ hx ⟨A, e, h⟩ => ⟨A, e, own_ext h hx⟩
def rwV (v : List (List UInt8)) (B : Nat) (w : World) (u : Value) : Prop := w.ownsRow B 9 1 u v.length (strL v)
theorem lasts_rw (v : List (List UInt8)) (B : Nat) : Lasts (rwV v B) := fun _ _ _ hx h => own_ext h hx
theorem wp_ld_fino {ops : Array Oper} {rest : List Oper} {o : Oper} {a : Act} {w : World} {Q : Exit → Act → World → Prop} (x : Operand) (hgd : o.guard = none) (ho : o.op = .load 134 x) (g : Nat) (s : Sl) (F : FileT) (hx : a.eval x = .pointer (some ⟨g, 8, none⟩)) (hl : F.x.length = 12)
    (hb : Box w g 138 (fileC s F)) (hK : wpList Tryz.prog ops Q rest (a.put o.dst (.agg (intVals F.x))) w) : wpList Tryz.prog ops Q (o :: rest) a w :=
  wpList_load_mid hgd _ x ho g 8 hx _ _ (ino_range hl hb) Tryz.underlying134 rfl (by rw [Array.length_toList, intVals_size, hl]; exact inoSize) hK
set_option maxHeartbeats 4000000 in
set_option maxRecDepth 100000 in
theorem fkeep_any (B g : Nat) (F : FileT) (w : World) (h : FileIn B w g F) (hBw : B ≤ w.heap.size) :
    Calls Tryz.prog 103 #[.pointer (some ⟨g, 0, none⟩)] w fun e w' => e = .returned (.int .i64 0) ∧ FileIn B w' g F.keep ∧ Below B w w' := by
  obtain ⟨hok, hB, b, cap, hbx, own⟩ := h
  have hs := Strs.own own
  have HP := Lib.hid (fun w h => iput_yes (some ⟨b, 0, none⟩) F.v.length cap F.v F.I F.n F.x w h hok.good hok.n1 hok.n2 hok.len (i64_of_fits hok.fits hok.len) hok.fits)
  have HOK := Lib.hid hok.keep
  have HL := Lib.hid hok.len
  have hpos : 0 < F.v.length := by have := plan_bd hok.good.plan; omega
  have HBX := Lib.hid hbx
  have HS := Lib.hid hs
  clear hok hbx own hs
  go_enter Tryz.func103, Tryz.ntmps103
  go_wp2_with fail
  refine wp_region_web' 18 [[], [0], [1], [2], [], [4], [5], [6], [], [8], [9], [10], [3, 7, 11], [12], [13], [13], [14], [15]] (listV [isV (.pointer (some ⟨g, 0, none⟩)), isV (.pointer (some ⟨g, 0, none⟩)), isV (.pointer (some ⟨g, 0, none⟩)), isV (.slice (some ⟨b, 0, none⟩) F.v.length cap), isV (.pointer (some ⟨g, 0, none⟩)), isV (.pointer (some ⟨g, 0, none⟩)), isV (.pointer (some ⟨g, 7, none⟩)), isV (.int .i64 F.n), isV (.pointer (some ⟨g, 0, none⟩)), isV (.pointer (some ⟨g, 0, none⟩)), isV (.pointer (some ⟨g, 8, none⟩)), isV (.agg (intVals F.x)), kpV (putAt F.v F.n F.x) B, kpV (putAt F.v F.n F.x) B, rwV (putAt F.v F.n F.x) B, isV (.int .i64 0), rwV (putAt F.v F.n F.x) B, isV (.int .i64 0)]) (by kernel_rfl) (by kernel_rfl) (listV_ext (fun p hp => by simp only [List.mem_cons, List.not_mem_nil, or_false] at hp; rcases hp with rfl | rfl | rfl | rfl | rfl | rfl | rfl | rfl | rfl | rfl | rfl | rfl | rfl | rfl | rfl | rfl | rfl | rfl <;> first | exact lasts_is _ | exact lasts_kp _ _ | exact lasts_rw _ _)) (fun us => ?_)
  simp only [List.take_succ_cons, List.take_zero, List.drop_succ_cons, List.drop_zero]
  rw [webWalk]
  refine And.intro (fun w' hx hd => ?_) ?_
  · clear hd
    refine web_of_list 6 rfl (by simp) rfl ?_
    go_wp2_with fail
    exact ⟨Ext.refl _, rfl⟩
  simp only [Act.put, List.setIfInBounds_toArray, List.set_cons_zero, List.set_cons_succ]
  rw [webWalk]
  refine And.intro (fun w' hx hd => ?_) ?_
  · have h0 := hd 0 (by simp)
    clear hd
    generalize us 0 = u0 at *
    obtain rfl : u0 = .pointer (some ⟨g, 0, none⟩) := h0
    refine web_of_list 7 rfl (by simp [Act.put]) rfl ?_
    go_wp2_with fail
    exact ⟨Ext.refl _, rfl⟩
  simp only [Act.put, List.setIfInBounds_toArray, List.set_cons_zero, List.set_cons_succ]
  rw [webWalk]
  refine And.intro (fun w' hx hd => ?_) ?_
  · have h1 := hd 1 (by simp)
    clear hd
    generalize us 1 = u1 at *
    obtain rfl : u1 = .pointer (some ⟨g, 0, none⟩) := h1
    refine web_of_list 8 rfl (by simp [Act.put]) rfl ?_
    go_wp2_with fail
    exact ⟨Ext.refl _, rfl⟩
  simp only [Act.put, List.setIfInBounds_toArray, List.set_cons_zero, List.set_cons_succ]
  rw [webWalk]
  refine And.intro (fun w' hx hd => ?_) ?_
  · have h2 := hd 2 (by simp)
    clear hd
    generalize us 2 = u2 at *
    obtain rfl : u2 = .pointer (some ⟨g, 0, none⟩) := h2
    have cv : w'.cell? ⟨g, 0, none⟩ = some (.slice (some ⟨b, 0, none⟩) F.v.length cap) := (HBX.out.ext hx).cell 0
    refine web_of_list 9 rfl (by simp [Act.put]) rfl ?_
    go_wp2_with fail
    exact ⟨Ext.refl _, rfl⟩
  simp only [Act.put, List.setIfInBounds_toArray, List.set_cons_zero, List.set_cons_succ]
  rw [webWalk]
  refine And.intro (fun w' hx hd => ?_) ?_
  · clear hd
    refine web_of_list 10 rfl (by simp [Act.put]) rfl ?_
    go_wp2_with fail
    exact ⟨Ext.refl _, rfl⟩
  simp only [Act.put, List.setIfInBounds_toArray, List.set_cons_zero, List.set_cons_succ]
  rw [webWalk]
  refine And.intro (fun w' hx hd => ?_) ?_
  · have h4 := hd 4 (by simp)
    clear hd
    generalize us 4 = u4 at *
    obtain rfl : u4 = .pointer (some ⟨g, 0, none⟩) := h4
    refine web_of_list 11 rfl (by simp [Act.put]) rfl ?_
    go_wp2_with fail
    exact ⟨Ext.refl _, rfl⟩
  simp only [Act.put, List.setIfInBounds_toArray, List.set_cons_zero, List.set_cons_succ]
  rw [webWalk]
  refine And.intro (fun w' hx hd => ?_) ?_
  · have h5 := hd 5 (by simp)
    clear hd
    generalize us 5 = u5 at *
    obtain rfl : u5 = .pointer (some ⟨g, 0, none⟩) := h5
    refine web_of_list 12 rfl (by simp [Act.put]) rfl ?_
    go_wp2_with fail
    exact ⟨Ext.refl _, rfl⟩
  simp only [Act.put, List.setIfInBounds_toArray, List.set_cons_zero, List.set_cons_succ]
  rw [webWalk]
  refine And.intro (fun w' hx hd => ?_) ?_
  · have h6 := hd 6 (by simp)
    clear hd
    generalize us 6 = u6 at *
    obtain rfl : u6 = .pointer (some ⟨g, 7, none⟩) := h6
    have cv : w'.cell? ⟨g, 7, none⟩ = some (.int .i64 F.n) := (HBX.out.ext hx).cell 7
    refine web_of_list 13 rfl (by simp [Act.put]) rfl ?_
    go_wp2_with fail
    exact ⟨Ext.refl _, rfl⟩
  simp only [Act.put, List.setIfInBounds_toArray, List.set_cons_zero, List.set_cons_succ]
  rw [webWalk]
  refine And.intro (fun w' hx hd => ?_) ?_
  · clear hd
    refine web_of_list 14 rfl (by simp [Act.put]) rfl ?_
    go_wp2_with fail
    exact ⟨Ext.refl _, rfl⟩
  simp only [Act.put, List.setIfInBounds_toArray, List.set_cons_zero, List.set_cons_succ]
  rw [webWalk]
  refine And.intro (fun w' hx hd => ?_) ?_
  · have h8 := hd 8 (by simp)
    clear hd
    generalize us 8 = u8 at *
    obtain rfl : u8 = .pointer (some ⟨g, 0, none⟩) := h8
    refine web_of_list 15 rfl (by simp [Act.put]) rfl ?_
    go_wp2_with fail
    exact ⟨Ext.refl _, rfl⟩
  simp only [Act.put, List.setIfInBounds_toArray, List.set_cons_zero, List.set_cons_succ]
  rw [webWalk]
  refine And.intro (fun w' hx hd => ?_) ?_
  · have h9 := hd 9 (by simp)
    clear hd
    generalize us 9 = u9 at *
    obtain rfl : u9 = .pointer (some ⟨g, 0, none⟩) := h9
    refine web_of_list 16 rfl (by simp [Act.put]) rfl ?_
    go_wp2_with fail
    exact ⟨Ext.refl _, rfl⟩
  simp only [Act.put, List.setIfInBounds_toArray, List.set_cons_zero, List.set_cons_succ]
  rw [webWalk]
  refine And.intro (fun w' hx hd => ?_) ?_
  · have h10 := hd 10 (by simp)
    clear hd
    generalize us 10 = u10 at *
    obtain rfl : u10 = .pointer (some ⟨g, 8, none⟩) := h10
    refine web_of_list 17 rfl (by simp [Act.put]) rfl ?_
    go_wp2_with (refine wp_ld_fino (.tmp 16) rfl rfl g _ F rfl HL.out (HBX.out.ext hx) ?_)
    exact ⟨Ext.refl _, rfl⟩
  simp only [Act.put, List.setIfInBounds_toArray, List.set_cons_zero, List.set_cons_succ]
  rw [webWalk]
  refine And.intro (fun w' hx hd => ?_) ?_
  · have h3 := hd 3 (by simp)
    have h7 := hd 7 (by simp)
    have h11 := hd 11 (by simp)
    clear hd
    generalize us 3 = u3 at *
    generalize us 7 = u7 at *
    generalize us 11 = u11 at *
    obtain rfl : u3 = .slice (some ⟨b, 0, none⟩) F.v.length cap := h3
    obtain rfl : u7 = .int .i64 F.n := h7
    obtain rfl : u11 = .agg (intVals F.x) := h11
    refine web_of_list 18 rfl (by simp [Act.put]) rfl ?_
    go_wp2_with (go_at_call 150; refine (HP.out _ (HS.out.ext hx)).mono ?_; rintro e w2 ⟨u, rfl, x2, own2⟩)
    exact ⟨u, rfl, own_base (by rw [putAt_len]; exact own2) (by have := hx.size; omega)⟩
  simp only [Act.put, List.setIfInBounds_toArray, List.set_cons_zero, List.set_cons_succ]
  rw [webWalk]
  refine And.intro (fun w' hx hd => ?_) ?_
  · have h12 := hd 12 (by simp)
    clear hd
    generalize us 12 = u12 at *
    obtain ⟨A12, rfl, o12⟩ := h12
    refine web_of_list 5 rfl (by simp [Act.put]) rfl ?_
    go_wp2_with fail
    exact ⟨Ext.refl _, A12, rfl, o12⟩
  simp only [Act.put, List.setIfInBounds_toArray, List.set_cons_zero, List.set_cons_succ]
  rw [webWalk]
  refine And.intro (fun w' hx hd => ?_) ?_
  · have h13 := hd 13 (by simp)
    clear hd
    generalize us 13 = u13 at *
    obtain ⟨A13, rfl, o13⟩ := h13
    refine web_of_list 19 rfl (by simp [Act.put]) rfl ?_
    go_wp2_with fail
    exact ⟨Ext.refl _, o13⟩
  simp only [Act.put, List.setIfInBounds_toArray, List.set_cons_zero, List.set_cons_succ]
  rw [webWalk]
  refine And.intro (fun w' hx hd => ?_) ?_
  · have h13 := hd 13 (by simp)
    clear hd
    generalize us 13 = u13 at *
    obtain ⟨A13, rfl, o13⟩ := h13
    refine web_of_list 20 rfl (by simp [Act.put]) rfl ?_
    go_wp2_with fail
    exact ⟨Ext.refl _, rfl⟩
  simp only [Act.put, List.setIfInBounds_toArray, List.set_cons_zero, List.set_cons_succ]
  rw [webWalk]
  refine And.intro (fun w' hx hd => ?_) ?_
  · have h14 := hd 14 (by simp)
    clear hd
    generalize us 14 = u14 at *
    skip
    refine web_of_list 3 rfl (by simp [Act.put]) rfl ?_
    go_wp2_with fail
    exact ⟨Ext.refl _, h14⟩
  simp only [Act.put, List.setIfInBounds_toArray, List.set_cons_zero, List.set_cons_succ]
  rw [webWalk]
  refine And.intro (fun w' hx hd => ?_) ?_
  · have h15 := hd 15 (by simp)
    clear hd
    generalize us 15 = u15 at *
    obtain rfl : u15 = .int .i64 0 := h15
    refine web_of_list 4 rfl (by simp [Act.put]) rfl ?_
    go_wp2_with fail
    exact ⟨Ext.refl _, rfl⟩
  simp only [Act.put, List.setIfInBounds_toArray, List.set_cons_zero, List.set_cons_succ]
  rw [webWalk]
  intro w' hx hv
  have h16 := hv 16 (by omega)
  have h17 := hv 17 (by omega)
  clear hv
  generalize us 0 = u0 at *
  generalize us 1 = u1 at *
  generalize us 2 = u2 at *
  generalize us 3 = u3 at *
  generalize us 4 = u4 at *
  generalize us 5 = u5 at *
  generalize us 6 = u6 at *
  generalize us 7 = u7 at *
  generalize us 8 = u8 at *
  generalize us 9 = u9 at *
  generalize us 10 = u10 at *
  generalize us 11 = u11 at *
  generalize us 12 = u12 at *
  generalize us 13 = u13 at *
  generalize us 14 = u14 at *
  generalize us 15 = u15 at *
  generalize us 16 = u16 at *
  generalize us 17 = u17 at *
  skip
  obtain rfl : u17 = .int .i64 0 := h17
  have own14 : w'.ownsRow B 9 1 u16 (putAt F.v F.n F.x).length (strL (putAt F.v F.n F.x)) := h16
  rw [putAt_len] at own14
  obtain ⟨b2, cap2, rfl, hb2, _⟩ := Strs.own' own14 (by omega)
  have hbx' := HBX.out.ext hx
  have f0 := hbx'.frozen 0
  have k0 : w'.cell? ⟨g, 0, none⟩ = some (.slice (some ⟨b, 0, none⟩) F.v.length cap) := hbx'.cell 0
  have HX := Lib.hid hx
  have HB' := Lib.hid hbx'
  have OW := Lib.hid own14
  have hne : g ≠ b2 := by
    have := own_ne own14 hbx' (by decide)
    intro e; exact this (by rw [e]; rfl)
  clear hbx' hx own14 h16
  go_wp2_with fail
  go_ret
  refine ⟨rfl, ⟨HOK.out, hB, b2, cap2, ?_, ?_⟩, ?_⟩
  · rw [keep_cells]
    have e := HB'.out.set 0 (.slice (some ⟨b2, 0, none⟩) F.v.length cap2)
    show Box _ g 138 (fileC ⟨some ⟨b2, 0, none⟩, (putAt F.v F.n F.x).length, cap2⟩ F)
    rw [putAt_len]
    exact e
  · show World.ownsRow _ B 9 1 (.slice (some ⟨b2, 0, none⟩) (putAt F.v F.n F.x).length cap2) (putAt F.v F.n F.x).length (strL (putAt F.v F.n F.x))
    rw [putAt_len]
    exact own_setBox OW.out HB'.out (by decide) _
  · exact Below.setCell (Below.mono HX.out hBw) (p := ⟨g, 0, none⟩) hB _
/-- a block taken -/
def FileT.took (F : FileT) (i : Nat) : FileT := { F with v := takenV F.v i }
theorem FileOk.took {F : FileT} (h : FileOk F) {i : Nat} (ht : takeI F.v F.I = some i) : FileOk (F.took i) := ⟨h.good.taken ht, h.n1, h.n2, h.len, h.fits⟩
theorem took_cells (F : FileT) (i : Nat) (s : Sl) : fileC s (F.took i) = fileC s F := by
  unfold fileC fileL FileT.took
  simp only [takenV_len]
set_option maxHeartbeats 4000000 in
set_option maxRecDepth 100000 in
theorem ftake_yes (B g i : Nat) (F : FileT) (w : World) (h : FileIn B w g F) (hBw : B ≤ w.heap.size) (ht : takeI F.v F.I = some i) :
    Calls Tryz.prog 148 #[.pointer (some ⟨g, 0, none⟩)] w fun e w' => e = .returned (.tuple #[.int .i64 (i : Int), .int .i64 0]) ∧ FileIn B w' g (F.took i) ∧ Below B w w' := by
  obtain ⟨hok, hB, b, cap, hbx, own⟩ := h
  obtain ⟨t1, t2, t3, t4⟩ := takeI_some ht
  have HP := Lib.hid (fun w h => take_yes (some ⟨b, 0, none⟩) F.v.length cap i F.v F.I w h hok.good t1 t2 t3 t4)
  have HOK := Lib.hid (hok.took ht)
  have hpos : 0 < F.v.length := by have := plan_bd hok.good.plan; omega
  have hs := Strs.own own
  have cv : w.cell? ⟨g, 0, none⟩ = some (.slice (some ⟨b, 0, none⟩) F.v.length cap) := hbx.cell 0
  have HBX := Lib.hid hbx
  clear hok hbx own ht t1 t3 t4 t2
  go_enter Tryz.func148, Tryz.ntmps148
  go_upto_region 3 with (first
    | (go_at_call 193; refine (HP.out _ hs).mono ?_; rintro e w2 ⟨u, rfl, x2, own2⟩))
  have ow2 : w2.ownsRow B 9 1 u F.v.length (strL (takenV F.v i)) := own_base own2 hBw
  obtain ⟨b2, cap2, rfl, hb2, _⟩ := Strs.own' ow2 (by omega)
  have hbx' := HBX.out.ext x2
  have f0 := hbx'.frozen 0
  have k0 : w2.cell? ⟨g, 0, none⟩ = some (.slice (some ⟨b, 0, none⟩) F.v.length cap) := hbx'.cell 0
  have HX := Lib.hid x2
  have HB' := Lib.hid hbx'
  have OW := Lib.hid ow2
  clear hbx' x2 own2 ow2 cv hs
  go_wp2_with fail
  go_ret2
  refine ⟨rfl, ⟨HOK.out, hB, b2, cap2, ?_, ?_⟩, ?_⟩
  · rw [took_cells]
    have e := HB'.out.set 0 (.slice (some ⟨b2, 0, none⟩) F.v.length cap2)
    show Box _ g 138 (fileC ⟨some ⟨b2, 0, none⟩, (takenV F.v i).length, cap2⟩ F)
    rw [takenV_len]
    exact e
  · show World.ownsRow _ B 9 1 (.slice (some ⟨b2, 0, none⟩) (takenV F.v i).length cap2) (takenV F.v i).length (strL (takenV F.v i))
    rw [takenV_len]
    exact own_setBox OW.out HB'.out (by decide) _
  · exact Below.setCell (Below.mono HX.out hBw) (p := ⟨g, 0, none⟩) hB _
set_option maxHeartbeats 1000000 in
set_option maxRecDepth 100000 in
theorem ftake_no (B g : Nat) (F : FileT) (w : World) (h : FileIn B w g F) (hBw : B ≤ w.heap.size) (ht : takeI F.v F.I = none) :
    Calls Tryz.prog 148 #[.pointer (some ⟨g, 0, none⟩)] w fun e w' => e = .returned (.tuple #[.int .i64 0, .int .i64 10]) ∧ FileIn B w' g F ∧ Below B w w' := by
  have HF := Lib.hid h
  obtain ⟨hok, hB, b, cap, hbx, own⟩ := h
  have HP := Lib.hid (fun w h => take_full (some ⟨b, 0, none⟩) F.v.length cap F.v F.I w h hok.good (takeI_none ht))
  have hs := Strs.own own
  have cv : w.cell? ⟨g, 0, none⟩ = some (.slice (some ⟨b, 0, none⟩) F.v.length cap) := hbx.cell 0
  clear hok hbx own ht
  go_enter Tryz.func148, Tryz.ntmps148
  go_wp2_with (first
    | (go_at_call 193; refine (HP.out _ hs).mono ?_; rintro e w2 ⟨rfl, x2⟩))
  go_ret2
  exact ⟨rfl, HF.out.ext x2, Below.mono x2 hBw⟩
end Go.Proofs.YtkokmnaicfdjaaaGreatDoor
/- An inode as it stands on a volume: name, place. -/
namespace Go.Proofs.YtkokmnaicfdjaaaGreatDoor
set_option linter.unusedVariables false
set_option linter.unusedSimpArgs false
open Go.RowKit

theorem fsize_two : ∀ k : Fin 12, 4 ≤ fplace k → fsize k = 2 := by decide
theorem fsize_four : ∀ k : Fin 12, fplace k = 3 → fsize k = 4 := by decide
theorem fits_setj {x : List Int} (h : fitsB x = true) (hx : x.length = 12) {j : Nat} (hj : 3 ≤ j) (hj2 : j < 12) {i : Int} (h0 : 0 ≤ i) (h1 : i < 65536) : fitsB (x.set j i) = true := by
  unfold fitsB at *
  rw [List.all_eq_true] at *
  intro k hk
  have hk2 := of_decide_eq_true (h k hk)
  refine decide_eq_true ?_
  by_cases e : fplace k = j
  · have hg : (x.set j i).getD (fplace k) 0 = i := by rw [e]; simp [List.getD, hx, hj2]
    rw [hg]
    by_cases e3 : j = 3
    · rw [fsize_four k (by omega)]
      exact ⟨h0, by simp; omega⟩
    · rw [fsize_two k (by omega)]
      exact ⟨h0, by simpa using h1⟩
  · have : (x.set j i).getD (fplace k) 0 = x.getD (fplace k) 0 := by simp [List.getD, Ne.symm e]
    rw [this]; exact hk2
def FileT.setX (F : FileT) (j : Nat) (b : Int) : FileT := { F with x := F.x.set j b }
theorem FileOk.setX {F : FileT} (h : FileOk F) {j : Nat} (hj : 3 ≤ j) (hj2 : j < 12) {b : Int} (h0 : 0 ≤ b) (h1 : b < 65536) : FileOk (F.setX j b) :=
  ⟨h.good, h.n1, h.n2, by show (F.x.set j b).length = 12; rw [List.length_set]; exact h.len, fits_setj h.fits h.len hj hj2 h0 h1⟩
theorem setX_cells (F : FileT) (s : Sl) (hx : F.x.length = 12) {j : Nat} (hj : j < 12) (b : Int) : fileC s (F.setX j b) = (fileC s F).setIfInBounds (8 + j) (.int .i64 b) := by
  obtain ⟨y0, y1, y2, y3, y4, y5, y6, y7, y8, y9, y10, y11, he⟩ := list12 hx
  unfold fileC fileL FileT.setX
  simp only [he]
  rcases (by omega : j = 0 ∨ j = 1 ∨ j = 2 ∨ j = 3 ∨ j = 4 ∨ j = 5 ∨ j = 6 ∨ j = 7 ∨ j = 8 ∨ j = 9 ∨ j = 10 ∨ j = 11) with rfl | rfl | rfl | rfl | rfl | rfl | rfl | rfl | rfl | rfl | rfl | rfl <;> rfl
/-- a number stored among an inode's -/
theorem FileIn.setX {B : Nat} {w : World} {g : Nat} {F : FileT} (h : FileIn B w g F) {j : Nat} (hj : 3 ≤ j) (hj2 : j < 12) {b : Int} (h0 : 0 ≤ b) (h1 : b < 65536) : FileIn B (w.setCell ⟨g, 8 + j, none⟩ (.int .i64 b)) g (F.setX j b) := by
  obtain ⟨hok, hB, b1, cap, hbx, own⟩ := h
  refine ⟨hok.setX hj hj2 h0 h1, hB, b1, cap, ?_, own_setBox own hbx (by decide) _⟩
  have e := hbx.set (8 + j) (.int .i64 b)
  rw [← setX_cells F _ hok.len hj2 b] at e
  exact e
def two2L (b : Int) : List UInt8 := [b8 (b % 256), b8 (b / 256)]
/-- a number made the one of k -/
def FileT.named (F : FileT) (k : Nat) (b : Int) : FileT :=
  if k < 6 then (F.setX (4 + k) b).keep else if isB F.v F.I (F.x.getD 10 0) then F.lay (F.x.getD 10 0).toNat (2 * (k - 6)) (two2L b) else F
theorem FileIn.cell {B : Nat} {w : World} {g : Nat} {F : FileT} (h : FileIn B w g F) : ∃ s, Box w g 138 (fileC s F) := by
  obtain ⟨_, _, b, cap, hbx, _⟩ := h
  exact ⟨_, hbx⟩
theorem below_refl (B : Nat) (w : World) : Below B w w := Below.refl B w
set_option maxHeartbeats 4000000 in
set_option maxRecDepth 100000 in
theorem fname_any (B g k : Nat) (b : Int) (F : FileT) (w : World) (h : FileIn B w g F) (hBw : B ≤ w.heap.size) (hk : k < 70) (h0 : 0 ≤ b) (h1 : b < 65536) :
    Calls Tryz.prog 149 #[.pointer (some ⟨g, 0, none⟩), .int .i64 (k : Int), .int .i64 b] w fun e w' => e = .returned (.int .i64 0) ∧ FileIn B w' g (F.named k b) ∧ Below B w w' := by
  have HF := Lib.hid h
  have hok := h.1
  have hgB := h.2.1
  have hpl := plan_bd hok.good.plan
  obtain ⟨s, hbx⟩ := h.cell
  clear h
  by_cases h6 : k < 6
  · have hn : F.named k b = (F.setX (4 + k) b).keep := by unfold FileT.named; rw [if_pos h6]
    rw [hn]
    have hF2 := HF.out.setX (j := 4 + k) (by omega) (by omega) h0 h1
    rw [show 8 + (4 + k) = 12 + k by omega] at hF2
    have HK := Lib.hid (fun w h hB => fkeep_any B g (F.setX (4 + k) b) w h hB)
    have cd := fdirect hbx h6
    have fd := hbx.frozen (12 + k)
    have hki : (k : Int) < 6 := by omega
    have hkd : decide ((k : Int) < 6) = true := decide_eq_true hki
    have hs1 : (w.setCell ⟨g, 12 + k, none⟩ (.int .i64 b)).heap.size = w.heap.size := by simp [World.setCell]
    have HF2 := Lib.hid hF2
    clear hn hF2 hbx hok hpl
    generalize F.x.getD (4 + k) 0 = old at *
    go_enter Tryz.func149, Tryz.ntmps149
    go_upto_region 3 with fail
    generalize hw1 : w.setCell ⟨g, 12 + k, none⟩ (.int .i64 b) = w1 at *
    have HW := Lib.hid (show Below B w w1 by rw [← hw1]; exact Below.setCell (Below.refl B w) (p := ⟨g, 12 + k, none⟩) hgB _)
    clear hw1
    go_wp2_with (go_at_call 103; refine (HK.out _ HF2.out (by omega)).mono ?_; rintro e w2 ⟨rfl, hF3, x2⟩)
    go_ret
    exact ⟨rfl, hF3, HW.out.trans x2⟩
  · have hkd : decide ((k : Int) < 6) = false := decide_eq_false (by omega)
    have ci : w.cell? ⟨g, 18, none⟩ = some (.int .i64 (F.x.getD 10 0)) := hbx.cell 18
    have HIS := Lib.hid (fun bb w h => fis_any g s F bb w h)
    cases hi : isB F.v F.I (F.x.getD 10 0) with
    | false =>
      have hn : F.named k b = F := by unfold FileT.named; rw [if_neg h6, if_neg (by rw [hi]; simp)]
      rw [hn]
      have HB := Lib.hid hi
      clear hi hn hok hpl
      generalize F.x.getD 10 0 = ind at *
      go_enter Tryz.func149, Tryz.ntmps149
      go_wp2_with (go_at_call 147; refine (HIS.out ind _ hbx).mono ?_; rintro e w2 ⟨rfl, rfl⟩; rw [HB.out])
      go_ret
      exact ⟨rfl, HF.out, Below.refl _ _⟩
    | true =>
      have hn : F.named k b = F.lay (F.x.getD 10 0).toNat (2 * (k - 6)) (two2L b) := by unfold FileT.named; rw [if_neg h6, if_pos hi]
      rw [hn]
      have hib := isB_le hi
      have HB := Lib.hid hi
      clear hi hn
      generalize F.x.getD 10 0 = ind at *
      obtain ⟨q, rfl⟩ : ∃ q : Nat, ind = (q : Int) := ⟨ind.toNat, by omega⟩
      rw [Int.toNat_natCast]
      obtain ⟨z, hz⟩ : ∃ z, k - 6 = z := ⟨_, rfl⟩
      have hkz : (k : Int) = (z : Int) + 6 := by omega
      rw [hz, hkz]
      rw [hkz] at hkd
      have HL := Lib.hid (fun w h => show Calls Tryz.prog 101 #[.pointer (some ⟨g, 0, none⟩), .int .i64 (q : Int), .int .i64 (2 * (z : Int)), .string (str [b8 (b % 256), b8 (b / 256)])] w fun e w' => e = .returned (.tuple #[]) ∧ FileIn B w' g (F.lay q (2 * z) (two2L b)) ∧ Below B w w' from by
        have := flay_any B g F q (2 * z) (two2L b) w h (by omega) (by omega) (by show 2 * z + 2 ≤ 128; omega)
        rw [show ((2 * z : Nat) : Int) = 2 * (z : Int) by omega] at this
        exact this)
      have HP := Lib.hid (fun w => put2 b w h0 (by omega))
      have w1 : IntKind.i64.wrap ((z : Int) + 6 - 6) = (z : Int) := by rw [IntKind.wrap_i64]; omega
      have w2 : IntKind.i64.wrap (2 * (z : Int)) = ((2 * z : Nat) : Int) := by rw [IntKind.wrap_i64]; omega
      have wb : IntKind.u64.wrap b = b := by rw [IntKind.wrap_u64]; omega
      have ci' : ∀ y : Later w, y.now.cell? ⟨g, 18, none⟩ = some (.int .i64 (q : Int)) := fun y => y.ext.keep ci
      have hz64 : z < 64 := by omega
      clear hok hpl hib h6 hk hkz hz
      go_enter Tryz.func149, Tryz.ntmps149
      go_wp2_with (first
        | (go_at_call 147; refine (HIS.out (q : Int) _ hbx).mono ?_; rintro e w2 ⟨rfl, rfl⟩; rw [HB.out]))
      refine wp_region_later_tail 12 (by kernel_rfl) (by kernel_rfl) ?_
      simp only [List.take_succ_cons, List.take_zero, List.drop_succ_cons, List.drop_zero]
      repeat (go_big_quiet_step ((exact later_of (HP.out _))))
      refine wpQuiet_nil ?_
      rintro w7 ⟨y, rfl⟩
      clear ci'
      have HF7 := Lib.hid (HF.out.ext y.ext)
      have HX := Lib.hid y.ext
      generalize y.now = w7 at *
      go_wp2_with (first
        | (go_at_call 101; refine (HL.out _ HF7.out).mono ?_; rintro e w8 ⟨rfl, hF8, x8⟩))
      go_ret
      exact ⟨rfl, hF8, (Below.mono HX.out hBw).trans x8⟩
end Go.Proofs.YtkokmnaicfdjaaaGreatDoor
/- An inode as it stands on a volume: place. -/
namespace Go.Proofs.YtkokmnaicfdjaaaGreatDoor
set_option linter.unusedVariables false
set_option linter.unusedSimpArgs false
open Go.RowKit

/-- with a block of numbers, if the block k wants one; none: there is no room -/
def FileT.withInd (F : FileT) (k : Nat) : Option FileT :=
  if 6 ≤ k ∧ isB F.v F.I (F.x.getD 10 0) = false then (takeI F.v F.I).map fun i => ((F.took i).setX 10 (i : Int)).keep else some F
/-- the block k placed: the file, the block, the error -/
def FileT.placed (F : FileT) (k : Nat) : FileT × Int × Int :=
  if atP F.v F.I F.x k ≠ -1 then (F, atP F.v F.I F.x k, 0) else
    match F.withInd k with
    | none => (F, 0, 10)
    | some F1 => match takeI F1.v F1.I with
      | none => (F1, 0, 10)
      | some i => ((F1.took i).named k (i : Int), (i : Int), 0)
theorem placed_has {F : FileT} {k : Nat} (h : atP F.v F.I F.x k ≠ -1) : F.placed k = (F, atP F.v F.I F.x k, 0) := by unfold FileT.placed; rw [if_pos h]
theorem placed_full {F : FileT} {k : Nat} (h : atP F.v F.I F.x k = -1) (h1 : F.withInd k = none) : F.placed k = (F, 0, 10) := by
  unfold FileT.placed; rw [if_neg (fun h2 => h2 h), h1]
theorem placed_full2 {F F1 : FileT} {k : Nat} (h : atP F.v F.I F.x k = -1) (h1 : F.withInd k = some F1) (h2 : takeI F1.v F1.I = none) : F.placed k = (F1, 0, 10) := by
  unfold FileT.placed; rw [if_neg (fun h2 => h2 h), h1]; simp only [h2]
theorem placed_new {F F1 : FileT} {k i : Nat} (h : atP F.v F.I F.x k = -1) (h1 : F.withInd k = some F1) (h2 : takeI F1.v F1.I = some i) : F.placed k = ((F1.took i).named k (i : Int), (i : Int), 0) := by
  unfold FileT.placed; rw [if_neg (fun h2 => h2 h), h1]; simp only [h2]
theorem take_lt {v : List (List UInt8)} {I : Int} {i : Nat} (hg : Good v I) (h : takeI v I = some i) : i < 223 := by
  have := (takeI_some h).2.1
  have := plan_bd hg.plan
  omega
def PlaceR (B g : Nat) (R : FileT × Int × Int) (w : World) (e : Ending) (w' : World) : Prop := e = .returned (.tuple #[.int .i64 R.2.1, .int .i64 R.2.2]) ∧ FileIn B w' g R.1 ∧ Below B w w'
theorem FileIn.strs {B : Nat} {w : World} {g : Nat} {F : FileT} (h : FileIn B w g F) : ∃ s : Sl, Box w g 138 (fileC s F) ∧ Strs w s.A s.n F.v := by
  obtain ⟨_, _, b, cap, hbx, own⟩ := h
  exact ⟨_, hbx, Strs.own own⟩
set_option maxHeartbeats 4000000 in
set_option maxRecDepth 100000 in
theorem fplace_any (B g k : Nat) (F : FileT) (w : World) (h : FileIn B w g F) (hBw : B ≤ w.heap.size) (hk : k < 70) :
    Calls Tryz.prog 100 #[.pointer (some ⟨g, 0, none⟩), .int .i64 (k : Int)] w fun e w' => PlaceR B g (F.placed k) w e w' := by
  obtain ⟨s, hbx, hst⟩ := h.strs
  have hok := h.1
  have HAt := Lib.hid (fat_any g s F k w hbx hst hok hk)
  have HF := Lib.hid h
  have HIS := Lib.hid (fun bb w h => fis_any g s F bb w h)
  have HBX := Lib.hid hbx
  have HOK := Lib.hid hok
  clear h hst hbx hok
  go_enter Tryz.func100, Tryz.ntmps100
  go_upto_region 2 with (go_at_call 146; refine HAt.out.mono ?_; rintro e w1 ⟨rfl, x1⟩)
  have HF1 := Lib.hid (HF.out.ext x1)
  have hb1 := HBX.out.ext x1
  have HX1 := Lib.hid (show Below B w w1 from Below.mono x1 hBw)
  have hB1 : B ≤ w1.heap.size := by have := x1.size; omega
  clear HAt x1
  by_cases ha : atP F.v F.I F.x k = -1
  · have HA := Lib.hid ha
    rw [ha]
    clear ha
    -- cases
    have ci : w1.cell? ⟨g, 18, none⟩ = some (.int .i64 (F.x.getD 10 0)) := hb1.cell 18
    by_cases hk6 : k < 6
    · have HW := Lib.hid (show F.withInd k = some F by unfold FileT.withInd; rw [if_neg (fun h => by omega)])
      have d6 : decide ((6 : Int) ≤ (k : Int)) = false := decide_eq_false (by omega)
      have HF2 := HF1
      have HX2 := HX1
      have hB2 := hB1
      clear ci
      cases ht : takeI F.v F.I with
      | none =>
        have HPl := Lib.hid (placed_full2 HA.out HW.out ht)
        have HT := Lib.hid (ftake_no B g F w1 HF2.out hB2 ht)
        clear ht
        go_wp2_with (first
          | (go_at_call 148; refine HT.out.mono ?_; rintro e w3 ⟨rfl, hF3, x3⟩))
        go_ret2
        unfold PlaceR
        rw [HPl.out]
        exact ⟨rfl, hF3, HX2.out.trans x3⟩
      | some i =>
        have HPl := Lib.hid (placed_new HA.out HW.out ht)
        have hi223 := take_lt HF2.out.1.good ht
        have HT := Lib.hid (ftake_yes B g i F w1 HF2.out hB2 ht)
        have HNm := Lib.hid (fun w h hb => fname_any B g k (i : Int) (F.took i) w h hb hk (by omega) (by omega))
        clear ht
        go_wp2_with (first
          | (go_at_call 148; refine HT.out.mono ?_; rintro e w3 ⟨rfl, hF3, x3⟩; have HF3 := Lib.hid hF3; have hB3 : B ≤ w3.heap.size := Nat.le_trans hB2 x3.size; clear hF3)
          | (go_at_call 149; refine (HNm.out _ HF3.out hB3).mono ?_; rintro e w4 ⟨rfl, hF4, x4⟩))
        go_ret2
        unfold PlaceR
        rw [HPl.out]
        exact ⟨rfl, hF4, (HX2.out.trans x3).trans x4⟩
    · have d6 : decide ((6 : Int) ≤ (k : Int)) = true := decide_eq_true (by omega)
      cases hi : isB F.v F.I (F.x.getD 10 0) with
      | true =>
        have HW := Lib.hid (show F.withInd k = some F by unfold FileT.withInd; rw [if_neg (fun h => by rw [hi] at h; cases h.2)])
        have HB := Lib.hid hi
        have HF2 := HF1
        have HX2 := HX1
        have hB2 := hB1
        clear hi
        generalize F.x.getD 10 0 = ind at *
        cases ht : takeI F.v F.I with
        | none =>
          have HPl := Lib.hid (placed_full2 HA.out HW.out ht)
          have HT := Lib.hid (ftake_no B g F w1 HF2.out hB2 ht)
          clear ht
          go_wp2_with (first
            | (go_at_call 147; refine (HIS.out _ _ hb1).mono ?_; rintro e w2 ⟨rfl, rfl⟩; rw [HB.out])
            | (go_at_call 148; refine HT.out.mono ?_; rintro e w3 ⟨rfl, hF3, x3⟩))
          go_ret2
          unfold PlaceR
          rw [HPl.out]
          exact ⟨rfl, hF3, HX2.out.trans x3⟩
        | some i =>
          have HPl := Lib.hid (placed_new HA.out HW.out ht)
          have hi223 := take_lt HF2.out.1.good ht
          have HT := Lib.hid (ftake_yes B g i F w1 HF2.out hB2 ht)
          have HNm := Lib.hid (fun w h hb => fname_any B g k (i : Int) (F.took i) w h hb hk (by omega) (by omega))
          clear ht
          go_wp2_with (first
            | (go_at_call 147; refine (HIS.out _ _ hb1).mono ?_; rintro e w2 ⟨rfl, rfl⟩; rw [HB.out])
            | (go_at_call 148; refine HT.out.mono ?_; rintro e w3 ⟨rfl, hF3, x3⟩; have HF3 := Lib.hid hF3; have hB3 : B ≤ w3.heap.size := Nat.le_trans hB2 x3.size; clear hF3)
            | (go_at_call 149; refine (HNm.out _ HF3.out hB3).mono ?_; rintro e w4 ⟨rfl, hF4, x4⟩))
          go_ret2
          unfold PlaceR
          rw [HPl.out]
          exact ⟨rfl, hF4, (HX2.out.trans x3).trans x4⟩
      | false =>
        have HB := Lib.hid hi
        cases ht0 : takeI F.v F.I with
        | none =>
          have HPl := Lib.hid (placed_full HA.out (show F.withInd k = none by unfold FileT.withInd; rw [if_pos ⟨by omega, hi⟩, ht0]; rfl))
          have HT0 := Lib.hid (ftake_no B g F w1 HF1.out hB1 ht0)
          clear ht0 hi
          generalize F.x.getD 10 0 = ind at *
          go_wp2_with (first
            | (go_at_call 147; refine (HIS.out _ _ hb1).mono ?_; rintro e w2 ⟨rfl, rfl⟩; rw [HB.out])
            | (go_at_call 148; refine HT0.out.mono ?_; rintro e w3 ⟨rfl, hF3, x3⟩))
          go_ret2
          unfold PlaceR
          rw [HPl.out]
          exact ⟨rfl, hF3, HX1.out.trans x3⟩
        | some i0 =>
          have hi0 := take_lt HOK.out.good ht0
          have HW := Lib.hid (show F.withInd k = some ((F.took i0).setX 10 (i0 : Int)).keep by unfold FileT.withInd; rw [if_pos ⟨by omega, hi⟩, ht0]; rfl)
          have HT0 := Lib.hid (ftake_yes B g i0 F w1 HF1.out hB1 ht0)
          have HK0 := Lib.hid (fun w h hb => fkeep_any B g ((F.took i0).setX 10 (i0 : Int)) w h hb)
          clear ht0 hi
          generalize F.x.getD 10 0 = ind at *
          go_upto_region 8 with (first
            | (go_at_call 147; refine (HIS.out _ _ hb1).mono ?_; rintro e w2 ⟨rfl, rfl⟩; rw [HB.out])
            | (go_at_call 148; refine HT0.out.mono ?_; rintro e w3 ⟨rfl, hF3, x3⟩))
          obtain ⟨s3, hb3⟩ := hF3.cell
          have hB3 : B ≤ w3.heap.size := Nat.le_trans hB1 x3.size
          have f18 := hb3.frozen 18
          have c18 : w3.cell? ⟨g, 18, none⟩ = some (.int .i64 ((F.took i0).x.getD 10 0)) := hb3.cell 18
          have hF4 : FileIn B (w3.setCell ⟨g, 18, none⟩ (.int .i64 (i0 : Int))) g ((F.took i0).setX 10 (i0 : Int)) := hF3.setX (j := 10) (b := (i0 : Int)) (by omega) (by omega) (by omega) (by omega)
          have HF4 := Lib.hid hF4
          clear hF4
          have hgB := hF3.2.1
          have HX3 := Lib.hid (HX1.out.trans x3)
          clear hb3 hF3 x3 HT0 hb1 ci
          generalize (F.took i0).x.getD 10 0 = old at *
          go_upto_region 9 with fail
          have hs4 : (w3.setCell ⟨g, 18, none⟩ (.int .i64 (i0 : Int))).heap.size = w3.heap.size := by simp [World.setCell]
          have HX4 := Lib.hid (HX3.out.trans (Below.setCell (Below.refl B w3) (p := ⟨g, 18, none⟩) hgB (.int .i64 (i0 : Int))))
          generalize w3.setCell ⟨g, 18, none⟩ (.int .i64 (i0 : Int)) = w4 at *
          have hB4 : B ≤ w4.heap.size := by omega
          go_upto_region 12 with (go_at_call 103; refine (HK0.out _ HF4.out hB4).mono ?_; rintro e w5 ⟨rfl, hF5, x5⟩)
          have HF2 := Lib.hid hF5
          have HX2 := Lib.hid (HX4.out.trans x5)
          have hB2 : B ≤ w5.heap.size := Nat.le_trans hB4 x5.size
          clear hF5 x5 HF4 HX4 HX3 hB4 hs4 hB3 HK0
          generalize ((F.took i0).setX 10 (i0 : Int)).keep = F1 at *
          cases ht : takeI F1.v F1.I with
          | none =>
            have HPl := Lib.hid (placed_full2 HA.out HW.out ht)
            have HT := Lib.hid (ftake_no B g F1 w5 HF2.out hB2 ht)
            clear ht
            go_wp2_with (first
              | (go_at_call 148; refine HT.out.mono ?_; rintro e w3 ⟨rfl, hF3, x3⟩))
            go_ret2
            unfold PlaceR
            rw [HPl.out]
            exact ⟨rfl, hF3, HX2.out.trans x3⟩
          | some i =>
            have HPl := Lib.hid (placed_new HA.out HW.out ht)
            have hi223 := take_lt HF2.out.1.good ht
            have HT := Lib.hid (ftake_yes B g i F1 w5 HF2.out hB2 ht)
            have HNm := Lib.hid (fun w h hb => fname_any B g k (i : Int) (F1.took i) w h hb hk (by omega) (by omega))
            clear ht
            go_wp2_with (first
              | (go_at_call 148; refine HT.out.mono ?_; rintro e w3 ⟨rfl, hF3, x3⟩; have HF3 := Lib.hid hF3; have hB3 : B ≤ w3.heap.size := Nat.le_trans hB2 x3.size; clear hF3)
              | (go_at_call 149; refine (HNm.out _ HF3.out hB3).mono ?_; rintro e w4 ⟨rfl, hF4, x4⟩))
            go_ret2
            unfold PlaceR
            rw [HPl.out]
            exact ⟨rfl, hF4, (HX2.out.trans x3).trans x4⟩
  · have hp := placed_has ha
    have hd : (atP F.v F.I F.x k != -1) = true := by simpa using ha
    have HP := Lib.hid hp
    clear ha hp
    generalize atP F.v F.I F.x k = b at *
    go_wp2_with fail
    go_ret2
    unfold PlaceR
    rw [HP.out]
    exact ⟨rfl, HF1.out, HX1.out⟩
end Go.Proofs.YtkokmnaicfdjaaaGreatDoor
/- extent.Write on a volume that is one. -/
namespace Go.Proofs.YtkokmnaicfdjaaaGreatDoor
set_option linter.unusedVariables false
set_option linter.unusedSimpArgs false
open Go.RowKit

/-- bytes laid from a place on -/
def FileT.wr (off : Nat) (d : List UInt8) (p : Nat) (F : FileT) : FileT × Int :=
  if h : p < off + d.length then
    if (F.placed (p / 128)).2.2 ≠ 0 then ((F.placed (p / 128)).1, (F.placed (p / 128)).2.2)
    else FileT.wr off d (p + min (128 - p % 128) (off + d.length - p)) ((F.placed (p / 128)).1.lay (F.placed (p / 128)).2.1.toNat (p % 128) ((d.drop (p - off)).take (min (128 - p % 128) (off + d.length - p))))
  else (F, 0)
termination_by off + d.length - p
decreasing_by
  have := Nat.mod_lt p (show 128 > 0 by omega)
  omega
theorem wr_done {off : Nat} {d : List UInt8} {p : Nat} {F : FileT} (h : ¬ p < off + d.length) : F.wr off d p = (F, 0) := by
  rw [FileT.wr, dif_neg h]
theorem wr_full {off : Nat} {d : List UInt8} {p : Nat} {F : FileT} (h : p < off + d.length) (he : (F.placed (p / 128)).2.2 ≠ 0) : F.wr off d p = ((F.placed (p / 128)).1, (F.placed (p / 128)).2.2) := by
  rw [FileT.wr, dif_pos h, if_pos he]
theorem wr_on {off : Nat} {d : List UInt8} {p : Nat} {F : FileT} (h : p < off + d.length) (he : (F.placed (p / 128)).2.2 = 0) : F.wr off d p = FileT.wr off d (p + min (128 - p % 128) (off + d.length - p)) ((F.placed (p / 128)).1.lay (F.placed (p / 128)).2.1.toNat (p % 128) ((d.drop (p - off)).take (min (128 - p % 128) (off + d.length - p)))) := by
  rw [FileT.wr, dif_pos h, if_neg (fun h => h he)]
theorem isB_of {v : List (List UInt8)} {I : Int} {x : List Int} {k : Nat} (h : atP v I x k ≠ -1) : isB v I (atP v I x k) = true := by
  unfold atP at *
  split
  · rename_i h1; exact h1
  · rename_i h1; rw [if_neg h1] at h; exact absurd rfl h
theorem keep_v_len (F : FileT) : F.keep.v.length = F.v.length := putAt_len _ _ _
theorem lay_v_len (F : FileT) (q p : Nat) (d : List UInt8) : (F.lay q p d).v.length = F.v.length := List.length_set
theorem named_v_len (F : FileT) (k : Nat) (b : Int) : (F.named k b).v.length = F.v.length := by
  unfold FileT.named
  split
  · exact keep_v_len _
  · split
    · exact lay_v_len _ _ _ _
    · rfl
theorem took_v_len (F : FileT) (i : Nat) : (F.took i).v.length = F.v.length := takenV_len _ _
/-- a block that was placed -/
theorem placed_ok {F : FileT} {k : Nat} (hF : FileOk F) (h : (F.placed k).2.2 = 0) : ∃ q : Nat, (F.placed k).2.1 = (q : Int) ∧ 3 ≤ q ∧ q < (F.placed k).1.v.length := by
  have hpl := plan_bd hF.good.plan
  by_cases ha : atP F.v F.I F.x k = -1
  · cases hw : F.withInd k with
    | none => rw [placed_full ha hw] at h; cases h
    | some F1 =>
      cases ht : takeI F1.v F1.I with
      | none => rw [placed_full2 ha hw ht] at h; cases h
      | some i =>
        rw [placed_new ha hw ht]
        obtain ⟨t1, t2, _⟩ := takeI_some ht
        have hI : F1.I = F.I := by
          unfold FileT.withInd at hw
          split at hw
          · cases h0 : takeI F.v F.I with
            | none => rw [h0] at hw; cases hw
            | some j => rw [h0] at hw; injection hw with hw; rw [← hw]; rfl
          · injection hw with hw; rw [hw]
        refine ⟨i, rfl, ?_, ?_⟩
        · unfold dataOf at t1; rw [hI] at t1; omega
        · rw [named_v_len, took_v_len]; exact t2
  · rw [placed_has ha]
    obtain ⟨h1, h2⟩ := isB_le (isB_of ha)
    exact ⟨(atP F.v F.I F.x k).toNat, by simp only; omega, by omega, by simp only; omega⟩
def fileOf (v : List (List UInt8)) (I k : Int) : FileT := ⟨v, I, k, inoAt v k⟩
/-- a volume in which bytes were written, or the error -/
def writeP (v : List (List UInt8)) (I k : Int) (off : Nat) (d : List UInt8) : List (List UInt8) × Int :=
  if ((fileOf v I k).wr off d off).2 ≠ 0 then ([], ((fileOf v I k).wr off d off).2)
  else if d ≠ [] ∧ sizeP ((fileOf v I k).wr off d off).1.x < ((off + d.length : Nat) : Int) then ((((fileOf v I k).wr off d off).1.setX 3 ((off + d.length : Nat) : Int)).keep.v, 0)
  else (((fileOf v I k).wr off d off).1.v, 0)
def WriteR (B : Nat) (R : List (List UInt8) × Int) (e : Ending) (w' : World) : Prop :=
  (R.2 ≠ 0 ∧ e = .returned (.tuple #[.slice none 0 0, .int .i64 R.2])) ∨ (R.2 = 0 ∧ ∃ b cap, e = .returned (.tuple #[.slice (some ⟨b, 0, none⟩) R.1.length cap, .int .i64 0]) ∧ w'.ownsRow B 9 1 (.slice (some ⟨b, 0, none⟩) R.1.length cap) R.1.length (strL R.1))
theorem FileIn.of_opened {B : Nat} {w : World} {g : Nat} {v : List (List UInt8)} {I k : Int} {s : Sl} (hg : Good v I) (h1 : 1 ≤ k) (h2 : k ≤ I) (hB : B ≤ g) (hs : s.n = v.length) (hbx : Box w g 138 (fileC s (fileOf v I k))) (own : w.ownsRow B 9 1 (.slice s.A s.n s.c) v.length (strL v)) : FileIn B w g (fileOf v I k) := by
  have hpl := plan_bd hg.plan
  obtain ⟨b, cap, e, _⟩ := Strs.own' own (by omega)
  injection e with e1 e2 e3
  obtain ⟨A, n, c⟩ := s
  simp only at e1 e2 e3 hs
  subst e1 e2 e3
  exact ⟨⟨hg, h1, h2, inoAt_len v k, fits_ino _ _⟩, hB, b, _, hbx, own⟩
set_option maxHeartbeats 8000000 in
set_option maxRecDepth 100000 in
theorem fwrite_yes (A : Option Addr) (n c : Nat) (v : List (List UInt8)) (I k : Int) (off : Nat) (d : List UInt8) (w : World) (hv : Strs w A n v) (hg : Good v I) (hk1 : 1 ≤ k) (hk2 : k ≤ I) (hof : off ≤ 8960) (hd : d.length ≤ 8960 - off) :
    Calls Tryz.prog 50 #[.slice A n c, .int .i64 k, .int .i64 (off : Int), .string (str d)] w fun e w' => WriteR w.heap.size (writeP v I k off d) e w' ∧ Ext w w' := by
  have HO := Lib.hid (fun w h => opened_yes A n c v I k w h hg hk1 hk2)
  have HFO := Lib.hid (fun (B g : Nat) (w : World) (s : Sl) hB hs hbx own => FileIn.of_opened (B := B) (w := w) (g := g) (s := s) hg hk1 hk2 hB hs hbx own)
  have HV := Lib.hid hv
  have hz := str_size
  have d1 : decide ((off : Int) < 0) = false := by simp
  have d2 : decide ((8960 : Int) < (off : Int)) = false := by simp; omega
  have w8 : IntKind.i64.wrap (8960 - (off : Int)) = 8960 - (off : Int) := by rw [IntKind.wrap_i64]; omega
  have d3 : decide (8960 - (off : Int) < (d.length : Int)) = false := by simp; omega
  clear hv hg hk1 hk2
  generalize hG : w.heap.size = G at *
  go_enter Tryz.func50, Tryz.ntmps50
  go_upto_region 2 with (first
    | (go_at_call 99; refine (HO.out _ HV.out).mono ?_; rintro e w2 ⟨⟨s, rfl, hsn, own2⟩, x2⟩)
    | (refine wp_st_file (.tmp 10) (.tmp 23) rfl rfl w2.heap.size s (fileOf v I k) _ 138 rfl rfl (Box.new _ _ _) rfl ?_; intro w3 b3 g3))
  have xa : Ext w2 (w2.alloc (.cells fileZ 138)) := (Ext.refl w2).alloc _
  have x23 : Ext w2 w3 := xa.grown g3 (fun j e => by cases e; exact Nat.le_refl _)
  have own3 := (own_ext own2 xa).kept g3 (.inr (own_ne (own_ext own2 xa) (Box.new w2 138 fileZ) (by decide)).symm)
  rw [hG] at own3
  have hF0 := HFO.out G w2.heap.size w3 s (by rw [← hG]; exact x2.size) hsn b3 own3
  have HX := Lib.hid (x2.trans x23)
  have HWP := Lib.hid (show writeP v I k off d = (if ((fileOf v I k).wr off d off).2 ≠ 0 then ([], ((fileOf v I k).wr off d off).2)
    else if d ≠ [] ∧ sizeP ((fileOf v I k).wr off d off).1.x < ((off + d.length : Nat) : Int) then ((((fileOf v I k).wr off d off).1.setX 3 ((off + d.length : Nat) : Int)).keep.v, 0)
    else (((fileOf v I k).wr off d off).1.v, 0)) from rfl)
  clear HO HFO HV own2 hsn b3 own3 xa x23 x2 g3
  generalize w2.heap.size = g at *
  generalize fileOf v I k = F0 at *
  have HF0 := Lib.hid hF0
  clear hF0
  obtain ⟨R, hR⟩ : ∃ x, x = F0.wr off d off := ⟨_, rfl⟩
  rw [← hR] at HWP
  have HR0 := Lib.hid hR
  clear hR
  have we : IntKind.i64.wrap ((off : Int) + (d.length : Int)) = (off : Int) + (d.length : Int) := by rw [IntKind.wrap_i64]; omega
  go_upto_region 10 with fail
  clear d1 d2 w8 d3
  go_loopw [13] (fun t wx => ∃ (p : Nat) (F : FileT), t = .int .i64 p ∧ off ≤ p ∧ p ≤ off + d.length ∧ FileIn G wx g F ∧ Ext w wx ∧ F.wr off d p = R) (fun t _ => off + d.length - (intOf t).toNat)
  case atStart => exact ⟨off, F0, rfl, by omega, by omega, HF0.out, HX.out, HR0.out.symm⟩
  case round =>
    clear HX HF0 HR0
    obtain ⟨p, F, rfl, hp1, hp2, hF, xk, hwr⟩ := hrel
    have HF := Lib.hid hF
    have HXk := Lib.hid xk
    have HWR := Lib.hid hwr
    have hGr : G ≤ wr.heap.size := by rw [← hG]; exact xk.size
    clear hF xk hwr
    by_cases hlt : p < off + d.length
    · have hpi : (p : Int) < (off : Int) + (d.length : Int) := by omega
      have HPl := Lib.hid (show Calls Tryz.prog 100 #[.pointer (some ⟨g, 0, none⟩), .int .i64 ((p : Int) / 128)] wr fun e w' => PlaceR G g (F.placed (p / 128)) wr e w' from by
        have := fplace_any G g (p / 128) F wr HF.out hGr (by omega)
        rw [show ((p / 128 : Nat) : Int) = (p : Int) / 128 by omega] at this
        exact this)
      have HOk := Lib.hid (fun h => placed_ok (k := p / 128) HF.out.1 h)
      have HFull := Lib.hid (fun he => wr_full (F := F) hlt he)
      have HOn := Lib.hid (fun he => wr_on (F := F) hlt he)
      generalize F.placed (p / 128) = P at *
      obtain ⟨F1, bq, er⟩ := P
      by_cases he : er = 0
      · subst he
        obtain ⟨q, hq0, hq1, hq2⟩ := HOk.out rfl
        simp only at hq0 hq2
        subst hq0
        have HOn2 := Lib.hid (HOn.out rfl)
        clear HOn HFull HOk
        unfold PlaceR at HPl
        go_upto_region 16 with (first
          | (go_at_call 100; refine HPl.out.mono ?_; rintro e w4 ⟨rfl, hF4, x4⟩))
        obtain ⟨m, hm⟩ : ∃ m, p % 128 = m := ⟨_, rfl⟩
        have hm8 : m < 128 := by omega
        obtain ⟨pc, hpc⟩ : ∃ pc, min (128 - m) (off + d.length - p) = pc := ⟨_, rfl⟩
        obtain ⟨po, hpo⟩ : ∃ po, p - off = po := ⟨_, rfl⟩
        have e1 : (p : Int) % 128 = (m : Int) := by omega
        rw [e1]
        have e2 : min (128 - (m : Int)) ((off : Int) + (d.length : Int) - (p : Int)) = (pc : Int) := by omega
        rw [e2]
        have HON := Lib.hid (by have := HOn2.out; rw [hm, hpc, hpo] at this; exact this)
        have HLy := Lib.hid (fun w (h : FileIn G w g F1) => flay_any G g F1 q m ((d.drop po).take pc) w h hq1 hq2 (by rw [List.length_take, List.length_drop]; omega))
        have HF4 := Lib.hid hF4
        have HX4 := Lib.hid x4
        have hse := str_ext
        have t1 : (p : Int) - (off : Int) = (po : Int) := by omega
        have t2 : (po : Int) + (pc : Int) ≤ (d.length : Int) := by omega
        have t3 : ((po : Int) + (pc : Int)).toNat - po = pc := by omega
        have t4 : ((po : Int) + (pc : Int)).toNat = po + pc := by omega
        have t5 : (p : Int) + (pc : Int) ≤ 8960 := by omega
        clear e1 e2 HOn2 hF4 x4 HPl
        go_wp2_with (first
          | (go_at_call 101; refine (HLy.out _ HF4.out).mono ?_; rintro e w5 ⟨rfl, hF5, x5⟩))
        refine ⟨⟨p + pc, F1.lay q m ((d.drop po).take pc), by rw [Int.natCast_add], by omega, by omega, hF5, (HXk.out.under HX4.out (by omega)).under x5 (by omega), ?_⟩, ?_⟩
        · rw [← HWR.out, HON.out, Int.toNat_natCast]
        · simp [intOf]; omega
      · have hen : (er != 0) = true := by simpa using he
        have hW := HWP.out
        have hRe : R = (F1, er) := by rw [← HWR.out]; exact HFull.out he
        rw [hRe] at hW
        rw [if_pos he] at hW
        have HW := Lib.hid hW
        have HE := Lib.hid he
        clear he hW hRe
        unfold PlaceR at HPl
        go_wp2_with (first
          | (go_at_call 100; refine HPl.out.mono ?_; rintro e w4 ⟨rfl, hF4, x4⟩))
        go_ret2
        exact ⟨.inl ⟨by rw [HW.out]; exact HE.out, by rw [HW.out]; rfl⟩, HXk.out.under x4 (by omega)⟩
    · have hpe : p = off + d.length := by omega
      have hlt2 : ¬ (p : Int) < (off : Int) + (d.length : Int) := by omega
      have hRe : R = (F, 0) := by rw [← HWR.out]; exact wr_done hlt
      have hW := HWP.out
      rw [hRe, if_neg (fun h => h rfl)] at hW
      simp only at hW
      obtain ⟨hok, hB, b, cap, hbx, own⟩ := HF.out
      have HOK := Lib.hid hok
      have OWN := Lib.hid own
      have cv : wr.cell? ⟨g, 0, none⟩ = some (.slice (some ⟨b, 0, none⟩) F.v.length cap) := hbx.cell 0
      have HSz := Lib.hid (fsize_any g _ F wr hbx)
      have f11 := hbx.frozen 11
      have c11 : wr.cell? ⟨g, 11, none⟩ = some (.int .i64 (F.x.getD 3 0)) := hbx.cell 11
      have HBX := Lib.hid hbx
      clear hRe hpe hok own hbx hlt
      by_cases hde : d = []
      · rw [if_neg (fun h => h.1 hde)] at hW
        have HW := Lib.hid hW
        have h1 : (str d).toList = [] := by rw [str_toList]; exact hde
        clear hW hde HSz f11 c11
        go_wp2_with fail
        go_ret2
        exact ⟨.inr ⟨by rw [HW.out], b, cap, by rw [HW.out]; rfl, by rw [HW.out]; exact OWN.out⟩, HXk.out⟩
      · have h1 : ¬ (str d).toList = [] := by rw [str_toList]; exact hde
        have h2 : (str d).toList.isEmpty = false := by rw [str_toList]; simpa using hde
        by_cases hsz : sizeP F.x < (off : Int) + (d.length : Int)
        · rw [if_pos ⟨hde, by rw [Int.natCast_add]; exact hsz⟩] at hW
          have HW := Lib.hid hW
          have hF2 : FileIn G (wr.setCell ⟨g, 11, none⟩ (.int .i64 ((off + d.length : Nat) : Int))) g (F.setX 3 ((off + d.length : Nat) : Int)) := HF.out.setX (j := 3) (by omega) (by omega) (by omega) (by omega)
          have hs1 : (wr.setCell ⟨g, 11, none⟩ (.int .i64 ((off + d.length : Nat) : Int))).heap.size = wr.heap.size := by simp [World.setCell]
          have HX1 := Lib.hid (Below.setCell (Below.refl G wr) (p := ⟨g, 11, none⟩) hB (.int .i64 ((off + d.length : Nat) : Int)))
          have HK := Lib.hid (fun w h hB => fkeep_any G g (F.setX 3 ((off + d.length : Nat) : Int)) w h hB)
          rw [Int.natCast_add] at hF2 hs1 HX1
          have HF2 := Lib.hid hF2
          clear hW hde hF2
          generalize sizeP F.x = sz at *
          generalize F.x.getD 3 0 = old at *
          go_upto_region 20 with (first
            | (go_at_call 102; refine HSz.out.mono ?_; rintro e w5 ⟨rfl, rfl⟩))
          generalize wr.setCell ⟨g, 11, none⟩ (.int .i64 ((off : Int) + (d.length : Int))) = w6 at *
          go_upto_region 23 with (first
            | (go_at_call 103; refine (HK.out _ HF2.out (by omega)).mono ?_; rintro e w7 ⟨rfl, hF7, x7⟩))
          obtain ⟨hok7, hB7, b7, cap7, hbx7, own7⟩ := hF7
          have OW7 := Lib.hid own7
          have HX7 := Lib.hid x7
          have cv7 : w7.cell? ⟨g, 0, none⟩ = some (.slice (some ⟨b7, 0, none⟩) (F.setX 3 ((off + d.length : Nat) : Int)).keep.v.length cap7) := hbx7.cell 0
          clear hok7 hB7 hbx7 own7 x7 HF2 HK cv
          go_wp2_with fail
          go_ret2
          exact ⟨.inr ⟨by rw [HW.out], b7, cap7, by rw [HW.out]; rfl, by rw [HW.out]; exact OW7.out⟩, (HXk.out.under HX1.out (by omega)).under HX7.out (by omega)⟩
        · rw [if_neg (fun h => hsz (by have := h.2; rw [Int.natCast_add] at this; exact this))] at hW
          have HW := Lib.hid hW
          clear hW hde f11 c11
          generalize sizeP F.x = sz at *
          go_wp2_with (first
            | (go_at_call 102; refine HSz.out.mono ?_; rintro e w5 ⟨rfl, rfl⟩))
          go_ret2
          exact ⟨.inr ⟨by rw [HW.out], b, cap, by rw [HW.out]; rfl, by rw [HW.out]; exact OWN.out⟩, HXk.out⟩
end Go.Proofs.YtkokmnaicfdjaaaGreatDoor
/- Plain: what is written into a file; other inodes stay. -/
namespace Go.Proofs.YtkokmnaicfdjaaaGreatDoor
set_option linter.unusedVariables false
set_option linter.unusedSimpArgs false

/-- the same volume but for what the file has -/
structure Frm (F G : FileT) : Prop where
  I : G.I = F.I
  n : G.n = F.n
  len : G.v.length = F.v.length
  ino : ∀ m, 1 ≤ m → m ≤ F.I → m ≠ F.n → inoAt G.v m = inoAt F.v m
theorem Frm.refl (F : FileT) : Frm F F := ⟨rfl, rfl, rfl, fun _ _ _ _ => rfl⟩
theorem Frm.trans {F G H : FileT} (h : Frm F G) (k : Frm G H) : Frm F H :=
  ⟨k.I.trans h.I, k.n.trans h.n, k.len.trans h.len, fun m h1 h2 h3 => (k.ino m h1 (by rw [h.I]; exact h2) (by rw [h.n]; exact h3)).trans (h.ino m h1 h2 h3)⟩
theorem Frm.setX (F : FileT) (j : Nat) (b : Int) : Frm F (F.setX j b) := ⟨rfl, rfl, rfl, fun _ _ _ _ => rfl⟩
theorem Frm.keep {F : FileT} (h : FileOk F) : Frm F F.keep := ⟨rfl, rfl, keep_v_len F, fun m h1 h2 h3 => inoAt_put_ne h.good h.n1 h.n2 h1 h3 F.x⟩
theorem Frm.lay (F : FileT) {q p : Nat} {d : List UInt8} (hq : 3 + (F.I + 1) / 2 ≤ (q : Int)) : Frm F (F.lay q p d) :=
  ⟨rfl, rfl, lay_v_len F q p d, fun m h1 h2 h3 => inoAt_set _ _ (by omega)⟩
theorem Frm.took (F : FileT) {i : Nat} (ht : takeI F.v F.I = some i) : Frm F (F.took i) := by
  have h := (takeI_some ht).1
  unfold dataOf at h
  refine ⟨rfl, rfl, took_v_len F i, fun m h1 h2 h3 => ?_⟩
  show inoAt (takenV F.v i) m = _
  unfold takenV
  rw [inoAt_set _ _ (by omega), inoAt_set _ _ (by omega)]
theorem two2L_len (b : Int) : (two2L b).length = 2 := rfl
theorem FileOk.named {F : FileT} (h : FileOk F) {k : Nat} (hk : k < 70) {b : Int} (h0 : 0 ≤ b) (h1 : b < 65536) : FileOk (F.named k b) ∧ Frm F (F.named k b) := by
  unfold FileT.named
  split
  · have h2 := h.setX (j := 4 + k) (by omega) (by omega) h0 h1
    exact ⟨h2.keep, (Frm.setX F _ _).trans (Frm.keep h2)⟩
  · split
    · rename_i hi
      obtain ⟨h2, h3⟩ := isB_le hi
      have hpl := plan_bd h.good.plan
      exact ⟨h.lay (by omega) (by omega) (by rw [two2L_len]; omega), Frm.lay F (by omega)⟩
    · exact ⟨h, Frm.refl F⟩
theorem FileOk.withInd {F F1 : FileT} (h : FileOk F) {k : Nat} (hw : F.withInd k = some F1) : FileOk F1 ∧ Frm F F1 := by
  unfold FileT.withInd at hw
  split at hw
  · cases ht : takeI F.v F.I with
    | none => rw [ht] at hw; cases hw
    | some i =>
      rw [ht] at hw
      injection hw with hw
      subst hw
      have hi := take_lt h.good ht
      have h2 := (h.took ht).setX (j := 10) (by omega) (by omega) (b := (i : Int)) (by omega) (by omega)
      exact ⟨h2.keep, ((Frm.took F ht).trans (Frm.setX _ _ _)).trans (Frm.keep h2)⟩
  · injection hw with hw
    subst hw
    exact ⟨h, Frm.refl F⟩
theorem FileOk.placed {F : FileT} (h : FileOk F) {k : Nat} (hk : k < 70) : FileOk (F.placed k).1 ∧ Frm F (F.placed k).1 ∧ ((F.placed k).2.2 = 0 → ∃ q : Nat, (F.placed k).2.1 = (q : Int) ∧ 3 + (F.I + 1) / 2 ≤ (q : Int) ∧ q < F.v.length) := by
  by_cases ha : atP F.v F.I F.x k = -1
  · cases hw : F.withInd k with
    | none => rw [placed_full ha hw]; exact ⟨h, Frm.refl F, fun h => absurd h (by simp)⟩
    | some F1 =>
      obtain ⟨h1, f1⟩ := h.withInd hw
      cases ht : takeI F1.v F1.I with
      | none => rw [placed_full2 ha hw ht]; exact ⟨h1, f1, fun h => absurd h (by simp)⟩
      | some i =>
        rw [placed_new ha hw ht]
        have hi := take_lt h1.good ht
        obtain ⟨t1, t2, _⟩ := takeI_some ht
        obtain ⟨h2, f2⟩ := (h1.took ht).named hk (b := (i : Int)) (by omega) (by omega)
        refine ⟨h2, (f1.trans (Frm.took F1 ht)).trans f2, fun _ => ⟨i, rfl, ?_, ?_⟩⟩
        · unfold dataOf at t1; rw [f1.I] at t1; exact t1
        · rw [← f1.len]; exact t2
  · rw [placed_has ha]
    obtain ⟨h1, h2⟩ := isB_le (isB_of ha)
    have hpl := plan_bd h.good.plan
    exact ⟨h, Frm.refl F, fun _ => ⟨(atP F.v F.I F.x k).toNat, by simp only; omega, by omega, by omega⟩⟩
theorem FileOk.wr {off : Nat} {d : List UInt8} (he : off + d.length ≤ 8960) (m : Nat) : ∀ (p : Nat) (F : FileT), off + d.length - p ≤ m → off ≤ p → FileOk F → FileOk (F.wr off d p).1 ∧ Frm F (F.wr off d p).1 := by
  induction m with
  | zero =>
    intro p F hm hp h
    rw [wr_done (by omega)]
    exact ⟨h, Frm.refl F⟩
  | succ m ih =>
    intro p F hm hp h
    by_cases hlt : p < off + d.length
    · obtain ⟨h1, f1, hq⟩ := h.placed (k := p / 128) (by omega)
      by_cases h0 : (F.placed (p / 128)).2.2 = 0
      · rw [wr_on hlt h0]
        obtain ⟨q, hq0, hq1, hq2⟩ := hq h0
        have hmod := Nat.mod_lt p (show 128 > 0 by omega)
        rw [hq0, Int.toNat_natCast]
        have hq3 : 3 ≤ q := by have hpl := plan_bd h.good.plan; omega
        clear hq
        have h2 := h1.lay (q := q) (p := p % 128) (d := (d.drop (p - off)).take (min (128 - p % 128) (off + d.length - p))) hq3 (by rw [f1.len]; exact hq2) (by rw [List.length_take, List.length_drop]; omega)
        have f2 := Frm.lay (F.placed (p / 128)).1 (q := q) (p := p % 128) (d := (d.drop (p - off)).take (min (128 - p % 128) (off + d.length - p))) (by rw [f1.I]; exact hq1)
        obtain ⟨h3, f3⟩ := ih (p + min (128 - p % 128) (off + d.length - p)) _ (by omega) (by omega) h2
        exact ⟨h3, (f1.trans f2).trans f3⟩
      · rw [wr_full hlt h0]
        exact ⟨h1, f1⟩
    · rw [wr_done hlt]
      exact ⟨h, Frm.refl F⟩
theorem FileOk.of {v : List (List UInt8)} {I k : Int} (hg : Good v I) (h1 : 1 ≤ k) (h2 : k ≤ I) : FileOk (fileOf v I k) := ⟨hg, h1, h2, inoAt_len v k, fits_ino _ _⟩
theorem fits_size {x : List Int} (h : fitsB x = true) (hx : x.length = 12) {i : Int} (h0 : 0 ≤ i) (h1 : i < 65536) : fitsB (x.set 3 i) = true := fits_setj h hx (by omega) (by omega) h0 h1
/-- a write leaves a volume, and all other inodes -/
theorem write_ok {v : List (List UInt8)} {I k : Int} (hg : Good v I) (h1 : 1 ≤ k) (h2 : k ≤ I) {off : Nat} {d : List UInt8} (he : off + d.length ≤ 8960) (h0 : (writeP v I k off d).2 = 0) :
    Good (writeP v I k off d).1 I ∧ (writeP v I k off d).1.length = v.length ∧ ∀ m, 1 ≤ m → m ≤ I → m ≠ k → inoAt (writeP v I k off d).1 m = inoAt v m := by
  have hF := FileOk.of hg h1 h2
  obtain ⟨h3, f3⟩ := FileOk.wr he (off + d.length - off) off (fileOf v I k) (Nat.le_refl _) (Nat.le_refl _) hF
  have e1 : (fileOf v I k).v = v := rfl
  have e2 : (fileOf v I k).I = I := rfl
  have e3 : (fileOf v I k).n = k := rfl
  unfold writeP at h0 ⊢
  generalize fileOf v I k = F at *
  generalize F.wr off d off = R at *
  subst e1 e2 e3
  by_cases c1 : R.2 ≠ 0
  · rw [if_pos c1] at h0; exact absurd h0 c1
  · rw [if_neg c1]
    split
    · have h4 := h3.setX (j := 3) (by omega) (by omega) (b := ((off + d.length : Nat) : Int)) (by omega) (by omega)
      have f4 := (f3.trans (Frm.setX R.1 3 _)).trans (Frm.keep h4)
      have g4 := h4.keep.good
      refine ⟨?_, f4.len, f4.ino⟩
      rw [f4.I] at g4
      exact g4
    · refine ⟨?_, f3.len, f3.ino⟩
      have g4 := h3.good
      rw [f3.I] at g4
      exact g4
end Go.Proofs.YtkokmnaicfdjaaaGreatDoor
/- The blocks of a file, told one by one: numbers, first. -/
namespace Go.Proofs.YtkokmnaicfdjaaaGreatDoor
set_option linter.unusedVariables false
set_option linter.unusedSimpArgs false
open Go.RowKit Go.Shelf

/-- the first k of seventy numbers -/
def partC (f : Nat → Int) (k : Nat) : Array Value := ((List.range 70).map fun j => Value.int .i64 (if j < k then f j else 0)).toArray
theorem partC_size (f : Nat → Int) (k : Nat) : (partC f k).size = 70 := by simp [partC]
theorem partC_set (f : Nat → Int) (k : Nat) : (partC f k).setIfInBounds k (.int .i64 (f k)) = partC f (k + 1) := by
  apply Array.ext_getElem?
  intro j
  unfold partC
  simp only [List.setIfInBounds_toArray, List.getElem?_toArray]
  rw [List.getElem?_set, List.getElem?_map, List.getElem?_map]
  by_cases hj : j < 70
  · rw [List.getElem?_range hj]
    by_cases e : k = j
    · subst e
      rw [if_pos rfl, if_pos (by simp; omega)]
      simp
    · rw [if_neg e]
      simp only [Option.map_some]
      congr 2
      by_cases h1 : j < k
      · rw [if_pos h1, if_pos (by omega)]
      · rw [if_neg h1, if_neg (by omega)]
  · rw [List.getElem?_eq_none (by simp; omega)]
    by_cases e : k = j
    · subst e
      rw [if_pos rfl, if_neg (by simp; omega)]; rfl
    · rw [if_neg e]; rfl
theorem partC_one (f : Nat → Int) (k : Nat) : (partC f k).all (·.oneCell') = true := all_oneCell_toArray (fun v hv => by
  obtain ⟨j, _, rfl⟩ := List.mem_map.1 hv
  rfl)
theorem partC_at (f : Nat → Int) (k j : Nat) (hj : j < 70) (hk : j < k) : (partC f k)[j]? = some (.int .i64 (f j)) := by
  unfold partC
  rw [List.getElem?_toArray, List.getElem?_map, List.getElem?_range hj]
  simp only [Option.map_some, if_pos hk]
theorem partC_zero (f : Nat → Int) : partC f 0 = Array.replicate 70 (.int .i64 0) := by
  unfold partC
  simp only [Nat.not_lt_zero, if_false]
  rfl
theorem arr70 : (Tryz.prog.info? 198).map (·.size) = some 70 := by kernel_rfl
set_option maxHeartbeats 4000000 in
set_option maxRecDepth 100000 in
theorem fnumbers_any (g : Nat) (s : Sl) (F : FileT) (w : World) (h : Box w g 138 (fileC s F)) (hr : Strs w s.A s.n F.v) (hF : FileOk F) :
    Calls Tryz.prog 151 #[.pointer (some ⟨g, 0, none⟩)] w fun e w' => e = .returned (.agg (partC (atP F.v F.I F.x) 70)) ∧ Ext w w' := by
  have HAt := Lib.hid (fun k hk w h hr => fat_any g s F k w h hr hF hk)
  have HBX := Lib.hid h
  have HR := Lib.hid hr
  clear h hr hF
  generalize atP F.v F.I F.x = f at *
  have hP := Lib.hid (partC_zero f)
  go_enter Tryz.func151, Tryz.ntmps151
  go_upto_region 2 with fail
  have hz70 : Tryz.zeroCells198 = Array.replicate 70 (.int .i64 0) := by kernel_rfl
  rw [hz70, ← hP.out]
  have x0 := ((Ext.refl w).alloc (.cells (partC f 0) 198)).alloc (.cells (partC f 0) 198)
  have b2 := (Box.new w 198 (partC f 0)).ext ((Ext.refl _).alloc (.cells (partC f 0) 198))
  have b3 := Box.new (w.alloc (.cells (partC f 0) 198)) 198 (partC f 0)
  rw [World.size_alloc] at b3
  clear hz70 hP
  generalize (w.alloc (.cells (partC f 0) 198)).alloc (.cells (partC f 0) 198) = w1 at *
  generalize hG : w.heap.size = G at *
  go_upto_region 3 with fail
  go_loopw [4, 5] (fun _ i wx => ∃ k : Nat, k ≤ 70 ∧ i = .int .i64 k ∧ Ext w wx ∧ Box wx G 198 (partC f 0) ∧ Box wx (G + 1) 198 (partC f k)) (fun _ i _ => 70 - (intOf i).toNat)
  case atStart => exact ⟨0, by omega, rfl, x0, b2, b3⟩
  case round =>
    clear b2 b3 x0
    obtain ⟨k, hk, rfl, xk, c2, c3⟩ := hrel
    have HX := Lib.hid xk
    have C2 := Lib.hid c2
    have C3 := Lib.hid c3
    by_cases hlt : k < 70
    · have hki : (k : Int) < 70 := by omega
      have HAk := Lib.hid (HAt.out k hlt wr (HBX.out.ext xk) (HR.out.ext xk))
      clear xk c2 c3
      go_wp2_with (go_at_call 146; refine HAk.out.mono ?_; rintro e w4 ⟨rfl, x4⟩; have d3 := C3.out.ext x4; have f3 := d3.frozen k; have k3 : w4.cell? ⟨G + 1, k, none⟩ = some (.int .i64 0) := (d3.cell k).trans (by unfold partC; rw [List.getElem?_toArray, List.getElem?_map, List.getElem?_range hlt]; simp); have D3 := Lib.hid d3; have X4 := Lib.hid x4; clear d3 x4)
      go_roundw
      case rel => exact ⟨k + 1, by omega, by go_num, (HX.out.trans X4.out).setCell (by rw [hG]; exact Nat.le_succ _) _, (C2.out.ext X4.out).far (p := ⟨G + 1, k, none⟩) (by show G ≠ G + 1; omega) _, by have := D3.out.set k (.int .i64 (f k)); rw [partC_set] at this; exact this⟩
      case measure => simp [intOf]; omega
    · have hlt2 : ¬ (k : Int) < 70 := by omega
      obtain rfl : k = 70 := by omega
      clear xk c2 c3
      go_wp2_with (first
        | (refine wp_ld 198 (.tmp 3) rfl rfl (G + 1) (partC f 70) 198 _ rfl C3.out Tryz.underlying198 rfl (by rw [partC_size]; exact arr70) ?_)
        | (refine wp_st 198 (.tmp 2) (.tmp 14) rfl rfl G (partC f 70) _ 198 rfl rfl C2.out (by rw [partC_size]; exact arr70) (by rw [partC_size, partC_size]) (partC_one f 70) ?_; intro w6 b6 g6))
      exact bodyPost_ret (results_cell1 rfl _ _ G _ _ _ rfl b6 Tryz.underlying198 rfl (by rw [partC_size]; exact arr70)) rfl ⟨rfl, HX.out.grown g6 (fun j e => by cases e; rw [hG]; exact Nat.le_refl _)⟩
/-- what first hands out -/
def FirstR (f : Nat → Int) (c : Int) (w : World) (e : Ending) (w' : World) : Prop :=
  ∃ b1 b2, e = .returned (.func (.func 152) #[] #[.pointer (some ⟨b1, 0, none⟩), .pointer (some ⟨b2, 0, none⟩)]) ∧ Box w' b1 198 (partC f 70) ∧ Box w' b2 3 #[.int .i64 c] ∧ w.heap.size ≤ b1 ∧ w.heap.size ≤ b2 ∧ b1 ≠ b2
set_option maxHeartbeats 1000000 in
set_option maxRecDepth 100000 in
theorem ffirst_any (g : Nat) (s : Sl) (F : FileT) (c : Int) (w : World) (h : Box w g 138 (fileC s F)) (hr : Strs w s.A s.n F.v) (hF : FileOk F) :
    Calls Tryz.prog 104 #[.pointer (some ⟨g, 0, none⟩), .int .i64 c] w fun e w' => FirstR (atP F.v F.I F.x) c w e w' ∧ Ext w w' := by
  have hmf : ∀ (fn : Fn) (first cap : Array Value) (w : World), (Instr.makeFunc fn first cap).run Tryz.prog w = .ok (.func fn first cap) w := fun _ _ _ _ => rfl
  have x0 := (Ext.refl w).alloc (.cells #[.int .i64 c] 3)
  have b0 := Box.new w 3 #[.int .i64 c]
  have HN := Lib.hid (fnumbers_any g s F _ (h.ext x0) (hr.ext x0) hF)
  clear h hr hF
  generalize atP F.v F.I F.x = f at *
  go_enter Tryz.func104, Tryz.ntmps104
  go_upto_region 2 with (first
    | (go_at_call 151; refine HN.out.mono ?_; rintro e w2 ⟨rfl, x2⟩)
    | (refine wp_st 198 (.tmp 5) (.tmp 7) rfl rfl w2.heap.size (partC f 70) Tryz.zeroCells198 198 rfl rfl (Box.new _ _ _) (by rw [partC_size]; exact arr70) (by rw [partC_size]; kernel_rfl) (partC_one f 70) ?_; intro w3 b3 g3))
  have xa : Ext w2 (w2.alloc (.cells Tryz.zeroCells198 198)) := (Ext.refl w2).alloc _
  have x23 : Ext w2 w3 := xa.grown g3 (fun j e => by cases e; exact Nat.le_refl _)
  have b03 := (b0.ext x2).ext x23
  have xx := (x0.trans x2).trans x23
  have hlt := (b0.ext x2).lt
  have hsz := (x0.trans x2).size
  clear g3
  go_wp2_with fail
  go_ret
  exact ⟨⟨w2.heap.size, w.heap.size, rfl, b3, b03, hsz, Nat.le_refl _, by omega⟩, xx⟩
theorem wpListIn_load_row {F : Fence} {n : Nat} {P : Program} {ops : Array Oper} {rest : List Oper} {o : Oper} {a : Act} {w : World} {Q : Exit → Act → World → Prop} (hgd : o.guard = none) (ty : TypeId) (x : Operand) (ho : o.op = .load ty x)
    (g : Nat) (hx : a.eval x = .pointer (some ⟨g, 0, none⟩)) (t : TypeId) (cs : Array Value) (fr : Nat × Nat) (d : TypeDesc) (hg : w.heap[g]? = some (.cells cs t fr))
    (hu : P.underlying ty = some d) (hd : (match d with | .struct _ | .array _ _ => true | _ => false) = true) (hi : (P.info? ty).map (·.size) = some cs.size)
    (h : wpListIn F n P ops Q rest (a.put o.dst (.agg cs)) w) : wpListIn F n P ops Q (o :: rest) a w := by
  refine wpListIn_plain hgd fun K hK' => ?_
  unfold Oper.wpIn
  refine ⟨?_, ?_⟩
  · simp [Oper.about, ho]
  · rw [Oper.semAt_plain F _ _ (by rw [ho]; intro c hc'; cases hc')]
    simp only [execOp, ho, hx, Instr.loadAt, Instr.sureAddr, Sem.run_bind, Sem.run_pure, Result.andThen_ok, run_loadVar_row w g t ty cs fr d hg hu hd hi]
    exact hK' _ _ h
theorem run_indexC {P : Program} {t e n : Nat} {k : IntKind} {cs : Array Value} {i : Nat} {v : Value} (w : World) (hu : P.underlying t = some (.array n e)) (he : P.underlying e = some (.int k)) (hs : (P.info? e).map (·.size) = some 1) (hin : i < n) (hv : cs[i]? = some v) (h1 : v.oneCell' = true) :
    (Instr.index t (.agg cs) (.int .i64 (i : Int))).run P w = .ok v w := by
  cases hq : P.info? e with
  | none => simp [hq] at hs
  | some j =>
    have hz : j.size = 1 := by simpa [hq] using hs
    have hagg : (isAgg e).run P w = .ok false w := by
      unfold isAgg
      rw [Sem.run_bind, run_underlying he w]
      rfl
    have h1 : (i : Int) < (n : Int) := by omega
    simp [Instr.index, asIntOf, run_underlying hu, h1, sizeOf, typeInfo, hq, part, Sem.run_bind, hagg, hz, hv]
    intro hc; exact absurd hc (by omega)
/-- two blocks are kept -/
def KpB (b1 b2 : Nat) (W W' : World) : Prop := ∀ (cs : Array Value) (t : TypeId), (W.heap[b1]? = some (Obj.cells cs t (0, 0)) → W'.heap[b1]? = some (Obj.cells cs t (0, 0))) ∧ (W.heap[b2]? = some (Obj.cells cs t (0, 0)) → W'.heap[b2]? = some (Obj.cells cs t (0, 0)))
theorem KpB.trans {b1 b2 : Nat} {A B C : World} (h : KpB b1 b2 A B) (k : KpB b1 b2 B C) : KpB b1 b2 A C := fun cs t => ⟨fun e => (k cs t).1 ((h cs t).1 e), fun e => (k cs t).2 ((h cs t).2 e)⟩
theorem KpB.ext {b1 b2 : Nat} {W W' : World} (h : Ext W W') : KpB b1 b2 W W' := fun cs t => ⟨fun e => Box.ext e h, fun e => Box.ext e h⟩
theorem KpB.book {b1 b2 : Nat} {w : World} (W : World) (l : Nat) (o o' : Obj) (_ : w.heap.size ≤ l) (h : W.heap[l]? = some o) (hc : o.isCells = false) (_ : o.isWalk = false) : KpB b1 b2 W (W.putObj l o') := by
  have key : ∀ b (cs : Array Value) (t : TypeId), W.heap[b]? = some (Obj.cells cs t (0, 0)) → (W.putObj l o').heap[b]? = some (Obj.cells cs t (0, 0)) := fun b cs t hb => by
    have hne : b ≠ l := by rintro rfl; rw [h] at hb; cases hb; cases hc
    have := (grownBy_putObj' W l o').block b (Array.getElem?_eq_some_iff.1 hb).1 (fun e => hne (by cases e; rfl))
    exact this.trans hb
  exact fun cs t => ⟨key b1 cs t, key b2 cs t⟩
def benc (f : Nat → Int) (k : Nat) : Array Value := #[.int .i64 (k : Int), .int .i64 (f k)]
theorem range_take (k : Nat) : List.range (k + 1) = List.range k ++ [k] := List.range_succ
set_option maxRecDepth 100000 in
set_option maxHeartbeats 4000000 in
theorem first1_in (n : Nat) (hn : 1 ≤ n) (l b1 b2 c : Nat) (f : Nat → Int) (J Jx : List Nat → World → Prop) (W : World) (hJ : AbidesFrom W.heap.size J)
    (hY : ∀ pre x W1, J pre W1 → pre.length < 70 → YieldAt Fence.wide (n - 1) Tryz.prog l (benc f x) W1 fun e W' =>
      (e = .returned (.bool true) ∧ J (pre ++ [x]) W' ∧ KpB b1 b2 W1 W') ∨ (e = .returned (.bool false) ∧ Jx (pre ++ [x]) W'))
    (h1 : Box W b1 198 (partC f 70)) (h2 : Box W b2 3 #[.int .i64 (c : Int)]) (h0 : J [] W) :
    CallsIn Fence.wide n Tryz.prog 152 #[.func (.yield l) #[] #[], .pointer (some ⟨b1, 0, none⟩), .pointer (some ⟨b2, 0, none⟩)] W fun e W' => (∃ v, e = .returned v) ∧
      ((∃ ys, ys = List.range (min c 70) ∧ J ys W') ∨ (∃ pre, True ∧ Jx pre W')) := by
  generalize hL0 : List.range (min c 70) = L
  have hL := Lib.hid hL0
  clear hL0
  refine callsIn_of_wp Tryz.func152 rfl trivial ?_ rfl
  simp only [Tryz.ntmps152, List.size_toArray, List.length_cons, List.length_nil, Nat.reduceAdd, Nat.reduceSub, Array.replicate_succ, Array.replicate_zero, List.push_toArray, List.append_toArray, List.nil_append, List.cons_append]
  gi_wp2_with (refine wpListIn_load_row rfl 198 (.tmp 1) rfl b1 rfl 198 _ (0, 0) _ h1 Tryz.underlying198 rfl (by rw [partC_size]; exact arr70) ?_)
  gi_loopw [4, 5, 7] (fun _ _ i wx => ∃ k : Nat, k ≤ 70 ∧ k ≤ c ∧ i = .int .i64 k ∧ J (List.range k) wx ∧ Box wx b1 198 (partC f 70) ∧ Box wx b2 3 #[.int .i64 (c : Int)]) (fun _ _ i _ => 70 - (intOf i).toNat)
  case atStart => exact ⟨0, by omega, by omega, rfl, h0, h1, h2⟩
  case round =>
    obtain ⟨k, hk, hkc, rfl, hJs, hB1, hB2⟩ := hrel
    by_cases hlt : k < 70
    · have hki : (k : Int) < 70 := by omega
      have c2 := hB2.cell 0
      simp only [List.getElem?_toArray, List.getElem?_cons_zero] at c2
      have hix : ∀ w, (Instr.index 198 (.agg (partC f 70)) (.int .i64 (k : Int))).run Tryz.prog w = .ok (.int .i64 (f k)) w := fun w => run_indexC w Tryz.underlying198 Tryz.underlying3 (by kernel_rfl) hlt (partC_at f 70 k hlt hlt) rfl
      by_cases hc : c ≤ k
      · have hci : (c : Int) ≤ (k : Int) := by omega
        obtain rfl : k = c := by omega
        gi_wp2
        rename_i hKK _ _ _ _
        refine ⟨fun f hf => (by cases hf), hKK _ _ ?_⟩
        clear hKK
        gi_wp2
        refine bodyPost_ret (results_none rfl _ _ _) rfl ?_
        have hJL : J L wr := by rw [← hL.out, Nat.min_eq_left (by omega)]; exact hJs
        first
          | exact ⟨⟨_, rfl⟩, .inl ⟨_, rfl, hJL⟩⟩
          | exact ⟨⟨_, rfl⟩, .inl hJL⟩
      · have hci : ¬ (c : Int) ≤ (k : Int) := by omega
        obtain ⟨fn, tmps, assign, body, hy, hR⟩ := hY (List.range k) k _ hJs (by rw [List.length_range]; exact hlt)
        have hy' : (Instr.yield l #[.int .i64 (k : Int), .int .i64 (f k)]).run Tryz.prog wr = .ok (.round l fn tmps assign body) wr := hy
        clear hy
        gi_wp2
        refine hR.mono ?_
        rintro e W3 (⟨rfl, hJ3, hk3⟩ | ⟨rfl, hJx3⟩)
        · gi_wp2
          go_roundw
          case rel => exact ⟨k + 1, by omega, by omega, by go_num, by rw [List.range_succ]; exact hJ3, (hk3 _ _).1 hB1, (hk3 _ _).2 hB2⟩
          case measure => simp [intOf]; omega
        · gi_wp2
          refine bodyPost_ret (results_none rfl _ _ _) rfl ?_
          exact ⟨⟨_, rfl⟩, .inr ⟨_, trivial, hJx3⟩⟩
    · have hki : ¬ (k : Int) < 70 := by omega
      obtain rfl : k = 70 := by omega
      gi_wp2
      refine bodyPost_end (results_none rfl _ _ _) rfl ?_
      have hJL : J L wr := by rw [← hL.out, Nat.min_eq_right (by omega)]; exact hJs
      first
        | exact ⟨⟨_, rfl⟩, .inl ⟨_, rfl, hJL⟩⟩
        | exact ⟨⟨_, rfl⟩, .inl hJL⟩
/-- the value of first gives the numbers of the first c blocks, whatever the body does, if it keeps the two blocks -/
theorem first_stops (n : Nat) (hn : 1 ≤ n) (b1 b2 c : Nat) (f : Nat → Int) (w : World) (h1 : Box w b1 198 (partC f 70)) (h2 : Box w b2 3 #[.int .i64 (c : Int)]) :
    SeqStopsK Fence.wide n Tryz.prog 152 #[.pointer (some ⟨b1, 0, none⟩), .pointer (some ⟨b2, 0, none⟩)] (benc f) (KpB b1 b2) (fun ys => ys = List.range (min c 70)) (fun _ => True) 70 w := fun l J Jx W hW hJ _ hY h0 =>
  first1_in n hn l b1 b2 c f J Jx W hJ hY (h1.ext hW) (h2.ext hW) h0
end Go.Proofs.YtkokmnaicfdjaaaGreatDoor
/- extent.Count on a volume that is one. -/
namespace Go.Proofs.YtkokmnaicfdjaaaGreatDoor
set_option linter.unusedVariables false
set_option linter.unusedSimpArgs false
open Go.RowKit Go.Shelf
attribute [local go_sem] Oper.semAt_some

/-- how many of these blocks are there -/
def hereN (f : Nat → Int) (l : List Nat) : Nat := (l.filter fun k => f k != -1).length
theorem hereN_snoc (f : Nat → Int) (l : List Nat) (k : Nat) : hereN f (l ++ [k]) = hereN f l + (if f k = -1 then 0 else 1) := by
  unfold hereN
  rw [List.filter_append, List.length_append]
  by_cases h : f k = -1
  · simp [h]
  · simp [h]
theorem hereN_le (f : Nat → Int) (l : List Nat) : hereN f l ≤ l.length := List.length_filter_le _ _
def countF (F : FileT) : Int := (hereN (atP F.v F.I F.x) (List.range 70) : Int) + (if isB F.v F.I (F.x.getD 10 0) then 1 else 0) + (if isB F.v F.I (F.x.getD 11 0) then 1 else 0)
theorem KpB.set {b1 b2 : Nat} {A W : World} (h : KpB b1 b2 A W) (p : Addr) (h1 : b1 ≠ p.block) (h2 : b2 ≠ p.block) (u : Value) : KpB b1 b2 A (W.setCell p u) := h.trans fun cs t =>
  ⟨fun e => (Below.heap_setCell W p u b1 h1).trans e, fun e => (Below.heap_setCell W p u b2 h2).trans e⟩
theorem own_strs {w : World} {B b cap : Nat} {v : List (List UInt8)} (own : w.ownsRow B 9 1 (.slice (some ⟨b, 0, none⟩) v.length cap) v.length (strL v)) : Strs w (some ⟨b, 0, none⟩) v.length v :=
  ⟨rfl, fun _ => ⟨b, 0, rfl, fun j hj => by rw [Nat.zero_add]; exact (own.cellAt j (by omega)).trans (by simp [strL, hj])⟩⟩
set_option maxHeartbeats 4000000 in
set_option maxRecDepth 100000 in
theorem fcount_yes (A : Option Addr) (n c : Nat) (v : List (List UInt8)) (I k : Int) (w : World) (hv : Strs w A n v) (hg : Good v I) (hk1 : 1 ≤ k) (hk2 : k ≤ I) :
    Calls Tryz.prog 192 #[.slice A n c, .int .i64 k] w fun e w' => e = .returned (.int .i64 (countF (fileOf v I k))) ∧ Ext w w' := by
  have HO := Lib.hid (fun w h => opened_yes A n c v I k w h hg hk1 hk2)
  have HFO := Lib.hid (fun (B g : Nat) (w : World) (s : Sl) hB hs hbx own => FileIn.of_opened (B := B) (w := w) (g := g) (s := s) hg hk1 hk2 hB hs hbx own)
  have HV := Lib.hid hv
  clear hv hg hk1 hk2
  generalize hG : w.heap.size = G at *
  refine (callsIn_wide (n := 6)).1 ?_
  refine callsIn_of_wp_marks Tryz.func192 rfl trivial ?_ rfl
  simp only [Tryz.ntmps192, List.size_toArray, List.length_cons, List.length_nil, Nat.reduceAdd, Nat.reduceSub, Array.replicate_succ, Array.replicate_zero, List.push_toArray, List.append_toArray, List.nil_append, List.cons_append]
  refine wpIn_wide.2 ?_
  go_upto_region 2 with (first
    | (go_at_call 99; refine (HO.out _ HV.out).mono ?_; rintro e w2 ⟨⟨s, rfl, hsn, own2⟩, x2⟩)
    | (refine wp_st_file (.tmp 5) (.tmp 14) rfl rfl w2.heap.size s (fileOf v I k) _ 138 rfl rfl (Box.new _ _ _) rfl ?_; intro w3 b3 g3))
  have xa : Ext w2 (w2.alloc (.cells fileZ 138)) := (Ext.refl w2).alloc _
  have x23 : Ext w2 w3 := xa.grown g3 (fun j e => by cases e; exact Nat.le_refl _)
  have own3 := (own_ext own2 xa).kept g3 (.inr (own_ne (own_ext own2 xa) (Box.new w2 138 fileZ) (by decide)).symm)
  rw [hG] at own3
  have hF0 := HFO.out G w2.heap.size w3 s (by rw [← hG]; exact x2.size) hsn b3 own3
  have HX := Lib.hid (x2.trans x23)
  clear HO HFO HV own2 hsn b3 own3 xa x23 x2 g3
  generalize w2.heap.size = g at *
  generalize hFO : fileOf v I k = F at *
  have HFE := Lib.hid hFO
  clear hFO
  obtain ⟨hOk, hBg, b, cap, hbx, own⟩ := hF0
  generalize fileC s ⟨v, I, k, inoAt v k⟩ = fc at *
  have hr := own_strs own
  have b7 := Box.new w3 3 #[.int .i64 0]
  have x4 : Ext w3 (w3.alloc (.cells #[.int .i64 0] 3)) := (Ext.refl w3).alloc _
  have HFI := Lib.hid (ffirst_any g ⟨some ⟨b, 0, none⟩, F.v.length, cap⟩ F 70 _ (hbx.ext x4) (hr.ext x4) hOk)
  have hbx4 := hbx.ext x4
  have X4 := HX.out.trans x4
  have hlt := hbx.lt
  have hGw : G ≤ w3.heap.size := by rw [← hG]; exact HX.out.size
  clear HX own hbx x4 hr
  have HCF := Lib.hid (show countF F = (hereN (atP F.v F.I F.x) (List.range (min 70 70)) : Int) + (if isB F.v F.I (F.x.getD 10 0) then 1 else 0) + (if isB F.v F.I (F.x.getD 11 0) then 1 else 0) from rfl)
  generalize hf : atP F.v F.I F.x = f at *
  clear hf
  go_upto_region 5 with fail
  generalize w3.alloc (.cells #[.int .i64 0] 3) = w4 at *
  generalize hE : w3.heap.size = E at *
  clear hE w3
  go_wp2_with (go_at_call 104; refine HFI.out.mono ?_; rintro e w5 ⟨⟨b1, b2, rfl, hb1, hb2, le1, le2, ne12⟩, x5⟩)
  refine (wpIn_wide (n := 6)).1 ?_
  gi_wp2_with fail
  have hE4 := b7.lt
  have b7' := b7.ext x5
  have bg' := hbx4.ext x5
  have X5 := X4.trans x5
  have hs5 := x5.size
  clear b7 hbx4 X4 x5 HFI
  generalize w4.heap.size = G4 at *
  clear w4
  generalize hFC : fileC ⟨some ⟨b, 0, none⟩, F.v.length, cap⟩ F = FC at *
  refine wpIn_rangeFunc_ownH rfl (by decide) (gf := 152) (lb := #[.pointer (some ⟨b1, 0, none⟩), .pointer (some ⟨b2, 0, none⟩)]) rfl trivial (enters_of Tryz.func152 (by kernel_rfl) rfl)
    (first_stops 5 (by decide) b1 b2 70 f w5 hb1 hb2) KpB.trans KpB.book (Below.refl _ _) (fun _ => rfl)
    (fun pre W => Ext w W ∧ Box W g 138 FC ∧ Box W E 3 #[.int .i64 (hereN f pre : Int)] ∧ pre.length ≤ 70)
    (fun _ _ _ => False)
    (OwnFrom.and (ext_own X5.size) (OwnFrom.and (Own.from (box_own _ _ _) _) (OwnFrom.and (Own.from (box_own _ _ _) _) (ownFrom_pure _ _))))
    (fun _ _ _ _ _ hs _ _ => hs) ⟨X5, bg', b7', by simp⟩
    (fun x a' W => a' = { tmps := #[.slice A n c, .int .i64 k, undef, undef, .int .i64 0, .pointer (some ⟨g, 0, none⟩), .int .i64 0, .pointer (some ⟨E, 0, none⟩), undef, .int .i64 (f x), .tuple #[.agg fc, .int .i64 0], .slice A n c, .int .i64 k, .tuple #[.agg fc, .int .i64 0], .agg fc, .int .i64 0, .int .i64 0, .bool false, .func (.func 152) #[] #[.pointer (some ⟨b1, 0, none⟩), .pointer (some ⟨b2, 0, none⟩)], .int .i64 (x : Int), .int .i64 (f x), undef, undef, undef, undef, undef, undef, undef, undef, undef, undef, undef, undef, undef, undef, undef, undef, undef], defers := [] })
    (fun x a' _ X Y row hs hg hr => hs) ?assign ?body ?done ?stop
  case assign =>
    rintro l pre x W K ⟨i1, i2, i3, i4⟩ hK
    simp only [benc]
    gi_wp2
    exact hK _ _ (keeps_ext (Ext.refl W)) (KpB.ext (Ext.refl W)) ⟨i1, i2, i3, i4⟩ rfl
  case body =>
    rintro l pre x a' W hl0 ⟨r, hr⟩ ⟨i1, i2, i3, i4⟩ rfl hlt70
    have c3 : W.cell? ⟨E, 0, none⟩ = some (.int .i64 (hereN f pre : Int)) := i3.cell 0
    have c3f := i3.frozen 0
    have hsn := Lib.hid (hereN_snoc f pre x)
    have hle := hereN_le f pre
    generalize hereN f pre = m at *
    by_cases hh : f x = -1
    · gi_wp2
      refine ⟨keeps_ext (Ext.refl W), KpB.ext (Ext.refl W), i1, i2, ?_, by simp; omega⟩
      rw [hsn.out, if_pos hh]
      exact i3
    · have hne : (f x != -1) = true := by simpa using hh
      gi_wp2
      refine ⟨(keeps_ext (Ext.refl W)).trans ((KeepsOthers.setCell _ _ _).from _), (KpB.ext (Ext.refl W)).set ⟨E, 0, none⟩ (by show b1 ≠ E; omega) (by show b2 ≠ E; omega) _, i1.setCell (p := ⟨E, 0, none⟩) (by show w.heap.size ≤ E; omega) _, i2.far (p := ⟨E, 0, none⟩) (by show g ≠ E; omega) _, ?_, by simp; omega⟩
      rw [hsn.out, if_neg hh]
      exact i3.set 0 _
  case done =>
    rintro D ys W hD hys ⟨i1, i2, i3, i4⟩ hK
    subst hys
    have hle := hereN_le f (List.range (min 70 70))
    rw [List.length_range] at hle
    generalize hereN f (List.range (min 70 70)) = m at *
    have HI1 := Lib.hid (fun w h => fis_any g ⟨some ⟨b, 0, none⟩, F.v.length, cap⟩ F (F.x.getD 10 0) w h)
    have HI2 := Lib.hid (fun w h => fis_any g ⟨some ⟨b, 0, none⟩, F.v.length, cap⟩ F (F.x.getD 11 0) w h)
    rw [hFC] at HI1 HI2
    have c18 : ∀ w : World, Box w g 138 FC → w.cell? ⟨g, 18, none⟩ = some (.int .i64 (F.x.getD 10 0)) := fun w h => by rw [← hFC] at h; exact h.cell 18
    have c19 : ∀ w : World, Box w g 138 FC → w.cell? ⟨g, 19, none⟩ = some (.int .i64 (F.x.getD 11 0)) := fun w h => by rw [← hFC] at h; exact h.cell 19
    generalize isB F.v F.I (F.x.getD 10 0) = p1 at *
    generalize isB F.v F.I (F.x.getD 11 0) = p2 at *
    generalize F.x.getD 10 0 = n1 at *
    generalize F.x.getD 11 0 = n2 at *
    have hm : (m : Int) ≤ 70 := by omega
    have e1 := c18 W i2
    have e2 := c19 W i2
    have c3 : W.cell? ⟨E, 0, none⟩ = some (.int .i64 (m : Int)) := i3.cell 0
    have c3f := i3.frozen 0
    clear hb1 hb2 b7' bg' X5
    have j3 : ∀ u, Box (W.setCell ⟨E, 0, none⟩ (.int .i64 u)) E 3 #[.int .i64 u] := fun u => i3.set 0 _
    have j2 : ∀ u, Box (W.setCell ⟨E, 0, none⟩ u) g 138 FC := fun u => i2.far (p := ⟨E, 0, none⟩) (by show g ≠ E; omega) _
    have h1 := Lib.hid (HI1.out W i2)
    have h2 := Lib.hid (HI2.out W i2)
    have h3 := Lib.hid (HI2.out _ (j2 (.int .i64 ((m : Int) + 1))))
    have e3 := c19 _ (j2 (.int .i64 ((m : Int) + 1)))
    have d3 : (W.setCell ⟨E, 0, none⟩ (.int .i64 ((m : Int) + 1))).cell? ⟨E, 0, none⟩ = some (.int .i64 ((m : Int) + 1)) := (j3 _).cell 0
    have d3f := (j3 ((m : Int) + 1)).frozen 0
    clear HI1 HI2 c18 c19 i4
    have hGD : w.heap.size ≤ D := by rw [hG]; omega
    have T : Trio w W E _ _ D _ := ⟨i3, i1, by omega, hK, rfl⟩
    have T1 := T.set 0 (.int .i64 ((m : Int) + 1))
    have T2 := T1.set 0 (.int .i64 ((m : Int) + 1 + 1))
    gi_wp2_with fail
    cases p1 <;> cases p2
    all_goals go_wp2_with (first
      | (go_at_call 147; (have hq := h1.out; with_reducible (refine hq.mono ?_)); clear hq; rintro e w6 ⟨rfl, rfl⟩)
      | (go_at_call 147; (have hq := h2.out; with_reducible (refine hq.mono ?_)); clear hq; rintro e w6 ⟨rfl, rfl⟩)
      | (go_at_call 147; (have hq := h3.out; with_reducible (refine hq.mono ?_)); clear hq; rintro e w6 ⟨rfl, rfl⟩))
    · refine ⟨by simp, .inl ⟨_, _, rfl, run_takeDeferred hK, ?_⟩⟩
      exact ⟨_, results_tmp rfl _ _ _, by rw [HFE.out, HCF.out]; simp, i1.putObj (.deferred none) hK (by omega)⟩
    · refine ⟨by simp, .inl ⟨_, _, rfl, run_takeDeferred T1.obj, ?_⟩⟩
      exact ⟨_, results_tmp rfl _ _ _, by rw [HFE.out, HCF.out]; simp, T1.ext.putObj (.deferred none) T1.obj (by omega)⟩
    · refine ⟨by simp, .inl ⟨_, _, rfl, run_takeDeferred T1.obj, ?_⟩⟩
      exact ⟨_, results_tmp rfl _ _ _, by rw [HFE.out, HCF.out]; simp, T1.ext.putObj (.deferred none) T1.obj (by omega)⟩
    · refine ⟨by simp, .inl ⟨_, _, rfl, run_takeDeferred T2.obj, ?_⟩⟩
      exact ⟨_, results_tmp rfl _ _ _, by rw [HFE.out, HCF.out]; simp, T2.ext.putObj (.deferred none) T2.obj (by omega)⟩
  case stop =>
    rintro D c pre W hD _ h
    exact h.elim
end Go.Proofs.YtkokmnaicfdjaaaGreatDoor
