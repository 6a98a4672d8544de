/- The walks of a drive: drive.has, drive.Check, wal.journaled. -/
import Derived.Test.YtnoofjddikhopaaGreatFa13
import Derived.Test.YtnoofjddikhopaaGreatFa11
import Derived.Deep.MidRow
import Derived.Test.YtnoofjddikhopaaGreatFa5
import Derived.Test.YtnoofjddikhopaaGreatFa7
namespace Go.Proofs.YtnoofjddikhopaaGreat
set_option linter.unusedVariables false
set_option linter.unusedSimpArgs false
open Go.RowKit
theorem RowOf.strs {w : World} {A : Option Addr} {n : Nat} {l : List (List UInt8)} (h : RowOf stL w A n l) : Strs w A n l := by
  refine ⟨h.1, fun hn => ?_⟩
  obtain ⟨b, o, e, hc⟩ := h.2 hn
  refine ⟨b, o, e, fun j hj => ?_⟩
  have := RowOf.cell (n := n) hc (z := 1) (fun x _ => rfl) hj (i := 0) (by omega) rfl
  rw [Nat.mul_one, Nat.add_zero] at this
  exact this
end Go.Proofs.YtnoofjddikhopaaGreat
/- The volume: wal.Home, cache.View. -/
namespace Go.Proofs.YtnoofjddikhopaaGreat
set_option linter.unusedVariables false
set_option linter.unusedSimpArgs false
open Go.RowKit
theorem own_set {w : World} {base n g cap i : Nat} {v : List (List UInt8)} (h : w.ownsRow base 9 1 (.slice (some ⟨g, 0, none⟩) n cap) n (strL v)) (r : List UInt8) : (w.setCell ⟨g, i, none⟩ (.string (str r))).ownsRow base 9 1 (.slice (some ⟨g, 0, none⟩) n cap) n (strL (v.set i r)) := by
  rw [show strL (v.set i r) = (strL v).set i (.string (str r)) by simp [strL, List.map_set]]
  exact (h.stored i (.string (str r))).1
theorem own_slice {w : World} {base n : Nat} {t : TypeId} {u : Value} {ss : List (List UInt8)} (h : w.ownsRow base t 1 u n (strL ss)) : ∃ A cap, u = .slice A n cap ∧ n = ss.length := by
  have hl : n = ss.length := by have := h.1; simpa [strL] using this.symm
  rcases h.2 with ⟨rfl, h0⟩ | ⟨g, cap, cur, rfl, hb, _⟩
  · exact ⟨none, 0, by rw [h0], hl⟩
  · exact ⟨_, _, rfl, hl⟩
end Go.Proofs.YtnoofjddikhopaaGreat
/- The document's kernel's volume: hibernacleref25.Volume, hibernacleref28.View. -/
namespace Go.Proofs.YtnoofjddikhopaaGreat
set_option linter.unusedVariables false
set_option linter.unusedSimpArgs false
open Go.RowKit
theorem Box.setOther {w : World} {g g' i : Nat} {t : TypeId} {cs : Array Value} (h : Box w g t cs) (hne : g ≠ g') (u : Value) : Box (w.setCell ⟨g', i, none⟩ u) g t cs := by
  have k : w.heap[g]? = some (.cells cs t (0, 0)) := h
  show (w.setCell ⟨g', i, none⟩ u).heap[g]? = _
  simp [World.setCell, Array.getElem?_modify, k, Ne.symm hne]
theorem Mac.size (m : Mac) : m.cells.size = 17 := rfl
end Go.Proofs.YtnoofjddikhopaaGreat
/- Package own: rows and machines copied. -/
namespace Go.Proofs.YtnoofjddikhopaaGreat
set_option linter.unusedVariables false
set_option linter.unusedSimpArgs false
open Go.RowKit
theorem own_setBox {w : World} {base n g i size : Nat} {e t : TypeId} {v : Value} {xs : List Value} {cs : Array Value} (h : w.ownsRow base e size v n xs) (hb : Box w g t cs) (hne : e ≠ t) (u : Value) : (w.setCell ⟨g, i, none⟩ u).ownsRow base e size v n xs := by
  have hn := own_ne h hb hne
  refine ⟨h.1, ?_⟩
  rcases h.2 with c | ⟨g1, cap1, cur, e1, hbb, hh, r⟩
  · exact Or.inl c
  · have : g1 ≠ g := fun e2 => hn (by rw [e1, e2]; rfl)
    exact Or.inr ⟨g1, cap1, cur, e1, hbb, Box.setOther (show Box w g1 e cur from hh) this u, r⟩
theorem results_cell1 {fn : Func} {p : Tmp} {ty : TypeId} (h : fn.results = #[.cell p ty]) (tmps : Array Value) (w : World) (g : Nat) (t : TypeId) (cs : Array Value) (d : TypeDesc)
    (hp : tmps.getD p undef = .pointer (some ⟨g, 0, none⟩)) (hg : Box w g t cs)
    (hu : Tryz.prog.underlying ty = some d) (hd : isAggD d = true) (hi : (Tryz.prog.info? ty).map (·.size) = some cs.size) :
    (results fn tmps).run Tryz.prog w = .ok (.agg cs) w := by
  have hp' : tmps[p]?.getD undef = .pointer (some ⟨g, 0, none⟩) := by simpa using hp
  simp [results, h, hp', asAddr, run_loadVar_row w g t ty cs (0, 0) d hg hu (by cases d <;> first | rfl | cases hd) hi]
end Go.Proofs.YtnoofjddikhopaaGreat
/- An inode as it stands on a volume (extent.file): its cells; is, size, at. -/
namespace Go.Proofs.YtnoofjddikhopaaGreat
set_option linter.unusedVariables false
set_option linter.unusedSimpArgs false
open Go.RowKit
structure FileT where
  v : List (List UInt8)
  I : Int
  n : Int
  x : List Int
def fileL (F : FileT) : List Value := [.int .i64 (F.v.length : Int), .int .i64 F.I, .int .i64 1, .int .i64 2, .int .i64 3, .int .i64 (3 + (F.I + 1) / 2), .int .i64 F.n, .int .i64 (F.x.getD 0 0), .int .i64 (F.x.getD 1 0), .int .i64 (F.x.getD 2 0), .int .i64 (F.x.getD 3 0), .int .i64 (F.x.getD 4 0), .int .i64 (F.x.getD 5 0), .int .i64 (F.x.getD 6 0), .int .i64 (F.x.getD 7 0), .int .i64 (F.x.getD 8 0), .int .i64 (F.x.getD 9 0), .int .i64 (F.x.getD 10 0), .int .i64 (F.x.getD 11 0)]
def fileC (s : Sl) (F : FileT) : Array Value := (Value.slice s.A s.n s.c :: fileL F).toArray
/-- is that the number of a block that files may have? -/
def isB (v : List (List UInt8)) (I b : Int) : Bool := decide (3 + (I + 1) / 2 ≤ b) && decide (b < (v.length : Int))
/-- the number of the block k, as the inode has it -/
def numAt (v : List (List UInt8)) (I : Int) (x : List Int) (k : Nat) : Int :=
  if k < 6 then x.getD (4 + k) 0 else if isB v I (x.getD 10 0) then fnum (v.getD (x.getD 10 0).toNat []) (2 * (k - 6)) 2 else 0
/-- the block k, or -1 -/
def atP (v : List (List UInt8)) (I : Int) (x : List Int) (k : Nat) : Int := if isB v I (numAt v I x k) then numAt v I x k else -1
def sizeP (x : List Int) : Int := min (x.getD 3 0) 8960
set_option maxHeartbeats 1000000 in
set_option maxRecDepth 100000 in
theorem fis_any (g : Nat) (s : Sl) (F : FileT) (b : Int) (w : World) (h : Box w g 83 (fileC s F)) :
    Calls Tryz.prog 137 #[.pointer (some ⟨g, 0, none⟩), .int .i64 b] w fun e w' => e = .returned (.bool (isB F.v F.I b)) ∧ w = w' := by
  have c6 : w.cell? ⟨g, 6, none⟩ = some (.int .i64 (3 + (F.I + 1) / 2)) := h.cell 6
  have c1 : w.cell? ⟨g, 1, none⟩ = some (.int .i64 (F.v.length : Int)) := h.cell 1
  clear h
  unfold isB
  generalize 3 + (F.I + 1) / 2 = dt at *
  go_enter Tryz.func137, Tryz.ntmps137
  rcases Bool.eq_false_or_eq_true (decide (dt ≤ b)) with d1 | d1
  · go_wp2_with fail
    go_ret
    exact ⟨by rw [d1]; rfl, rfl⟩
  · go_wp2_with fail
    go_ret
    exact ⟨by rw [d1]; rfl, rfl⟩
set_option maxHeartbeats 1000000 in
set_option maxRecDepth 100000 in
theorem fsize_any (g : Nat) (s : Sl) (F : FileT) (w : World) (h : Box w g 83 (fileC s F)) :
    Calls Tryz.prog 50 #[.pointer (some ⟨g, 0, none⟩)] w fun e w' => e = .returned (.int .i64 (sizeP F.x)) ∧ w = w' := by
  have c6 : w.cell? ⟨g, 11, none⟩ = some (.int .i64 (F.x.getD 3 0)) := h.cell 11
  clear h
  unfold sizeP
  generalize F.x.getD 3 0 = z at *
  go_enter Tryz.func50, Tryz.ntmps50
  go_wp2_with fail
  go_ret
  exact ⟨rfl, rfl⟩
/-- such a file stands there -/
structure FileOk (F : FileT) : Prop where
  good : Good F.v F.I
  n1 : 1 ≤ F.n
  n2 : F.n ≤ F.I
  len : F.x.length = 12
  fits : fitsB F.x = true
theorem fdirect {w : World} {g : Nat} {s : Sl} {F : FileT} (h : Box w g 83 (fileC s F)) {k : Nat} (hk : k < 6) : w.cell? ⟨g, 12 + k, none⟩ = some (.int .i64 (F.x.getD (4 + k) 0)) := by
  rcases (by omega : k = 0 ∨ k = 1 ∨ k = 2 ∨ k = 3 ∨ k = 4 ∨ k = 5) with rfl | rfl | rfl | rfl | rfl | rfl
  · exact h.cell 12
  · exact h.cell 13
  · exact h.cell 14
  · exact h.cell 15
  · exact h.cell 16
  · exact h.cell 17
theorem isB_le {v : List (List UInt8)} {I b : Int} (h : isB v I b = true) : 3 + (I + 1) / 2 ≤ b ∧ b < (v.length : Int) := by
  unfold isB at h
  simpa using h
theorem atP_yes {v : List (List UInt8)} {I b : Int} {x : List Int} {k : Nat} (h : numAt v I x k = b) (hb : isB v I b = true) : atP v I x k = b := by unfold atP; rw [h, if_pos hb]
theorem atP_no {v : List (List UInt8)} {I b : Int} {x : List Int} {k : Nat} (h : numAt v I x k = b) (hb : isB v I b = false) : atP v I x k = -1 := by unfold atP; rw [h, if_neg (by rw [hb]; simp)]
theorem cell_getD {w : World} {b o : Nat} {v : List (List UInt8)} (h : ∀ (j : Nat) (h : j < v.length), w.cell? ⟨b, o + j, none⟩ = some (.string (str v[j]))) {k : Nat} (hk : k < v.length) : w.cell? ⟨b, o + k, none⟩ = some (.string (str (v.getD k []))) := by
  rw [h k hk, List.getD_eq_getElem?_getD, List.getElem?_eq_getElem hk]; rfl
set_option maxHeartbeats 4000000 in
set_option maxRecDepth 100000 in
theorem fat_any (g : Nat) (s : Sl) (F : FileT) (k : Nat) (w : World) (h : Box w g 83 (fileC s F)) (hr : Strs w s.A s.n F.v) (hF : FileOk F) (hk : k < 70) :
    Calls Tryz.prog 122 #[.pointer (some ⟨g, 0, none⟩), .int .i64 (k : Int)] w fun e w' => e = .returned (.int .i64 (atP F.v F.I F.x k)) ∧ Ext w w' := by
  have HIS := Lib.hid (fun b w h => fis_any g s F b w h)
  have hpl := plan_bd hF.good.plan
  obtain ⟨hl, hv2⟩ := hr
  by_cases h6 : k < 6
  · have hn : numAt F.v F.I F.x k = F.x.getD (4 + k) 0 := by unfold numAt; rw [if_pos h6]
    have HY := Lib.hid (fun h => atP_yes hn h)
    have HNo := Lib.hid (fun h => atP_no hn h)
    have cd := fdirect h h6
    have hki : (k : Int) < 6 := by omega
    have hkd : decide ((k : Int) < 6) = true := decide_eq_true hki
    clear hv2 hn
    generalize F.x.getD (4 + k) 0 = b at *
    go_enter Tryz.func122, Tryz.ntmps122
    cases hb : isB F.v F.I b with
    | true =>
      have HB := Lib.hid hb
      have HA := Lib.hid (HY.out hb)
      clear hb HY HNo
      go_wp2_with (go_at_call 137; refine (HIS.out b _ h).mono ?_; rintro e w2 ⟨rfl, rfl⟩; rw [HB.out])
      go_ret
      exact ⟨by rw [HA.out]; rfl, Ext.refl _⟩
    | false =>
      have HB := Lib.hid hb
      have HA := Lib.hid (HNo.out hb)
      clear hb HY HNo
      go_wp2_with (go_at_call 137; refine (HIS.out b _ h).mono ?_; rintro e w2 ⟨rfl, rfl⟩; rw [HB.out])
      go_ret
      exact ⟨by rw [HA.out]; rfl, Ext.refl _⟩
  · have hkd : decide ((k : Int) < 6) = false := decide_eq_false (by omega)
    have ci : w.cell? ⟨g, 18, none⟩ = some (.int .i64 (F.x.getD 10 0)) := h.cell 18
    have cv : w.cell? ⟨g, 0, none⟩ = some (.slice s.A s.n s.c) := h.cell 0
    cases hi : isB F.v F.I (F.x.getD 10 0) with
    | false =>
      have hn : numAt F.v F.I F.x k = 0 := by unfold numAt; rw [if_neg h6, hi]; rfl
      have h0 : isB F.v F.I 0 = false := by unfold isB; rw [show decide (3 + (F.I + 1) / 2 ≤ 0) = false from decide_eq_false (by omega)]; rfl
      have HA := Lib.hid (atP_no hn h0)
      have HB := Lib.hid hi
      have H0 := Lib.hid h0
      clear hi hn h0 hv2
      generalize F.x.getD 10 0 = ind at *
      go_enter Tryz.func122, Tryz.ntmps122
      go_wp2_with (first
        | (go_at_call 137; (have hq := HIS.out ind _ h; rw [HB.out] at hq; with_reducible (refine hq.mono ?_)); clear hq; rintro e w2 ⟨rfl, rfl⟩)
        | (go_at_call 137; (have hq := HIS.out 0 _ h; rw [H0.out] at hq; with_reducible (refine hq.mono ?_)); clear hq; rintro e w2 ⟨rfl, rfl⟩))
      go_ret
      exact ⟨by rw [HA.out]; rfl, Ext.refl _⟩
    | true =>
      have hn : numAt F.v F.I F.x k = fnum (F.v.getD (F.x.getD 10 0).toNat []) (2 * (k - 6)) 2 := by unfold numAt; rw [if_neg h6, if_pos hi]
      have HY := Lib.hid (fun h => atP_yes hn h)
      have HNo := Lib.hid (fun h => atP_no hn h)
      have hib := isB_le hi
      obtain ⟨b, o, hsA, hcell⟩ := hv2 (by omega)
      rw [hsA] at cv
      have hgl : (F.v.getD (F.x.getD 10 0).toNat []).length = 128 := getD_len hF.good (by omega)
      have cb : w.cell? ⟨b, o + (F.x.getD 10 0).toNat, none⟩ = some (.string (str (F.v.getD (F.x.getD 10 0).toNat []))) := cell_getD hcell (by omega)
      have HB := Lib.hid hi
      clear hi hn hcell hv2
      generalize F.x.getD 10 0 = ind at *
      obtain ⟨q, rfl⟩ : ∃ q : Nat, ind = (q : Int) := ⟨ind.toNat, by omega⟩
      rw [Int.toNat_natCast] at cb hgl HY HNo
      generalize F.v.getD q [] = blk at *
      have hqs : (q : Int) < (s.n : Int) := by omega
      obtain ⟨z, hz⟩ : ∃ z, k - 6 = z := ⟨_, rfl⟩
      have hkz : (k : Int) = (z : Int) + 6 := by omega
      rw [hz] at HY HNo
      rw [hkz]
      rw [hkz] at hkd
      have hzk : z < 64 := by omega
      have HG := Lib.hid (fun w => get_ext blk (2 * z) (2 * z + 2) 2 w rfl (.inr (.inl rfl)) (by omega))
      have hfb := fnum_bd blk (2 * z) 2 (by omega)
      have hsz : (str blk).size = 128 := by rw [str_size, hgl]
      have w1 : IntKind.i64.wrap ((z : Int) + 6 - 6) = (z : Int) := by rw [IntKind.wrap_i64]; omega
      have w2 : IntKind.i64.wrap (2 * (z : Int)) = ((2 * z : Nat) : Int) := by rw [IntKind.wrap_i64]; omega
      have w3 : IntKind.i64.wrap (((2 * z : Nat) : Int) + 2) = ((2 * z + 2 : Nat) : Int) := by rw [IntKind.wrap_i64]; omega
      have w4 : IntKind.i64.wrap (fnum blk (2 * z) 2) = fnum blk (2 * z) 2 := by rw [IntKind.wrap_i64]; omega
      generalize fnum blk (2 * z) 2 = num at *
      clear h6 hk hkz hz hF hpl hl hib
      go_enter Tryz.func122, Tryz.ntmps122
      go_wp2_with (first
        | (go_at_call 137; (have hq := HIS.out (q : Int) _ h; rw [HB.out] at hq; with_reducible (refine hq.mono ?_)); clear hq; rintro e w2 ⟨rfl, rfl⟩))
      have ci' : ∀ y : Later w, y.now.cell? ⟨g, 18, none⟩ = some (.int .i64 (q : Int)) := fun y => y.ext.keep ci
      have cv' : ∀ y : Later w, y.now.cell? ⟨g, 0, none⟩ = some (.slice (some ⟨b, o, none⟩) s.n s.c) := fun y => y.ext.keep cv
      have cb' : ∀ y : Later w, y.now.cell? ⟨b, o + q, none⟩ = some (.string (str blk)) := fun y => y.ext.keep cb
      have t1 : ((2 * z : Nat) : Int).toNat = 2 * z := by omega
      refine wp_region_later (by kernel_rfl) (by kernel_rfl) ?_
      repeat (go_big_quiet_step ((exact later_of_same (HG.out _))))
      refine wpQuiet_nil ?_
      rintro w5 ⟨x5, rfl⟩
      have h5 := h.ext x5.ext
      clear ci' cv' cb'
      cases hb : isB F.v F.I num with
      | true =>
        have HB2 := Lib.hid hb
        have HA := Lib.hid (HY.out hb)
        clear hb HY HNo
        go_wp2_with (go_at_call 137; refine (HIS.out num _ h5).mono ?_; rintro e w2 ⟨rfl, rfl⟩; rw [HB2.out])
        go_ret
        exact ⟨by rw [HA.out]; rfl, x5.ext⟩
      | false =>
        have HB2 := Lib.hid hb
        have HA := Lib.hid (HNo.out hb)
        clear hb HY HNo
        go_wp2_with (go_at_call 137; refine (HIS.out num _ h5).mono ?_; rintro e w2 ⟨rfl, rfl⟩; rw [HB2.out])
        go_ret
        exact ⟨by rw [HA.out]; rfl, x5.ext⟩
end Go.Proofs.YtnoofjddikhopaaGreat
/- extent.opened on a volume that is one. -/
namespace Go.Proofs.YtnoofjddikhopaaGreat
set_option linter.unusedVariables false
set_option linter.unusedSimpArgs false
open Go.RowKit
theorem fileSize : (Tryz.prog.info? 83).map (·.size) = some 20 := by kernel_rfl
def fileZ : Array Value := #[.slice none 0 0, .int .i64 0, .int .i64 0, .int .i64 0, .int .i64 0, .int .i64 0, .int .i64 0, .int .i64 0, .int .i64 0, .int .i64 0, .int .i64 0, .int .i64 0, .int .i64 0, .int .i64 0, .int .i64 0, .int .i64 0, .int .i64 0, .int .i64 0, .int .i64 0, .int .i64 0]
theorem fileC_one (s : Sl) (F : FileT) : (fileC s F).all (·.oneCell') = true := all_oneCell_toArray (fun v hv => by
  simp only [fileL, List.mem_cons, List.not_mem_nil, or_false] at hv
  rcases hv with h | h | h | h | h | h | h | h | h | h | h | h | h | h | h | h | h | h | h | h <;> (subst h; rfl))
section
variable {ops : Array Oper} {rest : List Oper} {o : Oper} {a : Act} {w : World} {Q : Exit → Act → World → Prop}
theorem wp_st_file (x y : Operand) (hgd : o.guard = none) (ho : o.op = .store 83 x y) (g : Nat) (s : Sl) (F : FileT) (old : Array Value) (t : TypeId) (hx : a.eval x = .pointer (some ⟨g, 0, none⟩)) (hy : a.eval y = .agg (fileC s F))
    (hb : Box w g t old) (hold : old.size = 20) (hK : ∀ w', Box w' g t (fileC s F) → w.grownBy w' (some g) → wpList Tryz.prog ops Q rest (a.put o.dst undef) w') : wpList Tryz.prog ops Q (o :: rest) a w :=
  wp_st _ x y hgd ho g _ _ t hx hy hb fileSize hold (fileC_one s F) hK
end
def ofV (B : Nat) (A : Option Addr) (n c : Nat) (v : List (List UInt8)) (I k : Int) (x : List Int) : Nat → World → Value → Prop
  | 0, _, u => u = .slice A n c
  | 1, w, u => w.ownsRow B 9 1 u n (strL v)
  | 2, _, u => u = .agg (intVals [(v.length : Int), I, 1, 2, 3, 3 + (I + 1) / 2])
  | 3, _, u => u = .int .i64 k
  | 4, _, u => u = .agg (intVals x)
  | 5, w, u => ∃ s : Sl, u = .agg (fileC s ⟨v, I, k, x⟩) ∧ s.n = n ∧ w.ownsRow B 9 1 (.slice s.A s.n s.c) n (strL v)
  | _, _, _ => True
theorem ofV_ext {B : Nat} {A : Option Addr} {n c : Nat} {v : List (List UInt8)} {I k : Int} {x : List Int} (j : Nat) (w w' : World) (u : Value) (hx : Ext w w') (h : ofV B A n c v I k x j w u) : ofV B A n c v I k x j w' u := by
  match j, h with
  | 0, h => exact h
  | 1, h => exact own_ext h hx
  | 2, h => exact h
  | 3, h => exact h
  | 4, h => exact h
  | 5, ⟨s, e, hn, hb⟩ => exact ⟨s, e, hn, own_ext hb hx⟩
  | _ + 6, _ => trivial
def OpenedR (B : Nat) (v : List (List UInt8)) (I k : Int) (e : Ending) (w' : World) : Prop :=
  ∃ s : Sl, e = .returned (.tuple #[.agg (fileC s ⟨v, I, k, inoAt v k⟩), .int .i64 0]) ∧ s.n = v.length ∧ w'.ownsRow B 9 1 (.slice s.A s.n s.c) v.length (strL v)
set_option maxHeartbeats 4000000 in
set_option maxRecDepth 100000 in
theorem opened_yes (A : Option Addr) (n c : Nat) (v : List (List UInt8)) (I k : Int) (w : World) (hv : Strs w A n v) (hg : Good v I) (hk1 : 1 ≤ k) (hk2 : k ≤ I) :
    Calls Tryz.prog 49 #[.slice A n c, .int .i64 k] w fun e w' => OpenedR w.heap.size v I k e w' ∧ Ext w w' := by
  have hpl := plan_bd hg.plan
  have hnv := hv.1
  have HGt := Lib.hid (fun w h => iget_yes A n c v I k w h hg hk1 hk2)
  have HO := Lib.hid (fun w h => of_yes A n c v I w h hg)
  have x0 := (Ext.refl w).alloc (.cells fileZ 83)
  have b0 := Box.new w 83 fileZ
  have HV := Lib.hid (hv.ext x0)
  have HI12 := Lib.hid (inoAt_len v k)
  subst hnv
  clear hv hg hk1 hk2
  unfold OpenedR
  go_enter Tryz.func49, Tryz.ntmps49
  go_upto_region 1 with fail
  change Code.wp _ _ _ _ (w.alloc (.cells fileZ 83))
  generalize w.alloc (.cells fileZ 83) = w1 at *
  generalize hG : w.heap.size = G at *
  obtain ⟨x, hxi⟩ : ∃ x, x = inoAt v k := ⟨_, rfl⟩
  rw [← hxi] at HGt HI12
  have HXI := Lib.hid hxi
  clear hxi
  go_upto_region 2 with (first
    | (go_at_call 35; refine (HGt.out _ HV.out).mono ?_; rintro e w2 ⟨rfl, x2⟩)
    | (refine wp_st_ino (.tmp 6) (.tmp 13) rfl rfl w2.heap.size x zero12 61 rfl rfl (Box.new _ _ _) HI12.out rfl ?_; intro w3 b3 g3))
  have x23 : Ext w2 w3 := ((Ext.refl w2).alloc _).grown g3 (fun j e => by cases e; exact Nat.le_refl _)
  have x13 := x2.trans x23
  have b03 := b0.ext x13
  have HV3 := Lib.hid (HV.out.ext x13)
  have xw3 := x0.trans x13
  clear g3 x23 x2 b0 x13 x0 HV
  generalize w2.heap.size = g3 at *
  go_upto_region 5 with (first
    | (go_at_call 62; refine (HO.out _ HV3.out).mono ?_; rintro e w4 ⟨rfl, x4⟩)
    | (rw [geomV_eq]; refine wp_st_geom (.tmp 8) (.tmp 22) rfl rfl w4.heap.size _ [0, 0, 0, 0, 0, 0] 81 rfl rfl (Box.new _ _ _) rfl rfl ?_; intro w5 b5 g5))
  have x45 : Ext w4 w5 := ((Ext.refl w4).alloc _).grown g5 (fun j e => by cases e; exact Nat.le_refl _)
  have x35 := x4.trans x45
  have b05 := b03.ext x35
  have b35 := b3.ext x35
  have HV5 := Lib.hid (HV3.out.ext x35)
  have xw5 := xw3.trans x35
  clear g5 x45 x4 b03 b3 x35 xw3 HV3 HGt HO
  generalize w4.heap.size = g5 at *
  have hsz := xw5.size
  rw [hG] at hsz
  go_wp2_with fail
  refine wp_region_web' 6 [[], [0], [], [], [], [1, 2, 3, 4]] (ofV G A v.length c v I k x) (by kernel_rfl) (by kernel_rfl) ofV_ext (fun us => ?_)
  simp only [List.take_succ_cons, List.take_zero, List.drop_succ_cons, List.drop_zero]
  refine ⟨fun w' hx hd => ?_, fun w' hx hd => ?_, fun w' hx hd => ?_, fun w' hx hd => ?_, fun w' hx hd => ?_, fun w' hx hd => ?_, fun w' hx hv => ?_⟩
  · refine web_of_list 28 rfl (by simp [Act.put]) rfl ?_
    go_wp2_with fail
    exact ⟨Ext.refl _, rfl⟩
  · have h0 := hd 0 (by simp)
    clear hd
    generalize us 0 = u0 at *
    obtain rfl : u0 = .slice A v.length c := h0
    have hs2 := HV5.out.ext hx
    refine web_of_list 29 rfl (by simp [Act.put]) rfl ?_
    go_wp2_with (refine wp_app_nil G rfl _ _ rfl rfl rfl hs2 (by omega) (by have := hx.size; omega) (by omega) ?_; intro u' w2 own2 xx)
    exact own2
  · refine web_of_list 30 rfl (by simp [Act.put]) rfl ?_
    go_wp2_with (refine wp_ld_geom (.tmp 8) rfl rfl g5 _ 81 rfl (b5.ext hx) rfl ?_)
    exact ⟨Ext.refl _, rfl⟩
  · refine web_of_list 31 rfl (by simp [Act.put]) rfl ?_
    go_wp2_with fail
    exact ⟨Ext.refl _, rfl⟩
  · refine web_of_list 32 rfl (by simp [Act.put]) rfl ?_
    go_wp2_with (refine wp_ld_ino (.tmp 6) rfl rfl g3 x 61 rfl (b35.ext hx) HI12.out ?_)
    exact ⟨Ext.refl _, rfl⟩
  · have h1 := hd 1 (by simp)
    have h2 := hd 2 (by simp)
    have h3 := hd 3 (by simp)
    have h4 := hd 4 (by simp)
    clear hd
    generalize us 0 = u0 at *
    generalize us 1 = u1 at *
    generalize us 2 = u2 at *
    generalize us 3 = u3 at *
    generalize us 4 = u4 at *
    have own1 : w'.ownsRow G 9 1 u1 v.length (strL v) := h1
    obtain rfl : u2 = .agg (intVals [(v.length : Int), I, 1, 2, 3, 3 + (I + 1) / 2]) := h2
    obtain rfl : u3 = .int .i64 k := h3
    obtain rfl : u4 = .agg (intVals x) := h4
    clear h1
    obtain ⟨g, cap, rfl, hgb, _⟩ := Strs.own' own1 (by omega)
    obtain ⟨y0, y1, y2, y3, y4, y5, y6, y7, y8, y9, y10, y11, rfl⟩ := list12 HI12.out
    have OW := Lib.hid own1
    refine web_of_list 33 rfl (by simp [Act.put]) rfl ?_
    simp only [intVals, List.map_cons, List.map_nil]
    go_wp2_with fail
    exact ⟨Ext.refl _, ⟨some ⟨g, 0, none⟩, v.length, cap⟩, rfl, rfl, OW.out⟩
  · have h5 := hv 5 (by omega)
    clear hv
    generalize us 0 = u0 at *
    generalize us 1 = u1 at *
    generalize us 2 = u2 at *
    generalize us 3 = u3 at *
    generalize us 4 = u4 at *
    generalize us 5 = u5 at *
    obtain ⟨s, rfl, hsn, own5⟩ : ∃ s : Sl, u5 = .agg (fileC s ⟨v, I, k, x⟩) ∧ s.n = v.length ∧ w'.ownsRow G 9 1 (.slice s.A s.n s.c) v.length (strL v) := h5
    have b0' := b05.ext hx
    have OW := Lib.hid own5
    have HSN := Lib.hid hsn
    have hne := Lib.hid (own_ne own5 b0' (by decide))
    clear own5 hsn
    go_wp2_with (refine wp_st_file (.tmp 4) (.tmp 33) rfl rfl G s ⟨v, I, k, x⟩ _ 83 rfl rfl b0' rfl ?_; intro w8 b8 g8)
    refine bodyPost_ret (results_cell2 rfl _ _ G _ _ _ (.int .i64 0) rfl rfl b8 Tryz.underlying83 rfl fileSize) rfl ?_
    exact ⟨⟨s, by rw [← HXI.out], HSN.out, by rw [hG]; exact OW.out.kept g8 (.inr hne.out.symm)⟩, (xw5.trans hx).grown g8 (fun j e => by cases e; rw [hG]; exact Nat.le_refl _)⟩
end Go.Proofs.YtnoofjddikhopaaGreat
/- The volume of the statements of layer 28: geom.Format of 24 blocks and 8 inodes. -/
namespace Go.Proofs.YtnoofjddikhopaaGreat
set_option linter.unusedVariables false
set_option linter.unusedSimpArgs false
open Go.RowKit
theorem own_setNe {w : World} {base n g g' cap i : Nat} {t : TypeId} {xs : List Value} (h : w.ownsRow base t 1 (.slice (some ⟨g, 0, none⟩) n cap) n xs) (hne : g < g') (u : Value) : (w.setCell ⟨g', i, none⟩ u).ownsRow base t 1 (.slice (some ⟨g, 0, none⟩) n cap) n xs := by
  refine ⟨h.1, ?_⟩
  rcases h.2 with c | ⟨g1, cap1, cur, e, hb, hh, r⟩
  · exact Or.inl c
  · have e1 : g = g1 := by injection e with e; injection e with e; injection e with e
    subst e1
    exact Or.inr ⟨g, cap1, cur, e, hb, Box.setOther (show Box w g t cur from hh) (by omega) u, r⟩
end Go.Proofs.YtnoofjddikhopaaGreat
/- The volume of the statements of layer 28: inode.New, fs.Make. -/
namespace Go.Proofs.YtnoofjddikhopaaGreat
set_option linter.unusedVariables false
set_option linter.unusedSimpArgs false
open Go.RowKit
theorem flist12 {x : List Int} (h : x.length = 12) : ∃ a0 a1 a2 a3 a4 a5 a6 a7 a8 a9 a10 a11 : Int, x = [a0, a1, a2, a3, a4, a5, a6, a7, a8, a9, a10, a11] := by
  match x, h with
  | [a0, a1, a2, a3, a4, a5, a6, a7, a8, a9, a10, a11], _ => exact ⟨a0, a1, a2, a3, a4, a5, a6, a7, a8, a9, a10, a11, rfl⟩
theorem fits_new (kd o : Int) (h0 : 0 ≤ kd) (h1 : kd < 256) (h2 : 0 ≤ o) (h3 : o < 256) : fitsB [kd, 1, o, 0, 0, 0, 0, 0, 0, 0, 0, 0] = true := by
  unfold fitsB
  rw [List.all_eq_true]
  intro k _
  unfold fitF
  rw [decide_eq_true_eq]
  match k with
  | ⟨0, _⟩ => exact ⟨h0, h1⟩
  | ⟨1, _⟩ => exact ⟨h2, h3⟩
  | ⟨2, _⟩ => exact ⟨(by decide : (0 : Int) ≤ 1), (by decide : (1 : Int) < 65536)⟩
  | ⟨3, _⟩ => exact ⟨Int.le_refl _, (by decide : (0 : Int) < 4294967296)⟩
  | ⟨4, _⟩ | ⟨5, _⟩ | ⟨6, _⟩ | ⟨7, _⟩ | ⟨8, _⟩ | ⟨9, _⟩ | ⟨10, _⟩ | ⟨11, _⟩ => exact ⟨Int.le_refl _, (by decide : (0 : Int) < 65536)⟩
theorem ino_kind (a0 a1 a2 a3 a4 a5 a6 a7 a8 a9 a10 a11 : Int) (w : World) : (Instr.field 61 (.agg #[.int .i64 a0, .int .i64 a1, .int .i64 a2, .int .i64 a3, .int .i64 a4, .int .i64 a5, .int .i64 a6, .int .i64 a7, .int .i64 a8, .int .i64 a9, .int .i64 a10, .int .i64 a11]) 0).run Tryz.prog w = .ok (.int .i64 a0) w := by kernel_rfl
set_option maxHeartbeats 1000000 in
set_option maxRecDepth 100000 in
theorem inew_yes (A : Option Addr) (n c j : Nat) (v : List (List UInt8)) (I kd o : Int) (w : World) (hv : Strs w A n v) (hg : Good v I) (hkd : kd = 1 ∨ kd = 2) (ho0 : 0 ≤ o) (ho1 : o ≤ 15) (hj1 : 1 ≤ j) (hj2 : (j : Int) ≤ I) (hj : (inoAt v j).getD 0 0 = 0)
    (hlow : ∀ i : Nat, 1 ≤ i → i < j → (inoAt v i).getD 0 0 ≠ 0) :
    Calls Tryz.prog 27 #[.slice A n c, .int .i64 kd, .int .i64 o] w fun e w' => ∃ u, e = .returned (.tuple #[u, .int .i64 j, .int .i64 0]) ∧ Ext w w' ∧ w'.ownsRow w.heap.size 9 1 u n (strL (putAt v j [kd, 1, o, 0, 0, 0, 0, 0, 0, 0, 0, 0])) := by
  have hpl := plan_bd hg.plan
  obtain ⟨b, oo, rfl, _⟩ := hv.2 (by have := hv.1; omega)
  have HO := Lib.hid (fun w h => of_yes (some ⟨b, oo, none⟩) n c v I w h hg)
  have HT := Lib.hid (fun (m : Nat) (h1 : 1 ≤ m) (h2 : (m : Int) ≤ I) w h => told_good b oo n c v I m w h hg (by omega) h2)
  have HW := Lib.hid (fun w h => written_good b oo n c v I j [kd, 1, o, 0, 0, 0, 0, 0, 0, 0, 0, 0] w h hg (by omega) hj2 rfl (fits_new kd o (by omega) (by omega) ho0 (by omega)))
  have e12 : intVals [kd, 1, o, 0, 0, 0, 0, 0, 0, 0, 0, 0] = #[.int .i64 kd, .int .i64 1, .int .i64 o, .int .i64 0, .int .i64 0, .int .i64 0, .int .i64 0, .int .i64 0, .int .i64 0, .int .i64 0, .int .i64 0, .int .i64 0] := rfl
  rw [e12] at HW
  clear e12
  have HL := Lib.hid hlow
  have HJ := Lib.hid hj
  have HX := Lib.hid (fun m : Nat => inoAt_len v m)
  clear hlow hj
  have d3 : decide (o < 0) = false := by simp; omega
  have d4 : decide (16 ≤ o) = false := by simp; omega
  rcases hkd with rfl | rfl
  all_goals
    go_enter Tryz.func27, Tryz.ntmps27
    go_wp2_with fail
    refine (HO.out _ hv).mono ?_
    rintro e w1 ⟨rfl, x1⟩
    rw [geomV_eq]
    go_wp2_with (refine wp_st_geom (.tmp 9) (.tmp 15) rfl rfl w1.heap.size _ [0, 0, 0, 0, 0, 0] 81 rfl rfl (Box.new _ _ _) rfl rfl ?_; intro w2 b2 g2; have x2 : Ext w w2 := (x1.alloc _).grown g2 (fun k e => by cases e; exact x1.size))
    go_loopw [11] (fun t wx => ∃ m : Nat, 1 ≤ m ∧ m ≤ j ∧ t = .int .i64 m ∧ Ext w wx ∧ Box wx w1.heap.size 81 (intVals [v.length, I, 1, 2, 3, 3 + (I + 1) / 2])) (fun t _ => j - (intOf t).toNat)
    case atStart => exact ⟨1, by omega, by omega, rfl, x2, b2⟩
    case round =>
      obtain ⟨m, hm1, hm, rfl, xm, bm⟩ := hrel
      have c1 : wr.cell? ⟨w1.heap.size, 1, none⟩ = some (.int .i64 I) := bm.cell 1
      have dm : (m : Int) ≤ I := by omega
      have HTm := Lib.hid (HT.out m hm1 dm)
      obtain ⟨a0, a1, a2, a3, a4, a5, a6, a7, a8, a9, a10, a11, hx⟩ := flist12 (HX.out m)
      have hx0 : (inoAt v m).getD 0 0 = a0 := by rw [hx]; rfl
      rw [hx] at HTm
      rw [show intVals [a0, a1, a2, a3, a4, a5, a6, a7, a8, a9, a10, a11] = #[.int .i64 a0, .int .i64 a1, .int .i64 a2, .int .i64 a3, .int .i64 a4, .int .i64 a5, .int .i64 a6, .int .i64 a7, .int .i64 a8, .int .i64 a9, .int .i64 a10, .int .i64 a11] from rfl] at HTm
      have hfd := ino_kind a0 a1 a2 a3 a4 a5 a6 a7 a8 a9 a10 a11
      by_cases hlt : m < j
      · have hb : (a0 == 0) = false := by rw [← hx0]; simpa using HL.out m hm1 hlt
        clear hx hx0
        go_wp2_with (first
          | (refine wp_ld_geom (.tmp 9) rfl rfl w1.heap.size _ 81 rfl bm rfl ?_)
          | (go_at_call 63; refine (HTm.out _ (hv.ext xm)).mono ?_; rintro e w3 ⟨rfl, x3⟩))
        go_roundw
        case rel => exact ⟨m + 1, by omega, by omega, by go_num, xm.trans x3, bm.ext x3⟩
        case measure => simp [intOf]; omega
      · obtain rfl : m = j := by omega
        have hb : (a0 == 0) = true := by rw [← hx0]; simpa using HJ.out
        clear hx hx0
        go_wp2_with (first
          | (refine wp_ld_geom (.tmp 9) rfl rfl w1.heap.size _ 81 rfl bm rfl ?_)
          | (refine wp_ld_geom (.tmp 9) rfl rfl w1.heap.size _ 81 rfl (bm.ext x3) rfl ?_)
          | (go_at_call 63; refine (HTm.out _ (hv.ext xm)).mono ?_; rintro e w3 ⟨rfl, x3⟩; clear HTm)
          | (go_at_call 64; refine (HW.out _ (hv.ext (xm.trans x3))).mono ?_; rintro e w5 ⟨u, rfl, x5, own5⟩))
        go_ret3
        have o6 := own_base own5 (xm.trans x3).size
        clear HW HT HO HL HJ HX hv hg
        refine ⟨u, rfl, (xm.trans x3).trans x5, ?_⟩
        exact o6
theorem zs_getD (n i : Nat) : (zs n).getD i 0 = 0 := by
  unfold zs
  rw [List.getD_eq_getElem?_getD, List.getElem?_replicate]
  split <;> rfl
end Go.Proofs.YtnoofjddikhopaaGreat
/- An inode as it stands on a volume, written: lay, keep, take, name, place. -/
namespace Go.Proofs.YtnoofjddikhopaaGreat
set_option linter.unusedVariables false
set_option linter.unusedSimpArgs false
open Go.RowKit
theorem Ext.under {w0 w w' : World} {B : Nat} (h : Ext w0 w) (k : Below B w w') (hB : w0.heap.size ≤ B) : Ext w0 w' := Below.trans h (Below.mono k hB)
/-- a file's cells lie in a block of their own, its volume in a row of its own, both from B on -/
def FileIn (B : Nat) (w : World) (g : Nat) (F : FileT) : Prop := FileOk F ∧ B ≤ g ∧ ∃ b cap, Box w g 83 (fileC ⟨some ⟨b, 0, none⟩, F.v.length, cap⟩ F) ∧ w.ownsRow B 9 1 (.slice (some ⟨b, 0, none⟩) F.v.length cap) F.v.length (strL F.v)
theorem FileIn.ext {B : Nat} {w w' : World} {g : Nat} {F : FileT} (h : FileIn B w g F) (x : Ext w w') : FileIn B w' g F := by
  obtain ⟨ho, hB, b, cap, h1, h2⟩ := h
  exact ⟨ho, hB, b, cap, h1.ext x, own_ext h2 x⟩
def FileT.lay (F : FileT) (q p : Nat) (d : List UInt8) : FileT := { F with v := F.v.set q (overL (F.v.getD q []) p d) }
theorem FileOk.lay {F : FileT} (h : FileOk F) {q p : Nat} {d : List UInt8} (hq : 3 ≤ q) (hl : q < F.v.length) (hp : p + d.length ≤ 128) : FileOk (F.lay q p d) := by
  have hb := getD_len h.good hl
  exact ⟨h.good.set (by omega) (by omega) (by rw [overL_len _ _ _ (by omega), hb]), h.n1, h.n2, h.len, h.fits⟩
theorem lay_cells (F : FileT) (q p : Nat) (d : List UInt8) (s : Sl) : fileC s (F.lay q p d) = fileC s F := by
  unfold fileC fileL FileT.lay
  simp only [List.length_set]
set_option maxHeartbeats 4000000 in
set_option maxRecDepth 100000 in
theorem flay_any (B g : Nat) (F : FileT) (q p : Nat) (d : List UInt8) (w : World) (h : FileIn B w g F) (hq : 3 ≤ q) (hl : q < F.v.length) (hp : p + d.length ≤ 128) :
    Calls Tryz.prog 117 #[.pointer (some ⟨g, 0, none⟩), .int .i64 (q : Int), .int .i64 (p : Int), .string (str d)] w fun e w' => e = .returned (.tuple #[]) ∧ FileIn B w' g (F.lay q p d) ∧ Below B w w' := by
  obtain ⟨hok, hB, b, cap, hbx, own⟩ := h
  have hn := plan_bd hok.good.plan
  have HOK := Lib.hid (hok.lay hq hl hp)
  have hblk := getD_len hok.good hl
  have hgb : B ≤ b := by
    obtain ⟨g', cap', e, hge, _⟩ := Strs.own' own (by omega)
    injection e with e1 _ _; injection e1 with e1; injection e1 with e1 _ _; omega
  have hbg : g ≠ b := by
    have := own_ne own hbx (by decide)
    intro e; exact this (by rw [e]; rfl)
  have cv : ∀ y : Later w, y.now.cell? ⟨g, 0, none⟩ = some (.slice (some ⟨b, 0, none⟩) F.v.length cap) := fun y => (hbx.ext y.ext).cell 0
  have k0 : w.cell? ⟨b, q, none⟩ = some (.string (str (F.v.getD q []))) := (own.cellAt q (by omega)).trans (by simp [strL, hl, List.getD_eq_getElem?_getD])
  have hz := str_size
  have hsz : (str (F.v.getD q [])).size = 128 := by rw [str_size, hblk]
  have HEQ := Lib.hid (show (F.lay q p d).v = F.v.set q (overL (F.v.getD q []) p d) from rfl)
  have hql : (q : Int) < (F.v.length : Int) := by omega
  have cv0 := cv ⟨w, Ext.refl _⟩
  simp only at cv0
  have HBX := Lib.hid hbx
  have OWN := Lib.hid own
  clear hok hbx own
  generalize hblkE : F.v.getD q [] = blk at *
  go_enter Tryz.func117, Tryz.ntmps117
  go_wp2_with fail
  have hse := str_ext
  have hap := str_app
  have t0 : (0 : Int) ≤ (q : Int) := by omega
  have t1 : (0 : Int) ≤ (p : Int) := by omega
  have t2 : IntKind.i64.wrap ((p : Int) + (d.length : Int)) = ((p + d.length : Nat) : Int) := by rw [IntKind.wrap_i64]; omega
  have t3 : (0 : Int) ≤ ((p + d.length : Nat) : Int) := by omega
  have t5 : (p : Int) ≤ 128 := by omega
  have t6 : ((p + d.length : Nat) : Int) ≤ 128 := by omega
  have l1 : min p 128 = p := by omega
  refine wp_region_later_tail 18 (by kernel_rfl) (by kernel_rfl) ?_
  simp only [List.take_succ_cons, List.take_zero, List.drop_succ_cons, List.drop_zero]
  repeat (go_big_quiet_step (fail))
  refine wpQuiet_nil ?_
  rintro w7 ⟨y, rfl⟩
  clear cv hse hap hz t2 l1
  have own7 := own_ext OWN.out y.ext
  have b7 := HBX.out.ext y.ext
  have xy := Lib.hid y.ext
  have k7 := y.ext.keep k0
  have kf7 := own7.frozenAt q
  generalize y.now = w7 at own7 b7 xy k7 kf7 ⊢
  have OW7 := Lib.hid own7
  have B7 := Lib.hid b7
  clear own7 b7 k0 cv0
  go_wp2_with fail
  go_end0
  have hov : List.take p blk ++ (d ++ List.take (128 - (p + d.length)) (List.drop (p + d.length) blk)) = overL blk p d := by
    unfold overL
    rw [List.append_assoc, List.take_of_length_le (l := List.drop (p + d.length) blk) (by rw [List.length_drop, hblk]; omega)]
  refine ⟨rfl, ⟨HOK.out, hB, b, cap, ?_, ?_⟩, ?_⟩
  · rw [lay_cells, HEQ.out, List.length_set]
    exact B7.out.far (p := ⟨b, q, none⟩) hbg _
  · rw [HEQ.out, List.length_set, hov]
    exact own_set OW7.out _
  · exact Below.setCell (Below.mono xy.out (by have := HBX.out.lt; omega)) (p := ⟨b, q, none⟩) hgb _
/-- the inode written -/
def FileT.keep (F : FileT) : FileT := { F with v := putAt F.v F.n F.x }
theorem FileOk.keep {F : FileT} (h : FileOk F) : FileOk F.keep := ⟨h.good.putAt h.n1 h.n2 F.x, h.n1, h.n2, h.len, h.fits⟩
theorem keep_cells (F : FileT) (s : Sl) : fileC s F.keep = fileC s F := by
  unfold fileC fileL FileT.keep
  simp only [putAt_len]
theorem ino_range {w : World} {g : Nat} {s : Sl} {F : FileT} (hx : F.x.length = 12) (h : Box w g 83 (fileC s F)) : w.rangeAt g 8 (intVals F.x).toList := fun j v hj => by
  refine (h.cell (8 + j)).trans ?_
  rw [← hj]
  obtain ⟨y0, y1, y2, y3, y4, y5, y6, y7, y8, y9, y10, y11, he⟩ := list12 hx
  have hj12 : j < 12 := by have := (List.getElem?_eq_some_iff.1 hj).1; rw [he] at this; simpa [intVals] using this
  unfold fileC fileL
  rw [he]
  rcases (by omega : j = 0 ∨ j = 1 ∨ j = 2 ∨ j = 3 ∨ j = 4 ∨ j = 5 ∨ j = 6 ∨ j = 7 ∨ j = 8 ∨ j = 9 ∨ j = 10 ∨ j = 11) with rfl | rfl | rfl | rfl | rfl | rfl | rfl | rfl | rfl | rfl | rfl | rfl <;> rfl
def kpV (v : List (List UInt8)) (B : Nat) (w : World) (u : Value) : Prop := ∃ A, u = .tuple #[A, .int .i64 0] ∧ w.ownsRow B 9 1 A v.length (strL v)
theorem lasts_kp (v : List (List UInt8)) (B : Nat) : Lasts (kpV v B) := fun _ _ _ hx ⟨A, e, h⟩ => ⟨A, e, own_ext h hx⟩
def rwV (v : List (List UInt8)) (B : Nat) (w : World) (u : Value) : Prop := w.ownsRow B 9 1 u v.length (strL v)
theorem lasts_rw (v : List (List UInt8)) (B : Nat) : Lasts (rwV v B) := fun _ _ _ hx h => own_ext h hx
theorem wp_ld_fino {ops : Array Oper} {rest : List Oper} {o : Oper} {a : Act} {w : World} {Q : Exit → Act → World → Prop} (x : Operand) (hgd : o.guard = none) (ho : o.op = .load 61 x) (g : Nat) (s : Sl) (F : FileT) (hx : a.eval x = .pointer (some ⟨g, 8, none⟩)) (hl : F.x.length = 12)
    (hb : Box w g 83 (fileC s F)) (hK : wpList Tryz.prog ops Q rest (a.put o.dst (.agg (intVals F.x))) w) : wpList Tryz.prog ops Q (o :: rest) a w :=
  wpList_load_mid hgd _ x ho g 8 hx _ _ (ino_range hl hb) Tryz.underlying61 rfl (by rw [Array.length_toList, intVals_size, hl]; exact inoSize) hK
set_option maxHeartbeats 4000000 in
set_option maxRecDepth 100000 in
theorem fkeep_any (B g : Nat) (F : FileT) (w : World) (h : FileIn B w g F) (hBw : B ≤ w.heap.size) :
    Calls Tryz.prog 118 #[.pointer (some ⟨g, 0, none⟩)] w fun e w' => e = .returned (.int .i64 0) ∧ FileIn B w' g F.keep ∧ Below B w w' := by
  obtain ⟨hok, hB, b, cap, hbx, own⟩ := h
  have hs := Strs.own own
  have HP := Lib.hid (fun w h => iput_yes (some ⟨b, 0, none⟩) F.v.length cap F.v F.I F.n F.x w h hok.good hok.n1 hok.n2 hok.len (i64_of_fits hok.fits hok.len) hok.fits)
  have HOK := Lib.hid hok.keep
  have HL := Lib.hid hok.len
  have hpos : 0 < F.v.length := by have := plan_bd hok.good.plan; omega
  have HBX := Lib.hid hbx
  have HS := Lib.hid hs
  clear hok hbx own hs
  go_enter Tryz.func118, Tryz.ntmps118
  go_wp2_with fail
  refine wp_region_web' 18 [[], [0], [1], [2], [], [4], [5], [6], [], [8], [9], [10], [3, 7, 11], [12], [13], [13], [14], [15]] (listV [isV (.pointer (some ⟨g, 0, none⟩)), isV (.pointer (some ⟨g, 0, none⟩)), isV (.pointer (some ⟨g, 0, none⟩)), isV (.slice (some ⟨b, 0, none⟩) F.v.length cap), isV (.pointer (some ⟨g, 0, none⟩)), isV (.pointer (some ⟨g, 0, none⟩)), isV (.pointer (some ⟨g, 7, none⟩)), isV (.int .i64 F.n), isV (.pointer (some ⟨g, 0, none⟩)), isV (.pointer (some ⟨g, 0, none⟩)), isV (.pointer (some ⟨g, 8, none⟩)), isV (.agg (intVals F.x)), kpV (putAt F.v F.n F.x) B, kpV (putAt F.v F.n F.x) B, rwV (putAt F.v F.n F.x) B, isV (.int .i64 0), rwV (putAt F.v F.n F.x) B, isV (.int .i64 0)]) (by kernel_rfl) (by kernel_rfl) (listV_ext (fun p hp => by simp only [List.mem_cons, List.not_mem_nil, or_false] at hp; rcases hp with rfl | rfl | rfl | rfl | rfl | rfl | rfl | rfl | rfl | rfl | rfl | rfl | rfl | rfl | rfl | rfl | rfl | rfl <;> first | exact lasts_is _ | exact lasts_kp _ _ | exact lasts_rw _ _)) (fun us => ?_)
  simp only [List.take_succ_cons, List.take_zero, List.drop_succ_cons, List.drop_zero]
  rw [webWalk]
  refine And.intro (fun w' hx hd => ?_) ?_
  · clear hd
    refine web_of_list 6 rfl (by simp) rfl ?_
    go_wp2_with fail
    exact ⟨Ext.refl _, rfl⟩
  simp only [Act.put, List.setIfInBounds_toArray, List.set_cons_zero, List.set_cons_succ]
  rw [webWalk]
  refine And.intro (fun w' hx hd => ?_) ?_
  · have h0 := hd 0 (by simp)
    clear hd
    generalize us 0 = u0 at *
    obtain rfl : u0 = .pointer (some ⟨g, 0, none⟩) := h0
    refine web_of_list 7 rfl (by simp [Act.put]) rfl ?_
    go_wp2_with fail
    exact ⟨Ext.refl _, rfl⟩
  simp only [Act.put, List.setIfInBounds_toArray, List.set_cons_zero, List.set_cons_succ]
  rw [webWalk]
  refine And.intro (fun w' hx hd => ?_) ?_
  · have h1 := hd 1 (by simp)
    clear hd
    generalize us 1 = u1 at *
    obtain rfl : u1 = .pointer (some ⟨g, 0, none⟩) := h1
    refine web_of_list 8 rfl (by simp [Act.put]) rfl ?_
    go_wp2_with fail
    exact ⟨Ext.refl _, rfl⟩
  simp only [Act.put, List.setIfInBounds_toArray, List.set_cons_zero, List.set_cons_succ]
  rw [webWalk]
  refine And.intro (fun w' hx hd => ?_) ?_
  · have h2 := hd 2 (by simp)
    clear hd
    generalize us 2 = u2 at *
    obtain rfl : u2 = .pointer (some ⟨g, 0, none⟩) := h2
    have cv : w'.cell? ⟨g, 0, none⟩ = some (.slice (some ⟨b, 0, none⟩) F.v.length cap) := (HBX.out.ext hx).cell 0
    refine web_of_list 9 rfl (by simp [Act.put]) rfl ?_
    go_wp2_with fail
    exact ⟨Ext.refl _, rfl⟩
  simp only [Act.put, List.setIfInBounds_toArray, List.set_cons_zero, List.set_cons_succ]
  rw [webWalk]
  refine And.intro (fun w' hx hd => ?_) ?_
  · clear hd
    refine web_of_list 10 rfl (by simp [Act.put]) rfl ?_
    go_wp2_with fail
    exact ⟨Ext.refl _, rfl⟩
  simp only [Act.put, List.setIfInBounds_toArray, List.set_cons_zero, List.set_cons_succ]
  rw [webWalk]
  refine And.intro (fun w' hx hd => ?_) ?_
  · have h4 := hd 4 (by simp)
    clear hd
    generalize us 4 = u4 at *
    obtain rfl : u4 = .pointer (some ⟨g, 0, none⟩) := h4
    refine web_of_list 11 rfl (by simp [Act.put]) rfl ?_
    go_wp2_with fail
    exact ⟨Ext.refl _, rfl⟩
  simp only [Act.put, List.setIfInBounds_toArray, List.set_cons_zero, List.set_cons_succ]
  rw [webWalk]
  refine And.intro (fun w' hx hd => ?_) ?_
  · have h5 := hd 5 (by simp)
    clear hd
    generalize us 5 = u5 at *
    obtain rfl : u5 = .pointer (some ⟨g, 0, none⟩) := h5
    refine web_of_list 12 rfl (by simp [Act.put]) rfl ?_
    go_wp2_with fail
    exact ⟨Ext.refl _, rfl⟩
  simp only [Act.put, List.setIfInBounds_toArray, List.set_cons_zero, List.set_cons_succ]
  rw [webWalk]
  refine And.intro (fun w' hx hd => ?_) ?_
  · have h6 := hd 6 (by simp)
    clear hd
    generalize us 6 = u6 at *
    obtain rfl : u6 = .pointer (some ⟨g, 7, none⟩) := h6
    have cv : w'.cell? ⟨g, 7, none⟩ = some (.int .i64 F.n) := (HBX.out.ext hx).cell 7
    refine web_of_list 13 rfl (by simp [Act.put]) rfl ?_
    go_wp2_with fail
    exact ⟨Ext.refl _, rfl⟩
  simp only [Act.put, List.setIfInBounds_toArray, List.set_cons_zero, List.set_cons_succ]
  rw [webWalk]
  refine And.intro (fun w' hx hd => ?_) ?_
  · clear hd
    refine web_of_list 14 rfl (by simp [Act.put]) rfl ?_
    go_wp2_with fail
    exact ⟨Ext.refl _, rfl⟩
  simp only [Act.put, List.setIfInBounds_toArray, List.set_cons_zero, List.set_cons_succ]
  rw [webWalk]
  refine And.intro (fun w' hx hd => ?_) ?_
  · have h8 := hd 8 (by simp)
    clear hd
    generalize us 8 = u8 at *
    obtain rfl : u8 = .pointer (some ⟨g, 0, none⟩) := h8
    refine web_of_list 15 rfl (by simp [Act.put]) rfl ?_
    go_wp2_with fail
    exact ⟨Ext.refl _, rfl⟩
  simp only [Act.put, List.setIfInBounds_toArray, List.set_cons_zero, List.set_cons_succ]
  rw [webWalk]
  refine And.intro (fun w' hx hd => ?_) ?_
  · have h9 := hd 9 (by simp)
    clear hd
    generalize us 9 = u9 at *
    obtain rfl : u9 = .pointer (some ⟨g, 0, none⟩) := h9
    refine web_of_list 16 rfl (by simp [Act.put]) rfl ?_
    go_wp2_with fail
    exact ⟨Ext.refl _, rfl⟩
  simp only [Act.put, List.setIfInBounds_toArray, List.set_cons_zero, List.set_cons_succ]
  rw [webWalk]
  refine And.intro (fun w' hx hd => ?_) ?_
  · have h10 := hd 10 (by simp)
    clear hd
    generalize us 10 = u10 at *
    obtain rfl : u10 = .pointer (some ⟨g, 8, none⟩) := h10
    refine web_of_list 17 rfl (by simp [Act.put]) rfl ?_
    go_wp2_with (refine wp_ld_fino (.tmp 16) rfl rfl g _ F rfl HL.out (HBX.out.ext hx) ?_)
    exact ⟨Ext.refl _, rfl⟩
  simp only [Act.put, List.setIfInBounds_toArray, List.set_cons_zero, List.set_cons_succ]
  rw [webWalk]
  refine And.intro (fun w' hx hd => ?_) ?_
  · have h3 := hd 3 (by simp)
    have h7 := hd 7 (by simp)
    have h11 := hd 11 (by simp)
    clear hd
    generalize us 3 = u3 at *
    generalize us 7 = u7 at *
    generalize us 11 = u11 at *
    obtain rfl : u3 = .slice (some ⟨b, 0, none⟩) F.v.length cap := h3
    obtain rfl : u7 = .int .i64 F.n := h7
    obtain rfl : u11 = .agg (intVals F.x) := h11
    refine web_of_list 18 rfl (by simp [Act.put]) rfl ?_
    go_wp2_with (go_at_call 40; refine (HP.out _ (HS.out.ext hx)).mono ?_; rintro e w2 ⟨u, rfl, x2, own2⟩)
    exact ⟨u, rfl, own_base (by rw [putAt_len]; exact own2) (by have := hx.size; omega)⟩
  simp only [Act.put, List.setIfInBounds_toArray, List.set_cons_zero, List.set_cons_succ]
  rw [webWalk]
  refine And.intro (fun w' hx hd => ?_) ?_
  · have h12 := hd 12 (by simp)
    clear hd
    generalize us 12 = u12 at *
    obtain ⟨A12, rfl, o12⟩ := h12
    refine web_of_list 5 rfl (by simp [Act.put]) rfl ?_
    go_wp2_with fail
    exact ⟨Ext.refl _, A12, rfl, o12⟩
  simp only [Act.put, List.setIfInBounds_toArray, List.set_cons_zero, List.set_cons_succ]
  rw [webWalk]
  refine And.intro (fun w' hx hd => ?_) ?_
  · have h13 := hd 13 (by simp)
    clear hd
    generalize us 13 = u13 at *
    obtain ⟨A13, rfl, o13⟩ := h13
    refine web_of_list 19 rfl (by simp [Act.put]) rfl ?_
    go_wp2_with fail
    exact ⟨Ext.refl _, o13⟩
  simp only [Act.put, List.setIfInBounds_toArray, List.set_cons_zero, List.set_cons_succ]
  rw [webWalk]
  refine And.intro (fun w' hx hd => ?_) ?_
  · have h13 := hd 13 (by simp)
    clear hd
    generalize us 13 = u13 at *
    obtain ⟨A13, rfl, o13⟩ := h13
    refine web_of_list 20 rfl (by simp [Act.put]) rfl ?_
    go_wp2_with fail
    exact ⟨Ext.refl _, rfl⟩
  simp only [Act.put, List.setIfInBounds_toArray, List.set_cons_zero, List.set_cons_succ]
  rw [webWalk]
  refine And.intro (fun w' hx hd => ?_) ?_
  · have h14 := hd 14 (by simp)
    clear hd
    generalize us 14 = u14 at *
    skip
    refine web_of_list 3 rfl (by simp [Act.put]) rfl ?_
    go_wp2_with fail
    exact ⟨Ext.refl _, h14⟩
  simp only [Act.put, List.setIfInBounds_toArray, List.set_cons_zero, List.set_cons_succ]
  rw [webWalk]
  refine And.intro (fun w' hx hd => ?_) ?_
  · have h15 := hd 15 (by simp)
    clear hd
    generalize us 15 = u15 at *
    obtain rfl : u15 = .int .i64 0 := h15
    refine web_of_list 4 rfl (by simp [Act.put]) rfl ?_
    go_wp2_with fail
    exact ⟨Ext.refl _, rfl⟩
  simp only [Act.put, List.setIfInBounds_toArray, List.set_cons_zero, List.set_cons_succ]
  rw [webWalk]
  intro w' hx hv
  have h16 := hv 16 (by omega)
  have h17 := hv 17 (by omega)
  clear hv
  generalize us 0 = u0 at *
  generalize us 1 = u1 at *
  generalize us 2 = u2 at *
  generalize us 3 = u3 at *
  generalize us 4 = u4 at *
  generalize us 5 = u5 at *
  generalize us 6 = u6 at *
  generalize us 7 = u7 at *
  generalize us 8 = u8 at *
  generalize us 9 = u9 at *
  generalize us 10 = u10 at *
  generalize us 11 = u11 at *
  generalize us 12 = u12 at *
  generalize us 13 = u13 at *
  generalize us 14 = u14 at *
  generalize us 15 = u15 at *
  generalize us 16 = u16 at *
  generalize us 17 = u17 at *
  skip
  obtain rfl : u17 = .int .i64 0 := h17
  have own14 : w'.ownsRow B 9 1 u16 (putAt F.v F.n F.x).length (strL (putAt F.v F.n F.x)) := h16
  rw [putAt_len] at own14
  obtain ⟨b2, cap2, rfl, hb2, _⟩ := Strs.own' own14 (by omega)
  have hbx' := HBX.out.ext hx
  have f0 := hbx'.frozen 0
  have k0 : w'.cell? ⟨g, 0, none⟩ = some (.slice (some ⟨b, 0, none⟩) F.v.length cap) := hbx'.cell 0
  have HX := Lib.hid hx
  have HB' := Lib.hid hbx'
  have OW := Lib.hid own14
  have hne : g ≠ b2 := by
    have := own_ne own14 hbx' (by decide)
    intro e; exact this (by rw [e]; rfl)
  clear hbx' hx own14 h16
  go_wp2_with fail
  go_ret
  refine ⟨rfl, ⟨HOK.out, hB, b2, cap2, ?_, ?_⟩, ?_⟩
  · rw [keep_cells]
    have e := HB'.out.set 0 (.slice (some ⟨b2, 0, none⟩) F.v.length cap2)
    show Box _ g 83 (fileC ⟨some ⟨b2, 0, none⟩, (putAt F.v F.n F.x).length, cap2⟩ F)
    rw [putAt_len]
    exact e
  · show World.ownsRow _ B 9 1 (.slice (some ⟨b2, 0, none⟩) (putAt F.v F.n F.x).length cap2) (putAt F.v F.n F.x).length (strL (putAt F.v F.n F.x))
    rw [putAt_len]
    exact own_setBox OW.out HB'.out (by decide) _
  · exact Below.setCell (Below.mono HX.out hBw) (p := ⟨g, 0, none⟩) hB _
/-- a block taken -/
def FileT.took (F : FileT) (i : Nat) : FileT := { F with v := takenV F.v i }
theorem FileOk.took {F : FileT} (h : FileOk F) {i : Nat} (ht : takeI F.v F.I = some i) : FileOk (F.took i) := ⟨h.good.taken ht, h.n1, h.n2, h.len, h.fits⟩
theorem took_cells (F : FileT) (i : Nat) (s : Sl) : fileC s (F.took i) = fileC s F := by
  unfold fileC fileL FileT.took
  simp only [takenV_len]
set_option maxHeartbeats 4000000 in
set_option maxRecDepth 100000 in
theorem ftake_yes (B g i : Nat) (F : FileT) (w : World) (h : FileIn B w g F) (hBw : B ≤ w.heap.size) (ht : takeI F.v F.I = some i) :
    Calls Tryz.prog 138 #[.pointer (some ⟨g, 0, none⟩)] w fun e w' => e = .returned (.tuple #[.int .i64 (i : Int), .int .i64 0]) ∧ FileIn B w' g (F.took i) ∧ Below B w w' := by
  obtain ⟨hok, hB, b, cap, hbx, own⟩ := h
  obtain ⟨t1, t2, t3, t4⟩ := takeI_some ht
  have HP := Lib.hid (fun w h => take_yes (some ⟨b, 0, none⟩) F.v.length cap i F.v F.I w h hok.good t1 t2 t3 t4)
  have HOK := Lib.hid (hok.took ht)
  have hpos : 0 < F.v.length := by have := plan_bd hok.good.plan; omega
  have hs := Strs.own own
  have cv : w.cell? ⟨g, 0, none⟩ = some (.slice (some ⟨b, 0, none⟩) F.v.length cap) := hbx.cell 0
  have HBX := Lib.hid hbx
  clear hok hbx own ht t1 t3 t4 t2
  go_enter Tryz.func138, Tryz.ntmps138
  go_upto_region 3 with (first
    | (go_at_call 144; refine (HP.out _ hs).mono ?_; rintro e w2 ⟨u, rfl, x2, own2⟩))
  have ow2 : w2.ownsRow B 9 1 u F.v.length (strL (takenV F.v i)) := own_base own2 hBw
  obtain ⟨b2, cap2, rfl, hb2, _⟩ := Strs.own' ow2 (by omega)
  have hbx' := HBX.out.ext x2
  have f0 := hbx'.frozen 0
  have k0 : w2.cell? ⟨g, 0, none⟩ = some (.slice (some ⟨b, 0, none⟩) F.v.length cap) := hbx'.cell 0
  have HX := Lib.hid x2
  have HB' := Lib.hid hbx'
  have OW := Lib.hid ow2
  clear hbx' x2 own2 ow2 cv hs
  go_wp2_with fail
  go_ret2
  refine ⟨rfl, ⟨HOK.out, hB, b2, cap2, ?_, ?_⟩, ?_⟩
  · rw [took_cells]
    have e := HB'.out.set 0 (.slice (some ⟨b2, 0, none⟩) F.v.length cap2)
    show Box _ g 83 (fileC ⟨some ⟨b2, 0, none⟩, (takenV F.v i).length, cap2⟩ F)
    rw [takenV_len]
    exact e
  · show World.ownsRow _ B 9 1 (.slice (some ⟨b2, 0, none⟩) (takenV F.v i).length cap2) (takenV F.v i).length (strL (takenV F.v i))
    rw [takenV_len]
    exact own_setBox OW.out HB'.out (by decide) _
  · exact Below.setCell (Below.mono HX.out hBw) (p := ⟨g, 0, none⟩) hB _
set_option maxHeartbeats 1000000 in
set_option maxRecDepth 100000 in
theorem ftake_no (B g : Nat) (F : FileT) (w : World) (h : FileIn B w g F) (hBw : B ≤ w.heap.size) (ht : takeI F.v F.I = none) :
    Calls Tryz.prog 138 #[.pointer (some ⟨g, 0, none⟩)] w fun e w' => e = .returned (.tuple #[.int .i64 0, .int .i64 10]) ∧ FileIn B w' g F ∧ Below B w w' := by
  have HF := Lib.hid h
  obtain ⟨hok, hB, b, cap, hbx, own⟩ := h
  have HP := Lib.hid (fun w h => take_full (some ⟨b, 0, none⟩) F.v.length cap F.v F.I w h hok.good (takeI_none ht))
  have hs := Strs.own own
  have cv : w.cell? ⟨g, 0, none⟩ = some (.slice (some ⟨b, 0, none⟩) F.v.length cap) := hbx.cell 0
  clear hok hbx own ht
  go_enter Tryz.func138, Tryz.ntmps138
  go_wp2_with (first
    | (go_at_call 144; refine (HP.out _ hs).mono ?_; rintro e w2 ⟨rfl, x2⟩))
  go_ret2
  exact ⟨rfl, HF.out.ext x2, Below.mono x2 hBw⟩
end Go.Proofs.YtnoofjddikhopaaGreat
/- An inode as it stands on a volume: name, place. -/
namespace Go.Proofs.YtnoofjddikhopaaGreat
set_option linter.unusedVariables false
set_option linter.unusedSimpArgs false
open Go.RowKit
theorem fsize_two : ∀ k : Fin 12, 4 ≤ fplace k → fsize k = 2 := by decide
theorem fsize_four : ∀ k : Fin 12, fplace k = 3 → fsize k = 4 := by decide
theorem fits_setj {x : List Int} (h : fitsB x = true) (hx : x.length = 12) {j : Nat} (hj : 3 ≤ j) (hj2 : j < 12) {i : Int} (h0 : 0 ≤ i) (h1 : i < 65536) : fitsB (x.set j i) = true := by
  unfold fitsB at *
  rw [List.all_eq_true] at *
  intro k hk
  have hk2 := of_decide_eq_true (h k hk)
  refine decide_eq_true ?_
  by_cases e : fplace k = j
  · have hg : (x.set j i).getD (fplace k) 0 = i := by rw [e]; simp [List.getD, hx, hj2]
    rw [hg]
    by_cases e3 : j = 3
    · rw [fsize_four k (by omega)]
      exact ⟨h0, by simp; omega⟩
    · rw [fsize_two k (by omega)]
      exact ⟨h0, by simpa using h1⟩
  · have : (x.set j i).getD (fplace k) 0 = x.getD (fplace k) 0 := by simp [List.getD, Ne.symm e]
    rw [this]; exact hk2
def FileT.setX (F : FileT) (j : Nat) (b : Int) : FileT := { F with x := F.x.set j b }
theorem FileOk.setX {F : FileT} (h : FileOk F) {j : Nat} (hj : 3 ≤ j) (hj2 : j < 12) {b : Int} (h0 : 0 ≤ b) (h1 : b < 65536) : FileOk (F.setX j b) :=
  ⟨h.good, h.n1, h.n2, by show (F.x.set j b).length = 12; rw [List.length_set]; exact h.len, fits_setj h.fits h.len hj hj2 h0 h1⟩
theorem setX_cells (F : FileT) (s : Sl) (hx : F.x.length = 12) {j : Nat} (hj : j < 12) (b : Int) : fileC s (F.setX j b) = (fileC s F).setIfInBounds (8 + j) (.int .i64 b) := by
  obtain ⟨y0, y1, y2, y3, y4, y5, y6, y7, y8, y9, y10, y11, he⟩ := list12 hx
  unfold fileC fileL FileT.setX
  simp only [he]
  rcases (by omega : j = 0 ∨ j = 1 ∨ j = 2 ∨ j = 3 ∨ j = 4 ∨ j = 5 ∨ j = 6 ∨ j = 7 ∨ j = 8 ∨ j = 9 ∨ j = 10 ∨ j = 11) with rfl | rfl | rfl | rfl | rfl | rfl | rfl | rfl | rfl | rfl | rfl | rfl <;> rfl
/-- a number stored among an inode's -/
theorem FileIn.setX {B : Nat} {w : World} {g : Nat} {F : FileT} (h : FileIn B w g F) {j : Nat} (hj : 3 ≤ j) (hj2 : j < 12) {b : Int} (h0 : 0 ≤ b) (h1 : b < 65536) : FileIn B (w.setCell ⟨g, 8 + j, none⟩ (.int .i64 b)) g (F.setX j b) := by
  obtain ⟨hok, hB, b1, cap, hbx, own⟩ := h
  refine ⟨hok.setX hj hj2 h0 h1, hB, b1, cap, ?_, own_setBox own hbx (by decide) _⟩
  have e := hbx.set (8 + j) (.int .i64 b)
  rw [← setX_cells F _ hok.len hj2 b] at e
  exact e
def two2L (b : Int) : List UInt8 := [b8 (b % 256), b8 (b / 256)]
/-- a number made the one of k -/
def FileT.named (F : FileT) (k : Nat) (b : Int) : FileT :=
  if k < 6 then (F.setX (4 + k) b).keep else if isB F.v F.I (F.x.getD 10 0) then F.lay (F.x.getD 10 0).toNat (2 * (k - 6)) (two2L b) else F
theorem FileIn.cell {B : Nat} {w : World} {g : Nat} {F : FileT} (h : FileIn B w g F) : ∃ s, Box w g 83 (fileC s F) := by
  obtain ⟨_, _, b, cap, hbx, _⟩ := h
  exact ⟨_, hbx⟩
set_option maxHeartbeats 4000000 in
set_option maxRecDepth 100000 in
theorem fname_any (B g k : Nat) (b : Int) (F : FileT) (w : World) (h : FileIn B w g F) (hBw : B ≤ w.heap.size) (hk : k < 70) (h0 : 0 ≤ b) (h1 : b < 65536) :
    Calls Tryz.prog 139 #[.pointer (some ⟨g, 0, none⟩), .int .i64 (k : Int), .int .i64 b] w fun e w' => e = .returned (.int .i64 0) ∧ FileIn B w' g (F.named k b) ∧ Below B w w' := by
  have HF := Lib.hid h
  have hok := h.1
  have hgB := h.2.1
  have hpl := plan_bd hok.good.plan
  obtain ⟨s, hbx⟩ := h.cell
  clear h
  by_cases h6 : k < 6
  · have hn : F.named k b = (F.setX (4 + k) b).keep := by unfold FileT.named; rw [if_pos h6]
    rw [hn]
    have hF2 := HF.out.setX (j := 4 + k) (by omega) (by omega) h0 h1
    rw [show 8 + (4 + k) = 12 + k by omega] at hF2
    have HK := Lib.hid (fun w h hB => fkeep_any B g (F.setX (4 + k) b) w h hB)
    have cd := fdirect hbx h6
    have fd := hbx.frozen (12 + k)
    have hki : (k : Int) < 6 := by omega
    have hkd : decide ((k : Int) < 6) = true := decide_eq_true hki
    have hs1 : (w.setCell ⟨g, 12 + k, none⟩ (.int .i64 b)).heap.size = w.heap.size := by simp [World.setCell]
    have HF2 := Lib.hid hF2
    clear hn hF2 hbx hok hpl
    generalize F.x.getD (4 + k) 0 = old at *
    go_enter Tryz.func139, Tryz.ntmps139
    go_upto_region 3 with fail
    generalize hw1 : w.setCell ⟨g, 12 + k, none⟩ (.int .i64 b) = w1 at *
    have HW := Lib.hid (show Below B w w1 by rw [← hw1]; exact Below.setCell (Below.refl B w) (p := ⟨g, 12 + k, none⟩) hgB _)
    clear hw1
    go_wp2_with (go_at_call 118; refine (HK.out _ HF2.out (by omega)).mono ?_; rintro e w2 ⟨rfl, hF3, x2⟩)
    go_ret
    exact ⟨rfl, hF3, HW.out.trans x2⟩
  · have hkd : decide ((k : Int) < 6) = false := decide_eq_false (by omega)
    have ci : w.cell? ⟨g, 18, none⟩ = some (.int .i64 (F.x.getD 10 0)) := hbx.cell 18
    have HIS := Lib.hid (fun bb w h => fis_any g s F bb w h)
    cases hi : isB F.v F.I (F.x.getD 10 0) with
    | false =>
      have hn : F.named k b = F := by unfold FileT.named; rw [if_neg h6, if_neg (by rw [hi]; simp)]
      rw [hn]
      have HB := Lib.hid hi
      clear hi hn hok hpl
      generalize F.x.getD 10 0 = ind at *
      go_enter Tryz.func139, Tryz.ntmps139
      go_wp2_with (go_at_call 137; refine (HIS.out ind _ hbx).mono ?_; rintro e w2 ⟨rfl, rfl⟩; rw [HB.out])
      go_ret
      exact ⟨rfl, HF.out, Below.refl _ _⟩
    | true =>
      have hn : F.named k b = F.lay (F.x.getD 10 0).toNat (2 * (k - 6)) (two2L b) := by unfold FileT.named; rw [if_neg h6, if_pos hi]
      rw [hn]
      have hib := isB_le hi
      have HB := Lib.hid hi
      clear hi hn
      generalize F.x.getD 10 0 = ind at *
      obtain ⟨q, rfl⟩ : ∃ q : Nat, ind = (q : Int) := ⟨ind.toNat, by omega⟩
      rw [Int.toNat_natCast]
      obtain ⟨z, hz⟩ : ∃ z, k - 6 = z := ⟨_, rfl⟩
      have hkz : (k : Int) = (z : Int) + 6 := by omega
      rw [hz, hkz]
      rw [hkz] at hkd
      have HL := Lib.hid (fun w h => show Calls Tryz.prog 117 #[.pointer (some ⟨g, 0, none⟩), .int .i64 (q : Int), .int .i64 (2 * (z : Int)), .string (str [b8 (b % 256), b8 (b / 256)])] w fun e w' => e = .returned (.tuple #[]) ∧ FileIn B w' g (F.lay q (2 * z) (two2L b)) ∧ Below B w w' from by
        have := flay_any B g F q (2 * z) (two2L b) w h (by omega) (by omega) (by show 2 * z + 2 ≤ 128; omega)
        rw [show ((2 * z : Nat) : Int) = 2 * (z : Int) by omega] at this
        exact this)
      have HP := Lib.hid (fun w => put2 b w h0 (by omega))
      have w1 : IntKind.i64.wrap ((z : Int) + 6 - 6) = (z : Int) := by rw [IntKind.wrap_i64]; omega
      have w2 : IntKind.i64.wrap (2 * (z : Int)) = ((2 * z : Nat) : Int) := by rw [IntKind.wrap_i64]; omega
      have wb : IntKind.u64.wrap b = b := by rw [IntKind.wrap_u64]; omega
      have ci' : ∀ y : Later w, y.now.cell? ⟨g, 18, none⟩ = some (.int .i64 (q : Int)) := fun y => y.ext.keep ci
      have hz64 : z < 64 := by omega
      clear hok hpl hib h6 hk hkz hz
      go_enter Tryz.func139, Tryz.ntmps139
      go_wp2_with (first
        | (go_at_call 137; refine (HIS.out (q : Int) _ hbx).mono ?_; rintro e w2 ⟨rfl, rfl⟩; rw [HB.out]))
      refine wp_region_later_tail 12 (by kernel_rfl) (by kernel_rfl) ?_
      simp only [List.take_succ_cons, List.take_zero, List.drop_succ_cons, List.drop_zero]
      repeat (go_big_quiet_step ((exact later_of (HP.out _))))
      refine wpQuiet_nil ?_
      rintro w7 ⟨y, rfl⟩
      clear ci'
      have HF7 := Lib.hid (HF.out.ext y.ext)
      have HX := Lib.hid y.ext
      generalize y.now = w7 at *
      go_wp2_with (first
        | (go_at_call 117; refine (HL.out _ HF7.out).mono ?_; rintro e w8 ⟨rfl, hF8, x8⟩))
      go_ret
      exact ⟨rfl, hF8, (Below.mono HX.out hBw).trans x8⟩
end Go.Proofs.YtnoofjddikhopaaGreat
/- An inode as it stands on a volume: place. -/
namespace Go.Proofs.YtnoofjddikhopaaGreat
set_option linter.unusedVariables false
set_option linter.unusedSimpArgs false
open Go.RowKit
/-- with a block of numbers, if the block k wants one; none: there is no room -/
def FileT.withInd (F : FileT) (k : Nat) : Option FileT :=
  if 6 ≤ k ∧ isB F.v F.I (F.x.getD 10 0) = false then (takeI F.v F.I).map fun i => ((F.took i).setX 10 (i : Int)).keep else some F
/-- the block k placed: the file, the block, the error -/
def FileT.placed (F : FileT) (k : Nat) : FileT × Int × Int :=
  if atP F.v F.I F.x k ≠ -1 then (F, atP F.v F.I F.x k, 0) else
    match F.withInd k with
    | none => (F, 0, 10)
    | some F1 => match takeI F1.v F1.I with
      | none => (F1, 0, 10)
      | some i => ((F1.took i).named k (i : Int), (i : Int), 0)
theorem placed_has {F : FileT} {k : Nat} (h : atP F.v F.I F.x k ≠ -1) : F.placed k = (F, atP F.v F.I F.x k, 0) := by unfold FileT.placed; rw [if_pos h]
theorem placed_full {F : FileT} {k : Nat} (h : atP F.v F.I F.x k = -1) (h1 : F.withInd k = none) : F.placed k = (F, 0, 10) := by
  unfold FileT.placed; rw [if_neg (fun h2 => h2 h), h1]
theorem placed_full2 {F F1 : FileT} {k : Nat} (h : atP F.v F.I F.x k = -1) (h1 : F.withInd k = some F1) (h2 : takeI F1.v F1.I = none) : F.placed k = (F1, 0, 10) := by
  unfold FileT.placed; rw [if_neg (fun h2 => h2 h), h1]; simp only [h2]
theorem placed_new {F F1 : FileT} {k i : Nat} (h : atP F.v F.I F.x k = -1) (h1 : F.withInd k = some F1) (h2 : takeI F1.v F1.I = some i) : F.placed k = ((F1.took i).named k (i : Int), (i : Int), 0) := by
  unfold FileT.placed; rw [if_neg (fun h2 => h2 h), h1]; simp only [h2]
theorem take_lt {v : List (List UInt8)} {I : Int} {i : Nat} (hg : Good v I) (h : takeI v I = some i) : i < 223 := by
  have := (takeI_some h).2.1
  have := plan_bd hg.plan
  omega
def PlaceR (B g : Nat) (R : FileT × Int × Int) (w : World) (e : Ending) (w' : World) : Prop := e = .returned (.tuple #[.int .i64 R.2.1, .int .i64 R.2.2]) ∧ FileIn B w' g R.1 ∧ Below B w w'
theorem FileIn.strs {B : Nat} {w : World} {g : Nat} {F : FileT} (h : FileIn B w g F) : ∃ s : Sl, Box w g 83 (fileC s F) ∧ Strs w s.A s.n F.v := by
  obtain ⟨_, _, b, cap, hbx, own⟩ := h
  exact ⟨_, hbx, Strs.own own⟩
set_option maxHeartbeats 4000000 in
set_option maxRecDepth 100000 in
theorem fplace_any (B g k : Nat) (F : FileT) (w : World) (h : FileIn B w g F) (hBw : B ≤ w.heap.size) (hk : k < 70) :
    Calls Tryz.prog 116 #[.pointer (some ⟨g, 0, none⟩), .int .i64 (k : Int)] w fun e w' => PlaceR B g (F.placed k) w e w' := by
  obtain ⟨s, hbx, hst⟩ := h.strs
  have hok := h.1
  have HAt := Lib.hid (fat_any g s F k w hbx hst hok hk)
  have HF := Lib.hid h
  have HIS := Lib.hid (fun bb w h => fis_any g s F bb w h)
  have HBX := Lib.hid hbx
  have HOK := Lib.hid hok
  clear h hst hbx hok
  go_enter Tryz.func116, Tryz.ntmps116
  go_upto_region 2 with (go_at_call 122; refine HAt.out.mono ?_; rintro e w1 ⟨rfl, x1⟩)
  have HF1 := Lib.hid (HF.out.ext x1)
  have hb1 := HBX.out.ext x1
  have HX1 := Lib.hid (show Below B w w1 from Below.mono x1 hBw)
  have hB1 : B ≤ w1.heap.size := by have := x1.size; omega
  clear HAt x1
  by_cases ha : atP F.v F.I F.x k = -1
  · have HA := Lib.hid ha
    rw [ha]
    clear ha
    -- cases
    have ci : w1.cell? ⟨g, 18, none⟩ = some (.int .i64 (F.x.getD 10 0)) := hb1.cell 18
    by_cases hk6 : k < 6
    · have HW := Lib.hid (show F.withInd k = some F by unfold FileT.withInd; rw [if_neg (fun h => by omega)])
      have d6 : decide ((6 : Int) ≤ (k : Int)) = false := decide_eq_false (by omega)
      have HF2 := HF1
      have HX2 := HX1
      have hB2 := hB1
      clear ci
      cases ht : takeI F.v F.I with
      | none =>
        have HPl := Lib.hid (placed_full2 HA.out HW.out ht)
        have HT := Lib.hid (ftake_no B g F w1 HF2.out hB2 ht)
        clear ht
        go_wp2_with (first
          | (go_at_call 138; refine HT.out.mono ?_; rintro e w3 ⟨rfl, hF3, x3⟩))
        go_ret2
        unfold PlaceR
        rw [HPl.out]
        exact ⟨rfl, hF3, HX2.out.trans x3⟩
      | some i =>
        have HPl := Lib.hid (placed_new HA.out HW.out ht)
        have hi223 := take_lt HF2.out.1.good ht
        have HT := Lib.hid (ftake_yes B g i F w1 HF2.out hB2 ht)
        have HNm := Lib.hid (fun w h hb => fname_any B g k (i : Int) (F.took i) w h hb hk (by omega) (by omega))
        clear ht
        go_wp2_with (first
          | (go_at_call 138; refine HT.out.mono ?_; rintro e w3 ⟨rfl, hF3, x3⟩; have HF3 := Lib.hid hF3; have hB3 : B ≤ w3.heap.size := Nat.le_trans hB2 x3.size; clear hF3)
          | (go_at_call 139; refine (HNm.out _ HF3.out hB3).mono ?_; rintro e w4 ⟨rfl, hF4, x4⟩))
        go_ret2
        unfold PlaceR
        rw [HPl.out]
        exact ⟨rfl, hF4, (HX2.out.trans x3).trans x4⟩
    · have d6 : decide ((6 : Int) ≤ (k : Int)) = true := decide_eq_true (by omega)
      cases hi : isB F.v F.I (F.x.getD 10 0) with
      | true =>
        have HW := Lib.hid (show F.withInd k = some F by unfold FileT.withInd; rw [if_neg (fun h => by rw [hi] at h; cases h.2)])
        have HB := Lib.hid hi
        have HF2 := HF1
        have HX2 := HX1
        have hB2 := hB1
        clear hi
        generalize F.x.getD 10 0 = ind at *
        cases ht : takeI F.v F.I with
        | none =>
          have HPl := Lib.hid (placed_full2 HA.out HW.out ht)
          have HT := Lib.hid (ftake_no B g F w1 HF2.out hB2 ht)
          clear ht
          go_wp2_with (first
            | (go_at_call 137; refine (HIS.out _ _ hb1).mono ?_; rintro e w2 ⟨rfl, rfl⟩; rw [HB.out])
            | (go_at_call 138; refine HT.out.mono ?_; rintro e w3 ⟨rfl, hF3, x3⟩))
          go_ret2
          unfold PlaceR
          rw [HPl.out]
          exact ⟨rfl, hF3, HX2.out.trans x3⟩
        | some i =>
          have HPl := Lib.hid (placed_new HA.out HW.out ht)
          have hi223 := take_lt HF2.out.1.good ht
          have HT := Lib.hid (ftake_yes B g i F w1 HF2.out hB2 ht)
          have HNm := Lib.hid (fun w h hb => fname_any B g k (i : Int) (F.took i) w h hb hk (by omega) (by omega))
          clear ht
          go_wp2_with (first
            | (go_at_call 137; refine (HIS.out _ _ hb1).mono ?_; rintro e w2 ⟨rfl, rfl⟩; rw [HB.out])
            | (go_at_call 138; refine HT.out.mono ?_; rintro e w3 ⟨rfl, hF3, x3⟩; have HF3 := Lib.hid hF3; have hB3 : B ≤ w3.heap.size := Nat.le_trans hB2 x3.size; clear hF3)
            | (go_at_call 139; refine (HNm.out _ HF3.out hB3).mono ?_; rintro e w4 ⟨rfl, hF4, x4⟩))
          go_ret2
          unfold PlaceR
          rw [HPl.out]
          exact ⟨rfl, hF4, (HX2.out.trans x3).trans x4⟩
      | false =>
        have HB := Lib.hid hi
        cases ht0 : takeI F.v F.I with
        | none =>
          have HPl := Lib.hid (placed_full HA.out (show F.withInd k = none by unfold FileT.withInd; rw [if_pos ⟨by omega, hi⟩, ht0]; rfl))
          have HT0 := Lib.hid (ftake_no B g F w1 HF1.out hB1 ht0)
          clear ht0 hi
          generalize F.x.getD 10 0 = ind at *
          go_wp2_with (first
            | (go_at_call 137; refine (HIS.out _ _ hb1).mono ?_; rintro e w2 ⟨rfl, rfl⟩; rw [HB.out])
            | (go_at_call 138; refine HT0.out.mono ?_; rintro e w3 ⟨rfl, hF3, x3⟩))
          go_ret2
          unfold PlaceR
          rw [HPl.out]
          exact ⟨rfl, hF3, HX1.out.trans x3⟩
        | some i0 =>
          have hi0 := take_lt HOK.out.good ht0
          have HW := Lib.hid (show F.withInd k = some ((F.took i0).setX 10 (i0 : Int)).keep by unfold FileT.withInd; rw [if_pos ⟨by omega, hi⟩, ht0]; rfl)
          have HT0 := Lib.hid (ftake_yes B g i0 F w1 HF1.out hB1 ht0)
          have HK0 := Lib.hid (fun w h hb => fkeep_any B g ((F.took i0).setX 10 (i0 : Int)) w h hb)
          clear ht0 hi
          generalize F.x.getD 10 0 = ind at *
          go_upto_region 8 with (first
            | (go_at_call 137; refine (HIS.out _ _ hb1).mono ?_; rintro e w2 ⟨rfl, rfl⟩; rw [HB.out])
            | (go_at_call 138; refine HT0.out.mono ?_; rintro e w3 ⟨rfl, hF3, x3⟩))
          obtain ⟨s3, hb3⟩ := hF3.cell
          have hB3 : B ≤ w3.heap.size := Nat.le_trans hB1 x3.size
          have f18 := hb3.frozen 18
          have c18 : w3.cell? ⟨g, 18, none⟩ = some (.int .i64 ((F.took i0).x.getD 10 0)) := hb3.cell 18
          have hF4 : FileIn B (w3.setCell ⟨g, 18, none⟩ (.int .i64 (i0 : Int))) g ((F.took i0).setX 10 (i0 : Int)) := hF3.setX (j := 10) (b := (i0 : Int)) (by omega) (by omega) (by omega) (by omega)
          have HF4 := Lib.hid hF4
          clear hF4
          have hgB := hF3.2.1
          have HX3 := Lib.hid (HX1.out.trans x3)
          clear hb3 hF3 x3 HT0 hb1 ci
          generalize (F.took i0).x.getD 10 0 = old at *
          go_upto_region 9 with fail
          have hs4 : (w3.setCell ⟨g, 18, none⟩ (.int .i64 (i0 : Int))).heap.size = w3.heap.size := by simp [World.setCell]
          have HX4 := Lib.hid (HX3.out.trans (Below.setCell (Below.refl B w3) (p := ⟨g, 18, none⟩) hgB (.int .i64 (i0 : Int))))
          generalize w3.setCell ⟨g, 18, none⟩ (.int .i64 (i0 : Int)) = w4 at *
          have hB4 : B ≤ w4.heap.size := by omega
          go_upto_region 12 with (go_at_call 118; refine (HK0.out _ HF4.out hB4).mono ?_; rintro e w5 ⟨rfl, hF5, x5⟩)
          have HF2 := Lib.hid hF5
          have HX2 := Lib.hid (HX4.out.trans x5)
          have hB2 : B ≤ w5.heap.size := Nat.le_trans hB4 x5.size
          clear hF5 x5 HF4 HX4 HX3 hB4 hs4 hB3 HK0
          generalize ((F.took i0).setX 10 (i0 : Int)).keep = F1 at *
          cases ht : takeI F1.v F1.I with
          | none =>
            have HPl := Lib.hid (placed_full2 HA.out HW.out ht)
            have HT := Lib.hid (ftake_no B g F1 w5 HF2.out hB2 ht)
            clear ht
            go_wp2_with (first
              | (go_at_call 138; refine HT.out.mono ?_; rintro e w3 ⟨rfl, hF3, x3⟩))
            go_ret2
            unfold PlaceR
            rw [HPl.out]
            exact ⟨rfl, hF3, HX2.out.trans x3⟩
          | some i =>
            have HPl := Lib.hid (placed_new HA.out HW.out ht)
            have hi223 := take_lt HF2.out.1.good ht
            have HT := Lib.hid (ftake_yes B g i F1 w5 HF2.out hB2 ht)
            have HNm := Lib.hid (fun w h hb => fname_any B g k (i : Int) (F1.took i) w h hb hk (by omega) (by omega))
            clear ht
            go_wp2_with (first
              | (go_at_call 138; refine HT.out.mono ?_; rintro e w3 ⟨rfl, hF3, x3⟩; have HF3 := Lib.hid hF3; have hB3 : B ≤ w3.heap.size := Nat.le_trans hB2 x3.size; clear hF3)
              | (go_at_call 139; refine (HNm.out _ HF3.out hB3).mono ?_; rintro e w4 ⟨rfl, hF4, x4⟩))
            go_ret2
            unfold PlaceR
            rw [HPl.out]
            exact ⟨rfl, hF4, (HX2.out.trans x3).trans x4⟩
  · have hp := placed_has ha
    have hd : (atP F.v F.I F.x k != -1) = true := by simpa using ha
    have HP := Lib.hid hp
    clear ha hp
    generalize atP F.v F.I F.x k = b at *
    go_wp2_with fail
    go_ret2
    unfold PlaceR
    rw [HP.out]
    exact ⟨rfl, HF1.out, HX1.out⟩
end Go.Proofs.YtnoofjddikhopaaGreat
/- extent.Write on a volume that is one. -/
namespace Go.Proofs.YtnoofjddikhopaaGreat
set_option linter.unusedVariables false
set_option linter.unusedSimpArgs false
open Go.RowKit
/-- bytes laid from a place on -/
def FileT.wr (off : Nat) (d : List UInt8) (p : Nat) (F : FileT) : FileT × Int :=
  if h : p < off + d.length then
    if (F.placed (p / 128)).2.2 ≠ 0 then ((F.placed (p / 128)).1, (F.placed (p / 128)).2.2)
    else FileT.wr off d (p + min (128 - p % 128) (off + d.length - p)) ((F.placed (p / 128)).1.lay (F.placed (p / 128)).2.1.toNat (p % 128) ((d.drop (p - off)).take (min (128 - p % 128) (off + d.length - p))))
  else (F, 0)
termination_by off + d.length - p
decreasing_by
  have := Nat.mod_lt p (show 128 > 0 by omega)
  omega
theorem wr_done {off : Nat} {d : List UInt8} {p : Nat} {F : FileT} (h : ¬ p < off + d.length) : F.wr off d p = (F, 0) := by
  rw [FileT.wr, dif_neg h]
theorem wr_full {off : Nat} {d : List UInt8} {p : Nat} {F : FileT} (h : p < off + d.length) (he : (F.placed (p / 128)).2.2 ≠ 0) : F.wr off d p = ((F.placed (p / 128)).1, (F.placed (p / 128)).2.2) := by
  rw [FileT.wr, dif_pos h, if_pos he]
theorem wr_on {off : Nat} {d : List UInt8} {p : Nat} {F : FileT} (h : p < off + d.length) (he : (F.placed (p / 128)).2.2 = 0) : F.wr off d p = FileT.wr off d (p + min (128 - p % 128) (off + d.length - p)) ((F.placed (p / 128)).1.lay (F.placed (p / 128)).2.1.toNat (p % 128) ((d.drop (p - off)).take (min (128 - p % 128) (off + d.length - p)))) := by
  rw [FileT.wr, dif_pos h, if_neg (fun h => h he)]
theorem isB_of {v : List (List UInt8)} {I : Int} {x : List Int} {k : Nat} (h : atP v I x k ≠ -1) : isB v I (atP v I x k) = true := by
  unfold atP at *
  split
  · rename_i h1; exact h1
  · rename_i h1; rw [if_neg h1] at h; exact absurd rfl h
theorem keep_v_len (F : FileT) : F.keep.v.length = F.v.length := putAt_len _ _ _
theorem lay_v_len (F : FileT) (q p : Nat) (d : List UInt8) : (F.lay q p d).v.length = F.v.length := List.length_set
theorem named_v_len (F : FileT) (k : Nat) (b : Int) : (F.named k b).v.length = F.v.length := by
  unfold FileT.named
  split
  · exact keep_v_len _
  · split
    · exact lay_v_len _ _ _ _
    · rfl
theorem took_v_len (F : FileT) (i : Nat) : (F.took i).v.length = F.v.length := takenV_len _ _
/-- a block that was placed -/
theorem placed_ok {F : FileT} {k : Nat} (hF : FileOk F) (h : (F.placed k).2.2 = 0) : ∃ q : Nat, (F.placed k).2.1 = (q : Int) ∧ 3 ≤ q ∧ q < (F.placed k).1.v.length := by
  have hpl := plan_bd hF.good.plan
  by_cases ha : atP F.v F.I F.x k = -1
  · cases hw : F.withInd k with
    | none => rw [placed_full ha hw] at h; cases h
    | some F1 =>
      cases ht : takeI F1.v F1.I with
      | none => rw [placed_full2 ha hw ht] at h; cases h
      | some i =>
        rw [placed_new ha hw ht]
        obtain ⟨t1, t2, _⟩ := takeI_some ht
        have hI : F1.I = F.I := by
          unfold FileT.withInd at hw
          split at hw
          · cases h0 : takeI F.v F.I with
            | none => rw [h0] at hw; cases hw
            | some j => rw [h0] at hw; injection hw with hw; rw [← hw]; rfl
          · injection hw with hw; rw [hw]
        refine ⟨i, rfl, ?_, ?_⟩
        · unfold dataOf at t1; rw [hI] at t1; omega
        · rw [named_v_len, took_v_len]; exact t2
  · rw [placed_has ha]
    obtain ⟨h1, h2⟩ := isB_le (isB_of ha)
    exact ⟨(atP F.v F.I F.x k).toNat, by simp only; omega, by omega, by simp only; omega⟩
def fileOf (v : List (List UInt8)) (I k : Int) : FileT := ⟨v, I, k, inoAt v k⟩
/-- a volume in which bytes were written, or the error -/
def writeP (v : List (List UInt8)) (I k : Int) (off : Nat) (d : List UInt8) : List (List UInt8) × Int :=
  if ((fileOf v I k).wr off d off).2 ≠ 0 then ([], ((fileOf v I k).wr off d off).2)
  else if d ≠ [] ∧ sizeP ((fileOf v I k).wr off d off).1.x < ((off + d.length : Nat) : Int) then ((((fileOf v I k).wr off d off).1.setX 3 ((off + d.length : Nat) : Int)).keep.v, 0)
  else (((fileOf v I k).wr off d off).1.v, 0)
def WriteR (B : Nat) (R : List (List UInt8) × Int) (e : Ending) (w' : World) : Prop :=
  (R.2 ≠ 0 ∧ e = .returned (.tuple #[.slice none 0 0, .int .i64 R.2])) ∨ (R.2 = 0 ∧ ∃ b cap, e = .returned (.tuple #[.slice (some ⟨b, 0, none⟩) R.1.length cap, .int .i64 0]) ∧ w'.ownsRow B 9 1 (.slice (some ⟨b, 0, none⟩) R.1.length cap) R.1.length (strL R.1))
theorem FileIn.of_opened {B : Nat} {w : World} {g : Nat} {v : List (List UInt8)} {I k : Int} {s : Sl} (hg : Good v I) (h1 : 1 ≤ k) (h2 : k ≤ I) (hB : B ≤ g) (hs : s.n = v.length) (hbx : Box w g 83 (fileC s (fileOf v I k))) (own : w.ownsRow B 9 1 (.slice s.A s.n s.c) v.length (strL v)) : FileIn B w g (fileOf v I k) := by
  have hpl := plan_bd hg.plan
  obtain ⟨b, cap, e, _⟩ := Strs.own' own (by omega)
  injection e with e1 e2 e3
  obtain ⟨A, n, c⟩ := s
  simp only at e1 e2 e3 hs
  subst e1 e2 e3
  exact ⟨⟨hg, h1, h2, inoAt_len v k, fits_ino _ _⟩, hB, b, _, hbx, own⟩
set_option maxHeartbeats 8000000 in
set_option maxRecDepth 100000 in
theorem fwrite_yes (A : Option Addr) (n c : Nat) (v : List (List UInt8)) (I k : Int) (off : Nat) (d : List UInt8) (w : World) (hv : Strs w A n v) (hg : Good v I) (hk1 : 1 ≤ k) (hk2 : k ≤ I) (hof : off ≤ 8960) (hd : d.length ≤ 8960 - off) :
    Calls Tryz.prog 82 #[.slice A n c, .int .i64 k, .int .i64 (off : Int), .string (str d)] w fun e w' => WriteR w.heap.size (writeP v I k off d) e w' ∧ Ext w w' := by
  have HO := Lib.hid (fun w h => opened_yes A n c v I k w h hg hk1 hk2)
  have HFO := Lib.hid (fun (B g : Nat) (w : World) (s : Sl) hB hs hbx own => FileIn.of_opened (B := B) (w := w) (g := g) (s := s) hg hk1 hk2 hB hs hbx own)
  have HV := Lib.hid hv
  have hz := str_size
  have d1 : decide ((off : Int) < 0) = false := by simp
  have d2 : decide ((8960 : Int) < (off : Int)) = false := by simp; omega
  have w8 : IntKind.i64.wrap (8960 - (off : Int)) = 8960 - (off : Int) := by rw [IntKind.wrap_i64]; omega
  have d3 : decide (8960 - (off : Int) < (d.length : Int)) = false := by simp; omega
  clear hv hg hk1 hk2
  generalize hG : w.heap.size = G at *
  go_enter Tryz.func82, Tryz.ntmps82
  go_upto_region 2 with (first
    | (go_at_call 49; refine (HO.out _ HV.out).mono ?_; rintro e w2 ⟨⟨s, rfl, hsn, own2⟩, x2⟩)
    | (refine wp_st_file (.tmp 10) (.tmp 23) rfl rfl w2.heap.size s (fileOf v I k) _ 83 rfl rfl (Box.new _ _ _) rfl ?_; intro w3 b3 g3))
  have xa : Ext w2 (w2.alloc (.cells fileZ 83)) := (Ext.refl w2).alloc _
  have x23 : Ext w2 w3 := xa.grown g3 (fun j e => by cases e; exact Nat.le_refl _)
  have own3 := (own_ext own2 xa).kept g3 (.inr (own_ne (own_ext own2 xa) (Box.new w2 83 fileZ) (by decide)).symm)
  rw [hG] at own3
  have hF0 := HFO.out G w2.heap.size w3 s (by rw [← hG]; exact x2.size) hsn b3 own3
  have HX := Lib.hid (x2.trans x23)
  have HWP := Lib.hid (show writeP v I k off d = (if ((fileOf v I k).wr off d off).2 ≠ 0 then ([], ((fileOf v I k).wr off d off).2)
    else if d ≠ [] ∧ sizeP ((fileOf v I k).wr off d off).1.x < ((off + d.length : Nat) : Int) then ((((fileOf v I k).wr off d off).1.setX 3 ((off + d.length : Nat) : Int)).keep.v, 0)
    else (((fileOf v I k).wr off d off).1.v, 0)) from rfl)
  clear HO HFO HV own2 hsn b3 own3 xa x23 x2 g3
  generalize w2.heap.size = g at *
  generalize fileOf v I k = F0 at *
  have HF0 := Lib.hid hF0
  clear hF0
  obtain ⟨R, hR⟩ : ∃ x, x = F0.wr off d off := ⟨_, rfl⟩
  rw [← hR] at HWP
  have HR0 := Lib.hid hR
  clear hR
  have we : IntKind.i64.wrap ((off : Int) + (d.length : Int)) = (off : Int) + (d.length : Int) := by rw [IntKind.wrap_i64]; omega
  go_upto_region 10 with fail
  clear d1 d2 w8 d3
  go_loopw [13] (fun t wx => ∃ (p : Nat) (F : FileT), t = .int .i64 p ∧ off ≤ p ∧ p ≤ off + d.length ∧ FileIn G wx g F ∧ Ext w wx ∧ F.wr off d p = R) (fun t _ => off + d.length - (intOf t).toNat)
  case atStart => exact ⟨off, F0, rfl, by omega, by omega, HF0.out, HX.out, HR0.out.symm⟩
  case round =>
    clear HX HF0 HR0
    obtain ⟨p, F, rfl, hp1, hp2, hF, xk, hwr⟩ := hrel
    have HF := Lib.hid hF
    have HXk := Lib.hid xk
    have HWR := Lib.hid hwr
    have hGr : G ≤ wr.heap.size := by rw [← hG]; exact xk.size
    clear hF xk hwr
    by_cases hlt : p < off + d.length
    · have hpi : (p : Int) < (off : Int) + (d.length : Int) := by omega
      have HPl := Lib.hid (show Calls Tryz.prog 116 #[.pointer (some ⟨g, 0, none⟩), .int .i64 ((p : Int) / 128)] wr fun e w' => PlaceR G g (F.placed (p / 128)) wr e w' from by
        have := fplace_any G g (p / 128) F wr HF.out hGr (by omega)
        rw [show ((p / 128 : Nat) : Int) = (p : Int) / 128 by omega] at this
        exact this)
      have HOk := Lib.hid (fun h => placed_ok (k := p / 128) HF.out.1 h)
      have HFull := Lib.hid (fun he => wr_full (F := F) hlt he)
      have HOn := Lib.hid (fun he => wr_on (F := F) hlt he)
      generalize F.placed (p / 128) = P at *
      obtain ⟨F1, bq, er⟩ := P
      by_cases he : er = 0
      · subst he
        obtain ⟨q, hq0, hq1, hq2⟩ := HOk.out rfl
        simp only at hq0 hq2
        subst hq0
        have HOn2 := Lib.hid (HOn.out rfl)
        clear HOn HFull HOk
        unfold PlaceR at HPl
        go_upto_region 16 with (first
          | (go_at_call 116; refine HPl.out.mono ?_; rintro e w4 ⟨rfl, hF4, x4⟩))
        obtain ⟨m, hm⟩ : ∃ m, p % 128 = m := ⟨_, rfl⟩
        have hm8 : m < 128 := by omega
        obtain ⟨pc, hpc⟩ : ∃ pc, min (128 - m) (off + d.length - p) = pc := ⟨_, rfl⟩
        obtain ⟨po, hpo⟩ : ∃ po, p - off = po := ⟨_, rfl⟩
        have e1 : (p : Int) % 128 = (m : Int) := by omega
        rw [e1]
        have e2 : min (128 - (m : Int)) ((off : Int) + (d.length : Int) - (p : Int)) = (pc : Int) := by omega
        rw [e2]
        have HON := Lib.hid (by have := HOn2.out; rw [hm, hpc, hpo] at this; exact this)
        have HLy := Lib.hid (fun w (h : FileIn G w g F1) => flay_any G g F1 q m ((d.drop po).take pc) w h hq1 hq2 (by rw [List.length_take, List.length_drop]; omega))
        have HF4 := Lib.hid hF4
        have HX4 := Lib.hid x4
        have hse := str_ext
        have t1 : (p : Int) - (off : Int) = (po : Int) := by omega
        have t2 : (po : Int) + (pc : Int) ≤ (d.length : Int) := by omega
        have t3 : ((po : Int) + (pc : Int)).toNat - po = pc := by omega
        have t4 : ((po : Int) + (pc : Int)).toNat = po + pc := by omega
        have t5 : (p : Int) + (pc : Int) ≤ 8960 := by omega
        clear e1 e2 HOn2 hF4 x4 HPl
        go_wp2_with (first
          | (go_at_call 117; refine (HLy.out _ HF4.out).mono ?_; rintro e w5 ⟨rfl, hF5, x5⟩))
        refine ⟨⟨p + pc, F1.lay q m ((d.drop po).take pc), by rw [Int.natCast_add], by omega, by omega, hF5, (HXk.out.under HX4.out (by omega)).under x5 (by omega), ?_⟩, ?_⟩
        · rw [← HWR.out, HON.out, Int.toNat_natCast]
        · simp [intOf]; omega
      · have hen : (er != 0) = true := by simpa using he
        have hW := HWP.out
        have hRe : R = (F1, er) := by rw [← HWR.out]; exact HFull.out he
        rw [hRe] at hW
        rw [if_pos he] at hW
        have HW := Lib.hid hW
        have HE := Lib.hid he
        clear he hW hRe
        unfold PlaceR at HPl
        go_wp2_with (first
          | (go_at_call 116; refine HPl.out.mono ?_; rintro e w4 ⟨rfl, hF4, x4⟩))
        go_ret2
        exact ⟨.inl ⟨by rw [HW.out]; exact HE.out, by rw [HW.out]; rfl⟩, HXk.out.under x4 (by omega)⟩
    · have hpe : p = off + d.length := by omega
      have hlt2 : ¬ (p : Int) < (off : Int) + (d.length : Int) := by omega
      have hRe : R = (F, 0) := by rw [← HWR.out]; exact wr_done hlt
      have hW := HWP.out
      rw [hRe, if_neg (fun h => h rfl)] at hW
      simp only at hW
      obtain ⟨hok, hB, b, cap, hbx, own⟩ := HF.out
      have HOK := Lib.hid hok
      have OWN := Lib.hid own
      have cv : wr.cell? ⟨g, 0, none⟩ = some (.slice (some ⟨b, 0, none⟩) F.v.length cap) := hbx.cell 0
      have HSz := Lib.hid (fsize_any g _ F wr hbx)
      have f11 := hbx.frozen 11
      have c11 : wr.cell? ⟨g, 11, none⟩ = some (.int .i64 (F.x.getD 3 0)) := hbx.cell 11
      have HBX := Lib.hid hbx
      clear hRe hpe hok own hbx hlt
      by_cases hde : d = []
      · rw [if_neg (fun h => h.1 hde)] at hW
        have HW := Lib.hid hW
        have h1 : (str d).toList = [] := by rw [str_toList]; exact hde
        clear hW hde HSz f11 c11
        go_wp2_with fail
        go_ret2
        exact ⟨.inr ⟨by rw [HW.out], b, cap, by rw [HW.out]; rfl, by rw [HW.out]; exact OWN.out⟩, HXk.out⟩
      · have h1 : ¬ (str d).toList = [] := by rw [str_toList]; exact hde
        have h2 : (str d).toList.isEmpty = false := by rw [str_toList]; simpa using hde
        by_cases hsz : sizeP F.x < (off : Int) + (d.length : Int)
        · rw [if_pos ⟨hde, by rw [Int.natCast_add]; exact hsz⟩] at hW
          have HW := Lib.hid hW
          have hF2 : FileIn G (wr.setCell ⟨g, 11, none⟩ (.int .i64 ((off + d.length : Nat) : Int))) g (F.setX 3 ((off + d.length : Nat) : Int)) := HF.out.setX (j := 3) (by omega) (by omega) (by omega) (by omega)
          have hs1 : (wr.setCell ⟨g, 11, none⟩ (.int .i64 ((off + d.length : Nat) : Int))).heap.size = wr.heap.size := by simp [World.setCell]
          have HX1 := Lib.hid (Below.setCell (Below.refl G wr) (p := ⟨g, 11, none⟩) hB (.int .i64 ((off + d.length : Nat) : Int)))
          have HK := Lib.hid (fun w h hB => fkeep_any G g (F.setX 3 ((off + d.length : Nat) : Int)) w h hB)
          rw [Int.natCast_add] at hF2 hs1 HX1
          have HF2 := Lib.hid hF2
          clear hW hde hF2
          generalize sizeP F.x = sz at *
          generalize F.x.getD 3 0 = old at *
          go_upto_region 20 with (first
            | (go_at_call 50; refine HSz.out.mono ?_; rintro e w5 ⟨rfl, rfl⟩))
          generalize wr.setCell ⟨g, 11, none⟩ (.int .i64 ((off : Int) + (d.length : Int))) = w6 at *
          go_upto_region 23 with (first
            | (go_at_call 118; refine (HK.out _ HF2.out (by omega)).mono ?_; rintro e w7 ⟨rfl, hF7, x7⟩))
          obtain ⟨hok7, hB7, b7, cap7, hbx7, own7⟩ := hF7
          have OW7 := Lib.hid own7
          have HX7 := Lib.hid x7
          have cv7 : w7.cell? ⟨g, 0, none⟩ = some (.slice (some ⟨b7, 0, none⟩) (F.setX 3 ((off + d.length : Nat) : Int)).keep.v.length cap7) := hbx7.cell 0
          clear hok7 hB7 hbx7 own7 x7 HF2 HK cv
          go_wp2_with fail
          go_ret2
          exact ⟨.inr ⟨by rw [HW.out], b7, cap7, by rw [HW.out]; rfl, by rw [HW.out]; exact OW7.out⟩, (HXk.out.under HX1.out (by omega)).under HX7.out (by omega)⟩
        · rw [if_neg (fun h => hsz (by have := h.2; rw [Int.natCast_add] at this; exact this))] at hW
          have HW := Lib.hid hW
          clear hW hde f11 c11
          generalize sizeP F.x = sz at *
          go_wp2_with (first
            | (go_at_call 50; refine HSz.out.mono ?_; rintro e w5 ⟨rfl, rfl⟩))
          go_ret2
          exact ⟨.inr ⟨by rw [HW.out], b, cap, by rw [HW.out]; rfl, by rw [HW.out]; exact OWN.out⟩, HXk.out⟩
end Go.Proofs.YtnoofjddikhopaaGreat
/- An inode as it stands on a volume: a block given back; a file cut: plain, and give. -/
namespace Go.Proofs.YtnoofjddikhopaaGreat
set_option linter.unusedVariables false
set_option linter.unusedSimpArgs false
open Go.RowKit
/-- can a block be given back? -/
def canGive (v : List (List UInt8)) (I b : Int) : Bool := isB v I b && bitB (v.getD 2 []) b.toNat
def FileT.gave (F : FileT) (b : Int) : FileT := if canGive F.v F.I b then { F with v := givenV F.v b.toNat } else F
theorem givenV_len (v : List (List UInt8)) (i : Nat) : (givenV v i).length = v.length := by simp [givenV]
theorem canGive_yes {v : List (List UInt8)} {I b : Int} (h : canGive v I b = true) : 3 + (I + 1) / 2 ≤ b ∧ b < (v.length : Int) ∧ bitB (v.getD 2 []) b.toNat = true := by
  unfold canGive at h
  rw [Bool.and_eq_true] at h
  obtain ⟨h1, h2⟩ := isB_le h.1
  exact ⟨h1, h2, h.2⟩
theorem FileOk.gave {F : FileT} (h : FileOk F) (b : Int) : FileOk (F.gave b) := by
  unfold FileT.gave
  split
  · rename_i c
    obtain ⟨h1, h2, _⟩ := canGive_yes c
    have hp := plan_bd h.good.plan
    exact ⟨h.good.flip (by unfold dataOf; omega) (by omega), h.n1, h.n2, h.len, h.fits⟩
  · exact h
/-- the block k goes -/
def FileT.drop1 (F : FileT) (k : Nat) : FileT := (if atP F.v F.I F.x k = -1 then F else F.gave (atP F.v F.I F.x k)).named k 0
def FileT.drops (F : FileT) (k : Nat) : FileT := (List.range' k (70 - k)).foldl FileT.drop1 F
theorem drops_done (F : FileT) : F.drops 70 = F := rfl
theorem drops_on (F : FileT) {k : Nat} (h : k < 70) : F.drops k = (F.drop1 k).drops (k + 1) := by
  unfold FileT.drops
  rw [show 70 - k = (70 - (k + 1)) + 1 by omega, List.range'_succ, List.foldl_cons]
def FileT.unInd (F : FileT) (size : Nat) : FileT := if size ≤ 768 then ((F.gave (F.x.getD 10 0)).setX 10 0).keep else F
def FileT.blank (F : FileT) (size : Nat) : FileT :=
  if size % 128 = 0 ∨ atP F.v F.I F.x (size / 128) = -1 then F else F.lay (atP F.v F.I F.x (size / 128)).toNat (size % 128) (zs (128 - size % 128))
def FileT.short (F : FileT) (size : Nat) : FileT := ((F.drops ((size + 127) / 128)).unInd size).blank size
def FileT.cut (F : FileT) (size : Nat) : FileT := if (size : Int) < sizeP F.x then (F.setX 3 (size : Int)).keep.short size else (F.setX 3 (size : Int)).keep
/-- a volume with a file of another size, or the error -/
def cutP (v : List (List UInt8)) (I k size : Int) : List (List UInt8) × Int :=
  if size < 0 then ([], 1) else if 8960 < size then ([], 6) else (((fileOf v I k).cut size.toNat).v, 0)
set_option maxHeartbeats 1000000 in
set_option maxRecDepth 100000 in
theorem give_out (A : Option Addr) (n c : Nat) (b : Int) (v : List (List UInt8)) (I : Int) (w : World) (hv : Strs w A n v) (hg : Good v I) (hb : isB v I b = false) :
    Calls Tryz.prog 84 #[.slice A n c, .int .i64 b] w fun e w' => e = .returned (.tuple #[.slice none 0 0, .int .i64 2]) ∧ Ext w w' := by
  have HO := Lib.hid (fun w h => of_yes A n c v I w h hg)
  have hb' : b < 3 + (I + 1) / 2 ∨ (¬ b < 3 + (I + 1) / 2 ∧ (v.length : Int) ≤ b) := by
    have : ¬ (3 + (I + 1) / 2 ≤ b ∧ b < (v.length : Int)) := by simpa [isB] using hb
    omega
  clear hb
  rcases hb' with hb1 | ⟨hb1, hb2⟩
  all_goals
    go_enter Tryz.func84, Tryz.ntmps84
    go_wp2_with fail
    refine (HO.out _ hv).mono ?_
    rintro e w1 ⟨rfl, x1⟩
    unfold geomV
    go_wp2_with fail
    go_ret2
    exact ⟨rfl, x1.alloc _⟩
set_option maxHeartbeats 1000000 in
set_option maxRecDepth 100000 in
theorem give_free (A : Option Addr) (n c i : Nat) (v : List (List UInt8)) (I : Int) (w : World) (hv : Strs w A n v) (hg : Good v I) (hi0 : 3 + (I + 1) / 2 ≤ (i : Int)) (hi : i < v.length) (hb : bitB (v.getD 2 []) i = false) :
    Calls Tryz.prog 84 #[.slice A n c, .int .i64 i] w fun e w' => e = .returned (.tuple #[.slice none 0 0, .int .i64 9]) ∧ Ext w w' := by
  have hpl := plan_bd hg.plan
  have HO := Lib.hid (fun w h => of_yes A n c v I w h hg)
  have hv' := hv
  obtain ⟨rfl, hv2⟩ := hv
  obtain ⟨b, o, rfl, hcell⟩ := hv2 (by omega)
  have l2 : (v.getD 2 []).length = 128 := by rw [List.getD_eq_getElem?_getD, List.getElem?_eq_getElem (by omega)]; exact hg.all 2 (by omega)
  have HB := Lib.hid (fun w (h : w.cell? ⟨b, o + 2, none⟩ = some (.string (str (v.getD 2 [])))) => bit_any b o v.length c i (v.getD 2 []) w (by omega) h l2 (by omega))
  have hbit := Lib.hid hb
  have hiv : (i : Int) < (v.length : Int) := by omega
  go_enter Tryz.func84, Tryz.ntmps84
  go_wp2_with fail
  refine (HO.out _ hv').mono ?_
  rintro e w1 ⟨rfl, x1⟩
  unfold geomV
  have x2 := x1.alloc (.cells #[.int .i64 v.length, .int .i64 I, .int .i64 1, .int .i64 2, .int .i64 3, .int .i64 (3 + (I + 1) / 2)] 81)
  have c2 : (w1.alloc (.cells #[.int .i64 v.length, .int .i64 I, .int .i64 1, .int .i64 2, .int .i64 3, .int .i64 (3 + (I + 1) / 2)] 81)).cell? ⟨b, o + 2, none⟩ = some (.string (str (v.getD 2 []))) := by
    have := x2.keep (hcell 2 (by omega))
    rw [List.getD_eq_getElem?_getD, List.getElem?_eq_getElem (by omega)]; exact this
  go_wp2_with fail
  refine (HB.out _ c2).mono ?_
  rintro e w3 ⟨rfl, rfl⟩
  rw [hbit.out]
  go_wp2_with fail
  go_ret2
  exact ⟨rfl, x2⟩
theorem give_no (A : Option Addr) (n c : Nat) (b : Int) (v : List (List UInt8)) (I : Int) (w : World) (hv : Strs w A n v) (hg : Good v I) (hb : canGive v I b = false) :
    ∃ z : Int, z ≠ 0 ∧ Calls Tryz.prog 84 #[.slice A n c, .int .i64 b] w fun e w' => e = .returned (.tuple #[.slice none 0 0, .int .i64 z]) ∧ Ext w w' := by
  cases hi : isB v I b with
  | false => exact ⟨2, by decide, give_out A n c b v I w hv hg hi⟩
  | true =>
    obtain ⟨h1, h2⟩ := isB_le hi
    have hp := plan_bd hg.plan
    obtain ⟨i, rfl⟩ : ∃ i : Nat, b = (i : Int) := ⟨b.toNat, by omega⟩
    refine ⟨9, by decide, give_free A n c i v I w hv hg h1 (by omega) ?_⟩
    unfold canGive at hb
    rw [hi, Bool.true_and] at hb
    exact hb
end Go.Proofs.YtnoofjddikhopaaGreat
/- Plain: what is written into a file; other inodes stay. -/
namespace Go.Proofs.YtnoofjddikhopaaGreat
set_option linter.unusedVariables false
set_option linter.unusedSimpArgs false
/-- the same volume but for what the file has -/
structure Frm (F G : FileT) : Prop where
  I : G.I = F.I
  n : G.n = F.n
  len : G.v.length = F.v.length
  ino : ∀ m, 1 ≤ m → m ≤ F.I → m ≠ F.n → inoAt G.v m = inoAt F.v m
theorem Frm.refl (F : FileT) : Frm F F := ⟨rfl, rfl, rfl, fun _ _ _ _ => rfl⟩
theorem Frm.trans {F G H : FileT} (h : Frm F G) (k : Frm G H) : Frm F H :=
  ⟨k.I.trans h.I, k.n.trans h.n, k.len.trans h.len, fun m h1 h2 h3 => (k.ino m h1 (by rw [h.I]; exact h2) (by rw [h.n]; exact h3)).trans (h.ino m h1 h2 h3)⟩
theorem Frm.setX (F : FileT) (j : Nat) (b : Int) : Frm F (F.setX j b) := ⟨rfl, rfl, rfl, fun _ _ _ _ => rfl⟩
theorem Frm.keep {F : FileT} (h : FileOk F) : Frm F F.keep := ⟨rfl, rfl, keep_v_len F, fun m h1 h2 h3 => inoAt_put_ne h.good h.n1 h.n2 h1 h3 F.x⟩
theorem Frm.lay (F : FileT) {q p : Nat} {d : List UInt8} (hq : 3 + (F.I + 1) / 2 ≤ (q : Int)) : Frm F (F.lay q p d) :=
  ⟨rfl, rfl, lay_v_len F q p d, fun m h1 h2 h3 => inoAt_set _ _ (by omega)⟩
theorem Frm.took (F : FileT) {i : Nat} (ht : takeI F.v F.I = some i) : Frm F (F.took i) := by
  have h := (takeI_some ht).1
  unfold dataOf at h
  refine ⟨rfl, rfl, took_v_len F i, fun m h1 h2 h3 => ?_⟩
  show inoAt (takenV F.v i) m = _
  unfold takenV
  rw [inoAt_set _ _ (by omega), inoAt_set _ _ (by omega)]
theorem two2L_len (b : Int) : (two2L b).length = 2 := rfl
theorem FileOk.named {F : FileT} (h : FileOk F) {k : Nat} (hk : k < 70) {b : Int} (h0 : 0 ≤ b) (h1 : b < 65536) : FileOk (F.named k b) ∧ Frm F (F.named k b) := by
  unfold FileT.named
  split
  · have h2 := h.setX (j := 4 + k) (by omega) (by omega) h0 h1
    exact ⟨h2.keep, (Frm.setX F _ _).trans (Frm.keep h2)⟩
  · split
    · rename_i hi
      obtain ⟨h2, h3⟩ := isB_le hi
      have hpl := plan_bd h.good.plan
      exact ⟨h.lay (by omega) (by omega) (by rw [two2L_len]; omega), Frm.lay F (by omega)⟩
    · exact ⟨h, Frm.refl F⟩
theorem FileOk.withInd {F F1 : FileT} (h : FileOk F) {k : Nat} (hw : F.withInd k = some F1) : FileOk F1 ∧ Frm F F1 := by
  unfold FileT.withInd at hw
  split at hw
  · cases ht : takeI F.v F.I with
    | none => rw [ht] at hw; cases hw
    | some i =>
      rw [ht] at hw
      injection hw with hw
      subst hw
      have hi := take_lt h.good ht
      have h2 := (h.took ht).setX (j := 10) (by omega) (by omega) (b := (i : Int)) (by omega) (by omega)
      exact ⟨h2.keep, ((Frm.took F ht).trans (Frm.setX _ _ _)).trans (Frm.keep h2)⟩
  · injection hw with hw
    subst hw
    exact ⟨h, Frm.refl F⟩
theorem FileOk.placed {F : FileT} (h : FileOk F) {k : Nat} (hk : k < 70) : FileOk (F.placed k).1 ∧ Frm F (F.placed k).1 ∧ ((F.placed k).2.2 = 0 → ∃ q : Nat, (F.placed k).2.1 = (q : Int) ∧ 3 + (F.I + 1) / 2 ≤ (q : Int) ∧ q < F.v.length) := by
  by_cases ha : atP F.v F.I F.x k = -1
  · cases hw : F.withInd k with
    | none => rw [placed_full ha hw]; exact ⟨h, Frm.refl F, fun h => absurd h (by simp)⟩
    | some F1 =>
      obtain ⟨h1, f1⟩ := h.withInd hw
      cases ht : takeI F1.v F1.I with
      | none => rw [placed_full2 ha hw ht]; exact ⟨h1, f1, fun h => absurd h (by simp)⟩
      | some i =>
        rw [placed_new ha hw ht]
        have hi := take_lt h1.good ht
        obtain ⟨t1, t2, _⟩ := takeI_some ht
        obtain ⟨h2, f2⟩ := (h1.took ht).named hk (b := (i : Int)) (by omega) (by omega)
        refine ⟨h2, (f1.trans (Frm.took F1 ht)).trans f2, fun _ => ⟨i, rfl, ?_, ?_⟩⟩
        · unfold dataOf at t1; rw [f1.I] at t1; exact t1
        · rw [← f1.len]; exact t2
  · rw [placed_has ha]
    obtain ⟨h1, h2⟩ := isB_le (isB_of ha)
    have hpl := plan_bd h.good.plan
    exact ⟨h, Frm.refl F, fun _ => ⟨(atP F.v F.I F.x k).toNat, by simp only; omega, by omega, by omega⟩⟩
theorem FileOk.wr {off : Nat} {d : List UInt8} (he : off + d.length ≤ 8960) (m : Nat) : ∀ (p : Nat) (F : FileT), off + d.length - p ≤ m → off ≤ p → FileOk F → FileOk (F.wr off d p).1 ∧ Frm F (F.wr off d p).1 := by
  induction m with
  | zero =>
    intro p F hm hp h
    rw [wr_done (by omega)]
    exact ⟨h, Frm.refl F⟩
  | succ m ih =>
    intro p F hm hp h
    by_cases hlt : p < off + d.length
    · obtain ⟨h1, f1, hq⟩ := h.placed (k := p / 128) (by omega)
      by_cases h0 : (F.placed (p / 128)).2.2 = 0
      · rw [wr_on hlt h0]
        obtain ⟨q, hq0, hq1, hq2⟩ := hq h0
        have hmod := Nat.mod_lt p (show 128 > 0 by omega)
        rw [hq0, Int.toNat_natCast]
        have hq3 : 3 ≤ q := by have hpl := plan_bd h.good.plan; omega
        clear hq
        have h2 := h1.lay (q := q) (p := p % 128) (d := (d.drop (p - off)).take (min (128 - p % 128) (off + d.length - p))) hq3 (by rw [f1.len]; exact hq2) (by rw [List.length_take, List.length_drop]; omega)
        have f2 := Frm.lay (F.placed (p / 128)).1 (q := q) (p := p % 128) (d := (d.drop (p - off)).take (min (128 - p % 128) (off + d.length - p))) (by rw [f1.I]; exact hq1)
        obtain ⟨h3, f3⟩ := ih (p + min (128 - p % 128) (off + d.length - p)) _ (by omega) (by omega) h2
        exact ⟨h3, (f1.trans f2).trans f3⟩
      · rw [wr_full hlt h0]
        exact ⟨h1, f1⟩
    · rw [wr_done hlt]
      exact ⟨h, Frm.refl F⟩
theorem FileOk.of {v : List (List UInt8)} {I k : Int} (hg : Good v I) (h1 : 1 ≤ k) (h2 : k ≤ I) : FileOk (fileOf v I k) := ⟨hg, h1, h2, inoAt_len v k, fits_ino _ _⟩
/-- a write leaves a volume, and all other inodes -/
theorem write_ok {v : List (List UInt8)} {I k : Int} (hg : Good v I) (h1 : 1 ≤ k) (h2 : k ≤ I) {off : Nat} {d : List UInt8} (he : off + d.length ≤ 8960) (h0 : (writeP v I k off d).2 = 0) :
    Good (writeP v I k off d).1 I ∧ (writeP v I k off d).1.length = v.length ∧ ∀ m, 1 ≤ m → m ≤ I → m ≠ k → inoAt (writeP v I k off d).1 m = inoAt v m := by
  have hF := FileOk.of hg h1 h2
  obtain ⟨h3, f3⟩ := FileOk.wr he (off + d.length - off) off (fileOf v I k) (Nat.le_refl _) (Nat.le_refl _) hF
  have e1 : (fileOf v I k).v = v := rfl
  have e2 : (fileOf v I k).I = I := rfl
  have e3 : (fileOf v I k).n = k := rfl
  unfold writeP at h0 ⊢
  generalize fileOf v I k = F at *
  generalize F.wr off d off = R at *
  subst e1 e2 e3
  by_cases c1 : R.2 ≠ 0
  · rw [if_pos c1] at h0; exact absurd h0 c1
  · rw [if_neg c1]
    split
    · have h4 := h3.setX (j := 3) (by omega) (by omega) (b := ((off + d.length : Nat) : Int)) (by omega) (by omega)
      have f4 := (f3.trans (Frm.setX R.1 3 _)).trans (Frm.keep h4)
      have g4 := h4.keep.good
      refine ⟨?_, f4.len, f4.ino⟩
      rw [f4.I] at g4
      exact g4
    · refine ⟨?_, f3.len, f3.ino⟩
      have g4 := h3.good
      rw [f3.I] at g4
      exact g4
end Go.Proofs.YtnoofjddikhopaaGreat
/- Plain: a file cut; other inodes stay. -/
namespace Go.Proofs.YtnoofjddikhopaaGreat
set_option linter.unusedVariables false
set_option linter.unusedSimpArgs false
theorem Frm.gave (F : FileT) (b : Int) : Frm F (F.gave b) := by
  unfold FileT.gave
  split
  · refine ⟨rfl, rfl, givenV_len _ _, fun m h1 h2 h3 => ?_⟩
    show inoAt (givenV F.v b.toNat) m = _
    unfold givenV
    exact inoAt_set _ _ (by omega)
  · exact Frm.refl F
/-- a file that may be, on a volume that is one, whose other inodes are those of another file's -/
def FrmOk (F G : FileT) : Prop := FileOk G ∧ Frm F G
theorem FrmOk.trans {F G H : FileT} (h : FrmOk F G) (k : FrmOk G H) : FrmOk F H := ⟨k.1, h.2.trans k.2⟩
theorem gave_fo {F : FileT} (h : FileOk F) (b : Int) : FrmOk F (F.gave b) := ⟨h.gave b, Frm.gave F b⟩
theorem drop1_fo {F : FileT} (h : FileOk F) {k : Nat} (hk : k < 70) : FrmOk F (F.drop1 k) := by
  unfold FileT.drop1
  split
  · exact h.named hk (by omega) (by omega)
  · exact (gave_fo h _).trans ((h.gave _).named hk (by omega) (by omega))
theorem drops_fo {F : FileT} (h : FileOk F) {k : Nat} (hk : k ≤ 70) : FrmOk F (F.drops k) := by
  obtain ⟨m, rfl⟩ : ∃ m, k = 70 - m := ⟨70 - k, by omega⟩
  clear hk
  induction m generalizing F with
  | zero => exact ⟨h, Frm.refl F⟩
  | succ m ih =>
    by_cases hm : 70 ≤ m
    · rw [show 70 - (m + 1) = 70 - m by omega]; exact ih h
    · rw [drops_on F (by omega)]
      have h1 := drop1_fo h (k := 70 - (m + 1)) (by omega)
      rw [show 70 - (m + 1) + 1 = 70 - m by omega]
      exact h1.trans (ih h1.1)
theorem setX_fo {F : FileT} (h : FileOk F) {j : Nat} (hj : 3 ≤ j) (hj2 : j < 12) {b : Int} (h0 : 0 ≤ b) (h1 : b < 65536) : FrmOk F (F.setX j b) := ⟨h.setX hj hj2 h0 h1, Frm.setX F j b⟩
theorem keep_fo {F : FileT} (h : FileOk F) : FrmOk F F.keep := ⟨h.keep, Frm.keep h⟩
theorem unInd_fo {F : FileT} (h : FileOk F) (size : Nat) : FrmOk F (F.unInd size) := by
  unfold FileT.unInd
  split
  · have h1 := gave_fo h (F.x.getD 10 0)
    have h2 := setX_fo h1.1 (j := 10) (by omega) (by omega) (b := 0) (by omega) (by omega)
    exact (h1.trans h2).trans (keep_fo h2.1)
  · exact ⟨h, Frm.refl F⟩
theorem blank_fo {F : FileT} (h : FileOk F) (size : Nat) : FrmOk F (F.blank size) := by
  unfold FileT.blank
  split
  · exact ⟨h, Frm.refl F⟩
  · rename_i c
    obtain ⟨h1, h2⟩ := isB_le (isB_of (fun e => c (.inr e)))
    have hpl := plan_bd h.good.plan
    exact ⟨h.lay (by omega) (by omega) (by rw [zs_len]; omega), Frm.lay F (by omega)⟩
theorem short_fo {F : FileT} (h : FileOk F) {size : Nat} (hs : size ≤ 8960) : FrmOk F (F.short size) := by
  unfold FileT.short
  have h1 := drops_fo h (k := (size + 127) / 128) (by omega)
  have h2 := unInd_fo h1.1 size
  exact (h1.trans h2).trans (blank_fo h2.1 size)
theorem cut_fo {F : FileT} (h : FileOk F) {size : Nat} (hs : size ≤ 8960) : FrmOk F (F.cut size) := by
  unfold FileT.cut
  have h1 := setX_fo h (j := 3) (by omega) (by omega) (b := (size : Int)) (by omega) (by omega)
  have h2 := h1.trans (keep_fo h1.1)
  split
  · exact h2.trans (short_fo h2.1 hs)
  · exact h2
/-- a cut leaves a volume, and all other inodes -/
theorem cutP_ok {v : List (List UInt8)} {I k size : Int} (hg : Good v I) (h1 : 1 ≤ k) (h2 : k ≤ I) (h0 : (cutP v I k size).2 = 0) :
    Good (cutP v I k size).1 I ∧ (cutP v I k size).1.length = v.length ∧ (∀ m, 1 ≤ m → m ≤ I → m ≠ k → inoAt (cutP v I k size).1 m = inoAt v m) ∧ 0 ≤ size ∧ size ≤ 8960 := by
  unfold cutP at *
  split at h0
  · simp at h0
  rename_i c1
  split at h0
  · simp at h0
  rename_i c2
  rw [if_neg c1, if_neg c2]
  have hF := FileOk.of hg h1 h2
  have h3 := cut_fo hF (size := size.toNat) (by omega)
  have g := h3.1.good
  rw [h3.2.I] at g
  exact ⟨g, h3.2.len, h3.2.ino, by omega, by omega⟩
/-- an inode let go -/
def goneP (v : List (List UInt8)) (I k : Int) : List (List UInt8) :=
  putAt (if canGive (cutP v I k 0).1 I ((inoAt (cutP v I k 0).1 k).getD 11 0) then givenV (cutP v I k 0).1 ((inoAt (cutP v I k 0).1 k).getD 11 0).toNat else (cutP v I k 0).1) k zero12
end Go.Proofs.YtnoofjddikhopaaGreat
