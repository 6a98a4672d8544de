/- Rows of a directory's entries in memory. -/
import Derived.Test.YtkokmnaicfdjaaaGreatDoorVd29
import Derived.Test.YtkokmnaicfdjaaaGreatDoorVd13
import Derived.Test.YtkokmnaicfdjaaaGreatDoorVd12
import Derived.Test.YtkokmnaicfdjaaaGreatDoorVd27
import Derived.Test.YtkokmnaicfdjaaaGreatDoorVd18
import Derived.Test.YtkokmnaicfdjaaaGreatDoorVd26
import Derived.Test.YtkokmnaicfdjaaaGreatDoorVd5
namespace Go.Proofs.YtkokmnaicfdjaaaGreatDoor
set_option linter.unusedVariables false
set_option linter.unusedSimpArgs false
open Go.RowKit

/-- entries as cells -/
def entL (l : List Ent) : List Value := l.flatMap fun x => [Value.string (str x.1), Value.int .i64 x.2]
theorem entL_len (l : List Ent) : (entL l).length = l.length * 2 := by
  induction l with
  | nil => rfl
  | cons x l ih =>
    have : entL (x :: l) = Value.string (str x.1) :: Value.int .i64 x.2 :: entL l := rfl
    rw [this]; simp only [List.length_cons, ih]; omega
theorem entL_at : ∀ (l : List Ent) (j : Nat) (h : j < l.length), (entL l)[j * 2]? = some (.string (str l[j].1)) ∧ (entL l)[j * 2 + 1]? = some (.int .i64 l[j].2)
  | x :: l, 0, _ => ⟨rfl, rfl⟩
  | x :: l, j + 1, h => by
    have e : entL (x :: l) = Value.string (str x.1) :: Value.int .i64 x.2 :: entL l := rfl
    have ih := entL_at l j (by simpa using h)
    rw [e, show (j + 1) * 2 = j * 2 + 1 + 1 by omega]
    simp only [List.getElem?_cons_succ]
    exact ih
theorem entL_append (a b : List Ent) : entL (a ++ b) = entL a ++ entL b := by simp [entL]
theorem entL_one (l : List Ent) : ∀ u ∈ entL l, u.oneCell' = true := by
  intro u hu
  simp only [entL, List.mem_flatMap, List.mem_cons, List.not_mem_nil, or_false] at hu
  obtain ⟨x, _, h | h⟩ := hu <;> (rw [h]; rfl)
/-- the slice with the address A and n places holds these entries -/
def Ents (w : World) (A : Option Addr) (n : Nat) (l : List Ent) : Prop :=
  n = l.length ∧ (0 < n → ∃ b o, A = some ⟨b, o, none⟩ ∧ ∀ (j : Nat) (h : j < l.length), w.cell? ⟨b, o + j * 2, none⟩ = some (.string (str l[j].1)) ∧ w.cell? ⟨b, o + j * 2 + 1, none⟩ = some (.int .i64 l[j].2))
theorem Ents.ext {w w' : World} {A : Option Addr} {n : Nat} {l : List Ent} (h : Ents w A n l) (k : Ext w w') : Ents w' A n l :=
  ⟨h.1, fun hn => by obtain ⟨b, o, e, hc⟩ := h.2 hn; exact ⟨b, o, e, fun j hj => ⟨k.keep (hc j hj).1, k.keep (hc j hj).2⟩⟩⟩
theorem entInfo : (Tryz.prog.info? 188).map (fun i => (i.zero, i.size, i.bytes)) = some (some (.agg #[.string ⟨#[]⟩, .int .i64 0]), 2, 24) := by kernel_rfl
/-- a row of entries of the call's own -/
def OwnE (w : World) (base : Nat) (u : Value) (l : List Ent) : Prop := w.ownsRow base 188 2 u l.length (entL l)
theorem OwnE.nil (w : World) (base : Nat) : OwnE w base (.slice none 0 0) [] := World.ownsRow_nil _ _ _ _
theorem OwnE.ext {w w' : World} {base : Nat} {u : Value} {l : List Ent} (h : OwnE w base u l) (k : Ext w w') : OwnE w' base u l := own_ext h k
theorem OwnE.base {w : World} {base base' : Nat} {u : Value} {l : List Ent} (h : OwnE w base u l) (k : base' ≤ base) : OwnE w base' u l := own_base h k
theorem OwnE.form {w : World} {base : Nat} {u : Value} {l : List Ent} (h : OwnE w base u l) : ∃ A cap, u = .slice A l.length cap ∧ Ents w A l.length l := by
  rcases h.2 with ⟨rfl, h0⟩ | ⟨g, cap, cur, rfl, hb, hh, hcap, _, hsz, htake⟩
  · exact ⟨none, 0, by rw [h0], rfl, fun hn => by omega⟩
  · refine ⟨_, cap, rfl, rfl, fun hn => ⟨g, 0, rfl, fun j hj => ?_⟩⟩
    have hc : ∀ i, i < 2 * l.length → w.cell? ⟨g, 0 + i, none⟩ = (entL l)[i]? := fun i hi => by
      rw [Nat.zero_add, cell_of_row w g i cur _ _ hh, ← htake, List.getElem?_take, if_pos (by omega)]; simp
    have := entL_at l j hj
    exact ⟨(hc _ (by omega)).trans this.1, (by rw [Nat.add_assoc]; exact (hc _ (by omega)).trans this.2)⟩
theorem OwnE.blk {w : World} {base : Nat} {A : Option Addr} {n cap : Nat} {l : List Ent} (h : OwnE w base (.slice A n cap) l) (hn : 0 < l.length) : ∃ g, A = some ⟨g, 0, none⟩ ∧ base ≤ g ∧ n = l.length := by
  rcases h.2 with ⟨_, h0⟩ | ⟨g, cap, cur, e, hb, _⟩
  · omega
  · injection e with e1 e2 e3
    exact ⟨g, e1, hb, e2⟩
section
variable {ops : Array Oper} {rest : List Oper} {o : Oper} {a : Act} {w : World} {Q : Exit → Act → World → Prop}
theorem entSize : (Tryz.prog.info? 188).map (·.size) = some 2 := by kernel_rfl
theorem wp_st_ent (x y : Operand) (hgd : o.guard = none) (ho : o.op = .store 188 x y) (g : Nat) (s : ByteArray) (i : Int) (old : Array Value) (t : TypeId) (hx : a.eval x = .pointer (some ⟨g, 0, none⟩)) (hy : a.eval y = .agg #[.string s, .int .i64 i])
    (hb : Box w g t old) (hold : old.size = 2) (hK : ∀ w', Box w' g t #[.string s, .int .i64 i] → w.grownBy w' (some g) → wpList Tryz.prog ops Q rest (a.put o.dst undef) w') : wpList Tryz.prog ops Q (o :: rest) a w :=
  wp_st _ x y hgd ho g _ _ t hx hy hb entSize hold (by simp [Value.oneCell']) hK
theorem wp_ld_ent (x : Operand) (hgd : o.guard = none) (ho : o.op = .load 188 x) (g : Nat) (cs : Array Value) (t : TypeId) (hx : a.eval x = .pointer (some ⟨g, 0, none⟩))
    (hb : Box w g t cs) (hl : cs.size = 2) (hK : wpList Tryz.prog ops Q rest (a.put o.dst (.agg cs)) w) : wpList Tryz.prog ops Q (o :: rest) a w :=
  wp_ld _ x hgd ho g _ t _ hx hb Tryz.underlying188 rfl (by rw [hl]; exact entSize) hK
end
theorem wp_app_ent {ops : Array Oper} {rest : List Oper} {o : Oper} {a : Act} {w : World} {Q : Exit → Act → World → Prop} {B g n : Nat} {u : Value} {l : List Ent} {y : Ent} (hgd : o.guard = none) (sl x : Operand)
    (ho : o.op = .call { callee := .builtin .append, args := #[sl, x], argTypes := #[182, 182] }) (hs : a.eval sl = u) (hx : a.eval x = .slice (some ⟨g, 0, none⟩) 1 1)
    (h0 : w.ownsRow B 188 2 u n (entL l)) (hb : Box w g 188 #[.string (str y.1), .int .i64 y.2]) (hn : n ≤ 1000000) (hB : B ≤ w.heap.size)
    (hK : ∀ u' w', w'.ownsRow B 188 2 u' (n + 1) (entL (l ++ [y])) → w.grownBy w' u.ownBlock → wpList Tryz.prog ops Q rest (a.put o.dst u') w') : wpList Tryz.prog ops Q (o :: rest) a w := by
  refine wpList_plain hgd fun K hK' => ?_
  obtain ⟨i, hi, hz, h1, h2⟩ := info_parts entInfo
  obtain ⟨v', w', hr, ho2, hg, _, _⟩ := run_append_own_at (P := Tryz.prog) w B 182 o.type 188 i _ 2 24 Tryz.underlying182 hi hz h1 h2 rfl (by decide) u n (entL l) h0 ⟨g, 0, none⟩ 1 1 [.string (str y.1), .int .i64 y.2] rfl (fun j u hj => by
    have ha : (⟨g, 0, none⟩ : Addr).add j = ⟨g, j, none⟩ := by unfold Addr.add; split <;> simp_all
    rw [ha, hb.cell j]; simpa using hj) (fun u hu => by rcases (by simpa using hu : u = .string (str y.1) ∨ u = .int .i64 y.2) with rfl | rfl <;> rfl) (by unfold maxLen; omega) (by omega) hB
  unfold Oper.wp execOp
  simp only [ho, resolve, invoke, builtin, Sem.run_bind, Sem.run_pure, Result.andThen_ok, List.map_toArray, List.map_cons, List.map_nil, hs, hx, hr]
  refine hK' _ _ (hK v' w' ?_ hg)
  rw [entL_append]
  exact ho2
theorem OwnE.snoc {w : World} {B n : Nat} {u : Value} {l : List Ent} {y : Ent} (h : w.ownsRow B 188 2 u (n + 1) (entL (l ++ [y]))) (hn : n = l.length) : OwnE w B u (l ++ [y]) := by
  subst hn; unfold OwnE; rw [List.length_append]; exact h
theorem ents_take {w : World} {A : Option Addr} {n : Nat} {l : List Ent} (h : Ents w A n l) (m : Nat) (hm : m ≤ n) : Ents w A m (l.take m) := by
  have h1 := h.1
  refine ⟨by rw [List.length_take]; omega, fun hn => ?_⟩
  obtain ⟨b, o, e, hc⟩ := h.2 (by omega)
  refine ⟨b, o, e, fun j hj => ?_⟩
  have hj' : j < l.length := by rw [List.length_take] at hj; omega
  rw [List.getElem_take]
  exact hc j hj'
end Go.Proofs.YtkokmnaicfdjaaaGreatDoor
/- The walk of dir.bytes. -/
namespace Go.Proofs.YtkokmnaicfdjaaaGreatDoor
set_option linter.unusedVariables false
set_option linter.unusedSimpArgs false
open Go.RowKit

theorem bytesE_take (l : List Ent) (k : Nat) (h : k < l.length) : bytesE (l.take (k + 1)) = bytesE (l.take k) ++ entP l[k] := by
  unfold bytesE; rw [List.take_succ_eq_append_getElem h, List.flatMap_append]; simp
set_option maxHeartbeats 1000000 in
set_option maxRecDepth 100000 in
theorem dbytes_any (A : Option Addr) (n c : Nat) (l : List Ent) (w : World) (hs : Ents w A n l) (hn : n ≤ 1000) (hl : ∀ x ∈ l, x.1.length ≤ 24 ∧ 0 ≤ x.2 ∧ x.2 < 65536) :
    Calls Tryz.prog 142 #[.slice A n c] w fun e w' => e = .returned (.string (str (bytesE l))) ∧ Ext w w' := by
  obtain rfl := hs.1
  have HS := Lib.hid hs
  have HL := Lib.hid hl
  clear hs hl
  have FB := bld_fresh w
  have x0 : Ext w (w.alloc (.cells #[.pointer none, .slice none 0 0] 148)) := (Ext.refl w).alloc _
  go_enter Tryz.func142, Tryz.ntmps142
  go_upto_region 2 with fail
  have hz0 : (w.alloc (.cells #[.pointer none, .slice none 0 0] 148)).heap.size = w.heap.size + 1 := World.size_alloc _ _
  generalize w.alloc (.cells #[.pointer none, .slice none 0 0] 148) = w0 at *
  generalize hE : w.heap.size = E at *
  go_wp2_with fail
  go_loopw [5, 8] (fun _ i wr => ∃ k : Nat, k ≤ l.length ∧ i = .int .i64 k ∧ Ext w wr ∧ BldS E E (bytesE (l.take k)) wr) (fun _ i _ => l.length - (intOf i).toNat)
  case atStart => exact ⟨0, by omega, rfl, x0, .inl ⟨FB, rfl⟩⟩
  case round =>
    obtain ⟨k, hk, rfl, hx, hb⟩ := hrel
    have hxs := hx.size
    by_cases hlt : k < l.length
    · obtain ⟨b, o, rfl, hcell⟩ := HS.out.2 (by omega)
      have hc1 := hx.keep (hcell k hlt).1
      have hc2 := hx.keep (hcell k hlt).2
      have HT := Lib.hid (bytesE_take l k hlt)
      have hb0 := HL.out _ (List.getElem_mem hlt)
      have hbl : (bytesE (l.take k)).length ≤ 32000 := by rw [bytesE_len (fun x hx => by have := (HL.out x (List.mem_of_mem_take hx)).1; omega), List.length_take]; omega
      clear hcell
      generalize l[k] = x at *
      have HEn := Lib.hid (fun w => dentry_any x w hb0.1 hb0.2.1 hb0.2.2)
      have hel : (entP x).length = 32 := entP_len (by omega)
      have HW := Lib.hid (fun w h h2 => writeString_keeps E E (bytesE (l.take k)) (entP x) w h h2 (by omega) (by omega))
      generalize entP x = ex at *
      generalize bytesE (l.take k) = pre at *
      go_wp2_with (first
        | (go_at_call 187; refine (HEn.out _).mono ?_; rintro e w2 ⟨rfl, x2⟩)
        | (go_at_call 105; refine (HW.out _ (((hb.ext ((Ext.refl wr).alloc _)).ext x2)) (by have := x2.size; have := hx.size; simp at *; omega)).mono ?_; rintro e w3 ⟨rfl, f3, q3, k3⟩))
      go_roundw
      case rel => exact ⟨k + 1, by omega, by go_num, hx.trans (((Ext.refl wr).alloc _).trans x2) |>.under q3 (by omega), by rw [HT.out]; exact .inr f3⟩
      case measure => simp [intOf]; omega
    · obtain rfl : k = l.length := by omega
      rw [List.take_length] at hb
      have HStr := Lib.hid (bldS_string E E _ wr hb (by omega))
      go_wp2_with (go_at_call 107; refine HStr.out.mono ?_; rintro e w3 ⟨rfl, q3, _⟩)
      go_ret
      exact ⟨rfl, hx.under q3 (by omega)⟩
end Go.Proofs.YtkokmnaicfdjaaaGreatDoor
/- inode.All on a volume that is one; inode.New where no inode is free. -/
namespace Go.Proofs.YtkokmnaicfdjaaaGreatDoor
set_option linter.unusedVariables false
set_option linter.unusedSimpArgs false
open Go.RowKit

/-- numbers as cells -/
def numsL (l : List Int) : List Value := l.map fun z => Value.int .i64 z
theorem intInfoN : (Tryz.prog.info? 3).map (fun i => (i.zero, i.size, i.bytes)) = some (some (.int .i64 0), 1, 8) := by kernel_rfl
theorem wp_app_int {ops : Array Oper} {rest : List Oper} {o : Oper} {a : Act} {w : World} {Q : Exit → Act → World → Prop} {B g n : Nat} {u : Value} {l : List Int} {y : Int} (hgd : o.guard = none) (sl x : Operand)
    (ho : o.op = .call { callee := .builtin .append, args := #[sl, x], argTypes := #[78, 78] }) (hs : a.eval sl = u) (hx : a.eval x = .slice (some ⟨g, 0, none⟩) 1 1)
    (h0 : w.ownsRow B 3 1 u n (numsL l)) (hb : Box w g 3 #[.int .i64 y]) (hn : n ≤ 1000000) (hB : B ≤ w.heap.size)
    (hK : ∀ u' w', w'.ownsRow B 3 1 u' (n + 1) (numsL (l ++ [y])) → w.grownBy w' u.ownBlock → wpList Tryz.prog ops Q rest (a.put o.dst u') w') : wpList Tryz.prog ops Q (o :: rest) a w := by
  refine wpList_plain hgd fun K hK' => ?_
  obtain ⟨i, hi, hz, h1, h2⟩ := info_parts intInfoN
  obtain ⟨v', w', hr, ho2, hg, _, _⟩ := run_append_own_at (P := Tryz.prog) w B 78 o.type 3 i _ 1 8 Tryz.underlying78 hi hz h1 h2 rfl (by decide) u n (numsL l) h0 ⟨g, 0, none⟩ 1 1 [.int .i64 y] rfl (fun j u hj => by
    have ha : (⟨g, 0, none⟩ : Addr).add j = ⟨g, j, none⟩ := by unfold Addr.add; split <;> simp_all
    rw [ha, hb.cell j]; simpa using hj) (fun u hu => by rcases (by simpa using hu : u = .int .i64 y) with rfl; rfl) (by unfold maxLen; omega) (by omega) hB
  unfold Oper.wp execOp
  simp only [ho, resolve, invoke, builtin, Sem.run_bind, Sem.run_pure, Result.andThen_ok, List.map_toArray, List.map_cons, List.map_nil, hs, hx, hr]
  refine hK' _ _ (hK v' w' ?_ hg)
  rw [show numsL (l ++ [y]) = numsL l ++ [.int .i64 y] by simp [numsL]]
  exact ho2
/-- the inodes that are, of the first m -/
def allTo (v : List (List UInt8)) : Nat → List Int
  | 0 => []
  | m + 1 => if (inoAt v ((m + 1 : Nat) : Int)).getD 0 0 ≠ 0 then allTo v m ++ [((m + 1 : Nat) : Int)] else allTo v m
theorem allTo_le (v : List (List UInt8)) : ∀ m, (allTo v m).length ≤ m ∧ ∀ n ∈ allTo v m, 1 ≤ n ∧ n ≤ (m : Int)
  | 0 => ⟨Nat.le_refl _, fun n h => absurd h List.not_mem_nil⟩
  | m + 1 => by
    obtain ⟨h1, h2⟩ := allTo_le v m
    unfold allTo
    split
    · refine ⟨by rw [List.length_append]; simp; omega, fun n hn => ?_⟩
      rcases List.mem_append.1 hn with h | h
      · have := h2 n h; omega
      · obtain rfl := List.mem_singleton.1 h; omega
    · exact ⟨by omega, fun n hn => by have := h2 n hn; omega⟩
theorem allTo_yes {v : List (List UInt8)} {m : Nat} (h : (inoAt v ((m + 1 : Nat) : Int)).getD 0 0 ≠ 0) : allTo v (m + 1) = allTo v m ++ [((m + 1 : Nat) : Int)] := by
  rw [allTo, if_pos h]
theorem allTo_no {v : List (List UInt8)} {m : Nat} (h : (inoAt v ((m + 1 : Nat) : Int)).getD 0 0 = 0) : allTo v (m + 1) = allTo v m := by
  rw [allTo, if_neg (by rw [h]; simp)]
set_option maxHeartbeats 1000000 in
set_option maxRecDepth 100000 in
theorem iall_any (A : Option Addr) (n c : Nat) (v : List (List UInt8)) (I : Int) (w : World) (hv : Strs w A n v) (hg : Good v I) :
    Calls Tryz.prog 214 #[.slice A n c] w fun e w' => ∃ u, e = .returned u ∧ Ext w w' ∧ w'.ownsRow w.heap.size 3 1 u (allTo v I.toNat).length (numsL (allTo v I.toNat)) := by
  have hpl := plan_bd hg.plan
  obtain ⟨b, oo, rfl, _⟩ := hv.2 (by have := hv.1; omega)
  obtain ⟨N, rfl⟩ : ∃ N : Nat, I = (N : Int) := ⟨I.toNat, by omega⟩
  rw [Int.toNat_natCast]
  have HO := Lib.hid (fun w h => of_yes (some ⟨b, oo, none⟩) n c v N w h hg)
  have HT := Lib.hid (fun (m : Nat) (h1 : 1 ≤ m) (h2 : (m : Int) ≤ N) w h => told_good b oo n c v N m w h hg (by omega) h2)
  have HX := Lib.hid (fun m : Nat => inoAt_len v m)
  have HY := Lib.hid (fun m => @allTo_yes v m)
  have HNo := Lib.hid (fun m => @allTo_no v m)
  have HLe := Lib.hid (fun m => (allTo_le v m).1)
  have HV := Lib.hid hv
  have hN : N ≤ 64 := by omega
  clear hv hg hpl
  go_enter Tryz.func214, Tryz.ntmps214
  go_wp2_with fail
  refine (HO.out _ HV.out).mono ?_
  rintro e w1 ⟨rfl, x1⟩
  rw [geomV_eq]
  go_wp2_with (refine wp_st_geom (.tmp 3) (.tmp 10) rfl rfl w1.heap.size _ [0, 0, 0, 0, 0, 0] 88 rfl rfl (Box.new _ _ _) rfl rfl ?_; intro w2 b2 g2; have x2 : Ext w w2 := (x1.alloc _).grown g2 (fun k e => by cases e; exact x1.size))
  have hgt : w.heap.size ≤ w1.heap.size := x1.size
  generalize hG : w1.heap.size = g at *
  go_loopw [5, 6] (fun u t wx => ∃ m : Nat, m ≤ N ∧ t = .int .i64 ((m + 1 : Nat) : Int) ∧ Ext w wx ∧ Box wx g 88 (intVals [v.length, N, 1, 2, 3, 3 + (N + 1) / 2]) ∧ wx.ownsRow w.heap.size 3 1 u (allTo v m).length (numsL (allTo v m))) (fun _ t _ => N + 1 - (intOf t).toNat)
  case atStart => exact ⟨0, by omega, rfl, x2, b2, World.ownsRow_nil _ _ _ _⟩
  case round =>
    obtain ⟨m, hm, rfl, xm, bm, own⟩ := hrel
    have c1 : wr.cell? ⟨g, 1, none⟩ = some (.int .i64 (N : Int)) := bm.cell 1
    by_cases hlt : m < N
    · have dm : ((m + 1 : Nat) : Int) ≤ (N : Int) := by omega
      have HTm := Lib.hid (HT.out (m + 1) (by omega) dm)
      obtain ⟨a0, a1, a2, a3, a4, a5, a6, a7, a8, a9, a10, a11, hx⟩ := flist12 (HX.out (m + 1))
      have hx0 : (inoAt v ((m + 1 : Nat) : Int)).getD 0 0 = a0 := by rw [hx]; rfl
      have HYm := Lib.hid (HY.out m)
      have HNm := Lib.hid (HNo.out m)
      rw [hx0] at HYm HNm
      rw [hx] at HTm
      rw [show intVals [a0, a1, a2, a3, a4, a5, a6, a7, a8, a9, a10, a11] = #[.int .i64 a0, .int .i64 a1, .int .i64 a2, .int .i64 a3, .int .i64 a4, .int .i64 a5, .int .i64 a6, .int .i64 a7, .int .i64 a8, .int .i64 a9, .int .i64 a10, .int .i64 a11] from rfl] at HTm
      have hfd := ino_kind a0 a1 a2 a3 a4 a5 a6 a7 a8 a9 a10 a11
      have hle := HLe.out m
      have hxs := xm.size
      clear hx hx0
      have OW := Lib.hid own
      clear own
      generalize hk : m + 1 = k at *
      by_cases hb : a0 = 0
      · have hbd : (a0 != 0) = false := by simpa using hb
        have HE := Lib.hid (HNm.out hb)
        clear hb
        go_wp2_with (first
          | (refine wp_ld_geom (.tmp 3) rfl rfl g _ 88 rfl bm rfl ?_)
          | (go_at_call 137; refine (HTm.out _ (HV.out.ext xm)).mono ?_; rintro e w3 ⟨rfl, x3⟩; clear HTm))
        go_roundw
        case rel => exact ⟨m + 1, by omega, by rw [hk]; go_num, xm.trans x3, bm.ext x3, by rw [hk, HE.out]; exact own_ext OW.out x3⟩
        case measure => simp [intOf]; omega
      · have hbd : (a0 != 0) = true := by simpa using hb
        have HE := Lib.hid (HYm.out hb)
        clear hb
        go_wp2_with (first
          | (refine wp_ld_geom (.tmp 3) rfl rfl g _ 88 rfl bm rfl ?_)
          | (go_at_call 137; refine (HTm.out _ (HV.out.ext xm)).mono ?_; rintro e w3 ⟨rfl, x3⟩; clear HTm)
          | (refine wp_app_int (y := (k : Int)) rfl (.tmp 26) (.tmp 28) rfl rfl rfl (own_ext OW.out (x3.alloc _)) (Box.new _ _ _) (by omega) (by simp; have := x3.size; omega) ?_; intro u5 w5 o5 g5; have hlo5 := Lib.hid (fun (j : Nat) e => own_low OW.out (k := j) e); have x5 : Ext w w5 := ((xm.trans x3).alloc _).grown g5 (fun j e => hlo5.out j e); have b5 := (bm.ext (x3.alloc (.cells #[.int .i64 (k : Int)] 3)))))
        go_roundw
        case rel => exact ⟨m + 1, by omega, by rw [hk]; go_num, x5, (b5.grown g5 (own_ne (own_ext OW.out (x3.alloc _)) b5 (by decide))), by rw [hk, HE.out, List.length_append]; exact o5⟩
        case measure => simp [intOf]; omega
    · obtain rfl : m = N := by omega
      have dm : ¬ ((m + 1 : Nat) : Int) ≤ (m : Int) := by omega
      have dm2 : decide (((m + 1 : Nat) : Int) ≤ (m : Int)) = false := decide_eq_false dm
      have OW := Lib.hid own
      clear own
      generalize ((m + 1 : Nat) : Int) = k at *
      go_wp2_with fail
      go_ret
      exact ⟨_, rfl, xm, OW.out⟩
end Go.Proofs.YtkokmnaicfdjaaaGreatDoor
/- inode.New on any volume that is one. -/
namespace Go.Proofs.YtkokmnaicfdjaaaGreatDoor
set_option linter.unusedVariables false
set_option linter.unusedSimpArgs false
open Go.RowKit

/-- the first inode that is free, less one -/
def freeI (v : List (List UInt8)) (I : Int) : Option Nat := (List.range I.toNat).find? fun i => (inoAt v ((i + 1 : Nat) : Int)).getD 0 0 == 0
/-- a volume with a new inode, its number, the error -/
def newP (v : List (List UInt8)) (I kd o : Int) : List (List UInt8) × Int × Int := match freeI v I with
  | some i => (putAt v ((i + 1 : Nat) : Int) [kd, 1, o, 0, 0, 0, 0, 0, 0, 0, 0, 0], ((i + 1 : Nat) : Int), 0)
  | none => ([], 0, 10)
theorem freeI_some {v : List (List UInt8)} {I : Int} {i : Nat} (h : freeI v I = some i) : (i : Int) < I ∧ (inoAt v ((i + 1 : Nat) : Int)).getD 0 0 = 0 ∧ ∀ j, j < i → (inoAt v ((j + 1 : Nat) : Int)).getD 0 0 ≠ 0 := by
  unfold freeI at h
  obtain ⟨h1, h2, h3⟩ := List.find?_range_eq_some.1 h
  rw [List.mem_range] at h2
  exact ⟨by omega, by simpa using h1, fun j hj => by simpa using h3 j hj⟩
theorem freeI_none {v : List (List UInt8)} {I : Int} (h : freeI v I = none) (j : Nat) (hj : (j : Int) < I) : (inoAt v ((j + 1 : Nat) : Int)).getD 0 0 ≠ 0 := by
  unfold freeI at h
  have := List.find?_range_eq_none.1 h j (by omega)
  simpa using this
set_option maxHeartbeats 1000000 in
set_option maxRecDepth 100000 in
theorem inew_no (A : Option Addr) (n c : Nat) (v : List (List UInt8)) (I kd o : Int) (w : World) (hv : Strs w A n v) (hg : Good v I) (hkd : kd = 1 ∨ kd = 2) (ho0 : 0 ≤ o) (ho1 : o ≤ 15)
    (hno : ∀ i : Nat, 1 ≤ i → (i : Int) ≤ I → (inoAt v i).getD 0 0 ≠ 0) :
    Calls Tryz.prog 95 #[.slice A n c, .int .i64 kd, .int .i64 o] w fun e w' => e = .returned (.tuple #[.slice none 0 0, .int .i64 0, .int .i64 10]) ∧ Ext w w' := by
  have hpl := plan_bd hg.plan
  obtain ⟨b, oo, rfl, _⟩ := hv.2 (by have := hv.1; omega)
  obtain ⟨N, rfl⟩ : ∃ N : Nat, I = (N : Int) := ⟨I.toNat, by omega⟩
  have HO := Lib.hid (fun w h => of_yes (some ⟨b, oo, none⟩) n c v N w h hg)
  have HT := Lib.hid (fun (m : Nat) (h1 : 1 ≤ m) (h2 : (m : Int) ≤ N) w h => told_good b oo n c v N m w h hg (by omega) h2)
  have HL := Lib.hid hno
  have HX := Lib.hid (fun m : Nat => inoAt_len v m)
  clear hno
  have d3 : decide (o < 0) = false := by simp; omega
  have d4 : decide (16 ≤ o) = false := by simp; omega
  rcases hkd with rfl | rfl
  all_goals
    go_enter Tryz.func95, Tryz.ntmps95
    go_wp2_with fail
    refine (HO.out _ hv).mono ?_
    rintro e w1 ⟨rfl, x1⟩
    rw [geomV_eq]
    go_wp2_with (refine wp_st_geom (.tmp 9) (.tmp 15) rfl rfl w1.heap.size _ [0, 0, 0, 0, 0, 0] 88 rfl rfl (Box.new _ _ _) rfl rfl ?_; intro w2 b2 g2; have x2 : Ext w w2 := (x1.alloc _).grown g2 (fun k e => by cases e; exact x1.size))
    go_loopw [11] (fun t wx => ∃ m : Nat, 1 ≤ m ∧ m ≤ N + 1 ∧ t = .int .i64 m ∧ Ext w wx ∧ Box wx w1.heap.size 88 (intVals [v.length, N, 1, 2, 3, 3 + (N + 1) / 2])) (fun t _ => N + 1 - (intOf t).toNat)
    case atStart => exact ⟨1, by omega, by omega, rfl, x2, b2⟩
    case round =>
      obtain ⟨m, hm1, hm, rfl, xm, bm⟩ := hrel
      have c1 : wr.cell? ⟨w1.heap.size, 1, none⟩ = some (.int .i64 (N : Int)) := bm.cell 1
      by_cases hlt : m ≤ N
      · have dm : (m : Int) ≤ (N : Int) := by omega
        have HTm := Lib.hid (HT.out m hm1 dm)
        obtain ⟨a0, a1, a2, a3, a4, a5, a6, a7, a8, a9, a10, a11, hx⟩ := flist12 (HX.out m)
        have hx0 : (inoAt v m).getD 0 0 = a0 := by rw [hx]; rfl
        rw [hx] at HTm
        rw [show intVals [a0, a1, a2, a3, a4, a5, a6, a7, a8, a9, a10, a11] = #[.int .i64 a0, .int .i64 a1, .int .i64 a2, .int .i64 a3, .int .i64 a4, .int .i64 a5, .int .i64 a6, .int .i64 a7, .int .i64 a8, .int .i64 a9, .int .i64 a10, .int .i64 a11] from rfl] at HTm
        have hfd := ino_kind a0 a1 a2 a3 a4 a5 a6 a7 a8 a9 a10 a11
        have hb : (a0 == 0) = false := by rw [← hx0]; simpa using HL.out m hm1 dm
        clear hx hx0
        go_wp2_with (first
          | (refine wp_ld_geom (.tmp 9) rfl rfl w1.heap.size _ 88 rfl bm rfl ?_)
          | (go_at_call 137; refine (HTm.out _ (hv.ext xm)).mono ?_; rintro e w3 ⟨rfl, x3⟩))
        go_roundw
        case rel => exact ⟨m + 1, by omega, by omega, by go_num, xm.trans x3, bm.ext x3⟩
        case measure => simp [intOf]; omega
      · have dm : ¬ (m : Int) ≤ (N : Int) := by omega
        go_wp2_with fail
        go_ret3
        exact ⟨rfl, xm⟩
theorem inew_any (A : Option Addr) (n c : Nat) (v : List (List UInt8)) (I kd o : Int) (w : World) (hv : Strs w A n v) (hg : Good v I) (hkd : kd = 1 ∨ kd = 2) (ho0 : 0 ≤ o) (ho1 : o ≤ 15) :
    Calls Tryz.prog 95 #[.slice A n c, .int .i64 kd, .int .i64 o] w fun e w' => ∃ u, e = .returned (.tuple #[u, .int .i64 (newP v I kd o).2.1, .int .i64 (newP v I kd o).2.2]) ∧ Ext w w' ∧ ((newP v I kd o).2.2 = 0 → w'.ownsRow w.heap.size 9 1 u n (strL (newP v I kd o).1)) ∧ ((newP v I kd o).2.2 ≠ 0 → u = .slice none 0 0) := by
  unfold newP
  cases h : freeI v I with
  | some i =>
    obtain ⟨h1, h2, h3⟩ := freeI_some h
    refine (inew_yes A n c (i + 1) v I kd o w hv hg hkd ho0 ho1 (by omega) (by omega) h2 (fun j hj1 hj2 => by
      obtain ⟨m, rfl⟩ : ∃ m, j = m + 1 := ⟨j - 1, by omega⟩
      exact h3 m (by omega))).mono ?_
    rintro e w' ⟨u, rfl, x, own⟩
    exact ⟨u, rfl, x, fun _ => own, fun h => absurd rfl h⟩
  | none =>
    refine (inew_no A n c v I kd o w hv hg hkd ho0 ho1 (fun j hj1 hj2 => by
      obtain ⟨m, rfl⟩ : ∃ m, j = m + 1 := ⟨j - 1, by omega⟩
      exact freeI_none h m (by omega))).mono ?_
    rintro e w' ⟨rfl, x⟩
    exact ⟨_, rfl, x, fun h => (by cases h), fun _ => rfl⟩
end Go.Proofs.YtkokmnaicfdjaaaGreatDoor
/- quota.limit, Limit, owned, Used on a volume that is one. -/
namespace Go.Proofs.YtkokmnaicfdjaaaGreatDoor
set_option linter.unusedVariables false
set_option linter.unusedSimpArgs false
open Go.RowKit

theorem qis_any (o : Int) (w : World) : Calls Tryz.prog 188 #[.int .i64 o] w fun e w' => e = .returned (.bool (decide (0 ≤ o) && decide (o < 16))) ∧ w = w' := by
  rcases Bool.eq_false_or_eq_true (decide (0 ≤ o)) with d1 | d1
  all_goals
    go_enter Tryz.func188, Tryz.ntmps188
    go_wp2_with fail
    go_ret
    exact ⟨by rw [d1]; rfl, rfl⟩
/-- an owner's limit -/
def limitP (v : List (List UInt8)) (o : Nat) : Int := fnum (v.getD 1 []) (2 * o) 2
set_option maxHeartbeats 1000000 in
set_option maxRecDepth 100000 in
theorem qlimit_any (A : Option Addr) (n c o : Nat) (v : List (List UInt8)) (I : Int) (w : World) (hv : Strs w A n v) (hg : Good v I) (ho : o < 16) :
    Calls Tryz.prog 189 #[.slice A n c, .agg (intVals [v.length, I, 1, 2, 3, 3 + (I + 1) / 2]), .int .i64 o] w fun e w' => e = .returned (.int .i64 (limitP v o)) ∧ Ext w w' := by
  have hpl := plan_bd hg.plan
  obtain ⟨rfl, hv2⟩ := hv
  obtain ⟨b, oo, rfl, hcell⟩ := hv2 (by omega)
  have hgl : (v.getD 1 []).length = 128 := getD_len hg (by omega)
  have cb : w.cell? ⟨b, oo + 1, none⟩ = some (.string (str (v.getD 1 []))) := cell_getD hcell (by omega)
  have cb2 := ((Ext.refl w).alloc (.cells (intVals [v.length, I, 1, 2, 3, 3 + (I + 1) / 2]) 88)).keep cb
  have cg : (w.alloc (.cells (intVals [v.length, I, 1, 2, 3, 3 + (I + 1) / 2]) 88)).cell? ⟨w.heap.size, 2, none⟩ = some (.int .i64 1) := (Box.new _ _ _).cell 2
  have HG := Lib.hid (fun w => get_ext (v.getD 1 []) (2 * o) (2 * o + 2) 2 w rfl (.inr (.inl rfl)) (by omega))
  have HL : Hid (limitP v o = fnum (v.getD 1 []) (2 * o) 2) := rfl
  have hfb := fnum_bd (v.getD 1 []) (2 * o) 2 (by omega)
  have hsz : (str (v.getD 1 [])).size = 128 := by rw [str_size, hgl]
  have h1 : (1 : Int) < (v.length : Int) := by omega
  clear hcell hv2 hg hgl cb
  generalize v.getD 1 [] = blk at *
  have w2 : IntKind.i64.wrap (2 * (o : Int)) = ((2 * o : Nat) : Int) := by rw [IntKind.wrap_i64]; omega
  have w3 : IntKind.i64.wrap (((2 * o : Nat) : Int) + 2) = ((2 * o + 2 : Nat) : Int) := by rw [IntKind.wrap_i64]; omega
  have w4 : IntKind.i64.wrap (fnum blk (2 * o) 2) = fnum blk (2 * o) 2 := by rw [IntKind.wrap_i64]; omega
  generalize fnum blk (2 * o) 2 = z at *
  go_enter Tryz.func189, Tryz.ntmps189
  go_wp2_with (go_at_call 87; refine (HG.out _).mono ?_; rintro e w5 ⟨rfl, rfl⟩)
  go_ret
  exact ⟨by rw [HL.out]; rfl, (Ext.refl w).alloc _⟩
set_option maxHeartbeats 1000000 in
set_option maxRecDepth 100000 in
theorem qLimit_any (A : Option Addr) (n c o : Nat) (v : List (List UInt8)) (I : Int) (w : World) (hv : Strs w A n v) (hg : Good v I) (ho : o < 16) :
    Calls Tryz.prog 144 #[.slice A n c, .int .i64 o] w fun e w' => e = .returned (.tuple #[.int .i64 (limitP v o), .int .i64 0]) ∧ Ext w w' := by
  have HO := Lib.hid (fun w h => of_yes A n c v I w h hg)
  have HL := Lib.hid (fun w h => qlimit_any A n c o v I w h hg ho)
  have HI := Lib.hid (fun w => qis_any (o : Int) w)
  have d1 : (decide ((0 : Int) ≤ (o : Int)) && decide ((o : Int) < 16)) = true := by simp; omega
  rw [d1] at HI
  have HV := Lib.hid hv
  clear hv hg d1 ho
  generalize limitP v o = z at *
  go_enter Tryz.func144, Tryz.ntmps144
  go_wp2_with fail
  refine (HO.out _ HV.out).mono ?_
  rintro e w1 ⟨rfl, x1⟩
  rw [geomV_eq]
  go_wp2_with (first
    | (refine wp_st_geom (.tmp 6) (.tmp 11) rfl rfl w1.heap.size _ [0, 0, 0, 0, 0, 0] 88 rfl rfl (Box.new _ _ _) rfl rfl ?_; intro w2 b2 g2; have x2 : Ext w w2 := (x1.alloc _).grown g2 (fun k e => by cases e; exact x1.size))
    | (go_at_call 188; refine (HI.out _).mono ?_; rintro e w3 ⟨rfl, rfl⟩)
    | (refine wp_ld_geom (.tmp 6) rfl rfl w1.heap.size _ 88 rfl b2 rfl ?_)
    | (go_at_call 189; refine (HL.out _ (HV.out.ext x2)).mono ?_; rintro e w4 ⟨rfl, x4⟩))
  go_ret2
  exact ⟨rfl, x2.trans x4⟩
end Go.Proofs.YtkokmnaicfdjaaaGreatDoor
/- quota.Used on a volume that is one. -/
namespace Go.Proofs.YtkokmnaicfdjaaaGreatDoor
set_option linter.unusedVariables false
set_option linter.unusedSimpArgs false
open Go.RowKit

theorem setCell_grownQ (w : World) (g i : Nat) (v : Value) : w.grownBy (w.setCell ⟨g, i, none⟩ v) (some g) :=
  ⟨rfl, rfl, rfl, by simp, fun k _ hne => Below.heap_setCell w ⟨g, i, none⟩ v k (fun e => hne (by rw [e]))⟩
set_option maxHeartbeats 2000000 in
set_option maxRecDepth 100000 in
theorem used1_any (b oo n c S B : Nat) (v : List (List UInt8)) (I k m z : Int) (w : World) (hv : Strs w (some ⟨b, oo, none⟩) n v) (hg : Good v I) (hk1 : 1 ≤ k) (hk2 : k ≤ I) (hz : countF (fileOf v I k) = z) (hm : 0 ≤ m) (hm2 : m ≤ 100000) (hz0 : 0 ≤ z) (hz2 : z ≤ 100000)
    (bS : Box w S 3 #[.int .i64 m]) (cV : w.cell? ⟨B, 0, none⟩ = some (.slice (some ⟨b, oo, none⟩) n c)) :
    Calls Tryz.prog 191 #[.int .i64 k, .pointer (some ⟨S, 0, none⟩), .pointer (some ⟨B, 0, none⟩)] w fun e w' => e = .returned (.bool true) ∧ ∃ w1, Ext w w1 ∧ w' = w1.setCell ⟨S, 0, none⟩ (.int .i64 (m + z)) := by
  have HC := Lib.hid (fun w h => fcount_yes (some ⟨b, oo, none⟩) n c v I k w h hg hk1 hk2)
  rw [hz] at HC
  have HV := Lib.hid hv
  have cS : w.cell? ⟨S, 0, none⟩ = some (.int .i64 m) := bS.cell 0
  clear hv hg hz
  go_enter Tryz.func191, Tryz.ntmps191
  go_upto_region 1 with fail
  refine wp_region_web' 5 [[], [], [], [1, 2], [0, 3]] (listV [isV (.int .i64 m), isV (.slice (some ⟨b, oo, none⟩) n c), isV (.int .i64 k), isV (.int .i64 z), isV (.int .i64 (m + z))]) (by kernel_rfl) (by kernel_rfl) (listV_ext (fun p hp => by simp only [List.mem_cons, List.not_mem_nil, or_false] at hp; rcases hp with rfl | rfl | rfl | rfl | rfl <;> first | exact lasts_is _)) (fun us => ?_)
  simp only [List.take_succ_cons, List.take_zero, List.drop_succ_cons, List.drop_zero]
  rw [webWalk]
  refine And.intro (fun w' hx hd => ?_) ?_
  · clear hd
    have c5 := hx.keep cS
    refine web_of_list 5 rfl (by simp) rfl ?_
    go_wp2_with fail
    exact ⟨Ext.refl _, rfl⟩
  simp only [Act.put, List.setIfInBounds_toArray, List.set_cons_zero, List.set_cons_succ]
  rw [webWalk]
  refine And.intro (fun w' hx hd => ?_) ?_
  · clear hd
    have c6 := hx.keep cV
    refine web_of_list 6 rfl (by simp [Act.put]) rfl ?_
    go_wp2_with fail
    exact ⟨Ext.refl _, rfl⟩
  simp only [Act.put, List.setIfInBounds_toArray, List.set_cons_zero, List.set_cons_succ]
  rw [webWalk]
  refine And.intro (fun w' hx hd => ?_) ?_
  · clear hd
    refine web_of_list 7 rfl (by simp [Act.put]) rfl ?_
    go_wp2_with fail
    exact ⟨Ext.refl _, rfl⟩
  simp only [Act.put, List.setIfInBounds_toArray, List.set_cons_zero, List.set_cons_succ]
  rw [webWalk]
  refine And.intro (fun w' hx hd => ?_) ?_
  · have h1 := hd 1 (by simp)
    have h2 := hd 2 (by simp)
    clear hd
    generalize us 1 = u1 at *
    generalize us 2 = u2 at *
    obtain rfl : u1 = .slice (some ⟨b, oo, none⟩) n c := h1
    obtain rfl : u2 = .int .i64 k := h2
    refine web_of_list 8 rfl (by simp [Act.put]) rfl ?_
    go_wp2_with (go_at_call 192; refine (HC.out _ (HV.out.ext hx)).mono ?_; rintro e w2 ⟨rfl, x2⟩)
    first
    | exact rfl
    | exact ⟨x2, rfl⟩
    | exact ⟨Ext.refl _, rfl⟩
  simp only [Act.put, List.setIfInBounds_toArray, List.set_cons_zero, List.set_cons_succ]
  rw [webWalk]
  refine And.intro (fun w' hx hd => ?_) ?_
  · have h0 := hd 0 (by simp)
    have h3 := hd 3 (by simp)
    clear hd
    generalize us 0 = u0 at *
    generalize us 3 = u3 at *
    obtain rfl : u0 = .int .i64 m := h0
    obtain rfl : u3 = .int .i64 z := h3
    refine web_of_list 9 rfl (by simp [Act.put]) rfl ?_
    go_wp2_with fail
    exact ⟨Ext.refl _, rfl⟩
  simp only [Act.put, List.setIfInBounds_toArray, List.set_cons_zero, List.set_cons_succ]
  rw [webWalk]
  intro w' hx hv
  have h4 := hv 4 (by omega)
  clear hv
  generalize us 0 = u0 at *
  generalize us 1 = u1 at *
  generalize us 2 = u2 at *
  generalize us 3 = u3 at *
  generalize us 4 = u4 at *
  obtain rfl : u4 = .int .i64 (m + z) := h4
  have bS' := bS.ext hx
  have kS := bS'.cell 0
  have fS := bS'.frozen 0
  have HX := Lib.hid hx
  clear hx bS bS'
  go_wp2_with fail
  go_ret
  exact ⟨rfl, _, HX.out, rfl⟩
/-- how many blocks an inode counts for an owner -/
def ownF (v : List (List UInt8)) (I o : Int) (n : Int) : Int := if (inoAt v n).getD 2 0 = o then countF (fileOf v I n) else 0
def usedS (v : List (List UInt8)) (I o : Int) (l : List Int) : Int := (l.map (ownF v I o)).sum
def usedP (v : List (List UInt8)) (I o : Int) : Int := usedS v I o (allTo v I.toNat)
theorem usedS_take (v : List (List UInt8)) (I o : Int) (l : List Int) (i : Nat) (h : i < l.length) : usedS v I o (l.take (i + 1)) = usedS v I o (l.take i) + ownF v I o l[i] := by
  unfold usedS; rw [List.take_succ_eq_append_getElem h, List.map_append, List.sum_append]; simp
theorem countF_bd (F : FileT) : 0 ≤ countF F ∧ countF F ≤ 72 := by
  have h := hereN_le (atP F.v F.I F.x) (List.range 70)
  rw [List.length_range] at h
  unfold countF
  split <;> split <;> omega
theorem ownF_bd (v : List (List UInt8)) (I o n : Int) : 0 ≤ ownF v I o n ∧ ownF v I o n ≤ 72 := by
  have h := countF_bd (fileOf v I n)
  unfold ownF
  split <;> omega
theorem usedS_bd (v : List (List UInt8)) (I o : Int) (l : List Int) : 0 ≤ usedS v I o l ∧ usedS v I o l ≤ 72 * l.length := by
  induction l with
  | nil => exact ⟨Int.le_refl _, Int.le_refl _⟩
  | cons n l ih =>
    have h := ownF_bd v I o n
    unfold usedS at *
    rw [List.map_cons, List.sum_cons, List.length_cons]; omega
theorem own_numAt {w : World} {B : Nat} {u : Value} {l : List Int} (h : w.ownsRow B 3 1 u l.length (numsL l)) (i : Nat) (hi : i < l.length) : ∃ g cap, u = .slice (some ⟨g, 0, none⟩) l.length cap ∧ w.cell? ⟨g, i, none⟩ = some (.int .i64 l[i]) := by
  rcases h.2 with ⟨_, h0⟩ | ⟨g, cap, cur, e, _⟩
  · omega
  · subst e
    exact ⟨g, cap, rfl, (h.cellAt i (by omega)).trans (by simp [numsL, hi])⟩
/-- numbers in memory, from B on -/
def RowI (B : Nat) (w : World) (A : Option Addr) (l : List Int) : Prop := ∀ (i : Nat) (h : i < l.length), ∃ g, A = some ⟨g, 0, none⟩ ∧ B ≤ g ∧ w.cell? ⟨g, i, none⟩ = some (.int .i64 l[i])
theorem RowI.ext {B : Nat} {w w' : World} {A : Option Addr} {l : List Int} (h : RowI B w A l) (x : Ext w w') : RowI B w' A l := fun i hi => by
  obtain ⟨g, e, hb, hc⟩ := h i hi
  exact ⟨g, e, hb, x.keep hc⟩
theorem RowI.set {B S : Nat} {w : World} {A : Option Addr} {l : List Int} (h : RowI B w A l) (hS : S < B) (u : Value) : RowI B (w.setCell ⟨S, 0, none⟩ u) A l := fun i hi => by
  obtain ⟨g, e, hb, hc⟩ := h i hi
  refine ⟨g, e, hb, ?_⟩
  rw [← hc]
  unfold World.cell?
  rw [Below.heap_setCell w ⟨S, 0, none⟩ u g (by show g ≠ S; omega)]
theorem own_nums {w : World} {B : Nat} {u : Value} {l : List Int} (h : w.ownsRow B 3 1 u l.length (numsL l)) : ∃ A cap, u = .slice A l.length cap ∧ RowI B w A l := by
  rcases h.2 with ⟨e, h0⟩ | ⟨g, cap, cur, e, hb, _⟩
  · exact ⟨none, 0, by rw [e, h0], fun i hi => by omega⟩
  · subst e
    exact ⟨_, cap, rfl, fun i hi => ⟨g, rfl, hb, (h.cellAt i (by omega)).trans (by simp [numsL, hi])⟩⟩
set_option maxHeartbeats 2000000 in
set_option maxRecDepth 100000 in
theorem owned1_any (b oo n c S B b1 b2 : Nat) (v : List (List UInt8)) (I o : Int) (w : World) (hg : Good v I) (HV : ∀ W, Below S w W → Strs W (some ⟨b, oo, none⟩) n v) (hS : S < w.heap.size)
    (bS : Box w S 3 #[.int .i64 0]) (bB : Box w B 23 #[.slice (some ⟨b, oo, none⟩) n c]) (bb1 : Box w b1 23 #[.slice (some ⟨b, oo, none⟩) n c]) (bb2 : Box w b2 3 #[.int .i64 o]) (ne2 : b2 ≠ S) :
    Calls Tryz.prog 213 #[.func (.func 191) #[] #[.pointer (some ⟨S, 0, none⟩), .pointer (some ⟨B, 0, none⟩)], .pointer (some ⟨b1, 0, none⟩), .pointer (some ⟨b2, 0, none⟩)] w fun e w' => e = .returned (.tuple #[]) ∧ Below S w w' ∧ Box w' S 3 #[.int .i64 (usedP v I o)] := by
  have hpl := plan_bd hg.plan
  have HA := Lib.hid (fun w h => iall_any (some ⟨b, oo, none⟩) n c v I w h hg)
  have hle := allTo_le v I.toNat
  have HI := Lib.hid (fun k w h h1 h2 => iget_yes (some ⟨b, oo, none⟩) n c v I k w h hg h1 h2)
  have HU := Lib.hid (fun k m w h h1 h2 hm hm2 bS cV => used1_any b oo n c S B v I k m (countF (fileOf v I k)) w h hg h1 h2 rfl hm hm2 (countF_bd _).1 (by have := (countF_bd (fileOf v I k)).2; omega) bS cV)
  have HP : Hid (usedP v I o = usedS v I o (allTo v I.toNat)) := rfl
  have HLen := Lib.hid (fun k => inoAt_len v k)
  have HV := Lib.hid HV
  clear hg
  generalize allTo v I.toNat = L at *
  generalize usedP v I o = R at *
  have hL1 := hle.1
  have HLb := Lib.hid hle.2
  have hN : L.length ≤ 64 := by omega
  clear hle hL1
  have c1 : w.cell? ⟨b1, 0, none⟩ = some (.slice (some ⟨b, oo, none⟩) n c) := bb1.cell 0
  have ne1 : b1 ≠ S := bb1.ne bS (by decide)
  have neB : B ≠ S := bB.ne bS (by decide)
  have hb1 := bb1.lt
  have hb2 := bb2.lt
  have hbB := bB.lt
  have x0 : Below S w w := Below.refl _ _
  go_enter Tryz.func213, Tryz.ntmps213
  go_wp2_with (go_at_call 214; refine (HA.out _ (HV.out _ x0)).mono ?_; rintro e w1 ⟨u, rfl, x1, own1⟩; obtain ⟨A1, cap1, rfl, row1⟩ := own_nums own1; clear own1 HA)
  have y1 : Below S w w1 := Below.mono x1 (by omega)
  have cS1 := bS.ext x1
  have cB1 := bB.ext x1
  have c11 := bb1.ext x1
  have c21 := bb2.ext x1
  go_loopw [5, 6, 7, 11] (fun _ _ _ t wx => ∃ i : Nat, i ≤ L.length ∧ t = .int .i64 i ∧ Below S w wx ∧ w.heap.size ≤ wx.heap.size ∧ Box wx S 3 #[.int .i64 (usedS v I o (L.take i))] ∧ Box wx B 23 #[.slice (some ⟨b, oo, none⟩) n c] ∧ Box wx b1 23 #[.slice (some ⟨b, oo, none⟩) n c] ∧ Box wx b2 3 #[.int .i64 o] ∧ RowI w.heap.size wx A1 L) (fun _ _ _ t _ => L.length - (intOf t).toNat)
  case atStart => exact ⟨0, by omega, rfl, y1, x1.size, by rw [List.take_zero]; exact cS1, cB1, c11, c21, row1⟩
  case round =>
    clear row1 bS bB bb1 bb2 cS1 cB1 c11 c21 y1 x1 c1 x0
    obtain ⟨i, hi, rfl, xi, hsz, kS, kB, k1, k2, hrow⟩ := hrel
    by_cases hlt : i < L.length
    · have hil : (i : Int) < (L.length : Int) := by omega
      obtain ⟨g, rfl, hge, hcell⟩ := hrow i hlt
      have HT := Lib.hid (usedS_take v I o L i hlt)
      have hbd := usedS_bd v I o (L.take i)
      rw [List.length_take] at hbd
      obtain ⟨hn1, hn2⟩ := HLb.out L[i] (List.getElem_mem hlt)
      have hof : Hid (ownF v I o L[i] = if (inoAt v L[i]).getD 2 0 = o then countF (fileOf v I L[i]) else 0) := rfl
      have hlen := HLen.out L[i]
      have HIi := Lib.hid (fun w h => HI.out L[i] w h hn1 (by omega))
      have HUi := Lib.hid (fun m w h hm hm2 bS cV => HU.out L[i] m w h hn1 (by omega) hm hm2 bS cV)
      generalize L[i] = k at *
      generalize countF (fileOf v I k) = z at *
      generalize usedS v I o (L.take i) = m at *
      have hm2 : m ≤ 100000 := by omega
      have hc1 : wr.cell? ⟨b1, 0, none⟩ = some (.slice (some ⟨b, oo, none⟩) n c) := k1.cell 0
      have hx2 : (intVals (inoAt v k))[2]? = some (.int .i64 ((inoAt v k).getD 2 0)) := rfl
      generalize inoAt v k = x at *
      generalize x.getD 2 0 = ow at *
      by_cases how : ow = o
      · subst how
        rw [if_pos rfl] at hof
        rw [hof.out] at HT
        go_wp2_with (first
          | (go_at_call 97; refine (HIi.out _ (HV.out _ xi)).mono ?_; rintro e w3 ⟨rfl, x3⟩)
          | (refine wp_st_ino (.tmp 6) (.tmp 19) rfl rfl w3.heap.size _ zero12 134 rfl rfl (Box.new _ _ _) hlen rfl ?_; intro w4 b4 g4; have d2 := (b4.cell 2).trans hx2; have x4 : Ext wr w4 := (x3.alloc (.cells (intVals zero12) 134)).grown g4 (fun k e => by cases e; exact x3.size); have d1 : w4.cell? ⟨b2, 0, none⟩ = some (.int .i64 ow) := (k2.ext x4).cell 0)
          | (go_at_call 191; refine (HUi.out m _ (HV.out _ (xi.trans (Below.mono x4 (by omega)))) hbd.1 hm2 (kS.ext x4) ((kB.ext x4).cell 0)).mono ?_; rintro e w5 ⟨rfl, w6, x6, rfl⟩))
        have x46 := x4.trans x6
        go_roundw
        case rel => exact ⟨i + 1, by omega, by go_num, (xi.trans (Below.mono x46 (by omega))).setCell (p := ⟨S, 0, none⟩) (Nat.le_refl _) _, by have := x46.size; simp; omega, by rw [HT.out]; exact (kS.ext x46).set 0 _, (kB.ext x46).far (p := ⟨S, 0, none⟩) neB _, (k1.ext x46).far (p := ⟨S, 0, none⟩) ne1 _, (k2.ext x46).far (p := ⟨S, 0, none⟩) ne2 _, (hrow.ext x46).set (by omega) _⟩
        case measure => simp [intOf]; omega
      · rw [if_neg how] at hof
        rw [hof.out] at HT
        go_wp2_with (first
          | (go_at_call 97; refine (HIi.out _ (HV.out _ xi)).mono ?_; rintro e w3 ⟨rfl, x3⟩)
          | (refine wp_st_ino (.tmp 6) (.tmp 19) rfl rfl w3.heap.size _ zero12 134 rfl rfl (Box.new _ _ _) hlen rfl ?_; intro w4 b4 g4; have d2 := (b4.cell 2).trans hx2; have x4 : Ext wr w4 := (x3.alloc (.cells (intVals zero12) 134)).grown g4 (fun k e => by cases e; exact x3.size); have d1 : w4.cell? ⟨b2, 0, none⟩ = some (.int .i64 o) := (k2.ext x4).cell 0))
        go_roundw
        case rel => exact ⟨i + 1, by omega, by go_num, xi.trans (Below.mono x4 (by omega)), by have := x4.size; omega, by rw [HT.out, Int.add_zero]; exact kS.ext x4, kB.ext x4, k1.ext x4, k2.ext x4, hrow.ext x4⟩
        case measure => simp [intOf]; omega
    · obtain rfl : i = L.length := by omega
      have hil : ¬ (L.length : Int) < (L.length : Int) := by omega
      rw [List.take_length] at kS
      go_wp2_with fail
      refine bodyPost_end (results_none rfl _ _ _) rfl ?_
      exact ⟨rfl, xi, by rw [HP.out]; exact kS⟩
set_option maxHeartbeats 1000000 in
set_option maxRecDepth 100000 in
theorem qowned_any (A : Option Addr) (n c : Nat) (o : Int) (w : World) :
    Calls Tryz.prog 190 #[.slice A n c, .int .i64 o] w fun e w' => e = .returned (.func (.func 213) #[] #[.pointer (some ⟨w.heap.size, 0, none⟩), .pointer (some ⟨w.heap.size + 1, 0, none⟩)]) ∧ w' = (w.alloc (.cells #[.slice A n c] 23)).alloc (.cells #[.int .i64 o] 3) := by
  have hmf : ∀ (fn : Fn) (first cap : Array Value) (w : World), (Instr.makeFunc fn first cap).run Tryz.prog w = .ok (.func fn first cap) w := fun _ _ _ _ => rfl
  go_enter Tryz.func190, Tryz.ntmps190
  go_wp2_with fail
  go_ret
  exact ⟨rfl, rfl⟩
theorem strs_lt {w : World} {b o n : Nat} {v : List (List UInt8)} (h : Strs w (some ⟨b, o, none⟩) n v) (hn : 0 < n) : b < w.heap.size := by
  obtain ⟨b', o', e, hc⟩ := h.2 hn
  cases e
  have := hc 0 (by have := h.1; omega)
  unfold World.cell? at this
  cases hh : w.heap[b]? with
  | none => simp only [hh] at this; cases this
  | some o => exact (Array.getElem?_eq_some_iff.1 hh).1
set_option maxHeartbeats 1000000 in
set_option maxRecDepth 100000 in
theorem qused_any (A : Option Addr) (n c : Nat) (v : List (List UInt8)) (I o : Int) (w : World) (hv : Strs w A n v) (hg : Good v I) :
    Calls Tryz.prog 145 #[.slice A n c, .int .i64 o] w fun e w' => e = .returned (.int .i64 (usedP v I o)) ∧ Ext w w' := by
  have hpl := plan_bd hg.plan
  obtain ⟨b, oo, rfl, _⟩ := hv.2 (by have := hv.1; omega)
  have HO := Lib.hid (fun w => qowned_any (some ⟨b, oo, none⟩) n c o w)
  have H1 := Lib.hid (fun S B b1 b2 w a1 a2 a3 a4 a5 a6 a7 => owned1_any b oo n c S B b1 b2 v I o w hg a1 a2 a3 a4 a5 a6 a7)
  have HV := Lib.hid hv
  have hmf : ∀ (fn : Fn) (first cap : Array Value) (w : World), (Instr.makeFunc fn first cap).run Tryz.prog w = .ok (.func fn first cap) w := fun _ _ _ _ => rfl
  clear hv hg
  generalize usedP v I o = R at *
  have b0 := Box.new w 23 #[.slice (some ⟨b, oo, none⟩) n c]
  have x0 : Ext w (w.alloc (.cells #[.slice (some ⟨b, oo, none⟩) n c] 23)) := (Ext.refl w).alloc _
  have z0 : (w.alloc (.cells #[.slice (some ⟨b, oo, none⟩) n c] 23)).heap.size = w.heap.size + 1 := World.size_alloc _ _
  go_enter Tryz.func145, Tryz.ntmps145
  go_upto_region 1 with fail
  generalize w.alloc (.cells #[.slice (some ⟨b, oo, none⟩) n c] 23) = w1 at *
  have c1 := Box.new w1 3 #[.int .i64 0]
  have x1 : Ext w1 (w1.alloc (.cells #[.int .i64 0] 3)) := (Ext.refl w1).alloc _
  have z1 : (w1.alloc (.cells #[.int .i64 0] 3)).heap.size = w1.heap.size + 1 := World.size_alloc _ _
  have b01 := b0.ext x1
  go_upto_region 2 with fail
  rw [z0] at c1
  have x01 := x0.trans x1
  clear b0 x0 x1
  generalize w1.alloc (.cells #[.int .i64 0] 3) = w2 at *
  have cv2 : w2.cell? ⟨w.heap.size, 0, none⟩ = some (.slice (some ⟨b, oo, none⟩) n c) := b01.cell 0
  have e1 : w1.heap.size = w.heap.size + 1 := z0
  have e2 : w2.heap.size = w.heap.size + 2 := by omega
  obtain ⟨w4, hw4⟩ : ∃ w4, w4 = (w2.alloc (.cells #[.slice (some ⟨b, oo, none⟩) n c] 23)).alloc (.cells #[.int .i64 o] 3) := ⟨_, rfl⟩
  have x4 : Ext w2 w4 := by rw [hw4]; exact ((Ext.refl w2).alloc _).alloc _
  have z4 : w4.heap.size = w2.heap.size + 2 := by rw [hw4, World.size_alloc, World.size_alloc]
  have d1 : Box w4 w2.heap.size 23 #[.slice (some ⟨b, oo, none⟩) n c] := by rw [hw4]; exact (Box.new w2 _ _).ext ((Ext.refl _).alloc _)
  have d2 : Box w4 (w2.heap.size + 1) 3 #[.int .i64 o] := by
    rw [hw4]
    have := Box.new (w2.alloc (.cells #[.slice (some ⟨b, oo, none⟩) n c] 23)) 3 #[.int .i64 o]
    rwa [World.size_alloc] at this
  have X4 := Lib.hid (x01.trans x4)
  have hwl := strs_lt HV.out (by have := HV.out.1; omega)
  have HH := Lib.hid (H1.out (w.heap.size + 1) w.heap.size w2.heap.size (w2.heap.size + 1) w4 (fun W hW => HV.out.ext (X4.out.under hW (by omega))) (by omega) (c1.ext x4) (b01.ext x4) d1 d2 (by omega))
  have e3 : w2.heap.size = w.heap.size + 1 + 1 := e2
  rw [e3] at HH
  subst hw4
  clear H1 d1 d2 z4 e3
  go_wp2_with (first
    | (go_at_call 190; refine (HO.out _).mono ?_; rintro e w4' ⟨rfl, rfl⟩)
    | (go_at_call 213; refine HH.out.mono ?_; rintro e w5 ⟨rfl, x5, k5⟩; have k5c : w5.cell? ⟨w.heap.size + 1, 0, none⟩ = some (.int .i64 R) := k5.cell 0))
  go_ret
  exact ⟨rfl, X4.out.under x5 (by omega)⟩
end Go.Proofs.YtkokmnaicfdjaaaGreatDoor
