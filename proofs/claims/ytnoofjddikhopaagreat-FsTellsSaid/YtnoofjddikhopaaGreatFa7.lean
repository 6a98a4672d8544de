/- The walk of geom.turned. -/
import Derived.Test.YtnoofjddikhopaaGreatFa6
import Derived.Lib.BufferWrite
import Derived.Deep.OwnRows
namespace Go.Proofs.YtnoofjddikhopaaGreat
set_option linter.unusedVariables false
set_option linter.unusedSimpArgs false
open Go.RowKit
def zeroCells128 : Array Value := Array.replicate 128 (.int .u8 0)
theorem make128 (w : World) : (Instr.makeSlice 88 (.int .i64 128) (.int .i64 128)).run Tryz.prog w = .ok (.slice (some ⟨w.heap.size, 0, none⟩) 128 128) (w.alloc (.cells zeroCells128 5)) := by kernel_rfl
theorem byteSize : (Tryz.prog.info? 5).map (·.size) = some 1 := by kernel_rfl
theorem strSize : (Tryz.prog.info? 9).map (·.size) = some 1 := by kernel_rfl
/-- the bytes of a text as cells -/
def byteVals (m : List UInt8) : Array Value := (m.map fun c => Value.int .u8 (c.toNat : Int)).toArray
theorem setRow_box {w : World} {g : Nat} {t : TypeId} {cs ds : Array Value} (h : Box w g t cs) : Box (w.setRow g ds) g t ds := setRow_heap w g cs ds t (0, 0) h
theorem setRow_ext {a w : World} {g : Nat} {ds : Array Value} (h : Ext a w) (hg : a.heap.size ≤ g) : Ext a (w.setRow g ds) := by
  have k : Below a.heap.size a w := h
  refine ⟨k.os, k.tape, k.output, by simpa [World.setRow] using k.size, fun j hj => ?_⟩
  rw [← k.block j hj]
  simp only [World.setRow, Array.getElem?_modify]
  rw [if_neg (by omega)]
theorem copy128 (w : World) (g : Nat) (m : List UInt8) (hm : m.length = 128) (hb : Box w g 5 zeroCells128) (ty : TypeId) :
    (Builtin.copy_ #[88, 9] ty #[.slice (some ⟨g, 0, none⟩) 128 128, .string (str m)]).run Tryz.prog w = .ok (.int .i64 128) (w.setRow g (byteVals m)) := by
  have hz : (str m).size = 128 := by rw [str_size, hm]
  have h := Lib.run_copy_row_string (P := Tryz.prog) w 88 9 ty 5 g 0 128 128 (str m) zeroCells128 5 Tryz.underlying88 byteSize hb (by omega) (by rw [hz]; simp [zeroCells128])
  rw [h, hz]
  have e : (zeroCells128.toList.take 0 ++ Lib.byteCells (str m).data.toList ++ zeroCells128.toList.drop (0 + 128)).toArray = byteVals m := by
    rw [str_data]
    simp [zeroCells128, byteVals, Lib.byteCells]
  rw [e]; rfl
theorem byteVals_at (m : List UInt8) (k : Nat) (h : k < m.length) : (byteVals m)[k]? = some (.int .u8 ((m.getD k 0).toNat : Int)) := by
  simp [byteVals, h, List.getD]
theorem strInfo : (Tryz.prog.info? 9).map (fun i => (i.zero, i.size, i.bytes)) = some (some (.string ⟨#[]⟩), 1, 16) := by kernel_rfl
/-- a row of n empty texts, as cells -/
def emptyRow (n : Nat) : Array Value := madeCells #[.string ⟨#[]⟩] n
theorem makeStrs (n : Nat) (hn : n ≤ 1000) (w : World) : (Instr.makeSlice 22 (.int .i64 (n : Int)) (.int .i64 (n : Int))).run Tryz.prog w = .ok (.slice (some ⟨w.heap.size, 0, none⟩) n n) (w.alloc (.cells (emptyRow n) 9)) :=
  run_make_row' 22 9 (.string ⟨#[]⟩) 16 Tryz.underlying22 strInfo rfl .i64 .i64 n (by omega) (by omega) w
def strVals (v : List (List UInt8)) : Array Value := (v.map fun s => Value.string (str s)).toArray
theorem copyStrs (w : World) (g b o c : Nat) (v : List (List UInt8)) (hn : 0 < v.length) (hb : Box w g 9 (emptyRow v.length)) (hcell : ∀ (j : Nat) (h : j < v.length), w.cell? ⟨b, o + j, none⟩ = some (.string (str v[j]))) (ty : TypeId) :
    (Builtin.copy_ #[22, 22] ty #[.slice (some ⟨g, 0, none⟩) v.length v.length, .slice (some ⟨b, o, none⟩) v.length c]).run Tryz.prog w = .ok (.int .i64 v.length) (w.setRow g (strVals v)) := by
  have hsz : (emptyRow v.length).size = v.length := by simp [emptyRow, size_madeCells]
  have h := run_copy_row (P := Tryz.prog) w 22 22 ty 9 g 0 v.length v.length ⟨b, o, none⟩ v.length c (emptyRow v.length) 9 (v.map fun s => Value.string (str s)) Tryz.underlying22 strSize hb (by simp) (fun j u hj => by
    have hjl : j < v.length := by have := (List.getElem?_eq_some_iff.1 hj).1; simpa using this
    have ha : (⟨b, o, none⟩ : Addr).add j = ⟨b, o + j, none⟩ := by unfold Addr.add; split <;> simp_all
    rw [ha, hcell j hjl]
    simp [hjl] at hj; rw [← hj]) (by rw [hsz]; simp) (fun u hu => by
    simp only [List.mem_map] at hu
    obtain ⟨s, _, rfl⟩ := hu; rfl)
  rw [h]
  have e : ((emptyRow v.length).toList.take 0 ++ (v.map fun s => Value.string (str s)) ++ (emptyRow v.length).toList.drop (0 + (v.map fun s => Value.string (str s)).length)).toArray = strVals v := by
    rw [List.drop_of_length_le (by simp [hsz])]; simp [strVals]
  rw [e]; simp [goInt]
/-- a bit turned -/
def flipL (m : List UInt8) (i : Nat) : List UInt8 := m.set (i / 8) (b8 (((m.getD (i / 8) 0).toNat ^^^ 2 ^ (i % 8) : Nat) : Int))
theorem conv_box {w : World} {g k c : Nat} {l : List UInt8} (h : Box w g 5 (byteVals l)) (hk : l.length = k) :
    (convert 88 9 (.slice (some ⟨g, 0, none⟩) k c)).run Tryz.prog w = .ok (.string (str l)) w := by
  subst hk
  refine run_convert_bytes_back w 88 9 5 ⟨g, 0, none⟩ c l Tryz.underlying88 Tryz.underlying5 Tryz.underlying9 (fun j hj => ?_)
  have ha : (⟨g, 0, none⟩ : Addr).add j = ⟨g, j, none⟩ := by unfold Addr.add; split <;> simp_all
  rw [ha, h.cell j, byteVals_at l j hj]
  simp [List.getD, hj]
theorem own_of_box {w : World} {g n base : Nat} {t : TypeId} {cs : Array Value} (h : Box w g t cs) (hs : cs.size = n) (hg : base ≤ g) (hn : n ≤ maxLen) : w.ownsRow base t 1 (.slice (some ⟨g, 0, none⟩) n n) n cs.toList := by
  refine ⟨by simp [hs], Or.inr ⟨g, n, cs, rfl, hg, h, Nat.le_refl _, hn, by simp [hs], ?_⟩⟩
  rw [List.take_of_length_le (by simp [hs])]
theorem Box.setRow_other {w : World} {g g' : Nat} {t : TypeId} {cs ds : Array Value} (h : Box w g t cs) (hne : g ≠ g') : Box (w.setRow g' ds) g t cs := by
  have k : w.heap[g]? = some (.cells cs t (0, 0)) := h
  show (w.setRow g' ds).heap[g]? = _
  simp only [World.setRow, Array.getElem?_modify]
  rw [if_neg (Ne.symm hne)]; exact k
theorem xor_val (cc : UInt8) (i : Nat) : bits BinOp.xor IntKind.u8 (cc.toNat : Int) (2 ^ (i % 8) % 256) = ((cc.toNat ^^^ 2 ^ (i % 8) : Nat) : Int) := by
  have h8 : i % 8 < 8 := Nat.mod_lt _ (by omega)
  have hp : 2 ^ (i % 8) < 256 := by
    have : 2 ^ (i % 8) ≤ 2 ^ 7 := Nat.pow_le_pow_right (by omega) (by omega)
    omega
  have e : ((2 : Int) ^ (i % 8) % 256) = ((2 ^ (i % 8) : Nat) : Int) := by
    rw [show ((2 : Int) ^ (i % 8)) = ((2 ^ (i % 8) : Nat) : Int) from by rw [Int.natCast_pow]; rfl]
    exact Int.emod_eq_of_lt (Int.natCast_nonneg _) (Int.ofNat_lt.2 hp)
  rw [e]
  exact u8_xor_nat cc.toNat (2 ^ (i % 8)) cc.toNat_lt hp
theorem flip_vals (m : List UInt8) (i : Nat) (h : i / 8 < m.length) : (byteVals m).setIfInBounds (i / 8) (.int .u8 (((m.getD (i / 8) 0).toNat ^^^ 2 ^ (i % 8) : Nat) : Int)) = byteVals (flipL m i) := by
  have h8 : i % 8 < 8 := Nat.mod_lt _ (by omega)
  have hx : (m.getD (i / 8) 0).toNat ^^^ 2 ^ (i % 8) < 2 ^ 8 := Nat.xor_lt_two_pow (m.getD (i / 8) 0).toNat_lt (Nat.pow_lt_pow_right (by omega) h8)
  have hb := b8_toNat (((m.getD (i / 8) 0).toNat ^^^ 2 ^ (i % 8) : Nat) : Int) (by omega) (by omega)
  unfold flipL byteVals
  rw [List.map_set, hb]
  simp
set_option maxHeartbeats 1000000 in
set_option maxRecDepth 100000 in
theorem turned_any (b o n c i : Nat) (v : List (List UInt8)) (w : World) (hn : n = v.length) (h3 : 3 ≤ v.length) (hn2 : v.length ≤ 1000) (hcell : ∀ (j : Nat) (h : j < v.length), w.cell? ⟨b, o + j, none⟩ = some (.string (str v[j]))) (hm : (v.getD 2 []).length = 128) (hi : i < 1024) :
    Calls Tryz.prog 120 #[.slice (some ⟨b, o, none⟩) n c, .int .i64 i] w fun e w' =>
      ∃ u, e = .returned u ∧ Ext w w' ∧ w'.ownsRow w.heap.size 9 1 u v.length ((v.set 2 (flipL (v.getD 2 []) i)).map fun s => .string (str s)) := by
  subst hn
  have hmk := make128
  have c2 : w.cell? ⟨b, o + 2, none⟩ = some (.string (str (v.getD 2 []))) := by
    rw [List.getD_eq_getElem?_getD, List.getElem?_eq_getElem (by omega)]; exact hcell 2 (by omega)
  have hlt : b < w.heap.size := World.block_lt_of_cell? w _ c2
  generalize hmm : v.getD 2 [] = m at *
  have cA : (w.alloc (.cells zeroCells128 5)).cell? ⟨b, o + 2, none⟩ = some (.string (str m)) := ((Ext.refl w).alloc _).keep c2
  have cp := fun ty => copy128 (w.alloc (.cells zeroCells128 5)) w.heap.size m hm (Box.new _ _ _) ty
  go_enter Tryz.func120, Tryz.ntmps120
  go_wp2_with fail
  have bx : Box ((w.alloc (.cells zeroCells128 5)).setRow w.heap.size (byteVals m)) w.heap.size 5 (byteVals m) := setRow_box (Box.new _ _ _)
  have xx : Ext w ((w.alloc (.cells zeroCells128 5)).setRow w.heap.size (byteVals m)) := setRow_ext ((Ext.refl w).alloc _) (Nat.le_refl _)
  generalize (w.alloc (.cells zeroCells128 5)).setRow w.heap.size (byteVals m) = W2 at bx xx ⊢
  clear cp cA hmk
  have hi8 : i / 8 < 128 := by omega
  have q : ∀ x : Later W2, x.now.cell? ⟨w.heap.size, i / 8, none⟩ = some (.int .u8 ((m.getD (i / 8) 0).toNat : Int)) := fun x => ((bx.ext x.ext).cell (i / 8)).trans (byteVals_at m (i / 8) (by omega))
  have qf : ∀ x : Later W2, x.now.frozen? ⟨w.heap.size, i / 8, none⟩ = false := fun x => (bx.ext x.ext).frozen (i / 8)
  have t1 : (0 : Int) ≤ (i : Int) / 8 := by omega
  have t2 : (i : Int) / 8 < 128 := by omega
  have t3 : ((i : Int) / 8).toNat = i / 8 := by omega
  have t4 : (0 : Int) ≤ (i : Int) % 8 := by omega
  have t5 : (i : Int) % 8 < 8 := by omega
  have hcb := byte_bd (m.getD (i / 8) 0)
  generalize hcc : m.getD (i / 8) 0 = cc at q hcb
  refine wp_region_later_tail 10 (by kernel_rfl) (by kernel_rfl) ?_
  simp only [List.take_succ_cons, List.take_zero, List.drop_succ_cons, List.drop_zero]
  repeat (go_big_quiet_step (fail))
  refine wpQuiet_nil ?_
  rintro w2 ⟨x2, rfl⟩
  have q' := q x2
  have qf' := qf x2
  clear q qf
  have hmk2 := makeStrs v.length hn2
  have xw2 := xx.trans x2.ext
  have cp2 : ∀ (val : Value) (ty : TypeId), (Builtin.copy_ #[22, 22] ty #[.slice (some ⟨x2.now.heap.size, 0, none⟩) v.length v.length, .slice (some ⟨b, o, none⟩) v.length c]).run Tryz.prog ((x2.now.setCell ⟨w.heap.size, i / 8, none⟩ val).alloc (.cells (emptyRow v.length) 9)) = .ok (.int .i64 v.length) (((x2.now.setCell ⟨w.heap.size, i / 8, none⟩ val).alloc (.cells (emptyRow v.length) 9)).setRow x2.now.heap.size (strVals v)) := fun val ty =>
    copyStrs _ _ b o c v (by omega) (by have := Box.new (x2.now.setCell ⟨w.heap.size, i / 8, none⟩ val) 9 (emptyRow v.length); rw [show (x2.now.setCell ⟨w.heap.size, i / 8, none⟩ val).heap.size = x2.now.heap.size from by simp [World.setCell]] at this; exact this) (fun j hj => ((xw2.setCell (p := ⟨w.heap.size, i / 8, none⟩) (Nat.le_refl _) val).alloc _).keep (hcell j hj)) ty
  go_wp2_with fail
  have hl8 : i / 8 < m.length := by omega
  have bs := (bx.ext x2.ext).set (i / 8) (.int .u8 (bits BinOp.xor IntKind.u8 (cc.toNat : Int) (2 ^ (i % 8) % 256)))
  have hfl : (byteVals m).setIfInBounds (i / 8) (.int .u8 (bits BinOp.xor IntKind.u8 (cc.toNat : Int) (2 ^ (i % 8) % 256))) = byteVals (flipL m i) := by
    rw [xor_val, ← hcc]; exact flip_vals m i hl8
  rw [hfl] at bs
  have xs := xw2.setCell (p := ⟨w.heap.size, i / 8, none⟩) (Nat.le_refl _) (.int .u8 (bits BinOp.xor IntKind.u8 (cc.toNat : Int) (2 ^ (i % 8) % 256)))
  have hss : (x2.now.setCell ⟨w.heap.size, i / 8, none⟩ (.int .u8 (bits BinOp.xor IntKind.u8 (cc.toNat : Int) (2 ^ (i % 8) % 256)))).heap.size = x2.now.heap.size := by simp [World.setCell]
  have hwx : w.heap.size < x2.now.heap.size := (bx.ext x2.ext).lt
  generalize x2.now.setCell ⟨w.heap.size, i / 8, none⟩ (.int .u8 (bits BinOp.xor IntKind.u8 (cc.toNat : Int) (2 ^ (i % 8) % 256))) = W4 at bs xs hss ⊢
  have b5 : Box ((W4.alloc (.cells (emptyRow v.length) 9)).setRow x2.now.heap.size (strVals v)) w.heap.size 5 (byteVals (flipL m i)) := (bs.ext ((Ext.refl W4).alloc _)).setRow_other (by omega)
  have r5 : Box ((W4.alloc (.cells (emptyRow v.length) 9)).setRow x2.now.heap.size (strVals v)) x2.now.heap.size 9 (strVals v) := by
    have := setRow_box (ds := strVals v) (Box.new W4 9 (emptyRow v.length)); rw [hss] at this; exact this
  have x5 : Ext w ((W4.alloc (.cells (emptyRow v.length) 9)).setRow x2.now.heap.size (strVals v)) := setRow_ext (xs.alloc _) (by omega)
  generalize (W4.alloc (.cells (emptyRow v.length) 9)).setRow x2.now.heap.size (strVals v) = W5 at b5 r5 x5 ⊢
  have hfm : (flipL m i).length = 128 := by simp [flipL, hm]
  have cv := conv_box (c := 128) b5 hfm
  have s2 : W5.cell? ⟨x2.now.heap.size, 2, none⟩ = some (.string (str (v[2]'(by omega)))) := by rw [r5.cell 2]; simp [strVals, List.getElem?_eq_getElem (show 2 < v.length by omega)]
  have f2 := r5.frozen 2
  clear cp2 hmk2
  go_simp
  go_wp2_with fail
  go_ret
  refine ⟨_, rfl, x5.setCell (Nat.le_of_lt hwx) _, ?_⟩
  have rF := r5.set 2 (.string (str (flipL m i)))
  have hsz : ((strVals v).setIfInBounds 2 (.string (str (flipL m i)))).size = v.length := by simp [strVals]
  have ho := own_of_box (base := w.heap.size) rF hsz (by omega) (by unfold maxLen; omega)
  have e : ((strVals v).setIfInBounds 2 (.string (str (flipL m i)))).toList = (v.set 2 (flipL m i)).map fun s => Value.string (str s) := by simp [strVals, List.map_set]
  rw [e] at ho; exact ho
end Go.Proofs.YtnoofjddikhopaaGreat
/- The walk of geom.Take on a volume that is one. -/
namespace Go.Proofs.YtnoofjddikhopaaGreat
set_option linter.unusedVariables false
set_option linter.unusedSimpArgs false
open Go.RowKit
theorem own_ext {w w' : World} {base n : Nat} {t : TypeId} {size : Nat} {v : Value} {xs : List Value} (h : w.ownsRow base t size v n xs) (k : Ext w w') : w'.ownsRow base t size v n xs := by
  refine ⟨h.1, ?_⟩
  rcases h.2 with c | ⟨g, cap, cur, e, hb, hh, r⟩
  · exact Or.inl c
  · exact Or.inr ⟨g, cap, cur, e, hb, (Box.ext (cs := cur) (t := t) hh k), r⟩
theorem own_base {w : World} {base base' n : Nat} {t : TypeId} {size : Nat} {v : Value} {xs : List Value} (h : w.ownsRow base t size v n xs) (k : base' ≤ base) : w.ownsRow base' t size v n xs := by
  refine ⟨h.1, ?_⟩
  rcases h.2 with c | ⟨g, cap, cur, e, hb, r⟩
  · exact Or.inl c
  · exact Or.inr ⟨g, cap, cur, e, Nat.le_trans k hb, r⟩
set_option maxHeartbeats 1000000 in
set_option maxRecDepth 100000 in
theorem take_yes (A : Option Addr) (n c i : Nat) (v : List (List UInt8)) (I : Int) (w : World) (hv : Strs w A n v) (hg : Good v I) (hi0 : 3 + (I + 1) / 2 ≤ (i : Int)) (hi1 : i < v.length) (hi2 : bitB (v.getD 2 []) i = false)
    (hi3 : ∀ j : Nat, 3 + (I + 1) / 2 ≤ (j : Int) → j < i → bitB (v.getD 2 []) j = true) :
    Calls Tryz.prog 144 #[.slice A n c] w fun e w' => ∃ u, e = .returned (.tuple #[u, .int .i64 i, .int .i64 0]) ∧ Ext w w' ∧
      w'.ownsRow w.heap.size 9 1 u v.length (((v.set 2 (flipL (v.getD 2 []) i)).set i (zs 128)).map fun s => .string (str s)) := by
  have hpl := plan_bd hg.plan
  have HO := Lib.hid (fun w h => of_yes A n c v I w h hg)
  have hv' := hv
  obtain ⟨rfl, hv2⟩ := hv
  obtain ⟨b, o, rfl, hcell⟩ := hv2 (by omega)
  have l2 : (v.getD 2 []).length = 128 := by rw [List.getD_eq_getElem?_getD, List.getElem?_eq_getElem (by omega)]; exact hg.all 2 (by omega)
  go_enter Tryz.func144, Tryz.ntmps144
  go_wp2_with fail
  refine (HO.out _ hv').mono ?_
  rintro e w1 ⟨rfl, x1⟩
  unfold geomV
  go_wp2_with fail
  have bx := Box.new w1 81 #[.int .i64 v.length, .int .i64 I, .int .i64 1, .int .i64 2, .int .i64 3, .int .i64 (3 + (I + 1) / 2)]
  have x2 := x1.alloc (.cells #[.int .i64 v.length, .int .i64 I, .int .i64 1, .int .i64 2, .int .i64 3, .int .i64 (3 + (I + 1) / 2)] 81)
  generalize w1.alloc (.cells #[.int .i64 v.length, .int .i64 I, .int .i64 1, .int .i64 2, .int .i64 3, .int .i64 (3 + (I + 1) / 2)] 81) = W at bx x2 ⊢
  have d0 : W.cell? ⟨w1.heap.size, 0, none⟩ = some (.int .i64 v.length) := bx.cell 0
  have d5 : W.cell? ⟨w1.heap.size, 5, none⟩ = some (.int .i64 (3 + (I + 1) / 2)) := bx.cell 5
  have c2 : W.cell? ⟨b, o + 2, none⟩ = some (.string (str (v.getD 2 []))) := by
    have := x2.keep (hcell 2 (by omega))
    rw [List.getD_eq_getElem?_getD, List.getElem?_eq_getElem (by omega)]; exact this
  go_loop [7] (fun t => ∃ m : Nat, m ≤ i ∧ 3 + (I + 1) / 2 ≤ (m : Int) ∧ t = .int .i64 m) (fun t => i - (intOf t).toNat)
  case atStart => exact ⟨(3 + (I + 1) / 2).toNat, by omega, by omega, by rw [Int.toNat_of_nonneg (by omega)]⟩
  case round =>
    obtain ⟨m, hm, hm0, rfl⟩ := hrel
    have HB := Lib.hid (fun w (h : w.cell? ⟨b, o + 2, none⟩ = some (.string (str (v.getD 2 [])))) => bit_any b o v.length c m (v.getD 2 []) w (by omega) h l2 (by omega))
    have hmv : (m : Int) < (v.length : Int) := by omega
    by_cases hlt : m < i
    · have hbit := Lib.hid (hi3 m hm0 hlt)
      go_wp2_with (go_at_call 103; refine (HB.out _ c2).mono ?_; rintro e w' ⟨rfl, rfl⟩; rw [hbit.out])
      go_round
      case rel => exact ⟨m + 1, by omega, by omega, by go_num⟩
      case measure => simp [intOf]; omega
    · obtain rfl : m = i := by omega
      have hbit := Lib.hid hi2
      have HT := Lib.hid (fun w hc => turned_any b o v.length c m v w rfl (by omega) (by omega) hc l2 (by omega))
      have hcW : ∀ (j : Nat) (h : j < v.length), W.cell? ⟨b, o + j, none⟩ = some (.string (str v[j])) := fun j hj => x2.keep (hcell j hj)
      have HC := Lib.hid hcW
      clear hcW
      go_wp2_with fail
      refine (HB.out _ c2).mono ?_
      rintro e w3 ⟨rfl, rfl⟩
      rw [hbit.out]
      go_wp2_with fail
      refine (HT.out _ HC.out).mono ?_
      rintro e w4 ⟨u, rfl, x4, own4⟩
      obtain ⟨g, cap, hu⟩ : ∃ g cap, u = .slice (some ⟨g, 0, none⟩) v.length cap ∧ W.heap.size ≤ g := by
        rcases own4.2 with ⟨_, h0⟩ | ⟨g, cap, cur, h, hb, _⟩
        · omega
        · exact ⟨g, cap, h, hb⟩
      obtain ⟨rfl, hgW⟩ := hu
      go_wp2_with fail
      refine (zeros_any _).mono ?_
      rintro e w5 ⟨rfl, x5⟩
      have own5 : w5.ownsRow W.heap.size 9 1 (.slice (some ⟨g, 0, none⟩) v.length cap) v.length ((v.set 2 (flipL (v.getD 2 []) m)).map fun s => .string (str s)) := own_ext own4 x5
      have k5 : w5.cell? ⟨g, m, none⟩ = ((v.set 2 (flipL (v.getD 2 []) m)).map fun s => Value.string (str s))[m]? := own5.cellAt m (by omega)
      have kf := own5.frozenAt m
      have hm1 : m < ((v.set 2 (flipL (v.getD 2 []) m)).map fun s => Value.string (str s)).length := by simp; omega
      rw [List.getElem?_eq_getElem hm1] at k5
      generalize ((v.set 2 (flipL (v.getD 2 []) m)).map fun s => Value.string (str s))[m] = old at k5
      go_wp2_with fail
      go_ret3
      refine ⟨_, rfl, (x2.trans (x4.trans x5)).setCell (Nat.le_trans x2.size hgW) _, ?_⟩
      have hs := own_base (own5.stored m (.string (str (zs 128)))).1 x2.size
      have e : (((v.set 2 (flipL (v.getD 2 []) m)).map fun s => Value.string (str s)).set m (.string (str (zs 128)))) = ((v.set 2 (flipL (v.getD 2 []) m)).set m (zs 128)).map fun s => Value.string (str s) := by simp only [List.map_set]
      rw [e] at hs
      exact hs
set_option maxHeartbeats 1000000 in
set_option maxRecDepth 100000 in
theorem take_full (A : Option Addr) (n c : Nat) (v : List (List UInt8)) (I : Int) (w : World) (hv : Strs w A n v) (hg : Good v I)
    (hi3 : ∀ j : Nat, 3 + (I + 1) / 2 ≤ (j : Int) → j < v.length → bitB (v.getD 2 []) j = true) :
    Calls Tryz.prog 144 #[.slice A n c] w fun e w' => e = .returned (.tuple #[.slice none 0 0, .int .i64 0, .int .i64 10]) ∧ Ext w w' := by
  have hpl := plan_bd hg.plan
  have HO := Lib.hid (fun w h => of_yes A n c v I w h hg)
  have hv' := hv
  obtain ⟨rfl, hv2⟩ := hv
  obtain ⟨b, o, rfl, hcell⟩ := hv2 (by omega)
  have l2 : (v.getD 2 []).length = 128 := by rw [List.getD_eq_getElem?_getD, List.getElem?_eq_getElem (by omega)]; exact hg.all 2 (by omega)
  go_enter Tryz.func144, Tryz.ntmps144
  go_wp2_with fail
  refine (HO.out _ hv').mono ?_
  rintro e w1 ⟨rfl, x1⟩
  unfold geomV
  go_wp2_with fail
  have bx := Box.new w1 81 #[.int .i64 v.length, .int .i64 I, .int .i64 1, .int .i64 2, .int .i64 3, .int .i64 (3 + (I + 1) / 2)]
  have x2 := x1.alloc (.cells #[.int .i64 v.length, .int .i64 I, .int .i64 1, .int .i64 2, .int .i64 3, .int .i64 (3 + (I + 1) / 2)] 81)
  generalize w1.alloc (.cells #[.int .i64 v.length, .int .i64 I, .int .i64 1, .int .i64 2, .int .i64 3, .int .i64 (3 + (I + 1) / 2)] 81) = W at bx x2 ⊢
  have d0 : W.cell? ⟨w1.heap.size, 0, none⟩ = some (.int .i64 v.length) := bx.cell 0
  have c2 : W.cell? ⟨b, o + 2, none⟩ = some (.string (str (v.getD 2 []))) := by
    have := x2.keep (hcell 2 (by omega))
    rw [List.getD_eq_getElem?_getD, List.getElem?_eq_getElem (by omega)]; exact this
  go_loop [7] (fun t => ∃ m : Nat, m ≤ v.length ∧ 3 + (I + 1) / 2 ≤ (m : Int) ∧ t = .int .i64 m) (fun t => v.length - (intOf t).toNat)
  case atStart => exact ⟨(3 + (I + 1) / 2).toNat, by omega, by omega, by rw [Int.toNat_of_nonneg (by omega)]⟩
  case round =>
    obtain ⟨m, hm, hm0, rfl⟩ := hrel
    by_cases hlt : m < v.length
    · have HB := Lib.hid (fun w (h : w.cell? ⟨b, o + 2, none⟩ = some (.string (str (v.getD 2 [])))) => bit_any b o v.length c m (v.getD 2 []) w (by omega) h l2 (by omega))
      have hbit := Lib.hid (hi3 m hm0 hlt)
      go_wp2_with (go_at_call 103; refine (HB.out _ c2).mono ?_; rintro e w' ⟨rfl, rfl⟩; rw [hbit.out])
      go_round
      case rel => exact ⟨m + 1, by omega, by omega, by go_num⟩
      case measure => simp [intOf]; omega
    · go_wp2_with fail
      go_ret3
      exact ⟨rfl, x2⟩
end Go.Proofs.YtnoofjddikhopaaGreat
/- The walks of package inode: place. -/
namespace Go.Proofs.YtnoofjddikhopaaGreat
set_option linter.unusedVariables false
set_option linter.unusedSimpArgs false
open Go.RowKit
set_option maxHeartbeats 400000 in
theorem place_any (B I n : Int) (w : World) (h0 : 1 ≤ n) (h1 : n ≤ 64) :
    Calls Tryz.prog 104 #[geomV B I, .int .i64 n] w fun e w' => e = .returned (.tuple #[.int .i64 (3 + (n - 1) / 2), .int .i64 ((n - 1) % 2 * 64)]) ∧ Ext w w' := by
  unfold geomV
  go_enter Tryz.func104, Tryz.ntmps104
  go_wp2_with fail
  go_ret2
  exact ⟨rfl, (Ext.refl _).alloc _⟩
end Go.Proofs.YtnoofjddikhopaaGreat
/- The walks of geom.Give and geom.Used on a volume that is one, at a block that it has. -/
namespace Go.Proofs.YtnoofjddikhopaaGreat
set_option linter.unusedVariables false
set_option linter.unusedSimpArgs false
open Go.RowKit
set_option maxHeartbeats 1000000 in
set_option maxRecDepth 100000 in
theorem give_yes (A : Option Addr) (n c i : Nat) (v : List (List UInt8)) (I : Int) (w : World) (hv : Strs w A n v) (hg : Good v I) (hi0 : 3 + (I + 1) / 2 ≤ (i : Int)) (hi : i < v.length) (hb : bitB (v.getD 2 []) i = true) :
    Calls Tryz.prog 84 #[.slice A n c, .int .i64 i] w fun e w' => ∃ u, e = .returned (.tuple #[u, .int .i64 0]) ∧ Ext w w' ∧
      w'.ownsRow w.heap.size 9 1 u v.length ((v.set 2 (flipL (v.getD 2 []) i)).map fun s => .string (str s)) := by
  have hpl := plan_bd hg.plan
  have HO := Lib.hid (fun w h => of_yes A n c v I w h hg)
  have hv' := hv
  obtain ⟨rfl, hv2⟩ := hv
  obtain ⟨b, o, rfl, hcell⟩ := hv2 (by omega)
  have l2 : (v.getD 2 []).length = 128 := by rw [List.getD_eq_getElem?_getD, List.getElem?_eq_getElem (by omega)]; exact hg.all 2 (by omega)
  have HB := Lib.hid (fun w (h : w.cell? ⟨b, o + 2, none⟩ = some (.string (str (v.getD 2 [])))) => bit_any b o v.length c i (v.getD 2 []) w (by omega) h l2 (by omega))
  have HT := Lib.hid (fun w hc => turned_any b o v.length c i v w rfl (by omega) (by omega) hc l2 (by omega))
  have hbit := Lib.hid hb
  have hiv : (i : Int) < (v.length : Int) := by omega
  go_enter Tryz.func84, Tryz.ntmps84
  go_wp2_with fail
  refine (HO.out _ hv').mono ?_
  rintro e w1 ⟨rfl, x1⟩
  unfold geomV
  have x2 := x1.alloc (.cells #[.int .i64 v.length, .int .i64 I, .int .i64 1, .int .i64 2, .int .i64 3, .int .i64 (3 + (I + 1) / 2)] 81)
  have c2 : (w1.alloc (.cells #[.int .i64 v.length, .int .i64 I, .int .i64 1, .int .i64 2, .int .i64 3, .int .i64 (3 + (I + 1) / 2)] 81)).cell? ⟨b, o + 2, none⟩ = some (.string (str (v.getD 2 []))) := by
    have := x2.keep (hcell 2 (by omega))
    rw [List.getD_eq_getElem?_getD, List.getElem?_eq_getElem (by omega)]; exact this
  have HC := Lib.hid (fun (j : Nat) (hj : j < v.length) => x2.keep (hcell j hj))
  go_wp2_with fail
  refine (HB.out _ c2).mono ?_
  rintro e w3 ⟨rfl, rfl⟩
  rw [hbit.out]
  go_wp2_with fail
  refine (HT.out _ HC.out).mono ?_
  rintro e w4 ⟨u, rfl, x4, own4⟩
  go_wp2_with fail
  go_ret2
  exact ⟨u, rfl, x2.trans x4, own_base own4 x2.size⟩
end Go.Proofs.YtnoofjddikhopaaGreat
