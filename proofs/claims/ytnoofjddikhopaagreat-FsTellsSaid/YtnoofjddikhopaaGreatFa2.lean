/- The walks of package num: Put, Get, at one, two and four bytes. -/
import Derived.Test.YtnoofjddikhopaaGreatRows
import Derived.Test.YtnoofjddikhopaaGreatFa1
import Derived.Laws.BitsAllLaws
namespace Go.Proofs.YtnoofjddikhopaaGreat
set_option linter.unusedVariables false
set_option linter.unusedSimpArgs false
open Go.RowKit
/-- the byte of a number -/
def b8 (n : Int) : UInt8 := UInt8.ofNat n.toNat
theorem b8_toNat (v : Int) (h0 : 0 ≤ v) (h1 : v ≤ 255) : ((b8 v).toNat : Int) = v := by
  unfold b8; simp [UInt8.toNat_ofNat']; omega
theorem byte_bd (c : UInt8) : 0 ≤ (c.toNat : Int) ∧ (c.toNat : Int) ≤ 255 := by have := c.toNat_lt; omega
theorem conv_row (w : World) (xs : List Int) (cs : Array Value) (t c k : Nat) (hk : xs.length = k) (hc : ∀ i, i < xs.length → cs[i]? = some (.int .u8 (xs.getD i 0))) :
    (convert 88 9 (.slice (some ⟨w.heap.size, 0, none⟩) k c)).run Tryz.prog (w.alloc (.cells cs t)) = .ok (.string (str (xs.map b8))) (w.alloc (.cells cs t)) := by
  subst hk
  refine run_convert_bytes_arg (P := Tryz.prog) _ 88 5 Tryz.underlying88 Tryz.underlying5 _ _ _ c xs rfl (fun i hi => ?_) 9 Tryz.underlying9
  have := hc i hi
  have hb := cell_of_row (w.alloc (.cells cs t)) w.heap.size (0 + i) cs t (0, 0) (heap_alloc_new w _)
  rw [hb, Nat.zero_add]; exact this
set_option maxHeartbeats 400000 in
set_option maxRecDepth 100000 in
theorem put2 (n : Int) (w : World) (h0 : 0 ≤ n) (h1 : n ≤ 65535) :
    Calls Tryz.prog 101 #[.int .u64 n, .int .i64 2] w fun e w' => e = .returned (.string (str [b8 (n % 256), b8 (n / 256)])) ∧ Ext w w' := by
  have hc := conv_row w [n % 256, n / 256] #[.int .u8 (n % 256), .int .u8 (n / 256), .int .u8 0, .int .u8 0, .int .u8 0, .int .u8 0, .int .u8 0, .int .u8 0] 167 8 2 rfl (fun i hi => by
    rcases (show i = 0 ∨ i = 1 by simp at hi; omega) with rfl | rfl <;> rfl)
  go_enter Tryz.func101, Tryz.ntmps101
  go_wp2_with fail
  refine wp_loop_rounds 3 ?_
  rw [rounds_succ]
  go_wp2_with fail
  rw [rounds_succ]
  go_wp2_with fail
  rw [rounds_succ]
  go_wp2_with fail
  go_ret
  exact ⟨rfl, (Ext.refl _).alloc _⟩
set_option maxHeartbeats 400000 in
set_option maxRecDepth 100000 in
theorem put1 (n : Int) (w : World) (h0 : 0 ≤ n) (h1 : n ≤ 255) :
    Calls Tryz.prog 101 #[.int .u64 n, .int .i64 1] w fun e w' => e = .returned (.string (str [b8 n])) ∧ Ext w w' := by
  have hc := conv_row w [n] #[.int .u8 n, .int .u8 0, .int .u8 0, .int .u8 0, .int .u8 0, .int .u8 0, .int .u8 0, .int .u8 0] 167 8 1 rfl (fun i hi => by
    rcases (show i = 0 by simp at hi; omega) with rfl; rfl)
  go_enter Tryz.func101, Tryz.ntmps101
  go_wp2_with fail
  refine wp_loop_rounds 2 ?_
  rw [rounds_succ]
  go_wp2_with fail
  rw [rounds_succ]
  go_wp2_with fail
  go_ret
  exact ⟨rfl, (Ext.refl _).alloc _⟩
set_option maxHeartbeats 400000 in
set_option maxRecDepth 100000 in
theorem put4 (n : Int) (w : World) (h0 : 0 ≤ n) (h1 : n ≤ 4294967295) :
    Calls Tryz.prog 101 #[.int .u64 n, .int .i64 4] w fun e w' => e = .returned (.string (str [b8 (n % 256), b8 (n / 256 % 256), b8 (n / 65536 % 256), b8 (n / 16777216)])) ∧ Ext w w' := by
  have hc := conv_row w [n % 256, n / 256 % 256, n / 65536 % 256, n / 16777216] #[.int .u8 (n % 256), .int .u8 (n / 256 % 256), .int .u8 (n / 65536 % 256), .int .u8 (n / 16777216), .int .u8 0, .int .u8 0, .int .u8 0, .int .u8 0] 167 8 4 rfl (fun i hi => by
    rcases (show i = 0 ∨ i = 1 ∨ i = 2 ∨ i = 3 by simp at hi; omega) with rfl | rfl | rfl | rfl <;> rfl)
  go_enter Tryz.func101, Tryz.ntmps101
  go_wp2_with fail
  refine wp_loop_rounds 5 ?_
  rw [rounds_succ]
  go_wp2_with fail
  rw [rounds_succ]
  go_wp2_with fail
  rw [rounds_succ]
  go_wp2_with fail
  rw [rounds_succ]
  go_wp2_with fail
  rw [rounds_succ]
  go_wp2_with fail
  go_ret
  exact ⟨rfl, (Ext.refl _).alloc _⟩
theorem ret_int {k : IntKind} {a b : Int} (h : a = b) : Ending.returned (.int k a) = .returned (.int k b) := by rw [h]
theorem wrap_byte (c : UInt8) : IntKind.u64.wrap (c.toNat : Int) = c.toNat := by rw [IntKind.wrap_u64]; have := c.toNat_lt; omega
theorem or_first (a : UInt8) : bits .or .u64 0 (IntKind.u64.wrap (IntKind.u64.wrap (a.toNat : Int))) = a.toNat := by
  rw [wrap_byte, wrap_byte]
  have := u64_or_nat 0 a.toNat (by omega) (by have := a.toNat_lt; omega)
  simpa using this
theorem or_next (x : Int) (c : UInt8) (k : Nat) (M : Int) (hM : M = ((2 ^ k : Nat) : Int)) (h0 : 0 ≤ x) (hx : x < M) (hb : M ≤ 16777216) : bits .or .u64 x (IntKind.u64.wrap (IntKind.u64.wrap (c.toNat : Int) * M)) = x + M * c.toNat := by
  have hc := c.toNat_lt
  obtain ⟨x, rfl⟩ := Int.eq_ofNat_of_zero_le h0
  obtain ⟨m, rfl⟩ := Int.eq_ofNat_of_zero_le (show 0 ≤ M by omega)
  have hm : m = 2 ^ k := by exact_mod_cast hM
  have hlt : m * c.toNat < 4294967296 := by
    have : m * c.toNat ≤ 16777216 * 255 := Nat.mul_le_mul (by omega) (by omega)
    omega
  rw [wrap_byte, show (c.toNat : Int) * m = ((m * c.toNat : Nat) : Int) from by rw [Int.mul_comm]; rfl, IntKind.wrap_u64, Int.emod_eq_of_lt (by omega) (by omega), u64_or_nat x (m * c.toNat) (by omega) (by omega)]
  rw [Nat.or_comm, hm, ← Nat.two_pow_add_eq_or_of_lt (by rw [← hm]; omega) c.toNat]
  rw [← hm, Int.natCast_add, Int.natCast_mul]; omega
theorem get1_val (a : UInt8) : bits .or .u64 0 (IntKind.u64.wrap (IntKind.u64.wrap (a.toNat : Int))) = (a.toNat : Int) := by
  have ha := a.toNat_lt
  rw [or_first a]
set_option maxHeartbeats 400000 in
set_option maxRecDepth 100000 in
theorem get1 (a : UInt8) (w : World) :
    Calls Tryz.prog 102 #[.string (str [a])] w fun e w' => e = .returned (.int .u64 ((a.toNat : Int))) ∧ w = w' := by
  have hz := str_size
  go_enter Tryz.func102, Tryz.ntmps102
  go_wp2_with fail
  refine wp_loop_rounds 2 ?_
  rw [rounds_succ]
  go_wp2_with fail
  rw [rounds_succ]
  go_wp2_with fail
  go_ret
  exact ⟨ret_int (get1_val a), rfl⟩
theorem get2_val (a b : UInt8) : bits .or .u64 (bits .or .u64 0 (IntKind.u64.wrap (IntKind.u64.wrap (a.toNat : Int)))) (IntKind.u64.wrap (IntKind.u64.wrap (b.toNat : Int) * 256)) = (a.toNat : Int) + 256 * b.toNat := by
  have ha := a.toNat_lt; have hb := b.toNat_lt
  rw [or_first a]
  rw [or_next _ b 8 256 (by rfl) (by omega) (by omega) (by omega)]
set_option maxHeartbeats 400000 in
set_option maxRecDepth 100000 in
theorem get2 (a b : UInt8) (w : World) :
    Calls Tryz.prog 102 #[.string (str [a, b])] w fun e w' => e = .returned (.int .u64 ((a.toNat : Int) + 256 * b.toNat)) ∧ w = w' := by
  have hz := str_size
  go_enter Tryz.func102, Tryz.ntmps102
  go_wp2_with fail
  refine wp_loop_rounds 3 ?_
  rw [rounds_succ]
  go_wp2_with fail
  rw [rounds_succ]
  go_wp2_with fail
  rw [rounds_succ]
  go_wp2_with fail
  go_ret
  exact ⟨ret_int (get2_val a b), rfl⟩
theorem get4_val (a b c d : UInt8) : bits .or .u64 (bits .or .u64 (bits .or .u64 (bits .or .u64 0 (IntKind.u64.wrap (IntKind.u64.wrap (a.toNat : Int)))) (IntKind.u64.wrap (IntKind.u64.wrap (b.toNat : Int) * 256))) (IntKind.u64.wrap (IntKind.u64.wrap (c.toNat : Int) * 65536))) (IntKind.u64.wrap (IntKind.u64.wrap (d.toNat : Int) * 16777216)) = (a.toNat : Int) + 256 * b.toNat + 65536 * c.toNat + 16777216 * d.toNat := by
  have ha := a.toNat_lt; have hb := b.toNat_lt; have hc := c.toNat_lt; have hd := d.toNat_lt
  rw [or_first a]
  rw [or_next _ b 8 256 (by rfl) (by omega) (by omega) (by omega), or_next _ c 16 65536 (by rfl) (by omega) (by omega) (by omega), or_next _ d 24 16777216 (by rfl) (by omega) (by omega) (by omega)]
set_option maxHeartbeats 400000 in
set_option maxRecDepth 100000 in
theorem get4 (a b c d : UInt8) (w : World) :
    Calls Tryz.prog 102 #[.string (str [a, b, c, d])] w fun e w' => e = .returned (.int .u64 ((a.toNat : Int) + 256 * b.toNat + 65536 * c.toNat + 16777216 * d.toNat)) ∧ w = w' := by
  have hz := str_size
  go_enter Tryz.func102, Tryz.ntmps102
  go_wp2_with fail
  refine wp_loop_rounds 5 ?_
  rw [rounds_succ]
  go_wp2_with fail
  rw [rounds_succ]
  go_wp2_with fail
  rw [rounds_succ]
  go_wp2_with fail
  rw [rounds_succ]
  go_wp2_with fail
  rw [rounds_succ]
  go_wp2_with fail
  go_ret
  exact ⟨ret_int (get4_val a b c d), rfl⟩
end Go.Proofs.YtnoofjddikhopaaGreat
/- The walks of package geom. -/
namespace Go.Proofs.YtnoofjddikhopaaGreat
set_option linter.unusedVariables false
set_option linter.unusedSimpArgs false
open Go.RowKit
/-- the plan of a volume of B blocks and I inodes, as a value -/
def geomV (B I : Int) : Value := .agg #[.int .i64 B, .int .i64 I, .int .i64 1, .int .i64 2, .int .i64 3, .int .i64 (3 + (I + 1) / 2)]
def noGeom : Value := .agg #[.int .i64 0, .int .i64 0, .int .i64 0, .int .i64 0, .int .i64 0, .int .i64 0]
def planB (B I : Int) : Bool := decide (16 ≤ B ∧ B ≤ 223 ∧ 4 ≤ I ∧ I ≤ 64 ∧ 3 + (I + 1) / 2 < B)
set_option maxHeartbeats 400000 in
theorem plan_yes (B I : Int) (w : World) (h : planB B I = true) :
    Calls Tryz.prog 59 #[.int .i64 B, .int .i64 I] w fun e w' => e = .returned (.tuple #[geomV B I, .int .i64 0]) ∧ Ext w w' := by
  have hp : 16 ≤ B ∧ B ≤ 223 ∧ 4 ≤ I ∧ I ≤ 64 ∧ 3 + (I + 1) / 2 < B := by simpa [planB] using h
  clear h
  go_enter Tryz.func59, Tryz.ntmps59
  go_wp2_with fail
  exact bodyPost_ret (v := .tuple #[geomV B I, .int .i64 0]) (by simp [results, Tryz.results59, go_sem, geomV]) rfl ⟨rfl, (Ext.refl _).alloc _⟩
/-- the bit i of a row of bytes -/
def bitB (m : List UInt8) (i : Nat) : Bool := decide ((m.getD (i / 8) 0).toNat / 2 ^ (i % 8) % 2 = 1)
theorem bit_val' (c : UInt8) (k : Nat) : (bits BinOp.and IntKind.u8 ((c.toNat : Int) / 2 ^ k) 1 == 1) = decide (c.toNat / 2 ^ k % 2 = 1) := by
  have hc := c.toNat_lt
  have e2 : ((c.toNat : Int) / 2 ^ k) = ((c.toNat / 2 ^ k : Nat) : Int) := by rw [Int.natCast_ediv, Int.natCast_pow]; rfl
  have hlt : c.toNat / 2 ^ k < 256 := Nat.lt_of_le_of_lt (Nat.div_le_self _ _) hc
  have := u8_and_nat (c.toNat / 2 ^ k) 1 hlt (by omega)
  rw [e2, show (1 : Int) = ((1 : Nat) : Int) from rfl, this, Nat.and_one_is_mod]
  rw [Bool.eq_iff_iff]; simp; omega
theorem str_at (m : List UInt8) (k : Nat) (h : k < (str m).size) : (str m)[k] = m.getD k 0 := by
  have hl : k < m.length := by rw [str_size] at h; exact h
  exact (show (str m)[k] = m[k] from rfl).trans (by simp [List.getD, hl])
theorem bit_val (m : List UInt8) (i : Nat) (h : i / 8 < (str m).size) : (bits BinOp.and IntKind.u8 (((str m)[i / 8].toNat : Int) / 2 ^ (i % 8)) 1 == 1) = bitB m i :=
  (bit_val' _ _).trans (by unfold bitB; exact congrArg (fun c : UInt8 => decide (c.toNat / 2 ^ (i % 8) % 2 = 1)) (str_at m (i / 8) h))
theorem ret_bool {a b : Bool} (h : a = b) : Ending.returned (.bool a) = .returned (.bool b) := by rw [h]
set_option maxHeartbeats 400000 in
set_option maxRecDepth 100000 in
theorem bit_any (b o n c i : Nat) (m : List UInt8) (w : World) (hn : 3 ≤ n) (hc : w.cell? ⟨b, o + 2, none⟩ = some (.string (str m))) (hm : m.length = 128) (hi : i < 1024) :
    Calls Tryz.prog 103 #[.slice (some ⟨b, o, none⟩) n c, .int .i64 i] w fun e w' => e = .returned (.bool (bitB m i)) ∧ w = w' := by
  have hz : (str m).size = 128 := by rw [str_size, hm]
  go_enter Tryz.func103, Tryz.ntmps103
  go_wp2_with fail
  go_ret
  exact ⟨ret_bool (bit_val m i (by omega)), rfl⟩
end Go.Proofs.YtnoofjddikhopaaGreat
/- num.Put and num.Get at one, two and four bytes under one word; numbers as bytes. -/
namespace Go.Proofs.YtnoofjddikhopaaGreat
set_option linter.unusedVariables false
set_option linter.unusedSimpArgs false
open Go.RowKit
/-- the number of bytes, the lowest first -/
def numL : List UInt8 → Nat
  | [] => 0
  | c :: l => c.toNat + 256 * numL l
/-- so many bytes of a number, the lowest first -/
def putL (n : Int) : Nat → List UInt8
  | 0 => []
  | z + 1 => b8 (n % 256) :: putL (n / 256) z
theorem putL_len (n : Int) (z : Nat) : (putL n z).length = z := by
  induction z generalizing n with
  | zero => rfl
  | succ z ih => simp [putL, ih]
theorem numL_lt (l : List UInt8) : numL l < 256 ^ l.length := by
  induction l with
  | nil => simp [numL]
  | cons c l ih => have := c.toNat_lt; simp only [numL, List.length_cons, Nat.pow_succ]; omega
theorem numL_putL (n : Int) (z : Nat) (h0 : 0 ≤ n) (h1 : n < 256 ^ z) : (numL (putL n z) : Int) = n := by
  induction z generalizing n with
  | zero => simp at h1; simp [putL, numL]; omega
  | succ z ih =>
    have h2 : n / 256 < 256 ^ z := by
      rw [Int.pow_succ] at h1; omega
    have := ih (n / 256) (by omega) h2
    simp only [putL, numL, Int.natCast_add, Int.natCast_mul, this, b8_toNat (n % 256) (by omega) (by omega)]
    omega
theorem len1 {l : List UInt8} (h : l.length = 1) : ∃ a, l = [a] := by
  match l, h with
  | [a], _ => exact ⟨a, rfl⟩
theorem len2 {l : List UInt8} (h : l.length = 2) : ∃ a b, l = [a, b] := by
  match l, h with
  | [a, b], _ => exact ⟨a, b, rfl⟩
theorem len4 {l : List UInt8} (h : l.length = 4) : ∃ a b c d, l = [a, b, c, d] := by
  match l, h with
  | [a, b, c, d], _ => exact ⟨a, b, c, d, rfl⟩
theorem get_z (s : List UInt8) (w : World) (h : s.length = 1 ∨ s.length = 2 ∨ s.length = 4) :
    Calls Tryz.prog 102 #[.string (str s)] w fun e w' => e = .returned (.int .u64 (numL s : Int)) ∧ w = w' := by
  rcases h with h | h | h
  · obtain ⟨a, rfl⟩ := len1 h
    rw [show ((numL [a] : Nat) : Int) = (a.toNat : Int) by simp [numL]]
    exact get1 a w
  · obtain ⟨a, b, rfl⟩ := len2 h
    rw [show ((numL [a, b] : Nat) : Int) = (a.toNat : Int) + 256 * b.toNat by simp [numL]]
    exact get2 a b w
  · obtain ⟨a, b, c, d, rfl⟩ := len4 h
    rw [show ((numL [a, b, c, d] : Nat) : Int) = (a.toNat : Int) + 256 * b.toNat + 65536 * c.toNat + 16777216 * d.toNat by simp [numL]; omega]
    exact get4 a b c d w
theorem put_z (n z : Int) (w : World) (hz : z = 1 ∨ z = 2 ∨ z = 4) (h0 : 0 ≤ n) (h1 : n < 256 ^ z.toNat) :
    Calls Tryz.prog 101 #[.int .u64 n, .int .i64 z] w fun e w' => e = .returned (.string (str (putL n z.toNat))) ∧ Ext w w' := by
  rcases hz with rfl | rfl | rfl
  · have h1' : n < 256 := h1
    rw [show putL n (1 : Int).toNat = [b8 n] by simp [putL, Int.emod_eq_of_lt h0 h1']]
    exact put1 n w h0 (by omega)
  · have h1' : n < 65536 := h1
    rw [show putL n (2 : Int).toNat = [b8 (n % 256), b8 (n / 256)] by simp [putL]; rw [Int.emod_eq_of_lt (by omega) (by omega)]]
    exact put2 n w h0 (by omega)
  · have h1' : n < 4294967296 := h1
    rw [show putL n (4 : Int).toNat = [b8 (n % 256), b8 (n / 256 % 256), b8 (n / 65536 % 256), b8 (n / 16777216)] by
      have e1 : n / 256 / 256 = n / 65536 := by omega
      have e2 : n / 65536 / 256 = n / 16777216 := by omega
      have e3 : n / 16777216 % 256 = n / 16777216 := by omega
      simp [putL, e1, e2, e3]]
    exact put4 n w h0 (by omega)
end Go.Proofs.YtnoofjddikhopaaGreat
