/- The walks of num.length and num.Texts. -/
import Derived.Test.YtmcoepkopfcbdaaMf2
import Derived.Test.YtmcoepkopfcbdaaMf4
import Derived.Lib.ConvBytes
import Derived.Deep.DeepCutAuto
import Derived.Deep.AppendLies
import Derived.Deep.RegionLaw
import Derived.Lib.Bytealg
namespace Go.Proofs.Ytmcoepkopfcbdaa
open Go.RowKit

theorem and127 (c : UInt8) : bits .and .u8 (c.toNat : Int) 127 = ((c.toNat % 128 : Nat) : Int) := by
  have hc := c.toNat_lt
  rw [show (127 : Int) = ((127 : Nat) : Int) from rfl, u8_and_nat c.toNat 127 hc (by omega)]
  congr 1
  exact Nat.and_two_pow_sub_one_eq_mod c.toNat 7
theorem i64_or_nat (a b : Nat) (ha : a < 9223372036854775808) (hb : b < 9223372036854775808) : bits .or .i64 (a : Int) (b : Int) = ((a ||| b : Nat) : Int) := by
  have hx : a ||| b < 2 ^ 63 := Nat.or_lt_two_pow (by omega) (by omega)
  show IntKind.i64.wrap ((BitVec.ofInt 64 (a : Int) ||| BitVec.ofInt 64 (b : Int)).toNat : Int) = _
  have e : ∀ x : Nat, x < 9223372036854775808 → (BitVec.ofInt 64 (x : Int)).toNat = x := fun x hx => by
    rw [BitVec.ofInt_natCast, BitVec.toNat_ofNat]; exact Nat.mod_eq_of_lt (by omega)
  rw [BitVec.toNat_or, e a ha, e b hb, IntKind.wrap_i64]
  omega
theorem or_shift (n d k : Nat) (hn : n < 2 ^ k) (hk : k ≤ 21) (hd : d < 128) : bits .or .i64 (n : Int) (((d * 2 ^ k : Nat)) : Int) = (((n + d * 2 ^ k : Nat)) : Int) := by
  have hp : 2 ^ k ≤ 2 ^ 21 := Nat.pow_le_pow_right (by omega) hk
  have h21 : (2 : Nat) ^ 21 = 2097152 := by decide
  have hm : d * 2 ^ k ≤ 127 * 2097152 := Nat.mul_le_mul (by omega) (by omega)
  rw [i64_or_nat n (d * 2 ^ k) (by omega) (by omega)]
  congr 1
  have := Nat.two_pow_add_eq_or_of_lt hn d
  rw [Nat.or_comm, Nat.mul_comm d, ← this]; omega
theorem str_at2 (m : List UInt8) (k : Nat) (h : k < (str m).size) (hk : k < m.length) : (str m)[k] = m[k] := rfl
theorem lengthF_at (b : List UInt8) (k n : Nat) (h : k < b.length) : lengthF (b.drop k) k n = if k = 3 ∧ 128 ≤ b[k].toNat then (0, 0, 3) else if 128 ≤ b[k].toNat then lengthF (b.drop (k + 1)) (k + 1) (n + b[k].toNat % 128 * 128 ^ k) else if b[k].toNat = 0 ∧ 0 < k then (0, 0, 3) else (n + b[k].toNat * 128 ^ k, k + 1, 0) := by
  rw [List.drop_eq_getElem_cons h]; rfl
theorem ret3 {a b : Int} {x y : Value} (h : a = b) : Ending.returned (.tuple #[.int .i64 a, x, y]) = .returned (.tuple #[.int .i64 b, x, y]) := by rw [h]
set_option maxHeartbeats 1000000 in
set_option maxRecDepth 100000 in
theorem length_any (b : List UInt8) (w : World) (hb : b.length ≤ 1000000000) :
    Calls Try.prog 89 #[.string (str b)] w fun e w' => e = .returned (.tuple #[.int .i64 (lengthP b).1, .int .i64 (lengthP b).2.1, .int .i64 (lengthP b).2.2]) ∧ w = w' := by
  have hz : (str b).size = b.length := str_size b
  go_enter Try.func89, Try.ntmps89
  go_wp2_with fail
  go_loop [5, 6, 7, 10] (fun t _ _ i => ∃ k n : Nat, k ≤ b.length ∧ k ≤ 3 ∧ n < 128 ^ k ∧ i = .int .i64 k ∧ t = .int .i64 n ∧ lengthF (b.drop k) k n = lengthP b) (fun _ _ _ i => b.length - (intOf i).toNat)
  case atStart => exact ⟨0, 0, by omega, by omega, by decide, rfl, rfl, rfl⟩
  case round =>
    obtain ⟨k, n, hk, hk3, hn, rfl, rfl, hF⟩ := hrel
    by_cases hlt : k < b.length
    · rw [lengthF_at b k n hlt] at hF
      have hat : (str b)[k]'(by rw [hz]; exact hlt) = b[k] := rfl
      have ha := and127 b[k]
      have hc := b[k].toNat_lt
      have HF := Lib.hid hF
      clear hF
      generalize b[k] = ch at *
      rcases (by omega : k = 0 ∨ k = 1 ∨ k = 2 ∨ k = 3) with rfl | rfl | rfl | rfl
      · have hn' : n < 1 := by simpa using hn
        have ho : bits .or .i64 (n : Int) ((ch.toNat : Int) % 128) = (((n + ch.toNat % 128 * 1 : Nat)) : Int) := by
          have := or_shift n (ch.toNat % 128) 0 (by simpa using hn') (by omega) (by omega)
          rw [show ((ch.toNat : Int) % 128) = (((ch.toNat % 128 * 2 ^ 0 : Nat)) : Int) by omega, this]
        clear hn
        by_cases h1 : 128 ≤ ch.toNat
        · have HN := Lib.hid (show lengthF (b.drop 1) 1 (n + ch.toNat % 128 * 1) = lengthP b by rw [← HF.out, if_neg (by omega), if_pos h1])
          go_wp2_with fail
          exact ⟨⟨1, n + ch.toNat % 128 * 1, by omega, by omega, by simp only [Nat.reducePow]; omega, rfl, by first | rfl | (rw [ho]; done) | go_num, HN.out⟩, by simp [intOf]; omega⟩
        · by_cases h0 : ch.toNat = 0
          · have HN := Lib.hid (show lengthP b = (n + ch.toNat % 128 * 1, 1, 0) by rw [← HF.out, if_neg (by omega), if_neg h1, if_neg (by omega), show ch.toNat % 128 = ch.toNat by omega])
            have d0 : ((ch.toNat : Int) == 0) = true := by simp [h0]
            have d1 : (ch.toNat : Int) < 128 := by omega
            clear h0 h1
            go_wp2_with fail
            go_ret3
            rw [HN.out]; exact ⟨ret3 (by omega), rfl⟩
          · have HN := Lib.hid (show lengthP b = (n + ch.toNat % 128 * 1, 1, 0) by rw [← HF.out, if_neg (by omega), if_neg h1, if_neg (by omega), show ch.toNat % 128 = ch.toNat by omega])
            have d0 : ((ch.toNat : Int) == 0) = false := by simpa using h0
            go_wp2_with fail
            go_ret3
            rw [HN.out]; exact ⟨ret3 (by omega), rfl⟩
      · have hn' : n < 128 := by simpa using hn
        have ho : bits .or .i64 (n : Int) ((ch.toNat : Int) % 128 * 128) = (((n + ch.toNat % 128 * 128 : Nat)) : Int) := by
          have := or_shift n (ch.toNat % 128) 7 (by simpa using hn') (by omega) (by omega)
          rw [show ((ch.toNat : Int) % 128 * 128) = (((ch.toNat % 128 * 2 ^ 7 : Nat)) : Int) by omega, this]
        clear hn
        by_cases h1 : 128 ≤ ch.toNat
        · have HN := Lib.hid (show lengthF (b.drop 2) 2 (n + ch.toNat % 128 * 128) = lengthP b by rw [← HF.out, if_neg (by omega), if_pos h1])
          go_wp2_with fail
          exact ⟨⟨2, n + ch.toNat % 128 * 128, by omega, by omega, by simp only [Nat.reducePow]; omega, rfl, by first | rfl | (rw [ho]; done) | go_num, HN.out⟩, by simp [intOf]; omega⟩
        · by_cases h0 : ch.toNat = 0
          · have HN := Lib.hid (show lengthP b = (0, 0, 3) by rw [← HF.out, if_neg (by omega), if_neg h1, if_pos (by omega)])
            have d0 : ((ch.toNat : Int) == 0) = true := by simp [h0]
            have d1 : (ch.toNat : Int) < 128 := by omega
            clear h0 h1
            go_wp2_with fail
            go_ret3
            rw [HN.out]; exact ⟨rfl, rfl⟩
          · have HN := Lib.hid (show lengthP b = (n + ch.toNat % 128 * 128, 2, 0) by rw [← HF.out, if_neg (by omega), if_neg h1, if_neg (by omega), show ch.toNat % 128 = ch.toNat by omega])
            have d0 : ((ch.toNat : Int) == 0) = false := by simpa using h0
            go_wp2_with fail
            go_ret3
            rw [HN.out]; exact ⟨ret3 (by omega), rfl⟩
      · have hn' : n < 16384 := by simpa using hn
        have ho : bits .or .i64 (n : Int) ((ch.toNat : Int) % 128 * 16384) = (((n + ch.toNat % 128 * 16384 : Nat)) : Int) := by
          have := or_shift n (ch.toNat % 128) 14 (by simpa using hn') (by omega) (by omega)
          rw [show ((ch.toNat : Int) % 128 * 16384) = (((ch.toNat % 128 * 2 ^ 14 : Nat)) : Int) by omega, this]
        clear hn
        by_cases h1 : 128 ≤ ch.toNat
        · have HN := Lib.hid (show lengthF (b.drop 3) 3 (n + ch.toNat % 128 * 16384) = lengthP b by rw [← HF.out, if_neg (by omega), if_pos h1])
          go_wp2_with fail
          exact ⟨⟨3, n + ch.toNat % 128 * 16384, by omega, by omega, by simp only [Nat.reducePow]; omega, rfl, by first | rfl | (rw [ho]; done) | go_num, HN.out⟩, by simp [intOf]; omega⟩
        · by_cases h0 : ch.toNat = 0
          · have HN := Lib.hid (show lengthP b = (0, 0, 3) by rw [← HF.out, if_neg (by omega), if_neg h1, if_pos (by omega)])
            have d0 : ((ch.toNat : Int) == 0) = true := by simp [h0]
            have d1 : (ch.toNat : Int) < 128 := by omega
            clear h0 h1
            go_wp2_with fail
            go_ret3
            rw [HN.out]; exact ⟨rfl, rfl⟩
          · have HN := Lib.hid (show lengthP b = (n + ch.toNat % 128 * 16384, 3, 0) by rw [← HF.out, if_neg (by omega), if_neg h1, if_neg (by omega), show ch.toNat % 128 = ch.toNat by omega])
            have d0 : ((ch.toNat : Int) == 0) = false := by simpa using h0
            go_wp2_with fail
            go_ret3
            rw [HN.out]; exact ⟨ret3 (by omega), rfl⟩
      · have hn' : n < 2097152 := by simpa using hn
        have ho : bits .or .i64 (n : Int) ((ch.toNat : Int) % 128 * 2097152) = (((n + ch.toNat % 128 * 2097152 : Nat)) : Int) := by
          have := or_shift n (ch.toNat % 128) 21 (by simpa using hn') (by omega) (by omega)
          rw [show ((ch.toNat : Int) % 128 * 2097152) = (((ch.toNat % 128 * 2 ^ 21 : Nat)) : Int) by omega, this]
        clear hn
        by_cases h1 : 128 ≤ ch.toNat
        · have HN := Lib.hid (show lengthP b = (0, 0, 3) by rw [← HF.out, if_pos ⟨rfl, h1⟩])
          go_wp2_with fail
          go_ret3
          rw [HN.out]; exact ⟨rfl, rfl⟩
        · by_cases h0 : ch.toNat = 0
          · have HN := Lib.hid (show lengthP b = (0, 0, 3) by rw [← HF.out, if_neg (by omega), if_neg h1, if_pos (by omega)])
            have d0 : ((ch.toNat : Int) == 0) = true := by simp [h0]
            have d1 : (ch.toNat : Int) < 128 := by omega
            clear h0 h1
            go_wp2_with fail
            go_ret3
            rw [HN.out]; exact ⟨rfl, rfl⟩
          · have HN := Lib.hid (show lengthP b = (n + ch.toNat % 128 * 2097152, 4, 0) by rw [← HF.out, if_neg (by omega), if_neg h1, if_neg (by omega), show ch.toNat % 128 = ch.toNat by omega])
            have d0 : ((ch.toNat : Int) == 0) = false := by simpa using h0
            go_wp2_with fail
            go_ret3
            rw [HN.out]; exact ⟨ret3 (by omega), rfl⟩
    · obtain rfl : k = b.length := by omega
      have HN := Lib.hid (show lengthP b = (0, 0, 4) by rw [← hF, List.drop_length]; rfl)
      clear hF
      go_wp2_with fail
      go_ret3
      rw [HN.out]; exact ⟨rfl, rfl⟩
def sizeS (t : Value) : Nat := match t with | .string s => s.size | _ => 0
/-- what texts that have come and the rest's make together -/
def joinP (d : List (List UInt8)) (r : List (List UInt8) × Int) : List (List UInt8) × Int := if r.2 ≠ 0 then ([], r.2) else (d ++ r.1, 0)
theorem joinP_err {d : List (List UInt8)} {r : List (List UInt8) × Int} (h : r.2 ≠ 0) : joinP d r = ([], r.2) := if_pos h
theorem joinP_ok {d : List (List UInt8)} {r : List (List UInt8) × Int} (h : r.2 = 0) : joinP d r = (d ++ r.1, 0) := if_neg (by simpa using h)
theorem textsP_join (d : List (List UInt8)) (b : List UInt8) (hb : b ≠ []) (he : (lengthP b).2.2 = 0) (hl : ¬ (b.drop (lengthP b).2.1).length < (lengthP b).1) :
    joinP d (textsP b) = joinP (d ++ [(b.drop (lengthP b).2.1).take (lengthP b).1]) (textsP ((b.drop (lengthP b).2.1).drop (lengthP b).1)) := by
  rw [textsP_step b hb, if_neg (by simpa using he), if_neg hl]
  by_cases h : (textsP ((b.drop (lengthP b).2.1).drop (lengthP b).1)).2 = 0
  · rw [if_neg (by simpa using h), joinP_ok rfl, joinP_ok h]; simp
  · rw [if_pos h]; exact (joinP_err (r := ([], _)) h).trans (joinP_err h).symm
theorem joinP_nil (b : List UInt8) : joinP [] (textsP b) = textsP b := by
  by_cases h : (textsP b).2 = 0
  · rw [joinP_ok h]; exact Prod.ext rfl h.symm
  · rw [joinP_err h]; exact Prod.ext (textsP_err b h).symm rfl
set_option maxHeartbeats 1000000 in
set_option maxRecDepth 100000 in
theorem texts_any (b : List UInt8) (w : World) (hb : b.length ≤ 1000000000) :
    Calls Try.prog 67 #[.string (str b)] w fun e w' => ∃ u, e = .returned (.tuple #[u, .int .i64 (textsP b).2]) ∧ Ext w w' ∧ w'.ownsRow w.heap.size 9 1 u (textsP b).1.length (strL (textsP b).1) := by
  have hz := str_size
  have hse := str_ext
  obtain ⟨i0, hi, hz0, hz1, hz2⟩ := info_parts strInfo
  go_enter Try.func67, Try.ntmps67
  go_wp2_with fail
  go_loopw [0, 4, 5, 6, 7] (fun t l _ _ _ wr => ∃ (d : List (List UInt8)) (r : List UInt8), t = .string (str r) ∧ wr.ownsRow w.heap.size 9 1 l d.length (strL d) ∧ Ext w wr ∧ d.length + r.length ≤ b.length ∧ joinP d (textsP r) = textsP b) (fun t _ _ _ _ _ => sizeS t)
  case atStart => exact ⟨[], b, rfl, World.ownsRow_nil _ _ _ _, Ext.refl _, by simp, joinP_nil b⟩
  case round =>
    obtain ⟨d, r, rfl, hown, hx, hle, hj⟩ := hrel
    have hxs := hx.size
    by_cases hr : r = []
    · subst hr
      have HJ := Lib.hid (show textsP b = (d, 0) by rw [← hj, textsP_nil, joinP_ok rfl]; simp)
      clear hj
      have hl0 : ([] : List UInt8).length = 0 := rfl
      go_wp2_with fail
      go_ret2
      rw [HJ.out]
      exact ⟨_, rfl, hx, hown⟩
    · have hrp : 0 < r.length := List.length_pos_iff.2 hr
      have HL := Lib.hid (fun w => length_any r w (by omega))
      by_cases he : (lengthP r).2.2 = 0
      · have hu := lengthP_used r he
        have HE := Lib.hid he
        by_cases hs : (r.drop (lengthP r).2.1).length < (lengthP r).1
        · have HJ := Lib.hid (show textsP b = ([], 4) by rw [← hj, textsP_step r hr, if_neg (by simpa using he), if_pos hs, joinP_err (by decide)])
          clear hj he
          go_wp2_with fail
          refine (HL.out _).mono ?_
          rintro e w1 ⟨rfl, rfl⟩
          rw [HE.out]
          rw [List.length_drop] at hs
          generalize (lengthP r).1 = n at *
          generalize (lengthP r).2.1 = u at *
          have hs' : ((r.length - u : Nat) : Int) < (n : Int) := by omega
          go_wp2_with fail
          go_ret2
          rw [HJ.out]
          exact ⟨_, rfl, hx, World.ownsRow_nil _ _ _ _⟩
        · have HJ := Lib.hid ((textsP_join d r hr he hs).symm.trans hj)
          clear hj he
          go_wp2_with fail
          refine (HL.out _).mono ?_
          rintro e w1 ⟨rfl, rfl⟩
          rw [HE.out]
          rw [List.length_drop] at hs
          generalize (lengthP r).1 = n at *
          generalize (lengthP r).2.1 = u at *
          have hs' : ¬ ((r.length - u : Nat) : Int) < (n : Int) := by omega
          have e1 : List.take (r.length - u) (List.drop u r) = List.drop u r := List.take_of_length_le (by rw [List.length_drop]; omega)
          go_wp2_with (at_builtin; refine wpList_append_own _ rfl _ _ 24 rfl w.heap.size 9 i0 (.string ⟨#[]⟩) 1 16 Try.underlying24 hi hz0 hz1 hz2 rfl (by decide) _ _ _ rfl (hown.alloc _) ⟨wr.heap.size, 0, none⟩ 1 1 [.string (str (List.take n (List.drop u r)))] rfl rfl (new_cells _ _ _ _ rfl) (all_one rfl) (by unfold maxLen; omega) (by omega) (by simp; omega) ?_)
          intro v' w1 own1 hg1 _
          have hlo := @own_low wr w.heap.size 1 _ _ u4 _ hown
          have x1 : Ext w w1 := (hx.alloc _).grown hg1 (fun k e => hlo e)
          have own2 : w1.ownsRow w.heap.size 9 1 v' (d ++ [List.take n (List.drop u r)]).length (strL (d ++ [List.take n (List.drop u r)])) := by
            rw [show strL (d ++ [List.take n (List.drop u r)]) = strL d ++ [.string (str (List.take n (List.drop u r)))] by simp [strL], List.length_append]
            exact own1
          clear own1 hg1 hlo
          go_wp2_with fail
          go_roundw
          case rel =>
            refine ⟨_, List.drop n (List.drop u r), ?_, own2, x1, ?_, HJ.out⟩
            · rw [List.drop_drop, List.take_of_length_le (by rw [List.length_drop]; omega)]
            · simp only [List.length_append, List.length_drop, List.length_cons, List.length_nil]; omega
          case measure => simp only [sizeS, str_size, List.length_take, List.length_drop]; omega
      · have HJ := Lib.hid (show textsP b = ([], (lengthP r).2.2) by rw [← hj, textsP_step r hr, if_pos he, joinP_err he])
        clear hj
        have d1 : ((lengthP r).2.2 != 0) = true := by simpa using he
        have HE := Lib.hid he
        clear he
        go_wp2_with fail
        refine (HL.out _).mono ?_
        rintro e w1 ⟨rfl, rfl⟩
        generalize (lengthP r).2.2 = er at *
        go_wp2_with fail
        go_ret2
        rw [HJ.out]
        exact ⟨_, rfl, hx, World.ownsRow_nil _ _ _ _⟩
end Go.Proofs.Ytmcoepkopfcbdaa
/- The walk of xattr.may; a text as bytes in new memory. -/
namespace Go.Proofs.Ytmcoepkopfcbdaa
open Go.RowKit

theorem bytesWorld_ext (w : World) (e : TypeId) (s : ByteArray) : Ext w (Lib.bytesWorld w e s) :=
  ⟨by simp [Lib.bytesWorld, World.freeze, World.alloc, World.drew, -World.alloc_eq, -World.drew_eq], by simp [Lib.bytesWorld, World.freeze, World.alloc, World.drew, -World.alloc_eq, -World.drew_eq], by simp [Lib.bytesWorld, World.freeze, World.alloc, World.drew, -World.alloc_eq, -World.drew_eq], by rw [Lib.bytesWorld_size]; omega, fun k hk => Lib.bytesWorld_at_old w e s k hk⟩
/-- []byte(s) -/
theorem wp_conv_bytes {ops : Array Oper} {rest : List Oper} {o : Oper} {a : Act} {Q : Exit → Act → World → Prop} {w : World} {s : List UInt8} (x : Operand) (hgd : o.guard = none) (ho : o.op = .convert 9 22 x) (hx : a.eval x = .string (str s))
    (hK : ∀ cap w', (∀ (j : Nat) (h : j < s.length), w'.cell? ⟨w.heap.size, j, none⟩ = some (.int .u8 (s[j].toNat : Int))) → Ext w w' → wpList Try.prog ops Q rest (a.put o.dst (.slice (some ⟨w.heap.size, 0, none⟩) s.length cap)) w') : wpList Try.prog ops Q (o :: rest) a w := by
  refine wpList_plain hgd fun K hK' => ?_
  have hr := Lib.run_convert_string_bytes (P := Try.prog) w 9 22 5 (str s) Try.underlying9 Try.underlying22 Try.underlying5
  unfold Oper.wp execOp
  simp only [ho, hx, Sem.run_bind, Sem.run_pure, Result.andThen_ok, hr]
  rw [str_size]
  refine hK' _ _ (hK _ _ (fun j hj => ?_) (bytesWorld_ext w _ _))
  rw [Lib.bytesWorld_cell w _ _ j (by rw [str_size]; exact hj), str_data]
  simp [hj]
/-- a byte that a name may have -/
def okC (c : UInt8) : Bool := decide (97 ≤ c.toNat ∧ c.toNat ≤ 122 ∨ 48 ≤ c.toNat ∧ c.toNat ≤ 57 ∨ c.toNat = 46 ∨ c.toNat = 95 ∨ c.toNat = 45)
def mayB (s : List UInt8) : Bool := decide (s ≠ []) && decide (s.length ≤ 24) && s.all okC
theorem may_bad {s : List UInt8} {k : Nat} (hk : k < s.length) (h : okC s[k] = false) : mayB s = false := by
  unfold mayB
  rw [show s.all okC = false from List.all_eq_false.2 ⟨s[k], List.getElem_mem hk, by rw [h]; simp⟩]; simp
set_option maxHeartbeats 2000000 in
set_option maxRecDepth 100000 in
theorem may_any (s : List UInt8) (w : World) (hs : s.length ≤ 1000000000) :
    Calls Try.prog 21 #[.string (str s)] w fun e w' => e = .returned (.bool (mayB s)) ∧ Ext w w' := by
  have hz := str_size
  by_cases h0 : s = []
  · subst h0
    have d1 : (str []).toList = [] := str_toList []
    go_enter Try.func21, Try.ntmps21
    go_wp2_with fail
    go_ret
    exact ⟨rfl, Ext.refl _⟩
  · have d1 : (str s).toList.isEmpty = false := by rw [str_toList]; cases s with
      | nil => exact absurd rfl h0
      | cons a l => rfl
    by_cases h1 : 24 < s.length
    · have HM := Lib.hid (show mayB s = false by unfold mayB; rw [show decide (s.length ≤ 24) = false by simp; omega]; simp)
      go_enter Try.func21, Try.ntmps21
      go_wp2_with fail
      go_ret
      rw [HM.out]
      exact ⟨rfl, Ext.refl _⟩
    · go_enter Try.func21, Try.ntmps21
      go_wp2_with (refine wp_conv_bytes (.tmp 12) rfl rfl rfl ?_; intro cap w1 hc1 x1; have HC := Lib.hid hc1; clear hc1)
      go_loop [4, 15, 19] (fun _ i _ => ∃ k : Nat, k ≤ s.length ∧ i = .int .i64 k ∧ ∀ (j : Nat) (h : j < s.length), j < k → okC s[j] = true) (fun _ i _ => s.length - (intOf i).toNat)
      case atStart => exact ⟨0, by omega, rfl, fun j _ h => by omega⟩
      case round =>
        obtain ⟨k, hk, rfl, hok⟩ := hrel
        have HO := Lib.hid hok
        clear hok
        by_cases hlt : k < s.length
        · have hck := HC.out k hlt
          have HB := Lib.hid (@may_bad s k hlt)
          have HN := Lib.hid (show okC s[k] = true → ∀ (j : Nat) (h : j < s.length), j < k + 1 → okC s[j] = true from fun h j hj hlt2 => by
            by_cases e : j < k
            · exact HO.out j hj e
            · obtain rfl : j = k := by omega
              exact h)
          have hcb := s[k].toNat_lt
          have HE : Hid (okC s[k] = decide (97 ≤ s[k].toNat ∧ s[k].toNat ≤ 122 ∨ 48 ≤ s[k].toNat ∧ s[k].toNat ≤ 57 ∨ s[k].toNat = 46 ∨ s[k].toNat = 95 ∨ s[k].toNat = 45)) := rfl
          generalize s[k] = ch at *
          rcases (by omega : (97 ≤ ch.toNat ∧ ch.toNat ≤ 122) ∨ (48 ≤ ch.toNat ∧ ch.toNat ≤ 57) ∨ (ch.toNat = 46) ∨ (ch.toNat = 95) ∨ (ch.toNat = 45) ∨ (123 ≤ ch.toNat) ∨ (58 ≤ ch.toNat ∧ ch.toNat ≤ 96 ∧ ch.toNat ≠ 95) ∨ (ch.toNat ≤ 47 ∧ ch.toNat ≠ 46 ∧ ch.toNat ≠ 45)) with hc | hc | hc | hc | hc | hc | hc | hc
          · have hyes : okC ch = true := by rw [HE.out]; simp; omega
            clear HE
            go_wp2_with fail
            go_round
            case rel => exact ⟨k + 1, by omega, by go_num, HN.out hyes⟩
            case measure => simp [intOf]; omega
          · have hyes : okC ch = true := by rw [HE.out]; simp; omega
            clear HE
            go_wp2_with fail
            go_round
            case rel => exact ⟨k + 1, by omega, by go_num, HN.out hyes⟩
            case measure => simp [intOf]; omega
          · have hyes : okC ch = true := by rw [HE.out]; simp; omega
            have e46 : ((ch.toNat : Int) == 46) = true := by simp; omega
            have hi : (ch.toNat : Int) < 97 := by omega
            have hi2 : ¬ (97 : Int) ≤ (ch.toNat : Int) := by omega
            clear HE
            go_wp2_with fail
            go_round
            case rel => exact ⟨k + 1, by omega, by go_num, HN.out hyes⟩
            case measure => simp [intOf]; omega
          · have hyes : okC ch = true := by rw [HE.out]; simp; omega
            have e46 : ((ch.toNat : Int) == 46) = false := by simp; omega
            have e95 : ((ch.toNat : Int) == 95) = true := by simp; omega
            clear HE
            go_wp2_with fail
            go_round
            case rel => exact ⟨k + 1, by omega, by go_num, HN.out hyes⟩
            case measure => simp [intOf]; omega
          · have hyes : okC ch = true := by rw [HE.out]; simp; omega
            have e46 : ((ch.toNat : Int) == 46) = false := by simp; omega
            have e95 : ((ch.toNat : Int) == 95) = false := by simp; omega
            have e45 : ((ch.toNat : Int) == 45) = true := by simp; omega
            have hi : (ch.toNat : Int) < 97 := by omega
            have hi2 : ¬ (97 : Int) ≤ (ch.toNat : Int) := by omega
            clear HE
            go_wp2_with fail
            go_round
            case rel => exact ⟨k + 1, by omega, by go_num, HN.out hyes⟩
            case measure => simp [intOf]; omega
          · have hno : okC ch = false := by rw [HE.out]; simp; omega
            have e46 : ((ch.toNat : Int) == 46) = false := by simp; omega
            have e95 : ((ch.toNat : Int) == 95) = false := by simp; omega
            have e45 : ((ch.toNat : Int) == 45) = false := by simp; omega
            clear HE
            go_wp2_with fail
            go_ret
            rw [HB.out hno]
            exact ⟨rfl, x1⟩
          · have hno : okC ch = false := by rw [HE.out]; simp; omega
            have e46 : ((ch.toNat : Int) == 46) = false := by simp; omega
            have e95 : ((ch.toNat : Int) == 95) = false := by simp; omega
            have e45 : ((ch.toNat : Int) == 45) = false := by simp; omega
            clear HE
            go_wp2_with fail
            go_ret
            rw [HB.out hno]
            exact ⟨rfl, x1⟩
          · have hno : okC ch = false := by rw [HE.out]; simp; omega
            have e46 : ((ch.toNat : Int) == 46) = false := by simp; omega
            have e95 : ((ch.toNat : Int) == 95) = false := by simp; omega
            have e45 : ((ch.toNat : Int) == 45) = false := by simp; omega
            clear HE
            go_wp2_with fail
            go_ret
            rw [HB.out hno]
            exact ⟨rfl, x1⟩
        · obtain rfl : k = s.length := by omega
          have HM := Lib.hid (show mayB s = true by
            unfold mayB
            rw [show s.all okC = true from List.all_eq_true.2 (fun c hc => by obtain ⟨j, hj, rfl⟩ := List.getElem_of_mem hc; exact HO.out j hj hj)]
            simp [h0]; omega)
          go_wp2_with fail
          go_ret
          rw [HM.out]
          exact ⟨rfl, x1⟩
end Go.Proofs.Ytmcoepkopfcbdaa
/- Rows of attributes in memory; the walks of xattr.row and xattr.block. -/
namespace Go.Proofs.Ytmcoepkopfcbdaa
open Go.RowKit

abbrev Att := List UInt8 × List UInt8
/-- attributes as cells -/
def attL (l : List Att) : List Value := l.flatMap fun x => [Value.string (str x.1), Value.string (str x.2)]
theorem attL_len (l : List Att) : (attL l).length = l.length * 2 := by
  induction l with
  | nil => rfl
  | cons x l ih =>
    have : attL (x :: l) = Value.string (str x.1) :: Value.string (str x.2) :: attL l := rfl
    rw [this]; simp only [List.length_cons, ih]; omega
theorem attL_at : ∀ (l : List Att) (j : Nat) (h : j < l.length), (attL l)[j * 2]? = some (.string (str l[j].1)) ∧ (attL l)[j * 2 + 1]? = some (.string (str l[j].2))
  | x :: l, 0, _ => ⟨rfl, rfl⟩
  | x :: l, j + 1, h => by
    have e : attL (x :: l) = Value.string (str x.1) :: Value.string (str x.2) :: attL l := rfl
    have ih := attL_at l j (by simpa using h)
    rw [e, show (j + 1) * 2 = j * 2 + 1 + 1 by omega]
    simp only [List.getElem?_cons_succ]
    exact ih
theorem attL_append (a b : List Att) : attL (a ++ b) = attL a ++ attL b := by simp [attL]
theorem attL_one (l : List Att) : ∀ u ∈ attL l, u.oneCell' = true := by
  intro u hu
  simp only [attL, List.mem_flatMap, List.mem_cons, List.not_mem_nil, or_false] at hu
  obtain ⟨x, _, h | h⟩ := hu <;> (rw [h]; rfl)
/-- the slice with the address A and n places holds these attributes -/
def Atts (w : World) (A : Option Addr) (n : Nat) (l : List Att) : Prop :=
  n = l.length ∧ (0 < n → ∃ b o, A = some ⟨b, o, none⟩ ∧ ∀ (j : Nat) (h : j < l.length), w.cell? ⟨b, o + j * 2, none⟩ = some (.string (str l[j].1)) ∧ w.cell? ⟨b, o + j * 2 + 1, none⟩ = some (.string (str l[j].2)))
theorem Atts.ext {w w' : World} {A : Option Addr} {n : Nat} {l : List Att} (h : Atts w A n l) (k : Ext w w') : Atts w' A n l :=
  ⟨h.1, fun hn => by obtain ⟨b, o, e, hc⟩ := h.2 hn; exact ⟨b, o, e, fun j hj => ⟨k.keep (hc j hj).1, k.keep (hc j hj).2⟩⟩⟩
theorem attInfo : (Try.prog.info? 44).map (fun i => (i.zero, i.size, i.bytes)) = some (some (.agg #[.string ⟨#[]⟩, .string ⟨#[]⟩]), 2, 32) := by kernel_rfl
/-- a row of attributes of the call's own -/
def OwnA (w : World) (base : Nat) (u : Value) (l : List Att) : Prop := w.ownsRow base 44 2 u l.length (attL l)
theorem OwnA.nil (w : World) (base : Nat) : OwnA w base (.slice none 0 0) [] := World.ownsRow_nil _ _ _ _
theorem OwnA.ext {w w' : World} {base : Nat} {u : Value} {l : List Att} (h : OwnA w base u l) (k : Ext w w') : OwnA w' base u l := own_ext h k
theorem OwnA.base {w : World} {base base' : Nat} {u : Value} {l : List Att} (h : OwnA w base u l) (k : base' ≤ base) : OwnA w base' u l := own_base h k
theorem OwnA.form {w : World} {base : Nat} {u : Value} {l : List Att} (h : OwnA w base u l) : ∃ A cap, u = .slice A l.length cap ∧ Atts w A l.length l := by
  rcases h.2 with ⟨rfl, h0⟩ | ⟨g, cap, cur, rfl, hb, hh, hcap, _, hsz, htake⟩
  · exact ⟨none, 0, by rw [h0], rfl, fun hn => by omega⟩
  · refine ⟨_, cap, rfl, rfl, fun hn => ⟨g, 0, rfl, fun j hj => ?_⟩⟩
    have hc : ∀ i, i < 2 * l.length → w.cell? ⟨g, 0 + i, none⟩ = (attL l)[i]? := fun i hi => by
      rw [Nat.zero_add, cell_of_row w g i cur _ _ hh, ← htake, List.getElem?_take, if_pos (by omega)]; simp
    have := attL_at l j hj
    exact ⟨(hc _ (by omega)).trans this.1, (by rw [Nat.add_assoc]; exact (hc _ (by omega)).trans this.2)⟩
theorem OwnA.blk {w : World} {base : Nat} {A : Option Addr} {n cap : Nat} {l : List Att} (h : OwnA w base (.slice A n cap) l) (hn : 0 < l.length) : ∃ g, A = some ⟨g, 0, none⟩ ∧ base ≤ g ∧ n = l.length := by
  rcases h.2 with ⟨_, h0⟩ | ⟨g, cap, cur, e, hb, _⟩
  · omega
  · injection e with e1 e2 e3
    exact ⟨g, e1, hb, e2⟩
/-- the texts of attributes, names and values in turn -/
def flatA (l : List Att) : List (List UInt8) := l.flatMap fun x => [x.1, x.2]
theorem flatA_take (l : List Att) (k : Nat) (h : k < l.length) : flatA (l.take (k + 1)) = flatA (l.take k) ++ [l[k].1, l[k].2] := by
  unfold flatA; rw [List.take_succ_eq_append_getElem h, List.flatMap_append]; rfl
theorem flatA_len (l : List Att) : (flatA l).length = 2 * l.length := by
  induction l with
  | nil => rfl
  | cons x l ih =>
    have e : flatA (x :: l) = x.1 :: x.2 :: flatA l := rfl
    rw [e]; simp only [List.length_cons, ih]; omega
def rowA (l : List Att) : List UInt8 := rowL (flatA l)
set_option maxHeartbeats 1000000 in
set_option maxRecDepth 100000 in
theorem xrow_any (A : Option Addr) (n c : Nat) (l : List Att) (w : World) (hs : Atts w A n l) (hsum : sumL (flatA l) ≤ 1000000000) (hn : n ≤ 400000) :
    Calls Try.prog 26 #[.slice A n c] w fun e w' => e = .returned (.string (str (rowA l))) ∧ Ext w w' := by
  obtain rfl := hs.1
  obtain ⟨i0, hi, hz0, hz1, hz2⟩ := info_parts strInfo
  go_enter Try.func26, Try.ntmps26
  go_wp2_with fail
  go_loopw [3, 5, 8] (fun u _ i wr => ∃ k : Nat, k ≤ l.length ∧ i = .int .i64 k ∧ Ext w wr ∧ wr.ownsRow w.heap.size 9 1 u (2 * k) (strL (flatA (l.take k)))) (fun _ _ i _ => l.length - (intOf i).toNat)
  case atStart => exact ⟨0, by omega, rfl, Ext.refl _, World.ownsRow_nil _ _ _ _⟩
  case round =>
    obtain ⟨k, hk, rfl, hx, hown⟩ := hrel
    have hxs := hx.size
    by_cases hlt : k < l.length
    · obtain ⟨b, o, rfl, hcell⟩ := hs.2 (by omega)
      have hc1 := hx.keep (hcell k hlt).1
      have hc2 := hx.keep (hcell k hlt).2
      have HT := Lib.hid (flatA_take l k hlt)
      clear hcell
      generalize l[k] = at1 at *
      go_wp2_with (at_builtin; refine wpList_append_own _ rfl _ _ 24 rfl w.heap.size 9 i0 (.string ⟨#[]⟩) 1 16 Try.underlying24 hi hz0 hz1 hz2 rfl (by decide) _ _ _ rfl (own_ext hown (((Ext.refl wr).alloc _).alloc _)) ⟨wr.heap.size + 1, 0, none⟩ 2 2 [.string (str at1.1), .string (str at1.2)] rfl rfl ?c1 (all_one rfl) (by unfold maxLen; omega) (by omega) (by simp; omega) ?_)
      case c1 =>
        intro j u hj
        have := new_cells (wr.alloc (.cells #[.string (str at1.1), .string (str at1.2)] 44)) 9 #[.string (str at1.1), .string (str at1.2)] _ rfl j u hj
        rw [World.size_alloc] at this; exact this
      intro v' w1 own1 hg1 _
      have hlo := @own_low wr w.heap.size 1 _ _ u3 _ hown
      have x1 : Ext w w1 := ((hx.alloc _).alloc _).grown hg1 (fun k e => hlo e)
      have own2 : w1.ownsRow w.heap.size 9 1 v' (2 * (k + 1)) (strL (flatA (l.take (k + 1)))) := by
        rw [HT.out, show strL (flatA (l.take k) ++ [at1.1, at1.2]) = strL (flatA (l.take k)) ++ [.string (str at1.1), .string (str at1.2)] by simp [strL], show 2 * (k + 1) = 2 * k + 2 by omega]
        exact own1
      clear own1 hg1 hlo
      go_wp2_with fail
      go_roundw
      case rel => exact ⟨k + 1, by omega, by go_num, x1, own2⟩
      case measure => simp [intOf]; omega
    · obtain rfl : k = l.length := by omega
      have hst : Strs wr (match u3 with | .slice A _ _ => A | _ => none) (2 * l.length) (flatA (l.take l.length)) := by
        rcases hown.2 with ⟨rfl, h0⟩ | ⟨g, cap, cur, rfl, _⟩
        · have : l = [] := List.eq_nil_of_length_eq_zero (by omega)
          subst this; exact ⟨rfl, fun h => by simp at h⟩
        · exact Strs.own hown
      obtain ⟨A3, c3, rfl⟩ : ∃ A3 c3, u3 = .slice A3 (2 * l.length) c3 := by
        rcases hown.2 with ⟨rfl, h0⟩ | ⟨g, cap, cur, rfl, _⟩
        · exact ⟨none, 0, by rw [h0]⟩
        · exact ⟨_, _, rfl⟩
      have HR := Lib.hid (fun w h => row_any A3 (2 * l.length) c3 (flatA (l.take l.length)) w h (by rw [List.take_length]; exact hsum) (by omega))
      go_wp2_with fail
      refine (HR.out _ hst).mono ?_
      rintro e w1 ⟨rfl, x1⟩
      go_wp2_with fail
      go_ret
      exact ⟨rfl, hx.trans x1⟩
/-- a row's bytes as a block -/
def blockL (r : List UInt8) : List UInt8 := putL r.length 2 ++ r ++ zs (126 - r.length)
theorem blockL_len (r : List UInt8) (h : r.length ≤ 126) : (blockL r).length = 128 := by simp [blockL, putL_len, zs_len]; omega
set_option maxHeartbeats 400000 in
theorem block_any (r : List UInt8) (w : World) (hr : r.length ≤ 126) :
    Calls Try.prog 51 #[.string (str r)] w fun e w' => e = .returned (.string (str (blockL r))) ∧ Ext w w' := by
  have hz := str_size
  have hap := str_app
  have hpl := putL_len r.length 2
  have HP := Lib.hid (fun w => put_z (r.length : Int) 2 w (by omega) (by omega) (by simp; omega))
  have u1 : IntKind.u64.wrap (r.length : Int) = r.length := by rw [IntKind.wrap_u64]; omega
  go_enter Try.func51, Try.ntmps51
  go_wp2_with fail
  refine (HP.out _).mono ?_
  rintro e w1 ⟨rfl, x1⟩
  rw [show (2 : Int).toNat = 2 from rfl]
  go_wp2_with fail
  rw [show (128 - (2 + (r.length : Int))) = ((126 - r.length : Nat) : Int) by omega]
  refine (repeat_any (126 - r.length) _ (by omega)).mono ?_
  rintro e w2 ⟨rfl, x2⟩
  rw [show List.replicate (126 - r.length) (0 : UInt8) = zs (126 - r.length) from rfl]
  have hzl := zs_len
  go_wp2_with fail
  go_ret
  refine ⟨?_, x1.trans x2⟩
  exact ret_str (by simp [blockL])
end Go.Proofs.Ytmcoepkopfcbdaa
/- The walk of xattr.attributes. -/
namespace Go.Proofs.Ytmcoepkopfcbdaa
open Go.RowKit

abbrev ltB (a b : List UInt8) : Bool := Op.bytesLess a b
def pairsA : List (List UInt8) → List Att
  | a :: b :: l => (a, b) :: pairsA l
  | _ => []
/-- may the text at the place i be a name there? -/
def okAt (t : List (List UInt8)) (i : Nat) : Bool := mayB (t.getD i []) && (decide (i = 0) || ltB (t.getD (i - 2) []) (t.getD i []))
def okAll (t : List (List UInt8)) : Bool := (List.range (t.length / 2)).all fun j => okAt t (j * 2)
def rowOf (b : List UInt8) : List UInt8 := (b.drop 2).take (numL (b.take 2))
/-- the attributes that a block says, if it says some -/
def attrsB (b : List UInt8) : Bool := decide (numL (b.take 2) ≤ 126) && decide ((textsP (rowOf b)).2 = 0) && decide ((textsP (rowOf b)).1 ≠ []) && decide ((textsP (rowOf b)).1.length % 2 = 0) && decide (blockL (rowOf b) = b) && okAll (textsP (rowOf b)).1
def attrsP (b : List UInt8) : List Att := if attrsB b then pairsA (textsP (rowOf b)).1 else []
theorem pairsA_take : ∀ (t : List (List UInt8)) (j : Nat), j * 2 + 1 < t.length → pairsA (t.take (j * 2 + 2)) = pairsA (t.take (j * 2)) ++ [(t.getD (j * 2) [], t.getD (j * 2 + 1) [])]
  | a :: b :: l, 0, _ => by simp [pairsA]
  | a :: b :: l, j + 1, h => by
    have ih := pairsA_take l j (by simp at h; omega)
    have e1 : (a :: b :: l).take ((j + 1) * 2 + 2) = a :: b :: l.take (j * 2 + 2) := by
      rw [show (j + 1) * 2 + 2 = j * 2 + 2 + 1 + 1 by omega]; rfl
    have e2 : (a :: b :: l).take ((j + 1) * 2) = a :: b :: l.take (j * 2) := by
      rw [show (j + 1) * 2 = j * 2 + 1 + 1 by omega]; rfl
    have e3 : (a :: b :: l).getD ((j + 1) * 2) [] = l.getD (j * 2) [] := by rw [show (j + 1) * 2 = j * 2 + 1 + 1 by omega]; rfl
    have e4 : (a :: b :: l).getD ((j + 1) * 2 + 1) [] = l.getD (j * 2 + 1) [] := by rw [show (j + 1) * 2 + 1 = j * 2 + 1 + 1 + 1 by omega]; rfl
    rw [e1, e2, e3, e4]
    simp only [pairsA, ih, List.cons_append]
theorem pairsA_len : ∀ (t : List (List UInt8)), (pairsA t).length = t.length / 2
  | [] => rfl
  | [_] => by simp [pairsA]
  | a :: b :: l => by simp only [pairsA, List.length_cons, pairsA_len l]; omega
theorem own_strs {w : World} {base n : Nat} {u : Value} {ss : List (List UInt8)} (h : w.ownsRow base 9 1 u n (strL ss)) : ∃ A cap, u = .slice A n cap ∧ Strs w A n ss := by
  have hl : n = ss.length := by have := h.1; simpa [strL] using this.symm
  rcases h.2 with ⟨rfl, h0⟩ | ⟨g, cap, cur, rfl, _⟩
  · exact ⟨none, 0, by rw [h0], hl, fun hn => by omega⟩
  · exact ⟨_, _, rfl, Strs.own h⟩
theorem okAll_bad {t : List (List UInt8)} {j : Nat} (hj : j < t.length / 2) (h : okAt t (j * 2) = false) : okAll t = false := by
  unfold okAll
  rw [List.all_eq_false]
  exact ⟨j, List.mem_range.2 hj, by rw [h]; simp⟩
theorem okAll_bad2 {t : List (List UInt8)} {i : Nat} (hi : i < t.length) (hl : t.length % 2 = 0) (he : i % 2 = 0) (h : okAt t i = false) : okAll t = false :=
  okAll_bad (j := i / 2) (by omega) (by rw [show i / 2 * 2 = i by omega]; exact h)
theorem okAll_good {t : List (List UInt8)} (h : ∀ k, k < t.length → k % 2 = 0 → okAt t k = true) (hl : t.length % 2 = 0) : okAll t = true := by
  unfold okAll
  rw [List.all_eq_true]
  intro j hj
  rw [List.mem_range] at hj
  exact h (j * 2) (by omega) (by omega)
theorem pairsA_take2 {t : List (List UInt8)} {i : Nat} (he : i % 2 = 0) (hi : i + 1 < t.length) : pairsA (t.take (i + 2)) = pairsA (t.take i) ++ [(t.getD i [], t.getD (i + 1) [])] := by
  have := pairsA_take t (i / 2) (by omega)
  rw [show i / 2 * 2 = i by omega] at this
  exact this
theorem attrsB_of {b : List UInt8} (h1 : numL (b.take 2) ≤ 126) (h2 : (textsP (rowOf b)).2 = 0) (h3 : (textsP (rowOf b)).1 ≠ []) (h4 : (textsP (rowOf b)).1.length % 2 = 0) (h5 : blockL (rowOf b) = b) : attrsB b = okAll (textsP (rowOf b)).1 := by
  simp [attrsB, h1, h2, h3, h4, h5]
theorem attrsB_no {b : List UInt8} (h : 126 < numL (b.take 2) ∨ (textsP (rowOf b)).2 ≠ 0 ∨ (textsP (rowOf b)).1 = [] ∨ (textsP (rowOf b)).1.length % 2 ≠ 0 ∨ blockL (rowOf b) ≠ b) : attrsB b = false := by
  unfold attrsB
  rcases h with h | h | h | h | h
  · rw [show decide (numL (b.take 2) ≤ 126) = false by simp; omega]; simp
  · rw [show decide ((textsP (rowOf b)).2 = 0) = false by simpa using h]; simp
  · rw [show decide ((textsP (rowOf b)).1 ≠ []) = false by simpa using h]; simp
  · rw [show decide ((textsP (rowOf b)).1.length % 2 = 0) = false by simpa using h]; simp
  · rw [show decide (blockL (rowOf b) = b) = false by simpa using h]; simp
theorem attrsP_no {b : List UInt8} (h : attrsB b = false) : attrsP b = [] := by unfold attrsP; rw [h]; rfl
theorem attrsP_yes {b : List UInt8} (h : attrsB b = true) : attrsP b = pairsA (textsP (rowOf b)).1 := by unfold attrsP; rw [h]; rfl
set_option maxHeartbeats 2000000 in
set_option maxRecDepth 100000 in
theorem attributes_any (b : List UInt8) (w : World) (hb : b.length = 128) :
    Calls Try.prog 44 #[.string (str b)] w fun e w' => ∃ u, e = .returned (.tuple #[u, .bool (attrsB b)]) ∧ Ext w w' ∧ OwnA w' w.heap.size u (attrsP b) := by
  have hz := str_size
  have hsz : (str b).size = 128 := by rw [str_size, hb]
  have hnl := numL_lt (b.take 2)
  have hl2 : (b.take 2).length = 2 := by simp; omega
  rw [hl2] at hnl
  have hnl' : numL (b.take 2) < 65536 := by simpa using hnl
  have HG := Lib.hid (fun w => get_z (b.take 2) w (by omega))
  have hse := str_ext
  have hrl : (rowOf b).length ≤ 126 := by simp [rowOf]; omega
  by_cases h1 : 126 < numL (b.take 2)
  · have HN := Lib.hid (attrsB_no (Or.inl h1))
    have hx1 : (126 : Int) < (numL (b.take 2) : Int) := by omega
    go_enter Try.func44, Try.ntmps44
    go_wp2_with fail
    refine (HG.out _).mono ?_
    rintro e w1 ⟨rfl, rfl⟩
    generalize numL (b.take 2) = n at *
    go_wp2_with fail
    go_ret2
    rw [attrsP_no HN.out, HN.out]
    exact ⟨_, rfl, Ext.refl _, OwnA.nil _ _⟩
  have hro : (b.drop 2).take (numL (b.take 2)) = rowOf b := rfl
  have HT := Lib.hid (fun w => texts_any (rowOf b) w (by omega))
  have HBk := Lib.hid (fun w => block_any (rowOf b) w hrl)
  have HNo := Lib.hid (@attrsB_no b)
  have HYes := Lib.hid (@attrsB_of b)
  have HP := Lib.hid (@attrsP_yes b)
  have HQ := Lib.hid (@attrsP_no b)
  have htl := textsP_len (rowOf b)
  have hx1 : ¬ (126 : Int) < (numL (b.take 2) : Int) := by omega
  go_enter Try.func44, Try.ntmps44
  go_wp2_with fail
  refine (HG.out _).mono ?_
  rintro e w1 ⟨rfl, rfl⟩
  generalize hnn : numL (b.take 2) = n at *
  have e2 : 2 + n - 2 = n := by omega
  go_wp2_with fail
  refine (HT.out _).mono ?_
  rintro e w2 ⟨u, rfl, x2, own2⟩
  obtain ⟨A, cap, rfl, st2⟩ := own_strs own2
  clear HT
  generalize rowOf b = r at *
  generalize htp : textsP r = tp at *
  obtain ⟨tx, er⟩ := tp
  simp only at own2 st2 htl HNo HYes HP ⊢
  clear htp
  by_cases c1 : er = 0
  case neg =>
    have HN := Lib.hid (HNo.out (Or.inr (Or.inl c1)))
    have d1 : (er != 0) = true := by simpa using c1
    clear c1 HYes HP HNo htl
    go_wp2_with fail
    go_ret2
    rw [HQ.out HN.out, HN.out]
    exact ⟨_, rfl, x2, OwnA.nil _ _⟩
  subst c1
  by_cases c2 : tx = []
  · have HN := Lib.hid (HNo.out (Or.inr (Or.inr (Or.inl c2))))
    have d2 : ((tx.length : Int) == 0) = true := by simp [c2]
    clear c2 HYes HP HNo htl
    go_wp2_with fail
    go_ret2
    rw [HQ.out HN.out, HN.out]
    exact ⟨_, rfl, x2, OwnA.nil _ _⟩
  have c2' : tx.length ≠ 0 := fun h => c2 (List.eq_nil_of_length_eq_zero h)
  have d2 : ((tx.length : Int) == 0) = false := by simpa using c2
  by_cases c3 : tx.length % 2 = 0
  case neg =>
    have HN := Lib.hid (HNo.out (Or.inr (Or.inr (Or.inr (Or.inl c3)))))
    have d3 : ((tx.length : Int) % 2 != 0) = true := by simp; omega
    clear c3 HYes HP HNo htl
    go_wp2_with fail
    go_ret2
    rw [HQ.out HN.out, HN.out]
    exact ⟨_, rfl, x2, OwnA.nil _ _⟩
  have d3 : ((tx.length : Int) % 2 != 0) = false := by simp; omega
  by_cases c4 : blockL r = b
  case neg =>
    have HN := Lib.hid (HNo.out (Or.inr (Or.inr (Or.inr (Or.inr c4)))))
    have d4 : ((str (blockL r)).toList == (str b).toList) = false := by rw [str_toList, str_toList]; simpa using c4
    clear c4 HYes HP HNo htl c3
    go_wp2_with fail
    refine (HBk.out _).mono ?_
    rintro e w3 ⟨rfl, x3⟩
    go_wp2_with fail
    go_ret2
    rw [HQ.out HN.out, HN.out]
    exact ⟨_, rfl, x2.trans x3, OwnA.nil _ _⟩
  have HY := Lib.hid (HYes.out (by omega) rfl c2 c3 c4)
  have d4 : ((str (blockL r)).toList == (str b).toList) = true := by rw [str_toList, str_toList, c4]; simp
  clear c4 HYes HNo
  go_wp2_with fail
  refine (HBk.out _).mono ?_
  rintro e w3 ⟨rfl, x3⟩
  go_wp2_with fail
  have st3 := st2.ext x3
  have own3 := own_ext own2 x3
  have x0 := x2.trans x3
  clear st2 own2 x2 x3 d4 HBk HG HQ
  obtain ⟨g, o, rfl, hcell⟩ := st3.2 (by omega)
  obtain ⟨i0, hi, hz0, hz1, hz2⟩ := info_parts attInfo
  have HCELL := Lib.hid hcell
  clear hcell
  obtain ⟨wo, rfl⟩ : ∃ wo : World, wo = w3 := ⟨_, rfl⟩
  go_loopw [8, 9] (fun v s wr => ∃ i : Nat, i ≤ tx.length ∧ i % 2 = 0 ∧ s = .int .i64 (i : Int) ∧ Ext wo wr ∧ wr.ownsRow wo.heap.size 44 2 v (i / 2) (attL (pairsA (tx.take i))) ∧ ∀ k, k < i → k % 2 = 0 → okAt tx k = true) (fun _ i _ => tx.length - (intOf i).toNat)
  case atStart => exact ⟨0, by omega, by omega, rfl, Ext.refl _, World.ownsRow_nil _ _ _ _, fun k h => by omega⟩
  case round =>
    obtain ⟨i, hi1, hi2, rfl, hx, hown, hok⟩ := hrel
    have HOK := Lib.hid hok
    clear hok
    have xr := x0.trans hx
    have hxs := xr.size
    by_cases hlt : i < tx.length
    · have hj1 : i + 1 < tx.length := by omega
      have g0 : tx.getD i [] = tx[i] := by simp [List.getD, hlt]
      have g1 : tx.getD (i + 1) [] = tx[i + 1] := by simp [List.getD, hj1]
      have k0 : ∀ y : Later wr, y.now.cell? ⟨g, o + i, none⟩ = some (.string (str (tx.getD i []))) := fun y => by rw [g0]; exact (hx.trans y.ext).keep (HCELL.out _ hlt)
      have k1 : ∀ y : Later wr, y.now.cell? ⟨g, o + (i + 1), none⟩ = some (.string (str (tx.getD (i + 1) []))) := fun y => by rw [g1]; exact (hx.trans y.ext).keep (HCELL.out _ hj1)
      have hm0 : (tx.getD i []).length ≤ 1000000000 := by rw [g0]; have := htl.2 _ (List.getElem_mem hlt); omega
      have HM := Lib.hid (fun w => may_any (tx.getD i []) w hm0)
      have HPT := Lib.hid (pairsA_take2 (t := tx) hi2 hj1)
      have HBAD := Lib.hid (@okAll_bad2 tx i hlt c3 hi2)
      have HAT : Hid (okAt tx i = (mayB (tx.getD i []) && (decide (i = 0) || ltB (tx.getD (i - 2) []) (tx.getD i [])))) := rfl
      have K2 : Hid (0 < i → ∀ y : Later wr, y.now.cell? ⟨g, o + (i - 2), none⟩ = some (.string (str (tx.getD (i - 2) [])))) := fun hp y => by
        have hp2 : i - 2 < tx.length := by omega
        have g2 : tx.getD (i - 2) [] = tx[i - 2] := by simp [List.getD, hp2]
        rw [g2]; exact (hx.trans y.ext).keep (HCELL.out _ hp2)
      clear g0 g1 hm0
      generalize tx.getD i [] = sb at *
      generalize tx.getD (i + 1) [] = sc at *
      generalize tx.getD (i - 2) [] = sa at *
      go_wp2_with fail
      go_cut [71] (fun s wx => s = .bool (!(okAt tx i)) ∧ Ext wr wx)
      case first =>
        clear k1 HPT HBAD HOK HCELL
        cases hm : mayB sb with
        | false =>
          have HV := Lib.hid (show okAt tx i = false by rw [HAT.out, hm]; rfl)
          rw [hm] at HM
          clear HAT hm
          refine wp_region_later (by kernel_rfl) (by kernel_rfl) ?_
          repeat (go_big_quiet_step ((with_reducible exact later_of (HM.out _))))
          refine wpQuiet_nil ?_
          rintro w5 ⟨y, rfl⟩
          go_wp2_with fail
          go_meet
          exact ⟨by rw [HV.out]; rfl, y.ext⟩
        | true =>
          rw [hm] at HM
          by_cases hj00 : i = 0
          · have HV := Lib.hid (show okAt tx i = true by rw [HAT.out, hm, hj00]; rfl)
            have hpos : decide ((0 : Int) < (i : Int)) = false := by simp; omega
            have hpos2 : decide (0 < i) = false := by simp; omega
            clear HAT hm hj00
            refine wp_region_later (by kernel_rfl) (by kernel_rfl) ?_
            repeat (go_big_quiet_step ((with_reducible exact later_of (HM.out _))))
            refine wpQuiet_nil ?_
            rintro w5 ⟨y, rfl⟩
            go_wp2_with fail
            go_meet
            exact ⟨by rw [HV.out]; rfl, y.ext⟩
          · have hpos : decide ((0 : Int) < (i : Int)) = true := by simp; omega
            have hpos2 : 0 < i := by omega
            have k2 := K2 (by omega)
            have t1 : IntKind.i64.wrap ((i : Int) - 2) = (i : Int) - 2 := IntWalk.i64_in _ (by omega)
            have t2 : (0 : Int) ≤ (i : Int) - 2 := by omega
            have t3 : ((i : Int) - 2).toNat = i - 2 := by omega
            have t4 : (i : Int) - 2 < (tx.length : Int) := by omega
            have t5 : (2 : Int) ≤ (i : Int) := by omega
            have t6 : 2 ≤ i := by omega
            cases hl : ltB sa sb with
            | false =>
              have HV := Lib.hid (show okAt tx i = false by rw [HAT.out, hm, hl]; simp; omega)
              have hl' : Op.bytesLess (str sa).toList (str sb).toList = false := by rw [str_toList, str_toList]; exact hl
              clear HAT hm hl
              refine wp_region_later (by kernel_rfl) (by kernel_rfl) ?_
              repeat (go_big_quiet_step ((with_reducible exact later_of (HM.out _))))
              refine wpQuiet_nil ?_
              rintro w5 ⟨y, rfl⟩
              go_wp2_with fail
              go_meet
              exact ⟨by rw [HV.out]; rfl, y.ext⟩
            | true =>
              have HV := Lib.hid (show okAt tx i = true by rw [HAT.out, hm, hl]; simp)
              have hl' : Op.bytesLess (str sa).toList (str sb).toList = true := by rw [str_toList, str_toList]; exact hl
              clear HAT hm hl
              refine wp_region_later (by kernel_rfl) (by kernel_rfl) ?_
              repeat (go_big_quiet_step ((with_reducible exact later_of (HM.out _))))
              refine wpQuiet_nil ?_
              rintro w5 ⟨y, rfl⟩
              go_wp2_with fail
              go_meet
              exact ⟨by rw [HV.out]; rfl, y.ext⟩
      case rest =>
        obtain ⟨rfl, hxc⟩ := hcut
        cases hv : okAt tx i with
        | false =>
          have HN := Lib.hid (show attrsB b = false by rw [HY.out]; exact HBAD.out hv)
          have HN2 := Lib.hid (attrsP_no HN.out)
          clear hv
          go_wp2_with fail
          go_ret2
          rw [HN2.out, HN.out]
          exact ⟨_, rfl, xr.trans hxc, OwnA.nil _ _⟩
        | true =>
          have HOK2 := Lib.hid (show ∀ k, k < i + 2 → k % 2 = 0 → okAt tx k = true from fun k hk he => by
            by_cases e : k < i
            · exact HOK.out k e he
            · obtain rfl : k = i := by omega
              exact hv)
          clear hv HBAD HM HAT K2 HOK
          have q0 : wc.drew.cell? ⟨g, o + i, none⟩ = some (.string (str sb)) := k0 ⟨wc, hxc⟩
          have q1 : wc.drew.cell? ⟨g, o + (i + 1), none⟩ = some (.string (str sc)) := k1 ⟨wc, hxc⟩
          have ownc : (wc.drew.alloc (.cells #[.string (str sb), .string (str sc)] 44)).ownsRow wo.heap.size 44 2 u8 (i / 2) (attL (pairsA (tx.take i))) := own_ext (own_ext hown hxc) (((Ext.refl wc).drew).alloc _)
          have HNEW := Lib.hid (World.news_of_block (w := wc.drew.alloc (.cells #[.string (str sb), .string (str sc)] 44)) (Box.new wc.drew 44 #[.string (str sb), .string (str sc)]))
          have hwc : wo.heap.size ≤ wc.heap.size := (hx.trans hxc).size
          have hlo := Lib.hid (show ∀ k, u8.ownBlock = some k → wo.heap.size ≤ k from fun k e => own_low hown e)
          have t1 : IntKind.i64.wrap ((i : Int) + 1) = (i : Int) + 1 := IntWalk.i64_in _ (by omega)
          have t2 : (0 : Int) ≤ (i : Int) + 1 := by omega
          have t3 : ((i : Int) + 1).toNat = i + 1 := by omega
          have t4 : (i : Int) + 1 < (tx.length : Int) := by omega
          clear k0 k1
          go_wp2_with fail
          go_region_law ((refine step_append_lies _ rfl (.tmp 72) (.tmp 83) 40 rfl wo.heap.size 44 i0 _ 2 32 Try.underlying40 hi hz0 hz1 hz2 rfl (by decide) u8 (i / 2) _ (by simp [Act.eval, Act.put]) ownc ⟨wc.heap.size, 0, none⟩ 1 1 [.string (str sb), .string (str sc)] (by simp [Act.eval, Act.put]) rfl HNEW.out (all_one rfl) (by decide) (by unfold maxLen; omega) (by omega) (by simp; omega) (wc.heap.size + 1) (by simp) ?_; intro g1 cap1 w6 own6 hg6 _ _))
          all_goals
            have xF : Ext wo w6 := ((hx.trans hxc).drew.alloc _).grown hg6 (fun k e => hlo.out k e)
            have ownF : w6.ownsRow wo.heap.size 44 2 (.slice (some ⟨g1, 0, none⟩) (i / 2 + 1) cap1) ((i + 2) / 2) (attL (pairsA (tx.take (i + 2)))) := by
              rw [HPT.out, attL_append, show (i + 2) / 2 = i / 2 + 1 by omega]
              exact own6
            clear own6 hg6 ownc HNEW t1 t2 t3 t4
            go_wp2_with fail
            go_roundw
            case rel => exact ⟨i + 2, by omega, by omega, by go_num, xF, ownF, HOK2.out⟩
            case measure => simp [intOf]; omega
    · obtain rfl : i = tx.length := by omega
      have HN := Lib.hid (show attrsB b = true by rw [HY.out]; exact okAll_good HOK.out c3)
      have HN2 := Lib.hid (HP.out HN.out)
      go_wp2_with fail
      go_ret2
      rw [HN2.out, HN.out]
      refine ⟨_, rfl, xr, ?_⟩
      unfold OwnA
      rw [pairsA_len]
      rw [List.take_length] at hown
      exact own_base hown x0.size
end Go.Proofs.Ytmcoepkopfcbdaa
/- Plain: the order of texts. -/
namespace Go.Proofs.Ytmcoepkopfcbdaa

theorem u8_lt_iff (a b : UInt8) : a < b ↔ a.toNat < b.toNat := UInt8.lt_iff_toNat_lt
theorem u8_eq_iff (a b : UInt8) : a = b ↔ a.toNat = b.toNat := ⟨fun h => by rw [h], fun h => UInt8.toNat.inj h⟩
theorem ltB_irrefl : ∀ a : List UInt8, ltB a a = false
  | [] => rfl
  | c :: a => by
    have := ltB_irrefl a
    simp only [Op.bytesLess, u8_lt_iff, Nat.lt_irrefl, decide_false, Bool.false_or, beq_self_eq_true, Bool.true_and]; exact this
theorem ltB_cons (c d : UInt8) (a b : List UInt8) : ltB (c :: a) (d :: b) = true ↔ c.toNat < d.toNat ∨ (c.toNat = d.toNat ∧ ltB a b = true) := by
  simp only [Op.bytesLess, u8_lt_iff, Bool.or_eq_true, decide_eq_true_eq, Bool.and_eq_true, beq_iff_eq, u8_eq_iff]
theorem ltB_trans : ∀ (a b c : List UInt8), ltB a b = true → ltB b c = true → ltB a c = true
  | _, _, [], _, h => by simp [Op.bytesLess] at h
  | _, [], _ :: _, h, _ => by simp [Op.bytesLess] at h
  | [], _ :: _, _ :: _, _, _ => rfl
  | x :: a, y :: b, z :: c, h1, h2 => by
    rw [ltB_cons] at *
    rcases h1 with h1 | ⟨e1, h1⟩ <;> rcases h2 with h2 | ⟨e2, h2⟩
    · exact .inl (by omega)
    · exact .inl (by omega)
    · exact .inl (by omega)
    · exact .inr ⟨by omega, ltB_trans a b c h1 h2⟩
theorem ltB_tri : ∀ (a b : List UInt8), ltB a b = false → ltB b a = false → a = b
  | [], [], _, _ => rfl
  | [], _ :: _, h, _ => by simp [Op.bytesLess] at h
  | _ :: _, [], _, h => by simp [Op.bytesLess] at h
  | x :: a, y :: b, h1, h2 => by
    have h1' : ¬ ltB (x :: a) (y :: b) = true := by rw [h1]; simp
    have h2' : ¬ ltB (y :: b) (x :: a) = true := by rw [h2]; simp
    rw [ltB_cons] at h1' h2'
    have e : x.toNat = y.toNat := by omega
    have ha : ltB a b = false := by cases h : ltB a b with
      | false => rfl
      | true => exact absurd (Or.inr ⟨e, h⟩) h1'
    have hb : ltB b a = false := by cases h : ltB b a with
      | false => rfl
      | true => exact absurd (Or.inr ⟨e.symm, h⟩) h2'
    rw [(u8_eq_iff x y).2 e, ltB_tri a b ha hb]
theorem ltB_asymm (a b : List UInt8) (h : ltB a b = true) : ltB b a = false := by
  cases h' : ltB b a with
  | false => rfl
  | true => have := ltB_trans a b a h h'; rw [ltB_irrefl] at this; cases this
theorem cmp_ltB : ∀ (a b : List UInt8), decide (Lib.compareBytes a b < 0) = ltB a b
  | [], [] => rfl
  | [], _ :: _ => rfl
  | _ :: _, [] => rfl
  | x :: a, y :: b => by
    have ih := cmp_ltB a b
    unfold Lib.compareBytes
    simp only [Op.bytesLess]
    by_cases h : x < y
    · simp [h]
    · by_cases h2 : y < x
      · have hne : ¬ x = y := by intro e; subst e; exact h h2
        simp [h, h2, hne]
      · have e : x = y := (u8_eq_iff x y).2 (by rw [u8_lt_iff] at h h2; omega)
        subst e
        simp [h, ih]
/-- names in rising order -/
def Rising (l : List Att) : Prop := l.Pairwise fun x y => ltB x.1 y.1 = true
end Go.Proofs.Ytmcoepkopfcbdaa
/- The walks of xattr.of, opened, List and Get on a volume that is one. -/
namespace Go.Proofs.Ytmcoepkopfcbdaa
open Go.RowKit

theorem str_beq (a b : List UInt8) : ((str a).toList == (str b).toList) = (a == b) := by rw [str_toList, str_toList]
set_option maxHeartbeats 400000 in
theorem of1_any (g : Nat) (a b name : List UInt8) (w : World) (h : w.cell? ⟨g, 0, none⟩ = some (.string (str name))) :
    Calls Try.prog 46 #[.agg #[.string (str a), .string (str b)], .pointer (some ⟨g, 0, none⟩)] w fun e w' => e = .returned (.bool (a == name)) ∧ Ext w w' := by
  have hlt : g < w.heap.size := World.block_lt_of_cell? w _ h
  have hb := str_beq
  have hc : (w.alloc (.cells #[.string (str a), .string (str b)] 44)).cell? ⟨g, 0, none⟩ = some (.string (str name)) := ((Ext.refl w).alloc _).keep h
  go_enter Try.func46, Try.ntmps46
  go_wp2_with fail
  go_ret
  exact ⟨rfl, (Ext.refl w).alloc _⟩
/-- the place of a name -/
def idxA (l : List Att) (name : List UInt8) : Int := match l.findIdx? (fun x => x.1 == name) with | some i => i | none => -1
theorem idxA_yes {l : List Att} {name : List UInt8} {i : Nat} (hi : i < l.length) (h : (l[i].1 == name) = true) (hn : ∀ (j : Nat) (hj : j < l.length), j < i → (l[j].1 == name) = false) : idxA l name = i := by
  have : l.findIdx? (fun x => x.1 == name) = some i := List.findIdx?_eq_some_iff_getElem.2 ⟨hi, h, fun j hj => by rw [hn j (by omega) hj]; simp⟩
  unfold idxA; rw [this]
theorem idxA_no {l : List Att} {name : List UInt8} (hn : ∀ (j : Nat) (hj : j < l.length), (l[j].1 == name) = false) : idxA l name = -1 := by
  have : l.findIdx? (fun x => x.1 == name) = none := by
    rw [List.findIdx?_eq_none_iff]
    intro x hx
    obtain ⟨j, hj, rfl⟩ := List.getElem_of_mem hx
    exact hn j hj
  unfold idxA; rw [this]
set_option maxHeartbeats 1000000 in
set_option maxRecDepth 100000 in
theorem index_any (A : Option Addr) (n c g : Nat) (l : List Att) (name : List UInt8) (w : World) (hs : Atts w A n l) (hn : n ≤ 1000000) (hg : w.cell? ⟨g, 0, none⟩ = some (.string (str name))) :
    Calls Try.prog 45 #[.slice A n c, .func (.func 46) #[] #[.pointer (some ⟨g, 0, none⟩)]] w fun e w' => e = .returned (.int .i64 (idxA l name)) ∧ Ext w w' := by
  obtain rfl := hs.1
  go_enter Try.func45, Try.ntmps45
  go_wp2_with fail
  go_loopw [5, 8] (fun _ s wr => ∃ k : Nat, k ≤ l.length ∧ s = .int .i64 (k : Int) ∧ Ext w wr ∧ ∀ (j : Nat) (hj : j < l.length), j < k → (l[j].1 == name) = false) (fun _ s _ => l.length - (intOf s).toNat)
  case atStart => exact ⟨0, by omega, rfl, Ext.refl _, fun j _ h => by omega⟩
  case round =>
    obtain ⟨k, hk, rfl, hx, hno⟩ := hrel
    have HNO := Lib.hid hno
    clear hno
    by_cases hlt : k < l.length
    · obtain ⟨b, o, rfl, hcell⟩ := hs.2 (by omega)
      have c1 := hx.keep (hcell k hlt).1
      have c2 := hx.keep (hcell k hlt).2
      have HY := Lib.hid (fun h => @idxA_yes l name k hlt h HNO.out)
      have HN := Lib.hid (show (l[k].1 == name) = false → ∀ (j : Nat) (hj : j < l.length), j < k + 1 → (l[j].1 == name) = false from fun h j hj hlt2 => by
        by_cases e : j < k
        · exact HNO.out j hj e
        · obtain rfl : j = k := by omega
          exact h)
      have HO := Lib.hid (fun w h => of1_any g l[k].1 l[k].2 name w h)
      clear hcell HNO
      generalize l[k] = at1 at *
      go_wp2_with fail
      refine (HO.out _ (hx.keep hg)).mono ?_
      rintro e w1 ⟨rfl, x1⟩
      cases hb : (at1.1 == name) with
      | true =>
        have HV := Lib.hid (HY.out hb)
        clear hb
        go_wp2_with fail
        go_ret
        rw [HV.out]
        exact ⟨rfl, hx.trans x1⟩
      | false =>
        have HV := Lib.hid (HN.out hb)
        clear hb
        go_wp2_with fail
        go_roundw
        case rel => exact ⟨k + 1, by omega, by go_num, hx.trans x1, HV.out⟩
        case measure => simp [intOf]; omega
    · obtain rfl : k = l.length := by omega
      have HV := Lib.hid (@idxA_no l name (fun j hj => HNO.out j hj hj))
      go_wp2_with fail
      go_ret
      rw [HV.out]
      exact ⟨rfl, hx⟩
set_option maxHeartbeats 400000 in
theorem of_any (A : Option Addr) (n c : Nat) (l : List Att) (name : List UInt8) (w : World) (hs : Atts w A n l) (hn : n ≤ 1000000) :
    Calls Try.prog 22 #[.slice A n c, .string (str name)] w fun e w' => e = .returned (.int .i64 (idxA l name)) ∧ Ext w w' := by
  have x1 : Ext w (w.alloc (.cells #[.string (str name)] 9)) := (Ext.refl w).alloc _
  have HI := Lib.hid (index_any A n c w.heap.size l name _ (hs.ext x1) hn ((Box.new w 9 #[.string (str name)]).cell 0))
  go_enter Try.func22, Try.ntmps22
  go_wp2_with fail
  refine HI.out.mono ?_
  rintro e w1 ⟨rfl, x2⟩
  go_wp2_with fail
  go_ret
  exact ⟨rfl, x1.trans x2⟩
end Go.Proofs.Ytmcoepkopfcbdaa
