/- Rows of attributes in memory; the walks of xattr.row and xattr.block. -/
import Derived.Test.YtmcoepkopfcbdaaGreatMr8
import Derived.Test.YtmcoepkopfcbdaaGreatMr11
import Derived.Test.YtmcoepkopfcbdaaGreatMr10
namespace Go.Proofs.YtmcoepkopfcbdaaGreat
set_option linter.unusedVariables false
open Go.RowKit

abbrev Att := List UInt8 × List UInt8
/-- attributes as cells -/
def attL (l : List Att) : List Value := l.flatMap fun x => [Value.string (str x.1), Value.string (str x.2)]
theorem attL_len (l : List Att) : (attL l).length = l.length * 2 := by
  induction l with
  | nil => rfl
  | cons x l ih =>
    have : attL (x :: l) = Value.string (str x.1) :: Value.string (str x.2) :: attL l := rfl
    rw [this]; simp only [List.length_cons, ih]; omega
theorem attL_at : ∀ (l : List Att) (j : Nat) (h : j < l.length), (attL l)[j * 2]? = some (.string (str l[j].1)) ∧ (attL l)[j * 2 + 1]? = some (.string (str l[j].2))
  | x :: l, 0, _ => ⟨rfl, rfl⟩
  | x :: l, j + 1, h => by
    have e : attL (x :: l) = Value.string (str x.1) :: Value.string (str x.2) :: attL l := rfl
    have ih := attL_at l j (by simpa using h)
    rw [e, show (j + 1) * 2 = j * 2 + 1 + 1 by omega]
    simp only [List.getElem?_cons_succ]
    exact ih
theorem attL_append (a b : List Att) : attL (a ++ b) = attL a ++ attL b := by simp [attL]
theorem attL_one (l : List Att) : ∀ u ∈ attL l, u.oneCell' = true := by
  intro u hu
  simp only [attL, List.mem_flatMap, List.mem_cons, List.not_mem_nil, or_false] at hu
  obtain ⟨x, _, h | h⟩ := hu <;> (rw [h]; rfl)
/-- the slice with the address A and n places holds these attributes -/
def Atts (w : World) (A : Option Addr) (n : Nat) (l : List Att) : Prop :=
  n = l.length ∧ (0 < n → ∃ b o, A = some ⟨b, o, none⟩ ∧ ∀ (j : Nat) (h : j < l.length), w.cell? ⟨b, o + j * 2, none⟩ = some (.string (str l[j].1)) ∧ w.cell? ⟨b, o + j * 2 + 1, none⟩ = some (.string (str l[j].2)))
theorem Atts.ext {w w' : World} {A : Option Addr} {n : Nat} {l : List Att} (h : Atts w A n l) (k : Ext w w') : Atts w' A n l :=
  ⟨h.1, fun hn => by obtain ⟨b, o, e, hc⟩ := h.2 hn; exact ⟨b, o, e, fun j hj => ⟨k.keep (hc j hj).1, k.keep (hc j hj).2⟩⟩⟩
theorem attInfo : (Tryz.prog.info? 49).map (fun i => (i.zero, i.size, i.bytes)) = some (some (.agg #[.string ⟨#[]⟩, .string ⟨#[]⟩]), 2, 32) := by kernel_rfl
/-- a row of attributes of the call's own -/
def OwnA (w : World) (base : Nat) (u : Value) (l : List Att) : Prop := w.ownsRow base 49 2 u l.length (attL l)
theorem OwnA.nil (w : World) (base : Nat) : OwnA w base (.slice none 0 0) [] := World.ownsRow_nil _ _ _ _
theorem OwnA.ext {w w' : World} {base : Nat} {u : Value} {l : List Att} (h : OwnA w base u l) (k : Ext w w') : OwnA w' base u l := own_ext h k
theorem OwnA.base {w : World} {base base' : Nat} {u : Value} {l : List Att} (h : OwnA w base u l) (k : base' ≤ base) : OwnA w base' u l := own_base h k
theorem OwnA.form {w : World} {base : Nat} {u : Value} {l : List Att} (h : OwnA w base u l) : ∃ A cap, u = .slice A l.length cap ∧ Atts w A l.length l := by
  rcases h.2 with ⟨rfl, h0⟩ | ⟨g, cap, cur, rfl, hb, hh, hcap, _, hsz, htake⟩
  · exact ⟨none, 0, by rw [h0], rfl, fun hn => by omega⟩
  · refine ⟨_, cap, rfl, rfl, fun hn => ⟨g, 0, rfl, fun j hj => ?_⟩⟩
    have hc : ∀ i, i < 2 * l.length → w.cell? ⟨g, 0 + i, none⟩ = (attL l)[i]? := fun i hi => by
      rw [Nat.zero_add, cell_of_row w g i cur _ _ hh, ← htake, List.getElem?_take, if_pos (by omega)]; simp
    have := attL_at l j hj
    exact ⟨(hc _ (by omega)).trans this.1, (by rw [Nat.add_assoc]; exact (hc _ (by omega)).trans this.2)⟩
theorem OwnA.blk {w : World} {base : Nat} {A : Option Addr} {n cap : Nat} {l : List Att} (h : OwnA w base (.slice A n cap) l) (hn : 0 < l.length) : ∃ g, A = some ⟨g, 0, none⟩ ∧ base ≤ g ∧ n = l.length := by
  rcases h.2 with ⟨_, h0⟩ | ⟨g, cap, cur, e, hb, _⟩
  · omega
  · injection e with e1 e2 e3
    exact ⟨g, e1, hb, e2⟩
/-- the texts of attributes, names and values in turn -/
def flatA (l : List Att) : List (List UInt8) := l.flatMap fun x => [x.1, x.2]
theorem flatA_take (l : List Att) (k : Nat) (h : k < l.length) : flatA (l.take (k + 1)) = flatA (l.take k) ++ [l[k].1, l[k].2] := by
  unfold flatA; rw [List.take_succ_eq_append_getElem h, List.flatMap_append]; rfl
theorem flatA_len (l : List Att) : (flatA l).length = 2 * l.length := by
  induction l with
  | nil => rfl
  | cons x l ih =>
    have e : flatA (x :: l) = x.1 :: x.2 :: flatA l := rfl
    rw [e]; simp only [List.length_cons, ih]; omega
def rowA (l : List Att) : List UInt8 := rowL (flatA l)
set_option maxHeartbeats 1000000 in
set_option maxRecDepth 100000 in
theorem xrow_any (A : Option Addr) (n c : Nat) (l : List Att) (w : World) (hs : Atts w A n l) (hsum : sumL (flatA l) ≤ 1000000000) (hn : n ≤ 400000) :
    Calls Tryz.prog 22 #[.slice A n c] w fun e w' => e = .returned (.string (str (rowA l))) ∧ Ext w w' := by
  obtain rfl := hs.1
  obtain ⟨i0, hi, hz0, hz1, hz2⟩ := info_parts strInfo
  go_enter Tryz.func22, Tryz.ntmps22
  go_wp2_with fail
  go_loopw [3, 5, 8] (fun u _ i wr => ∃ k : Nat, k ≤ l.length ∧ i = .int .i64 k ∧ Ext w wr ∧ wr.ownsRow w.heap.size 9 1 u (2 * k) (strL (flatA (l.take k)))) (fun _ _ i _ => l.length - (intOf i).toNat)
  case atStart => exact ⟨0, by omega, rfl, Ext.refl _, World.ownsRow_nil _ _ _ _⟩
  case round =>
    obtain ⟨k, hk, rfl, hx, hown⟩ := hrel
    have hxs := hx.size
    by_cases hlt : k < l.length
    · obtain ⟨b, o, rfl, hcell⟩ := hs.2 (by omega)
      have hc1 := hx.keep (hcell k hlt).1
      have hc2 := hx.keep (hcell k hlt).2
      have HT := Lib.hid (flatA_take l k hlt)
      clear hcell
      generalize l[k] = at1 at *
      go_wp2_with (at_builtin; refine wpList_append_own _ rfl _ _ 25 rfl w.heap.size 9 i0 (.string ⟨#[]⟩) 1 16 Tryz.underlying25 hi hz0 hz1 hz2 rfl (by decide) _ _ _ rfl (own_ext hown (((Ext.refl wr).alloc _).alloc _)) ⟨wr.heap.size + 1, 0, none⟩ 2 2 [.string (str at1.1), .string (str at1.2)] rfl rfl ?c1 (all_one rfl) (by unfold maxLen; omega) (by omega) (by simp; omega) ?_)
      case c1 =>
        intro j u hj
        have := new_cells (wr.alloc (.cells #[.string (str at1.1), .string (str at1.2)] 49)) 9 #[.string (str at1.1), .string (str at1.2)] _ rfl j u hj
        rw [World.size_alloc] at this; exact this
      intro v' w1 own1 hg1 _
      have hlo := @own_low wr w.heap.size 1 _ _ u3 _ hown
      have x1 : Ext w w1 := ((hx.alloc _).alloc _).grown hg1 (fun k e => hlo e)
      have own2 : w1.ownsRow w.heap.size 9 1 v' (2 * (k + 1)) (strL (flatA (l.take (k + 1)))) := by
        rw [HT.out, show strL (flatA (l.take k) ++ [at1.1, at1.2]) = strL (flatA (l.take k)) ++ [.string (str at1.1), .string (str at1.2)] by simp [strL], show 2 * (k + 1) = 2 * k + 2 by omega]
        exact own1
      clear own1 hg1 hlo
      go_wp2_with fail
      go_roundw
      case rel => exact ⟨k + 1, by omega, by go_num, x1, own2⟩
      case measure => simp [intOf]; omega
    · obtain rfl : k = l.length := by omega
      have hst : Strs wr (match u3 with | .slice A _ _ => A | _ => none) (2 * l.length) (flatA (l.take l.length)) := by
        rcases hown.2 with ⟨rfl, h0⟩ | ⟨g, cap, cur, rfl, _⟩
        · have : l = [] := List.eq_nil_of_length_eq_zero (by omega)
          subst this; exact ⟨rfl, fun h => by simp at h⟩
        · exact Strs.own hown
      obtain ⟨A3, c3, rfl⟩ : ∃ A3 c3, u3 = .slice A3 (2 * l.length) c3 := by
        rcases hown.2 with ⟨rfl, h0⟩ | ⟨g, cap, cur, rfl, _⟩
        · exact ⟨none, 0, by rw [h0]⟩
        · exact ⟨_, _, rfl⟩
      have HR := Lib.hid (fun w h => row_any A3 (2 * l.length) c3 (flatA (l.take l.length)) w h (by rw [List.take_length]; exact hsum) (by omega))
      go_wp2_with fail
      refine (HR.out _ hst).mono ?_
      rintro e w1 ⟨rfl, x1⟩
      go_wp2_with fail
      go_ret
      exact ⟨rfl, hx.trans x1⟩
/-- a row's bytes as a block -/
def blockL (r : List UInt8) : List UInt8 := putL r.length 2 ++ r ++ zs (126 - r.length)
theorem blockL_len (r : List UInt8) (h : r.length ≤ 126) : (blockL r).length = 128 := by simp [blockL, putL_len, zs_len]; omega
set_option maxHeartbeats 400000 in
theorem block_any (r : List UInt8) (w : World) (hr : r.length ≤ 126) :
    Calls Tryz.prog 55 #[.string (str r)] w fun e w' => e = .returned (.string (str (blockL r))) ∧ Ext w w' := by
  have hz := str_size
  have hap := str_app
  have hpl := putL_len r.length 2
  have HP := Lib.hid (fun w => put_z (r.length : Int) 2 w (by omega) (by omega) (by simp; omega))
  have u1 : IntKind.u64.wrap (r.length : Int) = r.length := by rw [IntKind.wrap_u64]; omega
  go_enter Tryz.func55, Tryz.ntmps55
  go_wp2_with fail
  refine (HP.out _).mono ?_
  rintro e w1 ⟨rfl, x1⟩
  rw [show (2 : Int).toNat = 2 from rfl]
  go_wp2_with fail
  rw [show (128 - (2 + (r.length : Int))) = ((126 - r.length : Nat) : Int) by omega]
  refine (repeat_any (126 - r.length) _ (by omega)).mono ?_
  rintro e w2 ⟨rfl, x2⟩
  rw [show List.replicate (126 - r.length) (0 : UInt8) = zs (126 - r.length) from rfl]
  have hzl := zs_len
  go_wp2_with fail
  go_ret
  refine ⟨?_, x1.trans x2⟩
  exact ret_str (by simp [blockL])
end Go.Proofs.YtmcoepkopfcbdaaGreat
/- The document's attributes: May, Bytes, Block. -/
namespace Go.Proofs.YtmcoepkopfcbdaaGreat
set_option linter.unusedVariables false
open Go.RowKit

set_option maxHeartbeats 2000000 in
set_option maxRecDepth 100000 in
theorem rmay_any (s : List UInt8) (w : World) (hs : s.length ≤ 1000000000) :
    Calls Tryz.prog 27 #[.string (str s)] w fun e w' => e = .returned (.bool (mayB s)) ∧ w = w' := by
  have hz := str_size
  go_enter Tryz.func27, Tryz.ntmps27
  go_wp2_with fail
  go_loop [3, 4] (fun i _ => ∃ k : Nat, k ≤ s.length ∧ i = .int .i64 k ∧ ∀ (j : Nat) (h : j < s.length), j < k → okC s[j] = true) (fun i _ => s.length - (intOf i).toNat)
  case atStart => exact ⟨0, by omega, rfl, fun j _ h => by omega⟩
  case round =>
    obtain ⟨k, hk, rfl, hok⟩ := hrel
    have HO := Lib.hid hok
    clear hok
    by_cases hlt : k < s.length
    · have hat : (str s)[k]'(by rw [hz]; exact hlt) = s[k] := rfl
      have HB := Lib.hid (@may_bad s k hlt)
      have HN := Lib.hid (show okC s[k] = true → ∀ (j : Nat) (h : j < s.length), j < k + 1 → okC s[j] = true from fun h j hj hlt2 => by
        by_cases e : j < k
        · exact HO.out j hj e
        · obtain rfl : j = k := by omega
          exact h)
      have hcb := s[k].toNat_lt
      have HE : Hid (okC s[k] = decide (97 ≤ s[k].toNat ∧ s[k].toNat ≤ 122 ∨ 48 ≤ s[k].toNat ∧ s[k].toNat ≤ 57 ∨ s[k].toNat = 46 ∨ s[k].toNat = 95 ∨ s[k].toNat = 45)) := rfl
      generalize s[k] = ch at *
      rcases (by omega : (97 ≤ ch.toNat ∧ ch.toNat ≤ 122) ∨ (48 ≤ ch.toNat ∧ ch.toNat ≤ 57) ∨ (ch.toNat = 46) ∨ (ch.toNat = 95) ∨ (ch.toNat = 45) ∨ (123 ≤ ch.toNat) ∨ (58 ≤ ch.toNat ∧ ch.toNat ≤ 96 ∧ ch.toNat ≠ 95) ∨ (ch.toNat ≤ 47 ∧ ch.toNat ≠ 46 ∧ ch.toNat ≠ 45)) with hc | hc | hc | hc | hc | hc | hc | hc
      · have hyes : okC ch = true := by rw [HE.out]; simp; omega
        clear HE
        go_wp2_with fail
        go_round
        case rel => exact ⟨k + 1, by omega, by go_num, HN.out hyes⟩
        case measure => simp [intOf]; omega
      · have hyes : okC ch = true := by rw [HE.out]; simp; omega
        clear HE
        go_wp2_with fail
        go_round
        case rel => exact ⟨k + 1, by omega, by go_num, HN.out hyes⟩
        case measure => simp [intOf]; omega
      · have hyes : okC ch = true := by rw [HE.out]; simp; omega
        have e46 : ((ch.toNat : Int) == 46) = true := by simp; omega
        have e46n : ((ch.toNat : Int) != 46) = false := by simp; omega
        clear HE
        go_wp2_with fail
        go_round
        case rel => exact ⟨k + 1, by omega, by go_num, HN.out hyes⟩
        case measure => simp [intOf]; omega
      · have hyes : okC ch = true := by rw [HE.out]; simp; omega
        have e46 : ((ch.toNat : Int) == 46) = false := by simp; omega
        have e46n : ((ch.toNat : Int) != 46) = true := by simp; omega
        have e95 : ((ch.toNat : Int) == 95) = true := by simp; omega
        have e95n : ((ch.toNat : Int) != 95) = false := by simp; omega
        clear HE
        go_wp2_with fail
        go_round
        case rel => exact ⟨k + 1, by omega, by go_num, HN.out hyes⟩
        case measure => simp [intOf]; omega
      · have hyes : okC ch = true := by rw [HE.out]; simp; omega
        have e46 : ((ch.toNat : Int) == 46) = false := by simp; omega
        have e46n : ((ch.toNat : Int) != 46) = true := by simp; omega
        have e95 : ((ch.toNat : Int) == 95) = false := by simp; omega
        have e95n : ((ch.toNat : Int) != 95) = true := by simp; omega
        have e45 : ((ch.toNat : Int) == 45) = true := by simp; omega
        have e45n : ((ch.toNat : Int) != 45) = false := by simp; omega
        clear HE
        go_wp2_with fail
        go_round
        case rel => exact ⟨k + 1, by omega, by go_num, HN.out hyes⟩
        case measure => simp [intOf]; omega
      · have hno : okC ch = false := by rw [HE.out]; simp; omega
        have e46 : ((ch.toNat : Int) == 46) = false := by simp; omega
        have e46n : ((ch.toNat : Int) != 46) = true := by simp; omega
        have e95 : ((ch.toNat : Int) == 95) = false := by simp; omega
        have e95n : ((ch.toNat : Int) != 95) = true := by simp; omega
        have e45 : ((ch.toNat : Int) == 45) = false := by simp; omega
        have e45n : ((ch.toNat : Int) != 45) = true := by simp; omega
        clear HE
        go_wp2_with fail
        go_ret
        rw [HB.out hno]
        exact ⟨rfl, rfl⟩
      · have hno : okC ch = false := by rw [HE.out]; simp; omega
        have e46 : ((ch.toNat : Int) == 46) = false := by simp; omega
        have e46n : ((ch.toNat : Int) != 46) = true := by simp; omega
        have e95 : ((ch.toNat : Int) == 95) = false := by simp; omega
        have e95n : ((ch.toNat : Int) != 95) = true := by simp; omega
        have e45 : ((ch.toNat : Int) == 45) = false := by simp; omega
        have e45n : ((ch.toNat : Int) != 45) = true := by simp; omega
        clear HE
        go_wp2_with fail
        go_ret
        rw [HB.out hno]
        exact ⟨rfl, rfl⟩
      · have hno : okC ch = false := by rw [HE.out]; simp; omega
        have e46 : ((ch.toNat : Int) == 46) = false := by simp; omega
        have e46n : ((ch.toNat : Int) != 46) = true := by simp; omega
        have e95 : ((ch.toNat : Int) == 95) = false := by simp; omega
        have e95n : ((ch.toNat : Int) != 95) = true := by simp; omega
        have e45 : ((ch.toNat : Int) == 45) = false := by simp; omega
        have e45n : ((ch.toNat : Int) != 45) = true := by simp; omega
        clear HE
        go_wp2_with fail
        go_ret
        rw [HB.out hno]
        exact ⟨rfl, rfl⟩
    · obtain rfl : k = s.length := by omega
      have HA := Lib.hid (show s.all okC = true from List.all_eq_true.2 (fun c hc => by obtain ⟨j, hj, rfl⟩ := List.getElem_of_mem hc; exact HO.out j hj hj))
      have HM := Lib.hid (show mayB s = (decide (1 ≤ s.length) && decide (s.length ≤ 24)) by
        unfold mayB
        rw [HA.out, Bool.and_true]
        congr 1
        cases s <;> simp)
      clear HO HA
      by_cases c1 : 1 ≤ s.length
      · by_cases c2 : s.length ≤ 24
        · have hm := Lib.hid (show mayB s = true by rw [HM.out]; simp [c1, c2])
          clear HM
          go_wp2_with fail
          go_ret
          rw [hm.out]
          exact ⟨ret_bool (by simp; omega), rfl⟩
        · have hm := Lib.hid (show mayB s = false by rw [HM.out]; simp [c2])
          clear HM
          go_wp2_with fail
          go_ret
          rw [hm.out]
          exact ⟨ret_bool (by simp; omega), rfl⟩
      · have hm := Lib.hid (show mayB s = false by rw [HM.out]; simp [c1])
        clear HM
        go_wp2_with fail
        go_ret
        rw [hm.out]
        exact ⟨rfl, rfl⟩
set_option maxHeartbeats 1000000 in
set_option maxRecDepth 100000 in
theorem rbytes21_any (A : Option Addr) (n c : Nat) (l : List Att) (w : World) (hs : Atts w A n l) (hsum : sumL (flatA l) ≤ 1000000000) (hn : n ≤ 400000) :
    Calls Tryz.prog 28 #[.slice A n c] w fun e w' => e = .returned (.string (str (rowA l))) ∧ Ext w w' := by
  obtain rfl := hs.1
  obtain ⟨i0, hi, hz0, hz1, hz2⟩ := info_parts strInfo
  have o0 : (w.alloc (.cells #[] 9)).ownsRow w.heap.size 9 1 (.slice (some ⟨w.heap.size, 0, none⟩) 0 0) 0 (strL []) := World.ownsRow_lit w #[] 0 (Nat.le_refl _) (by decide) rfl
  go_enter Tryz.func28, Tryz.ntmps28
  go_wp2_with fail
  go_loopw [3, 5, 9] (fun u _ i wr => ∃ k : Nat, k ≤ l.length ∧ i = .int .i64 k ∧ Ext w wr ∧ wr.ownsRow w.heap.size 9 1 u (2 * k) (strL (flatA (l.take k)))) (fun _ _ i _ => l.length - (intOf i).toNat)
  case atStart => exact ⟨0, by omega, rfl, (Ext.refl _).alloc _, o0⟩
  case round =>
    clear o0
    obtain ⟨k, hk, rfl, hx, hown⟩ := hrel
    have hxs := hx.size
    by_cases hlt : k < l.length
    · obtain ⟨b, o, rfl, hcell⟩ := hs.2 (by omega)
      have hc1 := hx.keep (hcell k hlt).1
      have hc2 := hx.keep (hcell k hlt).2
      have HT := Lib.hid (flatA_take l k hlt)
      clear hcell
      generalize l[k] = at1 at *
      go_wp2_with (at_builtin; refine wpList_append_own _ rfl _ _ 25 rfl w.heap.size 9 i0 (.string ⟨#[]⟩) 1 16 Tryz.underlying25 hi hz0 hz1 hz2 rfl (by decide) _ _ _ rfl (own_ext hown (((Ext.refl wr).alloc _).alloc _)) ⟨wr.heap.size + 1, 0, none⟩ 2 2 [.string (str at1.1), .string (str at1.2)] rfl rfl ?c1 (all_one rfl) (by unfold maxLen; omega) (by omega) (by simp; omega) ?_)
      case c1 =>
        intro j u hj
        have := new_cells (wr.alloc (.cells #[.string (str at1.1), .string (str at1.2)] 49)) 9 #[.string (str at1.1), .string (str at1.2)] _ rfl j u hj
        rw [World.size_alloc] at this; exact this
      intro v' w1 own1 hg1 _
      have hlo := @own_low wr w.heap.size 1 _ _ u3 _ hown
      have x1 : Ext w w1 := ((hx.alloc _).alloc _).grown hg1 (fun k e => hlo e)
      have own2 : w1.ownsRow w.heap.size 9 1 v' (2 * (k + 1)) (strL (flatA (l.take (k + 1)))) := by
        rw [HT.out, show strL (flatA (l.take k) ++ [at1.1, at1.2]) = strL (flatA (l.take k)) ++ [.string (str at1.1), .string (str at1.2)] by simp [strL], show 2 * (k + 1) = 2 * k + 2 by omega]
        exact own1
      clear own1 hg1 hlo
      go_wp2_with fail
      go_roundw
      case rel => exact ⟨k + 1, by omega, by go_num, x1, own2⟩
      case measure => simp [intOf]; omega
    · obtain rfl : k = l.length := by omega
      have hst : Strs wr (match u3 with | .slice A _ _ => A | _ => none) (2 * l.length) (flatA (l.take l.length)) := by
        rcases hown.2 with ⟨rfl, h0⟩ | ⟨g, cap, cur, rfl, _⟩
        · have : l = [] := List.eq_nil_of_length_eq_zero (by omega)
          subst this; exact ⟨rfl, fun h => by simp at h⟩
        · exact Strs.own hown
      obtain ⟨A3, c3, rfl⟩ : ∃ A3 c3, u3 = .slice A3 (2 * l.length) c3 := by
        rcases hown.2 with ⟨rfl, h0⟩ | ⟨g, cap, cur, rfl, _⟩
        · exact ⟨none, 0, by rw [h0]⟩
        · exact ⟨_, _, rfl⟩
      have HR := Lib.hid (fun w h => rrow_any A3 (2 * l.length) c3 (flatA (l.take l.length)) w h (by rw [List.take_length]; exact hsum) (by omega))
      go_wp2_with fail
      refine (HR.out _ hst).mono ?_
      rintro e w1 ⟨rfl, x1⟩
      go_wp2_with fail
      go_ret
      exact ⟨rfl, hx.trans x1⟩
theorem put2_eq (n : Nat) (h : n ≤ 65535) : [b8 ((n : Int) % 256), b8 ((n : Int) / 256)] = putL n 2 := by
  simp only [putL]
  rw [show (n : Int) / 256 % 256 = (n : Int) / 256 by omega]
set_option maxHeartbeats 400000 in
theorem rblock21_any (r : List UInt8) (w : World) (hr : r.length ≤ 126) :
    Calls Tryz.prog 34 #[.string (str r)] w fun e w' => e = .returned (.string (str (blockL r))) ∧ Ext w w' := by
  have hz := str_size
  have hap := str_app
  have hpl := putL_len r.length 2
  have HP := Lib.hid (fun w => rput2 (r.length : Int) w (by omega) (by omega))
  rw [put2_eq r.length (by omega)] at HP
  have u1 : IntKind.u64.wrap (r.length : Int) = r.length := by rw [IntKind.wrap_u64]; omega
  go_enter Tryz.func34, Tryz.ntmps34
  go_wp2_with fail
  refine (HP.out _).mono ?_
  rintro e w1 ⟨rfl, x1⟩
  go_wp2_with fail
  rw [show (128 - (2 + (r.length : Int))) = ((126 - r.length : Nat) : Int) by omega]
  refine (rzeros_any (126 - r.length) _ (by omega)).mono ?_
  rintro e w2 ⟨rfl, rfl⟩
  have hzl := zs_len
  go_wp2_with fail
  go_ret
  refine ⟨?_, x1⟩
  exact ret_str (by simp [blockL])
end Go.Proofs.YtmcoepkopfcbdaaGreat
/- The document's Texts, at a row of short texts. -/
namespace Go.Proofs.YtmcoepkopfcbdaaGreat
set_option linter.unusedVariables false
open Go.RowKit

theorem lenL_lt {n : Nat} (h : n < 128) : lenL n = [UInt8.ofNat n] := lenL_small h
/-- a row of texts, parted at the k-th -/
theorem row_part (ss : List (List UInt8)) (k : Nat) (h : k < ss.length) (hs : ss[k].length < 128) :
    rowL ss = rowL (ss.take k) ++ (UInt8.ofNat ss[k].length :: (ss[k] ++ rowL (ss.drop (k + 1)))) := by
  conv => lhs; rw [← List.take_append_drop k ss, List.drop_eq_getElem_cons h, rowL_append, rowL_cons, lenL_lt hs]
  simp
theorem row_at (ss : List (List UInt8)) (k : Nat) (h : k < ss.length) (hs : ss[k].length < 128) (hlt : (rowL (ss.take k)).length < (str (rowL ss)).size) :
    ((str (rowL ss))[(rowL (ss.take k)).length]'hlt).toNat = ss[k].length := by
  have e : (rowL ss)[(rowL (ss.take k)).length]? = some (UInt8.ofNat ss[k].length) := by
    rw [row_part ss k h hs, List.getElem?_append_right (Nat.le_refl _), Nat.sub_self]; rfl
  have h2 : (rowL (ss.take k)).length < (rowL ss).length := by rw [str_size] at hlt; exact hlt
  have e2 : (str (rowL ss))[(rowL (ss.take k)).length]'hlt = (rowL ss)[(rowL (ss.take k)).length] := rfl
  rw [e2]
  rw [List.getElem?_eq_getElem h2] at e
  injection e with e
  rw [e]; simp; omega
theorem row_cut (ss : List (List UInt8)) (k : Nat) (h : k < ss.length) (hs : ss[k].length < 128) :
    (str (rowL ss)).extract ((rowL (ss.take k)).length + 1) ((rowL (ss.take k)).length + 1 + ss[k].length) = str ss[k] := by
  rw [str_ext, row_part ss k h hs]
  congr 1
  rw [show (rowL (ss.take k)).length + 1 + ss[k].length - ((rowL (ss.take k)).length + 1) = ss[k].length by omega, List.drop_append, List.drop_of_length_le (by omega), List.nil_append, show (rowL (ss.take k)).length + 1 - (rowL (ss.take k)).length = 1 by omega]
  simp
theorem row_next (ss : List (List UInt8)) (k : Nat) (h : k < ss.length) (hs : ss[k].length < 128) : (rowL (ss.take (k + 1))).length = (rowL (ss.take k)).length + 1 + ss[k].length := by
  rw [rowL_take ss k h, lenL_lt hs]; simp; omega
theorem row_le (ss : List (List UInt8)) (k : Nat) : (rowL (ss.take k)).length ≤ (rowL ss).length := by
  conv => rhs; rw [← List.take_append_drop k ss, rowL_append]
  simp
set_option maxHeartbeats 1000000 in
set_option maxRecDepth 100000 in
theorem rtexts_row (ss : List (List UInt8)) (w : World) (hs : ∀ s ∈ ss, s.length < 128) (hl : (rowL ss).length ≤ 1000) (hn : ss.length ≤ 1000) :
    Calls Tryz.prog 93 #[.string (str (rowL ss))] w fun e w' => ∃ u, e = .returned (.tuple #[u, .int .i64 0]) ∧ Ext w w' ∧ w'.ownsRow w.heap.size 9 1 u ss.length (strL ss) := by
  have hz := str_size (rowL ss)
  obtain ⟨i0, hi, hz0, hz1, hz2⟩ := info_parts strInfo
  have o0 : (w.alloc (.cells #[] 9)).ownsRow w.heap.size 9 1 (.slice (some ⟨w.heap.size, 0, none⟩) 0 0) 0 (strL []) := World.ownsRow_lit w #[] 0 (Nat.le_refl _) (by decide) rfl
  go_enter Tryz.func93, Tryz.ntmps93
  go_wp2_with fail
  go_loopw [4, 5, 6, 7, 8, 9] (fun u i _ _ _ _ wr => ∃ k : Nat, k ≤ ss.length ∧ i = .int .i64 ((rowL (ss.take k)).length : Nat) ∧ Ext w wr ∧ wr.ownsRow w.heap.size 9 1 u k (strL (ss.take k))) (fun _ i _ _ _ _ _ => (rowL ss).length - (intOf i).toNat)
  case atStart => exact ⟨0, by omega, rfl, (Ext.refl _).alloc _, o0⟩
  case round =>
    clear o0
    obtain ⟨k, hk, rfl, hx, hown⟩ := hrel
    have hxs := hx.size
    by_cases hlt : k < ss.length
    · have hs1 := hs ss[k] (List.getElem_mem hlt)
      have hle := row_le ss (k + 1)
      have hnx := row_next ss k hlt hs1
      rw [hnx] at hle
      have HNX := Lib.hid hnx
      have hsz : (rowL (ss.take k)).length < (str (rowL ss)).size := by rw [hz]; omega
      have hat := row_at ss k hlt hs1 hsz
      have hcu := row_cut ss k hlt hs1
      have HT := Lib.hid (show ss.take (k + 1) = ss.take k ++ [ss[k]] from List.take_succ_eq_append_getElem hlt)
      clear hnx
      generalize ss[k] = s at *
      generalize rowL (ss.take k) = rk at *
      generalize hp : rk.length = p at *
      clear hp
      generalize rowL ss = R at *
      generalize hsl : s.length = n0 at *
      have hsl' := Lib.hid hsl
      clear hsl
      have m1 : (n0 : Int) % 128 = n0 := by omega
      have lt1 : (p : Int) < (R.length : Int) := by omega
      have ne1 : ((p : Int) == (R.length : Int)) = false := by simp; omega
      have lt2 : ¬ ((R.length : Int) - ((p : Int) + 1) < (n0 : Int)) := by omega
      have lt3 : (n0 : Int) < 128 := by omega
      obtain ⟨bz, hbz⟩ : ∃ bz, ((n0 : Int) == 0) = bz := ⟨_, rfl⟩
      cases bz
      all_goals
        go_wp2_with fail
        refine wp_loop_rounds 1 ?_
        rw [rounds_succ]
        go_wp2_with (at_builtin; refine wpList_append_own _ rfl _ _ 25 rfl w.heap.size 9 i0 (.string ⟨#[]⟩) 1 16 Tryz.underlying25 hi hz0 hz1 hz2 rfl (by decide) _ _ _ rfl (hown.alloc _) ⟨wr.heap.size, 0, none⟩ 1 1 [.string (str s)] rfl rfl (new_cells _ _ _ _ rfl) (all_one rfl) (by unfold maxLen; omega) (by omega) (by simp; omega) ?_)
        intro v' w1 own1 hg1 _
        have hlo := @own_low wr w.heap.size 1 _ _ u4 _ hown
        have x1 : Ext w w1 := (hx.alloc _).grown hg1 (fun k e => hlo e)
        have own2 : w1.ownsRow w.heap.size 9 1 v' (k + 1) (strL (ss.take (k + 1))) := by
          rw [HT.out, show strL (ss.take k ++ [s]) = strL (ss.take k) ++ [.string (str s)] by simp [strL]]
          exact own1
        clear own1 hg1 hlo
        go_wp2_with fail
        go_roundw
        case rel => exact ⟨k + 1, by omega, by rw [HNX.out]; go_num, x1, own2⟩
        case measure => simp [intOf]; omega
    · obtain rfl : k = ss.length := by omega
      rw [List.take_length] at hown
      have ht := Lib.hid (List.take_length (l := ss))
      have d1 : ¬ ((rowL (ss.take ss.length)).length : Int) < ((rowL ss).length : Int) := by rw [ht.out]; omega
      go_wp2_with fail
      go_ret2
      exact ⟨_, rfl, hx, hown⟩
end Go.Proofs.YtmcoepkopfcbdaaGreat
