/- Rows of attributes in memory; the walks of xattr.row and xattr.block. -/
import Derived.Test.YtmcoepkopfcbdaaMa8
import Derived.Test.YtmcoepkopfcbdaaMa11
import Derived.Test.YtmcoepkopfcbdaaMa10
namespace Go.Proofs.Ytmcoepkopfcbdaa
set_option linter.unusedVariables false
open Go.RowKit

abbrev Att := List UInt8 × List UInt8
/-- attributes as cells -/
def attL (l : List Att) : List Value := l.flatMap fun x => [Value.string (str x.1), Value.string (str x.2)]
theorem attL_len (l : List Att) : (attL l).length = l.length * 2 := by
  induction l with
  | nil => rfl
  | cons x l ih =>
    have : attL (x :: l) = Value.string (str x.1) :: Value.string (str x.2) :: attL l := rfl
    rw [this]; simp only [List.length_cons, ih]; omega
theorem attL_at : ∀ (l : List Att) (j : Nat) (h : j < l.length), (attL l)[j * 2]? = some (.string (str l[j].1)) ∧ (attL l)[j * 2 + 1]? = some (.string (str l[j].2))
  | x :: l, 0, _ => ⟨rfl, rfl⟩
  | x :: l, j + 1, h => by
    have e : attL (x :: l) = Value.string (str x.1) :: Value.string (str x.2) :: attL l := rfl
    have ih := attL_at l j (by simpa using h)
    rw [e, show (j + 1) * 2 = j * 2 + 1 + 1 by omega]
    simp only [List.getElem?_cons_succ]
    exact ih
theorem attL_append (a b : List Att) : attL (a ++ b) = attL a ++ attL b := by simp [attL]
theorem attL_one (l : List Att) : ∀ u ∈ attL l, u.oneCell' = true := by
  intro u hu
  simp only [attL, List.mem_flatMap, List.mem_cons, List.not_mem_nil, or_false] at hu
  obtain ⟨x, _, h | h⟩ := hu <;> (rw [h]; rfl)
/-- the slice with the address A and n places holds these attributes -/
def Atts (w : World) (A : Option Addr) (n : Nat) (l : List Att) : Prop :=
  n = l.length ∧ (0 < n → ∃ b o, A = some ⟨b, o, none⟩ ∧ ∀ (j : Nat) (h : j < l.length), w.cell? ⟨b, o + j * 2, none⟩ = some (.string (str l[j].1)) ∧ w.cell? ⟨b, o + j * 2 + 1, none⟩ = some (.string (str l[j].2)))
theorem Atts.ext {w w' : World} {A : Option Addr} {n : Nat} {l : List Att} (h : Atts w A n l) (k : Ext w w') : Atts w' A n l :=
  ⟨h.1, fun hn => by obtain ⟨b, o, e, hc⟩ := h.2 hn; exact ⟨b, o, e, fun j hj => ⟨k.keep (hc j hj).1, k.keep (hc j hj).2⟩⟩⟩
theorem attInfo : (Try.prog.info? 44).map (fun i => (i.zero, i.size, i.bytes)) = some (some (.agg #[.string ⟨#[]⟩, .string ⟨#[]⟩]), 2, 32) := by kernel_rfl
/-- a row of attributes of the call's own -/
def OwnA (w : World) (base : Nat) (u : Value) (l : List Att) : Prop := w.ownsRow base 44 2 u l.length (attL l)
theorem OwnA.nil (w : World) (base : Nat) : OwnA w base (.slice none 0 0) [] := World.ownsRow_nil _ _ _ _
theorem OwnA.ext {w w' : World} {base : Nat} {u : Value} {l : List Att} (h : OwnA w base u l) (k : Ext w w') : OwnA w' base u l := own_ext h k
theorem OwnA.base {w : World} {base base' : Nat} {u : Value} {l : List Att} (h : OwnA w base u l) (k : base' ≤ base) : OwnA w base' u l := own_base h k
theorem OwnA.form {w : World} {base : Nat} {u : Value} {l : List Att} (h : OwnA w base u l) : ∃ A cap, u = .slice A l.length cap ∧ Atts w A l.length l := by
  rcases h.2 with ⟨rfl, h0⟩ | ⟨g, cap, cur, rfl, hb, hh, hcap, _, hsz, htake⟩
  · exact ⟨none, 0, by rw [h0], rfl, fun hn => by omega⟩
  · refine ⟨_, cap, rfl, rfl, fun hn => ⟨g, 0, rfl, fun j hj => ?_⟩⟩
    have hc : ∀ i, i < 2 * l.length → w.cell? ⟨g, 0 + i, none⟩ = (attL l)[i]? := fun i hi => by
      rw [Nat.zero_add, cell_of_row w g i cur _ _ hh, ← htake, List.getElem?_take, if_pos (by omega)]; simp
    have := attL_at l j hj
    exact ⟨(hc _ (by omega)).trans this.1, (by rw [Nat.add_assoc]; exact (hc _ (by omega)).trans this.2)⟩
theorem OwnA.blk {w : World} {base : Nat} {A : Option Addr} {n cap : Nat} {l : List Att} (h : OwnA w base (.slice A n cap) l) (hn : 0 < l.length) : ∃ g, A = some ⟨g, 0, none⟩ ∧ base ≤ g ∧ n = l.length := by
  rcases h.2 with ⟨_, h0⟩ | ⟨g, cap, cur, e, hb, _⟩
  · omega
  · injection e with e1 e2 e3
    exact ⟨g, e1, hb, e2⟩
/-- the texts of attributes, names and values in turn -/
def flatA (l : List Att) : List (List UInt8) := l.flatMap fun x => [x.1, x.2]
theorem flatA_take (l : List Att) (k : Nat) (h : k < l.length) : flatA (l.take (k + 1)) = flatA (l.take k) ++ [l[k].1, l[k].2] := by
  unfold flatA; rw [List.take_succ_eq_append_getElem h, List.flatMap_append]; rfl
theorem flatA_len (l : List Att) : (flatA l).length = 2 * l.length := by
  induction l with
  | nil => rfl
  | cons x l ih =>
    have e : flatA (x :: l) = x.1 :: x.2 :: flatA l := rfl
    rw [e]; simp only [List.length_cons, ih]; omega
def rowA (l : List Att) : List UInt8 := rowL (flatA l)
set_option maxHeartbeats 1000000 in
set_option maxRecDepth 100000 in
theorem xrow_any (A : Option Addr) (n c : Nat) (l : List Att) (w : World) (hs : Atts w A n l) (hsum : sumL (flatA l) ≤ 1000000000) (hn : n ≤ 400000) :
    Calls Try.prog 26 #[.slice A n c] w fun e w' => e = .returned (.string (str (rowA l))) ∧ Ext w w' := by
  obtain rfl := hs.1
  obtain ⟨i0, hi, hz0, hz1, hz2⟩ := info_parts strInfo
  go_enter Try.func26, Try.ntmps26
  go_wp2_with fail
  go_loopw [3, 5, 8] (fun u _ i wr => ∃ k : Nat, k ≤ l.length ∧ i = .int .i64 k ∧ Ext w wr ∧ wr.ownsRow w.heap.size 9 1 u (2 * k) (strL (flatA (l.take k)))) (fun _ _ i _ => l.length - (intOf i).toNat)
  case atStart => exact ⟨0, by omega, rfl, Ext.refl _, World.ownsRow_nil _ _ _ _⟩
  case round =>
    obtain ⟨k, hk, rfl, hx, hown⟩ := hrel
    have hxs := hx.size
    by_cases hlt : k < l.length
    · obtain ⟨b, o, rfl, hcell⟩ := hs.2 (by omega)
      have hc1 := hx.keep (hcell k hlt).1
      have hc2 := hx.keep (hcell k hlt).2
      have HT := Lib.hid (flatA_take l k hlt)
      clear hcell
      generalize l[k] = at1 at *
      go_wp2_with (at_builtin; refine wpList_append_own _ rfl _ _ 24 rfl w.heap.size 9 i0 (.string ⟨#[]⟩) 1 16 Try.underlying24 hi hz0 hz1 hz2 rfl (by decide) _ _ _ rfl (own_ext hown (((Ext.refl wr).alloc _).alloc _)) ⟨wr.heap.size + 1, 0, none⟩ 2 2 [.string (str at1.1), .string (str at1.2)] rfl rfl ?c1 (all_one rfl) (by unfold maxLen; omega) (by omega) (by simp; omega) ?_)
      case c1 =>
        intro j u hj
        have := new_cells (wr.alloc (.cells #[.string (str at1.1), .string (str at1.2)] 44)) 9 #[.string (str at1.1), .string (str at1.2)] _ rfl j u hj
        rw [World.size_alloc] at this; exact this
      intro v' w1 own1 hg1 _
      have hlo := @own_low wr w.heap.size 1 _ _ u3 _ hown
      have x1 : Ext w w1 := ((hx.alloc _).alloc _).grown hg1 (fun k e => hlo e)
      have own2 : w1.ownsRow w.heap.size 9 1 v' (2 * (k + 1)) (strL (flatA (l.take (k + 1)))) := by
        rw [HT.out, show strL (flatA (l.take k) ++ [at1.1, at1.2]) = strL (flatA (l.take k)) ++ [.string (str at1.1), .string (str at1.2)] by simp [strL], show 2 * (k + 1) = 2 * k + 2 by omega]
        exact own1
      clear own1 hg1 hlo
      go_wp2_with fail
      go_roundw
      case rel => exact ⟨k + 1, by omega, by go_num, x1, own2⟩
      case measure => simp [intOf]; omega
    · obtain rfl : k = l.length := by omega
      have hst : Strs wr (match u3 with | .slice A _ _ => A | _ => none) (2 * l.length) (flatA (l.take l.length)) := by
        rcases hown.2 with ⟨rfl, h0⟩ | ⟨g, cap, cur, rfl, _⟩
        · have : l = [] := List.eq_nil_of_length_eq_zero (by omega)
          subst this; exact ⟨rfl, fun h => by simp at h⟩
        · exact Strs.own hown
      obtain ⟨A3, c3, rfl⟩ : ∃ A3 c3, u3 = .slice A3 (2 * l.length) c3 := by
        rcases hown.2 with ⟨rfl, h0⟩ | ⟨g, cap, cur, rfl, _⟩
        · exact ⟨none, 0, by rw [h0]⟩
        · exact ⟨_, _, rfl⟩
      have HR := Lib.hid (fun w h => row_any A3 (2 * l.length) c3 (flatA (l.take l.length)) w h (by rw [List.take_length]; exact hsum) (by omega))
      go_wp2_with fail
      refine (HR.out _ hst).mono ?_
      rintro e w1 ⟨rfl, x1⟩
      go_wp2_with fail
      go_ret
      exact ⟨rfl, hx.trans x1⟩
/-- a row's bytes as a block -/
def blockL (r : List UInt8) : List UInt8 := putL r.length 2 ++ r ++ zs (126 - r.length)
theorem blockL_len (r : List UInt8) (h : r.length ≤ 126) : (blockL r).length = 128 := by simp [blockL, putL_len, zs_len]; omega
set_option maxHeartbeats 400000 in
theorem block_any (r : List UInt8) (w : World) (hr : r.length ≤ 126) :
    Calls Try.prog 51 #[.string (str r)] w fun e w' => e = .returned (.string (str (blockL r))) ∧ Ext w w' := by
  have hz := str_size
  have hap := str_app
  have hpl := putL_len r.length 2
  have HP := Lib.hid (fun w => put_z (r.length : Int) 2 w (by omega) (by omega) (by simp; omega))
  have u1 : IntKind.u64.wrap (r.length : Int) = r.length := by rw [IntKind.wrap_u64]; omega
  go_enter Try.func51, Try.ntmps51
  go_wp2_with fail
  refine (HP.out _).mono ?_
  rintro e w1 ⟨rfl, x1⟩
  rw [show (2 : Int).toNat = 2 from rfl]
  go_wp2_with fail
  rw [show (128 - (2 + (r.length : Int))) = ((126 - r.length : Nat) : Int) by omega]
  refine (repeat_any (126 - r.length) _ (by omega)).mono ?_
  rintro e w2 ⟨rfl, x2⟩
  rw [show List.replicate (126 - r.length) (0 : UInt8) = zs (126 - r.length) from rfl]
  have hzl := zs_len
  go_wp2_with fail
  go_ret
  refine ⟨?_, x1.trans x2⟩
  exact ret_str (by simp [blockL])
end Go.Proofs.Ytmcoepkopfcbdaa
