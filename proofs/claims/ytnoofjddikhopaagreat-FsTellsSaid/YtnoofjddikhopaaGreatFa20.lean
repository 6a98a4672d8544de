/- A text as bytes in new memory. -/
import Derived.Test.YtnoofjddikhopaaGreatFa4
import Derived.Lib.ConvBytes
import Derived.Test.YtnoofjddikhopaaGreatFa17
namespace Go.Proofs.YtnoofjddikhopaaGreat
set_option linter.unusedVariables false
set_option linter.unusedSimpArgs false
open Go.RowKit
theorem bytesWorld_ext (w : World) (e : TypeId) (s : ByteArray) : Ext w (Lib.bytesWorld w e s) :=
  ⟨by simp [Lib.bytesWorld, World.freeze, World.alloc, World.drew, -World.alloc_eq, -World.drew_eq], by simp [Lib.bytesWorld, World.freeze, World.alloc, World.drew, -World.alloc_eq, -World.drew_eq], by simp [Lib.bytesWorld, World.freeze, World.alloc, World.drew, -World.alloc_eq, -World.drew_eq], by rw [Lib.bytesWorld_size]; omega, fun k hk => Lib.bytesWorld_at_old w e s k hk⟩
/-- []byte(s) -/
theorem wp_conv_bytes {ops : Array Oper} {rest : List Oper} {o : Oper} {a : Act} {Q : Exit → Act → World → Prop} {w : World} {s : List UInt8} (x : Operand) (hgd : o.guard = none) (ho : o.op = .convert 9 88 x) (hx : a.eval x = .string (str s))
    (hK : ∀ cap w', (∀ (j : Nat) (h : j < s.length), w'.cell? ⟨w.heap.size, j, none⟩ = some (.int .u8 (s[j].toNat : Int))) → Ext w w' → wpList Tryz.prog ops Q rest (a.put o.dst (.slice (some ⟨w.heap.size, 0, none⟩) s.length cap)) w') : wpList Tryz.prog ops Q (o :: rest) a w := by
  refine wpList_plain hgd fun K hK' => ?_
  have hr := Lib.run_convert_string_bytes (P := Tryz.prog) w 9 88 5 (str s) Tryz.underlying9 Tryz.underlying88 Tryz.underlying5
  unfold Oper.wp execOp
  simp only [ho, hx, Sem.run_bind, Sem.run_pure, Result.andThen_ok, hr]
  rw [str_size]
  refine hK' _ _ (hK _ _ (fun j hj => ?_) (bytesWorld_ext w _ _))
  rw [Lib.bytesWorld_cell w _ _ j (by rw [str_size]; exact hj), str_data]
  simp [hj]
end Go.Proofs.YtnoofjddikhopaaGreat
/- The walk of dir.May. -/
namespace Go.Proofs.YtnoofjddikhopaaGreat
set_option linter.unusedVariables false
set_option linter.unusedSimpArgs false
open Go.RowKit
set_option maxHeartbeats 4000000 in
set_option maxRecDepth 100000 in
theorem dmay_any (s : List UInt8) (w : World) (hs : s.length ≤ 1000000000) :
    Calls Tryz.prog 42 #[.string (str s)] w fun e w' => e = .returned (.bool (mayD s)) ∧ Ext w w' := by
  have hz := str_size
  have HT := Lib.hid (fun t => str_toList t)
  by_cases h0 : s = []
  · subst h0
    have d1 : (str []).toList = [] := str_toList []
    go_enter Tryz.func42, Tryz.ntmps42
    go_wp2_with fail
    go_ret
    exact ⟨rfl, Ext.refl _⟩
  have d1 : (str s).toList.isEmpty = false := by rw [str_toList]; cases s with
    | nil => exact absurd rfl h0
    | cons a l => rfl
  by_cases h1 : 24 < s.length
  · have HM := Lib.hid (show mayD s = false by unfold mayD; rw [show decide (s.length ≤ 24) = false by simp; omega]; simp)
    go_enter Tryz.func42, Tryz.ntmps42
    go_wp2_with fail
    go_ret
    rw [HM.out]
    exact ⟨rfl, Ext.refl _⟩
  by_cases h2 : s = [46]
  · subst h2
    have d2 : (str [46]).toList = [46] := str_toList _
    go_enter Tryz.func42, Tryz.ntmps42
    go_wp2_with fail
    go_ret
    exact ⟨rfl, Ext.refl _⟩
  by_cases h3 : s = [46, 46]
  · subst h3
    have d2 : (str [46, 46]).toList = [46, 46] := str_toList _
    go_enter Tryz.func42, Tryz.ntmps42
    go_wp2_with fail
    go_ret
    exact ⟨rfl, Ext.refl _⟩
  have d2 : ((str s).toList == [46]) = false := by rw [str_toList]; simpa using h2
  have d3 : ((str s).toList == [46, 46]) = false := by rw [str_toList]; simpa using h3
  have d4 : ¬ (str s).toList = [46] := by rw [str_toList]; exact h2
  have d5 : ¬ (str s).toList = [46, 46] := by rw [str_toList]; exact h3
  have HYes := Lib.hid (show s.all okD = true → mayD s = true from fun h => by unfold mayD; simp only [h, Bool.and_true, Bool.and_eq_true, decide_eq_true_eq]; exact ⟨⟨⟨h0, by omega⟩, h2⟩, h3⟩)
  clear h2 h3
  go_enter Tryz.func42, Tryz.ntmps42
  go_wp2_with (refine wp_conv_bytes (.tmp 20) rfl rfl rfl ?_; intro cap w1 hc1 x1; have HC := Lib.hid hc1; clear hc1)
  clear d1 d2 d3 d4 d5
  go_loop [4, 23, 27, 46] (fun _ i _ _ => ∃ k : Nat, k ≤ s.length ∧ i = .int .i64 k ∧ ∀ (j : Nat) (h : j < s.length), j < k → okD s[j] = true) (fun _ i _ _ => s.length - (intOf i).toNat)
  case atStart => exact ⟨0, by omega, rfl, fun j _ h => by omega⟩
  case round =>
    obtain ⟨k, hk, rfl, hok⟩ := hrel
    have HO := Lib.hid hok
    clear hok
    by_cases hlt : k < s.length
    · have hck := HC.out k hlt
      have HB := Lib.hid (@mayD_bad s k hlt)
      have HN := Lib.hid (show okD s[k] = true → ∀ (j : Nat) (h : j < s.length), j < k + 1 → okD s[j] = true from fun h j hj hlt2 => by
        by_cases e : j < k
        · exact HO.out j hj e
        · obtain rfl : j = k := by omega
          exact h)
      have hcb := s[k].toNat_lt
      have HE : Hid (okD s[k] = decide (97 ≤ s[k].toNat ∧ s[k].toNat ≤ 122 ∨ 65 ≤ s[k].toNat ∧ s[k].toNat ≤ 90 ∨ 48 ≤ s[k].toNat ∧ s[k].toNat ≤ 57 ∨ s[k].toNat = 45 ∨ s[k].toNat = 95 ∨ s[k].toNat = 46)) := rfl
      generalize s[k] = ch at *
      rcases (by omega : (97 ≤ ch.toNat ∧ ch.toNat ≤ 122) ∨ (65 ≤ ch.toNat ∧ ch.toNat ≤ 90) ∨ (48 ≤ ch.toNat ∧ ch.toNat ≤ 57) ∨ (ch.toNat = 45) ∨ (ch.toNat = 95) ∨ (ch.toNat = 46) ∨ (123 ≤ ch.toNat) ∨ (91 ≤ ch.toNat ∧ ch.toNat ≤ 96 ∧ ch.toNat ≠ 95) ∨ (58 ≤ ch.toNat ∧ ch.toNat ≤ 64) ∨ (ch.toNat ≤ 47 ∧ ch.toNat ≠ 46 ∧ ch.toNat ≠ 45)) with hc | hc | hc | hc | hc | hc | hc | hc | hc | hc
      iterate 6
        · have hyes : okD ch = true := by rw [HE.out]; simp; omega
          have e45 : ((ch.toNat : Int) == 45) = decide (ch.toNat = 45) := by rw [Bool.eq_iff_iff]; simp; omega
          have e95 : ((ch.toNat : Int) == 95) = decide (ch.toNat = 95) := by rw [Bool.eq_iff_iff]; simp; omega
          have e46 : ((ch.toNat : Int) == 46) = decide (ch.toNat = 46) := by rw [Bool.eq_iff_iff]; simp; omega
          have q97 : decide ((97 : Int) ≤ (ch.toNat : Int)) = decide (97 ≤ ch.toNat) := by simp; omega
          have q122 : decide ((ch.toNat : Int) ≤ 122) = decide (ch.toNat ≤ 122) := by simp; omega
          have q65 : decide ((65 : Int) ≤ (ch.toNat : Int)) = decide (65 ≤ ch.toNat) := by simp; omega
          have q90 : decide ((ch.toNat : Int) ≤ 90) = decide (ch.toNat ≤ 90) := by simp; omega
          have q48 : decide ((48 : Int) ≤ (ch.toNat : Int)) = decide (48 ≤ ch.toNat) := by simp; omega
          have q57 : decide ((ch.toNat : Int) ≤ 57) = decide (ch.toNat ≤ 57) := by simp; omega
          clear HE
          go_wp2_with fail
          go_round
          case rel => exact ⟨k + 1, by omega, by go_num, HN.out hyes⟩
          case measure => simp [intOf]; omega
      all_goals
        have hno : okD ch = false := by rw [HE.out]; simp; omega
        have e46 : ((ch.toNat : Int) == 46) = false := by simp; omega
        have e95 : ((ch.toNat : Int) == 95) = false := by simp; omega
        have e45 : ((ch.toNat : Int) == 45) = false := by simp; omega
        clear HE
        go_wp2_with fail
        go_ret
        rw [HB.out hno]
        exact ⟨rfl, x1⟩
    · obtain rfl : k = s.length := by omega
      have HT := Lib.hid (HYes.out (by rw [List.all_eq_true]; intro c hc; obtain ⟨j, hj, rfl⟩ := List.getElem_of_mem hc; exact HO.out j hj hj))
      go_wp2_with fail
      go_ret
      rw [HT.out]
      exact ⟨rfl, x1⟩
end Go.Proofs.YtnoofjddikhopaaGreat
