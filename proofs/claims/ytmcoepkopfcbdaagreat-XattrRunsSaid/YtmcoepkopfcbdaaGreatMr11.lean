/- The walk of xattr.may; a text as bytes in new memory. -/
import Derived.Test.YtmcoepkopfcbdaaGreatMr8
import Derived.Lib.ConvBytes
namespace Go.Proofs.YtmcoepkopfcbdaaGreat
set_option linter.unusedVariables false
open Go.RowKit

theorem bytesWorld_ext (w : World) (e : TypeId) (s : ByteArray) : Ext w (Lib.bytesWorld w e s) :=
  ⟨by simp [Lib.bytesWorld, World.freeze, World.alloc, World.drew, -World.alloc_eq, -World.drew_eq], by simp [Lib.bytesWorld, World.freeze, World.alloc, World.drew, -World.alloc_eq, -World.drew_eq], by simp [Lib.bytesWorld, World.freeze, World.alloc, World.drew, -World.alloc_eq, -World.drew_eq], by rw [Lib.bytesWorld_size]; omega, fun k hk => Lib.bytesWorld_at_old w e s k hk⟩
/-- []byte(s) -/
theorem wp_conv_bytes {ops : Array Oper} {rest : List Oper} {o : Oper} {a : Act} {Q : Exit → Act → World → Prop} {w : World} {s : List UInt8} (x : Operand) (hgd : o.guard = none) (ho : o.op = .convert 9 77 x) (hx : a.eval x = .string (str s))
    (hK : ∀ cap w', (∀ (j : Nat) (h : j < s.length), w'.cell? ⟨w.heap.size, j, none⟩ = some (.int .u8 (s[j].toNat : Int))) → Ext w w' → wpList Tryz.prog ops Q rest (a.put o.dst (.slice (some ⟨w.heap.size, 0, none⟩) s.length cap)) w') : wpList Tryz.prog ops Q (o :: rest) a w := by
  refine wpList_plain hgd fun K hK' => ?_
  have hr := Lib.run_convert_string_bytes (P := Tryz.prog) w 9 77 5 (str s) Tryz.underlying9 Tryz.underlying77 Tryz.underlying5
  unfold Oper.wp execOp
  simp only [ho, hx, Sem.run_bind, Sem.run_pure, Result.andThen_ok, hr]
  rw [str_size]
  refine hK' _ _ (hK _ _ (fun j hj => ?_) (bytesWorld_ext w _ _))
  rw [Lib.bytesWorld_cell w _ _ j (by rw [str_size]; exact hj), str_data]
  simp [hj]
/-- a byte that a name may have -/
def okC (c : UInt8) : Bool := decide (97 ≤ c.toNat ∧ c.toNat ≤ 122 ∨ 48 ≤ c.toNat ∧ c.toNat ≤ 57 ∨ c.toNat = 46 ∨ c.toNat = 95 ∨ c.toNat = 45)
def mayB (s : List UInt8) : Bool := decide (s ≠ []) && decide (s.length ≤ 24) && s.all okC
theorem may_bad {s : List UInt8} {k : Nat} (hk : k < s.length) (h : okC s[k] = false) : mayB s = false := by
  unfold mayB
  rw [show s.all okC = false from List.all_eq_false.2 ⟨s[k], List.getElem_mem hk, by rw [h]; simp⟩]; simp
set_option maxHeartbeats 2000000 in
set_option maxRecDepth 100000 in
theorem may_any (s : List UInt8) (w : World) (hs : s.length ≤ 1000000000) :
    Calls Tryz.prog 17 #[.string (str s)] w fun e w' => e = .returned (.bool (mayB s)) ∧ Ext w w' := by
  have hz := str_size
  by_cases h0 : s = []
  · subst h0
    have d1 : (str []).toList = [] := str_toList []
    go_enter Tryz.func17, Tryz.ntmps17
    go_wp2_with fail
    go_ret
    exact ⟨rfl, Ext.refl _⟩
  · have d1 : (str s).toList.isEmpty = false := by rw [str_toList]; cases s with
      | nil => exact absurd rfl h0
      | cons a l => rfl
    by_cases h1 : 24 < s.length
    · have HM := Lib.hid (show mayB s = false by unfold mayB; rw [show decide (s.length ≤ 24) = false by simp; omega]; simp)
      go_enter Tryz.func17, Tryz.ntmps17
      go_wp2_with fail
      go_ret
      rw [HM.out]
      exact ⟨rfl, Ext.refl _⟩
    · go_enter Tryz.func17, Tryz.ntmps17
      go_wp2_with (refine wp_conv_bytes (.tmp 12) rfl rfl rfl ?_; intro cap w1 hc1 x1; have HC := Lib.hid hc1; clear hc1)
      go_loop [4, 15, 19] (fun _ i _ => ∃ k : Nat, k ≤ s.length ∧ i = .int .i64 k ∧ ∀ (j : Nat) (h : j < s.length), j < k → okC s[j] = true) (fun _ i _ => s.length - (intOf i).toNat)
      case atStart => exact ⟨0, by omega, rfl, fun j _ h => by omega⟩
      case round =>
        obtain ⟨k, hk, rfl, hok⟩ := hrel
        have HO := Lib.hid hok
        clear hok
        by_cases hlt : k < s.length
        · have hck := HC.out k hlt
          have HB := Lib.hid (@may_bad s k hlt)
          have HN := Lib.hid (show okC s[k] = true → ∀ (j : Nat) (h : j < s.length), j < k + 1 → okC s[j] = true from fun h j hj hlt2 => by
            by_cases e : j < k
            · exact HO.out j hj e
            · obtain rfl : j = k := by omega
              exact h)
          have hcb := s[k].toNat_lt
          have HE : Hid (okC s[k] = decide (97 ≤ s[k].toNat ∧ s[k].toNat ≤ 122 ∨ 48 ≤ s[k].toNat ∧ s[k].toNat ≤ 57 ∨ s[k].toNat = 46 ∨ s[k].toNat = 95 ∨ s[k].toNat = 45)) := rfl
          generalize s[k] = ch at *
          rcases (by omega : (97 ≤ ch.toNat ∧ ch.toNat ≤ 122) ∨ (48 ≤ ch.toNat ∧ ch.toNat ≤ 57) ∨ (ch.toNat = 46) ∨ (ch.toNat = 95) ∨ (ch.toNat = 45) ∨ (123 ≤ ch.toNat) ∨ (58 ≤ ch.toNat ∧ ch.toNat ≤ 96 ∧ ch.toNat ≠ 95) ∨ (ch.toNat ≤ 47 ∧ ch.toNat ≠ 46 ∧ ch.toNat ≠ 45)) with hc | hc | hc | hc | hc | hc | hc | hc
          · have hyes : okC ch = true := by rw [HE.out]; simp; omega
            clear HE
            go_wp2_with fail
            go_round
            case rel => exact ⟨k + 1, by omega, by go_num, HN.out hyes⟩
            case measure => simp [intOf]; omega
          · have hyes : okC ch = true := by rw [HE.out]; simp; omega
            clear HE
            go_wp2_with fail
            go_round
            case rel => exact ⟨k + 1, by omega, by go_num, HN.out hyes⟩
            case measure => simp [intOf]; omega
          · have hyes : okC ch = true := by rw [HE.out]; simp; omega
            have e46 : ((ch.toNat : Int) == 46) = true := by simp; omega
            have hi : (ch.toNat : Int) < 97 := by omega
            have hi2 : ¬ (97 : Int) ≤ (ch.toNat : Int) := by omega
            clear HE
            go_wp2_with fail
            go_round
            case rel => exact ⟨k + 1, by omega, by go_num, HN.out hyes⟩
            case measure => simp [intOf]; omega
          · have hyes : okC ch = true := by rw [HE.out]; simp; omega
            have e46 : ((ch.toNat : Int) == 46) = false := by simp; omega
            have e95 : ((ch.toNat : Int) == 95) = true := by simp; omega
            clear HE
            go_wp2_with fail
            go_round
            case rel => exact ⟨k + 1, by omega, by go_num, HN.out hyes⟩
            case measure => simp [intOf]; omega
          · have hyes : okC ch = true := by rw [HE.out]; simp; omega
            have e46 : ((ch.toNat : Int) == 46) = false := by simp; omega
            have e95 : ((ch.toNat : Int) == 95) = false := by simp; omega
            have e45 : ((ch.toNat : Int) == 45) = true := by simp; omega
            have hi : (ch.toNat : Int) < 97 := by omega
            have hi2 : ¬ (97 : Int) ≤ (ch.toNat : Int) := by omega
            clear HE
            go_wp2_with fail
            go_round
            case rel => exact ⟨k + 1, by omega, by go_num, HN.out hyes⟩
            case measure => simp [intOf]; omega
          · have hno : okC ch = false := by rw [HE.out]; simp; omega
            have e46 : ((ch.toNat : Int) == 46) = false := by simp; omega
            have e95 : ((ch.toNat : Int) == 95) = false := by simp; omega
            have e45 : ((ch.toNat : Int) == 45) = false := by simp; omega
            clear HE
            go_wp2_with fail
            go_ret
            rw [HB.out hno]
            exact ⟨rfl, x1⟩
          · have hno : okC ch = false := by rw [HE.out]; simp; omega
            have e46 : ((ch.toNat : Int) == 46) = false := by simp; omega
            have e95 : ((ch.toNat : Int) == 95) = false := by simp; omega
            have e45 : ((ch.toNat : Int) == 45) = false := by simp; omega
            clear HE
            go_wp2_with fail
            go_ret
            rw [HB.out hno]
            exact ⟨rfl, x1⟩
          · have hno : okC ch = false := by rw [HE.out]; simp; omega
            have e46 : ((ch.toNat : Int) == 46) = false := by simp; omega
            have e95 : ((ch.toNat : Int) == 95) = false := by simp; omega
            have e45 : ((ch.toNat : Int) == 45) = false := by simp; omega
            clear HE
            go_wp2_with fail
            go_ret
            rw [HB.out hno]
            exact ⟨rfl, x1⟩
        · obtain rfl : k = s.length := by omega
          have HM := Lib.hid (show mayB s = true by
            unfold mayB
            rw [show s.all okC = true from List.all_eq_true.2 (fun c hc => by obtain ⟨j, hj, rfl⟩ := List.getElem_of_mem hc; exact HO.out j hj hj)]
            simp [h0]; omega)
          go_wp2_with fail
          go_ret
          rw [HM.out]
          exact ⟨rfl, x1⟩
end Go.Proofs.YtmcoepkopfcbdaaGreat
