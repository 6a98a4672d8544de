/- The walks of package geom: zeros, first. -/
import Derived.Test.YtfaplefkakpgcaaGreatDoorWc4
import Derived.Test.YtfaplefkakpgcaaGreatDoorWc5
import Derived.Lib.ConvBytes
namespace Go.Proofs.YtfaplefkakpgcaaGreatDoor
set_option linter.unusedVariables false
set_option linter.unusedSimpArgs false
open Go.RowKit
theorem repeat_zero (n : Nat) : Lib.repeatL [0] n = List.replicate n (0 : UInt8) := by
 induction n with
 | zero => rfl
 | succ n ih => simp [Lib.repeatL, List.replicate_succ] at *; try exact ih
theorem repeat_any (c : Nat) (w : World) (hc : c ≤ 1000) :
  Calls Tryz.prog 119 #[.string ⟨#[0]⟩, .int .i64 c] w fun e w' => e = .returned (.string (str (List.replicate c 0))) ∧ Ext w w' := by
 have h := Tryz.strings_Repeat ⟨#[0]⟩ c w (by omega) (by show 1 * c ≤ _; omega)
 rw [show (⟨#[0]⟩ : ByteArray).data.toList = [0] from rfl, repeat_zero] at h
 exact h
def zs (n : Nat) : List UInt8 := List.replicate n 0
theorem zs_len (n : Nat) : (zs n).length = n := by simp [zs]
def headL (B I : Int) : List UInt8 := [104, 105, 98, 49, b8 (B % 256), b8 (B / 256), b8 (I % 256), b8 (I / 256)] ++ zs 120
theorem headL_len (B I : Int) : (headL B I).length = 128 := by simp [headL, zs_len]
set_option maxHeartbeats 400000 in
theorem first_any (B I : Int) (w : World) (h : planB B I = true) :
  Calls Tryz.prog 165 #[geomV B I] w fun e w' => e = .returned (.string (str (headL B I))) ∧ Ext w w' := by
 have hp : 16 ≤ B ∧ B ≤ 223 ∧ 4 ≤ I ∧ I ≤ 64 ∧ 3 + (I + 1) / 2 < B := by simpa [planB] using h
 clear h
 unfold geomV
 have hz := str_size
 have hap := str_app
 have hk : (⟨#[104, 105, 98, 49]⟩ : ByteArray) = str [104, 105, 98, 49] := rfl
 go_enter Tryz.func165, Tryz.ntmps165
 go_wp2_with fail
 generalize hw1 : w.alloc _ = w1
 have hg1 : Ext w w1 := by rw [← hw1]; exact (Ext.refl _).alloc _
 have c0 : ∀ x : Later w1, x.now.cell? ⟨w.heap.size, 0, none⟩ = some (.int .i64 B) := fun x => x.ext.keep (by rw [← hw1]; simp [go_sem])
 have c1 : ∀ x : Later w1, x.now.cell? ⟨w.heap.size, 1, none⟩ = some (.int .i64 I) := fun x => x.ext.keep (by rw [← hw1]; simp [go_sem])
 clear hw1
 refine wp_region_later (by kernel_rfl) (by kernel_rfl) ?_
 repeat (go_big_quiet_step ((exact later_of (put2 _ _ (by omega) (by omega)))))
 refine wpQuiet_nil ?_
 rintro w2 ⟨x, rfl⟩
 have hg2 := hg1.trans x.ext
 clear c0 c1
 go_wp2_with fail
 refine (repeat_any 120 _ (by omega)).mono ?_
 rintro e w3 ⟨rfl, hg3⟩
 rw [show List.replicate 120 (0 : UInt8) = zs 120 from rfl]
 have hzl := zs_len
 go_wp2_with fail
 go_ret
 exact ⟨rfl, hg2.trans hg3⟩
end Go.Proofs.YtfaplefkakpgcaaGreatDoor
/- A text as bytes in new memory. -/
namespace Go.Proofs.YtfaplefkakpgcaaGreatDoor
set_option linter.unusedVariables false
set_option linter.unusedSimpArgs false
open Go.RowKit
theorem bytesWorld_ext (w : World) (e : TypeId) (s : ByteArray) : Ext w (Lib.bytesWorld w e s) :=
 ⟨by simp [Lib.bytesWorld, World.freeze, World.alloc, World.drew, -World.alloc_eq, -World.drew_eq], by simp [Lib.bytesWorld, World.freeze, World.alloc, World.drew, -World.alloc_eq, -World.drew_eq], by simp [Lib.bytesWorld, World.freeze, World.alloc, World.drew, -World.alloc_eq, -World.drew_eq], by rw [Lib.bytesWorld_size]; omega, fun k hk => Lib.bytesWorld_at_old w e s k hk⟩
theorem wp_conv_bytes {ops : Array Oper} {rest : List Oper} {o : Oper} {a : Act} {Q : Exit → Act → World → Prop} {w : World} {s : List UInt8} (x : Operand) (hgd : o.guard = none) (ho : o.op = .convert 9 167 x) (hx : a.eval x = .string (str s))
  (hK : ∀ cap w', (∀ (j : Nat) (h : j < s.length), w'.cell? ⟨w.heap.size, j, none⟩ = some (.int .u8 (s[j].toNat : Int))) → Ext w w' → wpList Tryz.prog ops Q rest (a.put o.dst (.slice (some ⟨w.heap.size, 0, none⟩) s.length cap)) w') : wpList Tryz.prog ops Q (o :: rest) a w := by
 refine wpList_plain hgd fun K hK' => ?_
 have hr := Lib.run_convert_string_bytes (P := Tryz.prog) w 9 167 5 (str s) Tryz.underlying9 Tryz.underlying167 Tryz.underlying5
 unfold Oper.wp execOp
 simp only [ho, hx, Sem.run_bind, Sem.run_pure, Result.andThen_ok, hr]
 rw [str_size]
 refine hK' _ _ (hK _ _ (fun j hj => ?_) (bytesWorld_ext w _ _))
 rw [Lib.bytesWorld_cell w _ _ j (by rw [str_size]; exact hj), str_data]
 simp [hj]
end Go.Proofs.YtfaplefkakpgcaaGreatDoor
