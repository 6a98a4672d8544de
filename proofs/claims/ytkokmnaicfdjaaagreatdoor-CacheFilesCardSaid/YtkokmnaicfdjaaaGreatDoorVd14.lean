/- BLAKE2s: turns and mixes walked. -/
import Derived.Test.YtkokmnaicfdjaaaGreatDoorVd1
import Derived.Test.YtkokmnaicfdjaaaGreatDoorVd5
import Derived.Test.YtkokmnaicfdjaaaGreatDoorProg
namespace Go.Proofs.YtkokmnaicfdjaaaGreatDoor
set_option linter.unusedVariables false
set_option linter.unusedSimpArgs false
open Go.RowKit

theorem left16 (x : BitVec 32) : ((x.toNat : Nat) : Int) * (65536 : Int) % (4294967296 : Int) = (((x <<< 16).toNat : Nat) : Int) := by rw [← shl32, IntKind.wrap_u32]; rfl
theorem right16 (x : BitVec 32) : ((x.toNat : Nat) : Int) / (65536 : Int) = (((x >>> 16).toNat : Nat) : Int) := by rw [← shr32, Int.fdiv_eq_ediv_of_nonneg _ (by decide)]; rfl
theorem rotl16 (x : BitVec 32) (w : World) : Calls Tryz.prog 224 #[.int .u32 (x.toNat : Int), .int .i64 (-16)] w fun e w' => e = .returned (.int .u32 ((rotP 16 x).toNat : Int)) ∧ w = w' := by
  have hw : bits BinOp.and IntKind.u64 (IntKind.u64.wrap (-16)) 31 = 16 := by decide +kernel
  have hm : bits .or .u32 ((x.toNat : Int) * 65536 % 4294967296) ((x.toNat : Int) / 65536) = ((rotP 16 x).toNat : Int) := by rw [left16, right16, or32, rotP, BitVec.or_comm]
  go_enter Tryz.func224, Tryz.ntmps224
  go_wp2_with fail
  go_ret
  exact ⟨rfl, rfl⟩
theorem turned16 (x : BitVec 32) (w : World) : Calls Tryz.prog 225 #[.int .u32 (x.toNat : Int), .int .u64 16] w fun e w' => e = .returned (.int .u32 ((rotP 16 x).toNat : Int)) ∧ w = w' := by
  have hm : bits .or .u32 ((x.toNat : Int) / 65536) ((x.toNat : Int) * 65536 % 4294967296) = ((rotP 16 x).toNat : Int) := by rw [left16, right16, or32, rotP]
  go_enter Tryz.func225, Tryz.ntmps225
  go_wp2_with fail
  go_ret
  exact ⟨rfl, rfl⟩
theorem left12 (x : BitVec 32) : ((x.toNat : Nat) : Int) * (1048576 : Int) % (4294967296 : Int) = (((x <<< 20).toNat : Nat) : Int) := by rw [← shl32, IntKind.wrap_u32]; rfl
theorem right12 (x : BitVec 32) : ((x.toNat : Nat) : Int) / (4096 : Int) = (((x >>> 12).toNat : Nat) : Int) := by rw [← shr32, Int.fdiv_eq_ediv_of_nonneg _ (by decide)]; rfl
theorem rotl12 (x : BitVec 32) (w : World) : Calls Tryz.prog 224 #[.int .u32 (x.toNat : Int), .int .i64 (-12)] w fun e w' => e = .returned (.int .u32 ((rotP 12 x).toNat : Int)) ∧ w = w' := by
  have hw : bits BinOp.and IntKind.u64 (IntKind.u64.wrap (-12)) 31 = 20 := by decide +kernel
  have hm : bits .or .u32 ((x.toNat : Int) * 1048576 % 4294967296) ((x.toNat : Int) / 4096) = ((rotP 12 x).toNat : Int) := by rw [left12, right12, or32, rotP, BitVec.or_comm]
  go_enter Tryz.func224, Tryz.ntmps224
  go_wp2_with fail
  go_ret
  exact ⟨rfl, rfl⟩
theorem turned12 (x : BitVec 32) (w : World) : Calls Tryz.prog 225 #[.int .u32 (x.toNat : Int), .int .u64 12] w fun e w' => e = .returned (.int .u32 ((rotP 12 x).toNat : Int)) ∧ w = w' := by
  have hm : bits .or .u32 ((x.toNat : Int) / 4096) ((x.toNat : Int) * 1048576 % 4294967296) = ((rotP 12 x).toNat : Int) := by rw [left12, right12, or32, rotP]
  go_enter Tryz.func225, Tryz.ntmps225
  go_wp2_with fail
  go_ret
  exact ⟨rfl, rfl⟩
theorem left8 (x : BitVec 32) : ((x.toNat : Nat) : Int) * (16777216 : Int) % (4294967296 : Int) = (((x <<< 24).toNat : Nat) : Int) := by rw [← shl32, IntKind.wrap_u32]; rfl
theorem right8 (x : BitVec 32) : ((x.toNat : Nat) : Int) / (256 : Int) = (((x >>> 8).toNat : Nat) : Int) := by rw [← shr32, Int.fdiv_eq_ediv_of_nonneg _ (by decide)]; rfl
theorem rotl8 (x : BitVec 32) (w : World) : Calls Tryz.prog 224 #[.int .u32 (x.toNat : Int), .int .i64 (-8)] w fun e w' => e = .returned (.int .u32 ((rotP 8 x).toNat : Int)) ∧ w = w' := by
  have hw : bits BinOp.and IntKind.u64 (IntKind.u64.wrap (-8)) 31 = 24 := by decide +kernel
  have hm : bits .or .u32 ((x.toNat : Int) * 16777216 % 4294967296) ((x.toNat : Int) / 256) = ((rotP 8 x).toNat : Int) := by rw [left8, right8, or32, rotP, BitVec.or_comm]
  go_enter Tryz.func224, Tryz.ntmps224
  go_wp2_with fail
  go_ret
  exact ⟨rfl, rfl⟩
theorem turned8 (x : BitVec 32) (w : World) : Calls Tryz.prog 225 #[.int .u32 (x.toNat : Int), .int .u64 8] w fun e w' => e = .returned (.int .u32 ((rotP 8 x).toNat : Int)) ∧ w = w' := by
  have hm : bits .or .u32 ((x.toNat : Int) / 256) ((x.toNat : Int) * 16777216 % 4294967296) = ((rotP 8 x).toNat : Int) := by rw [left8, right8, or32, rotP]
  go_enter Tryz.func225, Tryz.ntmps225
  go_wp2_with fail
  go_ret
  exact ⟨rfl, rfl⟩
theorem left7 (x : BitVec 32) : ((x.toNat : Nat) : Int) * (33554432 : Int) % (4294967296 : Int) = (((x <<< 25).toNat : Nat) : Int) := by rw [← shl32, IntKind.wrap_u32]; rfl
theorem right7 (x : BitVec 32) : ((x.toNat : Nat) : Int) / (128 : Int) = (((x >>> 7).toNat : Nat) : Int) := by rw [← shr32, Int.fdiv_eq_ediv_of_nonneg _ (by decide)]; rfl
theorem rotl7 (x : BitVec 32) (w : World) : Calls Tryz.prog 224 #[.int .u32 (x.toNat : Int), .int .i64 (-7)] w fun e w' => e = .returned (.int .u32 ((rotP 7 x).toNat : Int)) ∧ w = w' := by
  have hw : bits BinOp.and IntKind.u64 (IntKind.u64.wrap (-7)) 31 = 25 := by decide +kernel
  have hm : bits .or .u32 ((x.toNat : Int) * 33554432 % 4294967296) ((x.toNat : Int) / 128) = ((rotP 7 x).toNat : Int) := by rw [left7, right7, or32, rotP, BitVec.or_comm]
  go_enter Tryz.func224, Tryz.ntmps224
  go_wp2_with fail
  go_ret
  exact ⟨rfl, rfl⟩
theorem turned7 (x : BitVec 32) (w : World) : Calls Tryz.prog 225 #[.int .u32 (x.toNat : Int), .int .u64 7] w fun e w' => e = .returned (.int .u32 ((rotP 7 x).toNat : Int)) ∧ w = w' := by
  have hm : bits .or .u32 ((x.toNat : Int) / 128) ((x.toNat : Int) * 33554432 % 4294967296) = ((rotP 7 x).toNat : Int) := by rw [left7, right7, or32, rotP]
  go_enter Tryz.func225, Tryz.ntmps225
  go_wp2_with fail
  go_ret
  exact ⟨rfl, rfl⟩
theorem rotlx16 (x y : BitVec 32) (w : World) : Calls Tryz.prog 224 #[.int .u32 (bits .xor .u32 (x.toNat : Int) (y.toNat : Int)), .int .i64 (-16)] w fun e w' => e = .returned (.int .u32 ((rotP 16 (x ^^^ y)).toNat : Int)) ∧ w = w' := by
  rw [xor32]; exact rotl16 _ _
theorem turnedx16 (x y : BitVec 32) (w : World) : Calls Tryz.prog 225 #[.int .u32 (bits .xor .u32 (x.toNat : Int) (y.toNat : Int)), .int .u64 16] w fun e w' => e = .returned (.int .u32 ((rotP 16 (x ^^^ y)).toNat : Int)) ∧ w = w' := by
  rw [xor32]; exact turned16 _ _
theorem rotlx12 (x y : BitVec 32) (w : World) : Calls Tryz.prog 224 #[.int .u32 (bits .xor .u32 (x.toNat : Int) (y.toNat : Int)), .int .i64 (-12)] w fun e w' => e = .returned (.int .u32 ((rotP 12 (x ^^^ y)).toNat : Int)) ∧ w = w' := by
  rw [xor32]; exact rotl12 _ _
theorem turnedx12 (x y : BitVec 32) (w : World) : Calls Tryz.prog 225 #[.int .u32 (bits .xor .u32 (x.toNat : Int) (y.toNat : Int)), .int .u64 12] w fun e w' => e = .returned (.int .u32 ((rotP 12 (x ^^^ y)).toNat : Int)) ∧ w = w' := by
  rw [xor32]; exact turned12 _ _
theorem rotlx8 (x y : BitVec 32) (w : World) : Calls Tryz.prog 224 #[.int .u32 (bits .xor .u32 (x.toNat : Int) (y.toNat : Int)), .int .i64 (-8)] w fun e w' => e = .returned (.int .u32 ((rotP 8 (x ^^^ y)).toNat : Int)) ∧ w = w' := by
  rw [xor32]; exact rotl8 _ _
theorem turnedx8 (x y : BitVec 32) (w : World) : Calls Tryz.prog 225 #[.int .u32 (bits .xor .u32 (x.toNat : Int) (y.toNat : Int)), .int .u64 8] w fun e w' => e = .returned (.int .u32 ((rotP 8 (x ^^^ y)).toNat : Int)) ∧ w = w' := by
  rw [xor32]; exact turned8 _ _
theorem rotlx7 (x y : BitVec 32) (w : World) : Calls Tryz.prog 224 #[.int .u32 (bits .xor .u32 (x.toNat : Int) (y.toNat : Int)), .int .i64 (-7)] w fun e w' => e = .returned (.int .u32 ((rotP 7 (x ^^^ y)).toNat : Int)) ∧ w = w' := by
  rw [xor32]; exact rotl7 _ _
theorem turnedx7 (x y : BitVec 32) (w : World) : Calls Tryz.prog 225 #[.int .u32 (bits .xor .u32 (x.toNat : Int) (y.toNat : Int)), .int .u64 7] w fun e w' => e = .returned (.int .u32 ((rotP 7 (x ^^^ y)).toNat : Int)) ∧ w = w' := by
  rw [xor32]; exact turned7 _ _
end Go.Proofs.YtkokmnaicfdjaaaGreatDoor
