import Derived.Test.YtfaplefkakpgcaaGreatDoorQa2
import Derived.Test.YtfaplefkakpgcaaGreatDoorProg
set_option linter.unusedVariables false
set_option linter.unusedSimpArgs false
set_option maxHeartbeats 32000000
set_option maxRecDepth 100000
namespace Go.Proofs.YtfaplefkakpgcaaGreatDoor
open Go.Proofs.Tryz
open Go.RowKit
theorem jD (x:BitVec 32):((x.toNat:Nat):Int)*(65536:Int)%(4294967296:Int)=(((x <<< 16).toNat:Nat):Int):=by rw[←Cj,IntKind.wrap_u32];rfl
theorem eF (x:BitVec 32):((x.toNat:Nat):Int)/(65536:Int)=(((x >>> 16).toNat:Nat):Int):=by rw[←Ck,Int.fdiv_eq_ediv_of_nonneg _ (by decide)];rfl
theorem jX (x:BitVec 32) (w:World):Calls prog 219 #[.int .u32 (x.toNat:Int),.int .i64 (-16)] w λe w'=>e=.returned (.int .u32 ((Yq 16 x).toNat:Int))/\w=w':=by
 have hw:bits BinOp.and IntKind.u64 (IntKind.u64.wrap (-16)) 31=16:=by decide +kernel
 have hm:bits .or .u32 ((x.toNat:Int)*65536%4294967296) ((x.toNat:Int)/65536)=((Yq 16 x).toNat:Int):=by rw[jD,eF,Ol,Yq,BitVec.or_comm]
 go_enter func219,ntmps219;go_wp2_with fail;go_ret;exact⟨rfl,rfl⟩
theorem jC (x:BitVec 32):((x.toNat:Nat):Int)*(1048576:Int)%(4294967296:Int)=(((x <<< 20).toNat:Nat):Int):=by rw[←Cj,IntKind.wrap_u32];rfl
theorem eE (x:BitVec 32):((x.toNat:Nat):Int)/(4096:Int)=(((x >>> 12).toNat:Nat):Int):=by rw[←Ck,Int.fdiv_eq_ediv_of_nonneg _ (by decide)];rfl
theorem jW (x:BitVec 32) (w:World):Calls prog 219 #[.int .u32 (x.toNat:Int),.int .i64 (-12)] w λe w'=>e=.returned (.int .u32 ((Yq 12 x).toNat:Int))/\w=w':=by
 have hw:bits BinOp.and IntKind.u64 (IntKind.u64.wrap (-12)) 31=20:=by decide +kernel
 have hm:bits .or .u32 ((x.toNat:Int)*1048576%4294967296) ((x.toNat:Int)/4096)=((Yq 12 x).toNat:Int):=by rw[jC,eE,Ol,Yq,BitVec.or_comm]
 go_enter func219,ntmps219;go_wp2_with fail;go_ret;exact⟨rfl,rfl⟩
theorem oL (x:BitVec 32):((x.toNat:Nat):Int)*(16777216:Int)%(4294967296:Int)=(((x <<< 24).toNat:Nat):Int):=by rw[←Cj,IntKind.wrap_u32];rfl
theorem jV (x:BitVec 32):((x.toNat:Nat):Int)/(256:Int)=(((x >>> 8).toNat:Nat):Int):=by rw[←Ck,Int.fdiv_eq_ediv_of_nonneg _ (by decide)];rfl
theorem oY (x:BitVec 32) (w:World):Calls prog 219 #[.int .u32 (x.toNat:Int),.int .i64 (-8)] w λe w'=>e=.returned (.int .u32 ((Yq 8 x).toNat:Int))/\w=w':=by
 have hw:bits BinOp.and IntKind.u64 (IntKind.u64.wrap (-8)) 31=24:=by decide +kernel
 have hm:bits .or .u32 ((x.toNat:Int)*16777216%4294967296) ((x.toNat:Int)/256)=((Yq 8 x).toNat:Int):=by rw[oL,jV,Ol,Yq,BitVec.or_comm]
 go_enter func219,ntmps219;go_wp2_with fail;go_ret;exact⟨rfl,rfl⟩
theorem oK (x:BitVec 32):((x.toNat:Nat):Int)*(33554432:Int)%(4294967296:Int)=(((x <<< 25).toNat:Nat):Int):=by rw[←Cj,IntKind.wrap_u32];rfl
theorem jU (x:BitVec 32):((x.toNat:Nat):Int)/(128:Int)=(((x >>> 7).toNat:Nat):Int):=by rw[←Ck,Int.fdiv_eq_ediv_of_nonneg _ (by decide)];rfl
theorem oX (x:BitVec 32) (w:World):Calls prog 219 #[.int .u32 (x.toNat:Int),.int .i64 (-7)] w λe w'=>e=.returned (.int .u32 ((Yq 7 x).toNat:Int))/\w=w':=by
 have hw:bits BinOp.and IntKind.u64 (IntKind.u64.wrap (-7)) 31=25:=by decide +kernel
 have hm:bits .or .u32 ((x.toNat:Int)*33554432%4294967296) ((x.toNat:Int)/128)=((Yq 7 x).toNat:Int):=by rw[oK,jU,Ol,Yq,BitVec.or_comm]
 go_enter func219,ntmps219;go_wp2_with fail;go_ret;exact⟨rfl,rfl⟩
theorem eJ (x y:BitVec 32) (w:World):Calls prog 219 #[.int .u32 (bits .xor .u32 (x.toNat:Int) (y.toNat:Int)),.int .i64 (-16)] w λe w'=>e=.returned (.int .u32 ((Yq 16 (x ^^^ y)).toNat:Int))/\w=w':=by
 rw[WN];exact jX _ _
theorem eI (x y:BitVec 32) (w:World):Calls prog 219 #[.int .u32 (bits .xor .u32 (x.toNat:Int) (y.toNat:Int)),.int .i64 (-12)] w λe w'=>e=.returned (.int .u32 ((Yq 12 (x ^^^ y)).toNat:Int))/\w=w':=by
 rw[WN];exact jW _ _
theorem jZ (x y:BitVec 32) (w:World):Calls prog 219 #[.int .u32 (bits .xor .u32 (x.toNat:Int) (y.toNat:Int)),.int .i64 (-8)] w λe w'=>e=.returned (.int .u32 ((Yq 8 (x ^^^ y)).toNat:Int))/\w=w':=by
 rw[WN];exact oY _ _
theorem jY (x y:BitVec 32) (w:World):Calls prog 219 #[.int .u32 (bits .xor .u32 (x.toNat:Int) (y.toNat:Int)),.int .i64 (-7)] w λe w'=>e=.returned (.int .u32 ((Yq 7 (x ^^^ y)).toNat:Int))/\w=w':=by
 rw[WN];exact oX _ _
end Go.Proofs.YtfaplefkakpgcaaGreatDoor
