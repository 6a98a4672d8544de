/- The walks of package geom: zeros, first. -/
import Derived.Test.YtfaplefkakpgcaaGreatDoorXf2
import Derived.Test.YtfaplefkakpgcaaGreatDoorXf3
set_option linter.unusedVariables false
set_option linter.unusedSimpArgs false
set_option maxHeartbeats 32000000
set_option maxRecDepth 100000
namespace Go.Proofs.YtfaplefkakpgcaaGreatDoor
open Go.Proofs.Tryz
open Go.RowKit
theorem repeat_zero (n:Nat):Lib.repeatL [0] n=List.replicate n (0:UInt8):=by
 induction n with
 | zero=>rfl
 | succ n ih=>simp[Lib.repeatL,List.replicate_succ]at *;try exact ih
theorem repeat_any (c:Nat) (w:World) (hc:c<=1000) :
  Calls prog 119 #[.string ⟨#[0]⟩,.int .i64 c] w λe w'=>e=.returned (.string (str (List.replicate c 0)))/\Ext w w':=by
 have h:=Tryz.strings_Repeat ⟨#[0]⟩ c w (by omega) (by show 1*c<=_;omega);rw[show(⟨#[0]⟩:ByteArray).data.toList=[0] from rfl,repeat_zero]at h;exact h
def zs (n:Nat):List UInt8:=List.replicate n 0
theorem zs_len (n:Nat):(zs n).length=n:=by simp[zs]
def headL (B I:Int):List UInt8:=[104,105,98,49,b8 (B%256),b8 (B/256),b8 (I%256),b8 (I/256)]++zs 120
theorem headL_len (B I:Int):(headL B I).length=128:=by simp[headL,zs_len]
theorem first_any (B I:Int) (w:World) (h:planB B I=true) :
  Calls prog 165 #[geomV B I] w λe w'=>e=.returned (.string (str (headL B I)))/\Ext w w':=by
 have hp:16<=B/\B<=223/\4<=I/\I<=64/\3+(I+1)/2<B:=by simpa[planB]using h
 clear h;unfold geomV;have hz:=str_size;have hap:=str_app;have hk:(⟨#[104,105,98,49]⟩:ByteArray)=str [104,105,98,49]:=rfl;go_enter func165,ntmps165;go_wp2_with fail;generalize hw1:w.alloc _=w1;have hg1:Ext w w1:=by rw[← hw1];exact(Ext.refl _).alloc _
 have c0:∀x:Later w1,x.now.cell? ⟨w.heap.size,0,none⟩=some (.int .i64 B):=λx=>x.ext.keep (by rw[← hw1];simp[go_sem]);have c1:∀x:Later w1,x.now.cell? ⟨w.heap.size,1,none⟩=some (.int .i64 I):=λx=>x.ext.keep (by rw[← hw1];simp[go_sem]);clear hw1;refine wp_region_later (by kernel_rfl) (by kernel_rfl) ?_;repeat (go_big_quiet_step ((exact later_of (put2 _ _ (by omega) (by omega)))))
 refine wpQuiet_nil ?_;rintro w2 ⟨x,rfl⟩;have hg2:=hg1.trans x.ext;clear c0 c1;go_wp2_with fail;refine(repeat_any 120 _ (by omega)).mono ?_;rintro e w3 ⟨rfl,hg3⟩;rw[show List.replicate 120 (0:UInt8)=zs 120 from rfl];have hzl:=zs_len;go_wp2_with fail;go_ret;exact⟨rfl,hg2.trans hg3⟩
end Go.Proofs.YtfaplefkakpgcaaGreatDoor
