import Derived.Test.YtfaplefkakpgcaaGreatDoorQa3
import Derived.Test.YtfaplefkakpgcaaGreatDoorQa4
import Derived.Lib.ConvBytes
set_option linter.unusedVariables false
set_option linter.unusedSimpArgs false
set_option maxHeartbeats 32000000
set_option maxRecDepth 100000
namespace Go.Proofs.YtfaplefkakpgcaaGreatDoor
open Go.Proofs.Tryz
open Go.RowKit
theorem GM (n:Nat):Lib.repeatL [0] n=List.replicate n (0:UInt8):=by
 induction n with
 | zero=>rfl
 | succ n ih=>simp[Lib.repeatL,List.replicate_succ]at *;try exact ih
theorem VQ (c:Nat) (w:World) (hc:c<=1000) :
  Calls prog 119 #[.string ⟨#[0]⟩,.int .i64 c] w λe w'=>e=.returned (.string (Qb (List.replicate c 0)))/\Ext w w':=by
 have h:=Tryz.strings_Repeat ⟨#[0]⟩ c w (by omega) (by show 1*c<=_;omega);rw[show(⟨#[0]⟩:ByteArray).data.toList=[0] from rfl,GM]at h;exact h
def zs (n:Nat):List UInt8:=List.replicate n 0
theorem NB (n:Nat):(zs n).length=n:=by simp[zs]
def Zn (B I:Int):List UInt8:=[104,105,98,49,b8 (B%256),b8 (B/256),b8 (I%256),b8 (I/256)]++zs 120
theorem Mg (B I:Int):(Zn B I).length=128:=by simp[Zn,NB]
theorem P6 (B I:Int) (w:World) (h:YY B I=true) :
  Calls prog 165 #[JO B I] w λe w'=>e=.returned (.string (Qb (Zn B I)))/\Ext w w':=by
 have hp:16<=B/\B<=223/\4<=I/\I<=64/\3+(I+1)/2<B:=by simpa[YY]using h
 clear h;unfold JO;have hz:=Qh;have ig:=VT;have hk:(⟨#[104,105,98,49]⟩:ByteArray)=Qb [104,105,98,49]:=rfl;go_enter func165,ntmps165;go_wp2_with fail;generalize Xo:w.alloc _=w1;have PC:Ext w w1:=by rw[←Xo];exact(Qf _).alloc _
 have c0:∀x:Qg w1,x.now.cell? ⟨w.heap.size,0,none⟩=some (.int .i64 B):=λx=>x.ext.keep (by rw[←Xo];simp[go_sem]);have c1:∀x:Qg w1,x.now.cell? ⟨w.heap.size,1,none⟩=some (.int .i64 I):=λx=>x.ext.keep (by rw[←Xo];simp[go_sem]);clear Xo;refine Qp (by kernel_rfl) (by kernel_rfl) ?_;repeat (go_big_quiet_step ((exact Zg (jR _ _ (by omega) (by omega)))))
 refine Y7 ?_;rintro w2 ⟨x,rfl⟩;have Si:=PC.trans x.ext;clear c0 c1;go_wp2_with fail;refine(VQ 120 _ (by omega)).mono ?_;rintro e w3 ⟨rfl,hg3⟩;rw[show List.replicate 120 (0:UInt8)=zs 120 from rfl];have vz:=NB;go_wp2_with fail;go_ret;exact⟨rfl,Si.trans hg3⟩
theorem TE (w:World) (e:TypeId) (s:ByteArray):Ext w (Lib.bytesWorld w e s) :=
 ⟨by simp[Lib.bytesWorld,World.freeze,World.alloc,World.drew,-World.alloc_eq,-World.drew_eq],by simp[Lib.bytesWorld,World.freeze,World.alloc,World.drew,-World.alloc_eq,-World.drew_eq],by simp[Lib.bytesWorld,World.freeze,World.alloc,World.drew,-World.alloc_eq,-World.drew_eq],by rw[Lib.bytesWorld_size];omega,λk hk=>Lib.bytesWorld_at_old w e s k hk⟩
theorem PK {ops:Array Oper}{rest:List Oper}{o:Oper}{a:Act}{Q:Exit->Act->World->Prop}{w:World}{s:List UInt8}(x:Operand) (Q7:o.guard=none) (ho:o.op=.convert 9 167 x) (hx:a.eval x=.string (Qb s))
  (hK:∀cap w',(∀(j:Nat) (h:j<s.length),w'.cell? ⟨w.heap.size,j,none⟩=some (.int .u8 (s[j].toNat:Int)))->Ext w w'->wpList prog ops Q rest (a.put o.dst (.slice (some ⟨w.heap.size,0,none⟩) s.length cap)) w'):wpList prog ops Q (o::rest) a w:=by
 refine DC Q7 λK Ky=>?_;have hr:=Lib.run_convert_string_bytes (P:=prog) w 9 167 5 (Qb s) underlying9 underlying167 underlying5;unfold Oper.wp execOp;simp only[ho,hx,WW,Fp,MZ,hr];rw[Qh];refine Ky _ _ (hK _ _ (λj hj=>?_) (TE w _ _));rw[Lib.bytesWorld_cell w _ _ j (by rw[Qh];exact hj),R2];simp[hj]
end Go.Proofs.YtfaplefkakpgcaaGreatDoor
