import Derived.Test.YtfaplefkakpgcaaGreatDoorQa12
set_option linter.unusedVariables false
set_option linter.unusedSimpArgs false
set_option maxHeartbeats 32000000
set_option maxRecDepth 100000
namespace Go.Proofs.YtfaplefkakpgcaaGreatDoor
open Go.Proofs.Tryz
open Go.RowKit
theorem BG (A:Option Addr) (n c:Nat) (v:List (List UInt8)) (k:Int) (w:World) (hv:Strs w A n v) (hn:n<=9223372036854775807) (hb:∀I,¬Ji v I) :
  Calls prog 133 #[.slice A n c,.int .i64 k] w λe w'=>e=.returned (.tuple #[Jj,.int .i64 3])/\Ext w w':=by
 have HO:=Qa (λw h=>cz A n c v w h hn);go_enter func133,ntmps133;go_wp2_with fail;refine(HO.o _ (hv.ext ((Qf _).alloc _))).mono ?_;rintro e w1 ⟨hor,x1⟩;obtain rfl:e=.returned (.tuple #[Jj,.int .i64 3]):=by
  rcases hor with⟨I,hg,_⟩|h
  ·exact absurd hg (hb I)
  ·exact h
 rw[Nk];have x0:Ext w w1:=((Qf w).alloc _).trans x1;have bR:Box w1 w.heap.size 144 (Qj [0,0,0,0,0,0]):=(QA w 144 _).ext x1;have Qo:=bR.lt;clear x1
 go_wp2_with (first
  | (refine Qu (.tmp 6) (.tmp 11) rfl rfl w1.heap.size [0,0,0,0,0,0] [0,0,0,0,0,0] 144 rfl rfl (QA _ _ _) rfl rfl ?_;intro w2 b2 g2)
  | (refine Qu (.tmp 4) (.tmp 15) rfl rfl w.heap.size [0,0,0,0,0,0] [0,0,0,0,0,0] 144 rfl rfl ((bR.ext ((Qf _).alloc _)).grown g2 (by first|(simp;done)|(simp;omega))) rfl rfl ?_;intro w3 b3 g3))
 refine ZD (Qn rfl _ _ w.heap.size _ _ _ (.int .i64 3) rfl rfl b3 underlying144 rfl QU) rfl ⟨rfl,?_⟩;exact((x0.alloc _).grown g2 (λk e=>by cases e;exact x0.size)).grown g3 (λk e=>by cases e;exact QW _)
theorem Re (A:Option Addr) (n c:Nat) (v:List (List UInt8)) (k:Int) (w:World) (hv:Strs w A n v) (hn:n<=9223372036854775807) (hb:∀I,¬Ji v I) :
  Calls prog 69 #[.slice A n c,.int .i64 k] w λe w'=>e=.returned (.tuple #[.agg (Qj QE),.int .i64 3])/\Ext w w':=by
 have HO:=Qa (λw h=>BG A n c v k w h hn hb);go_enter func69,ntmps69;go_wp2_with fail;refine(HO.o _ (hv.ext ((Qf _).alloc _))).mono ?_;rintro e w1 ⟨rfl,x1⟩;rw[Nk];have x0:Ext w w1:=((Qf w).alloc _).trans x1;have bR:Box w1 w.heap.size 121 (Qj QE):=(QA w 121 _).ext x1;have Qo:=bR.lt;clear x1
 go_wp2_with (first
  | (refine Qu (.tmp 6) (.tmp 12) rfl rfl w1.heap.size _ [0,0,0,0,0,0] 144 rfl rfl (QA _ _ _) rfl rfl ?_;intro w2 b2 g2;have x2:Ext w w2:=(x0.alloc _).grown g2 (λk e=>by cases e;exact x0.size))
  | (refine QR (.tmp 4) (.tmp 16) rfl rfl w.heap.size QE QE 121 rfl rfl ((bR.ext ((Qf _).alloc _)).grown g2 (by first|(simp;done)|(simp;omega))) rfl rfl ?_;intro w4 b4 g4))
 refine ZD (Qn rfl _ _ w.heap.size _ _ _ (.int .i64 3) rfl rfl b4 underlying121 rfl Ws) rfl ⟨rfl,?_⟩;exact x2.grown g4 (λk e=>by cases e;exact QW _)
def XQ (v:List (List UInt8)) (I k:Int):Int:=if k<1\/I<k then 2 else if (QV v k).getD 0 0≠1 then 11 else 0
theorem CW (A:Option Addr) (n c:Nat) (v:List (List UInt8)) (k:Int) (w:World) (hv:Strs w A n v) (hn:n<=9223372036854775807) (hb:∀I,¬Ji v I) :
  Calls prog 59 #[.slice A n c,.int .i64 k] w λe w'=>e=.returned (.int .i64 3)/\Ext w w':=by
 have HG:=Qa (λw h=>Re A n c v k w h hn hb);go_enter func59,ntmps59
 go_wp2_with (first
  | (go_at_call 69;refine(HG.o _ hv).mono ?_;rintro e w1 ⟨rfl,x1⟩)
  | (refine QR (.tmp 5) (.tmp 11) rfl rfl w1.heap.size _ QE 121 rfl rfl (QA _ _ _) rfl rfl ?_;intro w2 b2 g2))
 go_ret;exact⟨rfl,(x1.alloc _).grown g2 (λk e=>by cases e;exact x1.size)⟩
theorem CV (A:Option Addr) (n c:Nat) (v:List (List UInt8)) (I k:Int) (w:World) (hv:Strs w A n v) (hg:Ji v I) :
  Calls prog 59 #[.slice A n c,.int .i64 k] w λe w'=>e=.returned (.int .i64 (XQ v I k))/\Ext w w':=by
 by_cases hk:k<1\/I<k
 ·have HG:=Qa (λw h=>Tl A n c v I k w h hg hk);rw[show XQ v I k=2 by unfold XQ;rw[Qv hk]];go_enter func59,ntmps59
  go_wp2_with (first
   | (go_at_call 69;refine(HG.o _ hv).mono ?_;rintro e w1 ⟨rfl,x1⟩)
   | (refine QR (.tmp 5) (.tmp 11) rfl rfl w1.heap.size _ QE 121 rfl rfl (QA _ _ _) rfl rfl ?_;intro w2 b2 g2))
  go_ret;exact⟨rfl,(x1.alloc _).grown g2 (λk e=>by cases e;exact x1.size)⟩
 ·have HG:=Qa (λw h=>KA A n c v I k w h hg (by omega) (by omega));have HE:=Qa (show XQ v I k=if (QV v k).getD 0 0≠1 then 11 else 0 by unfold XQ;rw[Qr hk]);have hx:(Qj (QV v k))[0]? =some (.int .i64 ((QV v k).getD 0 0)):=rfl;have hl:=Uf v k;generalize XQ v I k=r at *;generalize QV v k=x at *;generalize x.getD 0 0=kd at *;by_cases h1:kd=1
  ·subst h1;rw[Qr (λh=>h rfl)]at HE;go_enter func59,ntmps59
   go_wp2_with (first
    | (go_at_call 69;refine(HG.o _ hv).mono ?_;rintro e w1 ⟨rfl,x1⟩)
    | (refine QR (.tmp 5) (.tmp 11) rfl rfl w1.heap.size _ QE 121 rfl rfl (QA _ _ _) hl rfl ?_;intro w2 b2 g2;have c2:=(b2.cell 0).trans hx))
   go_ret;rw[HE.o];exact⟨rfl,(x1.alloc _).grown g2 (λk e=>by cases e;exact x1.size)⟩
  ·have d1:(kd != 1)=true:=by simpa using h1
   rw[Qv h1]at HE;go_enter func59,ntmps59
   go_wp2_with (first
    | (go_at_call 69;refine(HG.o _ hv).mono ?_;rintro e w1 ⟨rfl,x1⟩)
    | (refine QR (.tmp 5) (.tmp 11) rfl rfl w1.heap.size _ QE 121 rfl rfl (QA _ _ _) hl rfl ?_;intro w2 b2 g2;have c2:=(b2.cell 0).trans hx))
   go_ret;rw[HE.o];exact⟨rfl,(x1.alloc _).grown g2 (λk e=>by cases e;exact x1.size)⟩
end Go.Proofs.YtfaplefkakpgcaaGreatDoor
