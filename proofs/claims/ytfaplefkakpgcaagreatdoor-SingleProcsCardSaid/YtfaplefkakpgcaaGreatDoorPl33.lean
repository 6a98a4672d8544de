import Derived.Test.YtfaplefkakpgcaaGreatDoorPl28
import Derived.Test.YtfaplefkakpgcaaGreatDoorPl32
set_option linter.unusedVariables false
set_option linter.unusedSimpArgs false
set_option maxHeartbeats 32000000
set_option maxRecDepth 100000
namespace Go.Proofs.YtfaplefkakpgcaaGreatDoor
open Go.Proofs.Tryz
open Go.RowKit
def AG (v:List (List UInt8)) (I:Option Int) (k:Int):List Int × Int:=match I with
 | some J=>if 1<=k/\k<=J then (QI v k,0) else (Qy,2)
 | none=>(Qy,3)
theorem aJ (A:Option Addr) (n c:Nat) (v:List (List UInt8)) (I:Option Int) (k:Int) (w:World) (hv:Strs w A n v) (hn:n<=9223372036854775807) (hg:ZW v I) :
  (AG v I k).1.length=12/\Calls prog 69 #[.slice A n c,.int .i64 k] w λe w'=>e=.returned (.tuple #[.agg (Qj (AG v I k).1),.int .i64 (AG v I k).2])/\Ext w w':=by
 cases I with
 | none=>exact⟨rfl,CS A n c v k w hv hn hg⟩
 | some J =>
  by_cases h:1<=k/\k<=J
  ·have e:AG v (some J) k=(QI v k,0):=QN h;rw[e];exact⟨rfl,TJ A n c v J k w hv hg h.1 h.2⟩
  ·have e:AG v (some J) k=(Qy,2):=QD h;rw[e];exact⟨rfl,Db A n c v J k w hv hg (by omega)⟩
def Yz (v:List (List UInt8)) (I:Option Int) (p:List UInt8):Int × Int :=
 if (JE v I p).2≠0 then (0,(JE v I p).2) else if (AG v I (JE v I p).1).2=0/\(AG v I (JE v I p).1).1.getD 0 0=1 then ((JE v I p).1,0) else (0,11)
theorem TK {x:List Int}(h:x.length=12):(Qj x)[0]? =some (.int .i64 (x.getD 0 0)):=by
 match x,h with
 | a::l,_=>rfl
theorem I4 (A:Option Addr) (n c:Nat) (v:List (List UInt8)) (I:Option Int) (p:List UInt8) (w:World) (hv:Strs w A n v) (hn:n<=9223372036854775807) (hg:ZW v I) (hp:p.length<=100000000) :
  Calls prog 28 #[.slice A n c,.string (Qb p)] w λe w'=>e=.returned (.tuple #[.int .i64 (Yz v I p).1,.int .i64 (Yz v I p).2])/\Ext w w':=by
 have HF:=Qa (λw h=>Fu A n c v I p w h hn hg hp);have HG:=Qa (λw h=>(aJ A n c v I (JE v I p).1 w h hn hg).2);have hl:=(aJ A n c v I (JE v I p).1 w hv hn hg).1;have HV:=Qa hv;unfold Yz;clear hv hg hn hp;generalize JE v I p=F at *;obtain⟨k,e⟩:=F;simp only at HF HG hl ⊢;generalize AG v I k=Y at *;obtain⟨x,e2⟩:=Y;simp only at HG hl ⊢;by_cases h1:e=0
 ·subst h1;have gK:=TK hl;have HL:=Qa hl;clear hl;rw[QD (by decide)];generalize Mz:x.getD 0 0=kd at *;by_cases h2:e2=0
  ·subst h2;by_cases h3:kd=1
   ·subst h3;rw[QN ⟨rfl,rfl⟩];go_enter func28,ntmps28
    go_wp2_with (first
     | (go_at_call 23;refine(HF.o _ HV.o).mono ?_;rintro e w1 ⟨rfl,x1⟩)
     | (go_at_call 69;refine(HG.o _ (HV.o.ext x1)).mono ?_;rintro e w2 ⟨rfl,x2⟩)
     | (refine QR (.tmp 8) (.tmp 22) rfl rfl w2.heap.size x Qy _ rfl rfl (Qs _ _ _) HL.o rfl ?_;intro w3 b3 g3;have q0:w3.cell? ⟨w2.heap.size,0,none⟩=some (.int .i64 1):=(b3.cell 0).trans gK))
    have x3:Ext w2 w3:=((Qg w2).alloc _).grown g3 (λj e=>by cases e;exact Q4 _);go_ret2;exact⟨rfl,(x1.trans x2).trans x3⟩
   ·rw[QD (λh=>h3 h.2)];have h4:(kd != 1)=true:=by simpa using h3
    go_enter func28,ntmps28
    go_wp2_with (first
     | (go_at_call 23;refine(HF.o _ HV.o).mono ?_;rintro e w1 ⟨rfl,x1⟩)
     | (go_at_call 69;refine(HG.o _ (HV.o.ext x1)).mono ?_;rintro e w2 ⟨rfl,x2⟩)
     | (refine QR (.tmp 8) (.tmp 22) rfl rfl w2.heap.size x Qy _ rfl rfl (Qs _ _ _) HL.o rfl ?_;intro w3 b3 g3;have q0:w3.cell? ⟨w2.heap.size,0,none⟩=some (.int .i64 kd):=(b3.cell 0).trans gK))
    have x3:Ext w2 w3:=((Qg w2).alloc _).grown g3 (λj e=>by cases e;exact Q4 _);go_ret2;exact⟨rfl,(x1.trans x2).trans x3⟩
  ·rw[QD (λh=>h2 h.1)];have h4:(e2 != 0)=true:=by simpa using h2
   go_enter func28,ntmps28
   go_wp2_with (first
    | (go_at_call 23;refine(HF.o _ HV.o).mono ?_;rintro e w1 ⟨rfl,x1⟩)
    | (go_at_call 69;refine(HG.o _ (HV.o.ext x1)).mono ?_;rintro e w2 ⟨rfl,x2⟩)
    | (refine QR (.tmp 8) (.tmp 22) rfl rfl w2.heap.size x Qy _ rfl rfl (Qs _ _ _) HL.o rfl ?_;intro w3 b3 g3))
   have x3:Ext w2 w3:=((Qg w2).alloc _).grown g3 (λj e=>by cases e;exact Q4 _);go_ret2;exact⟨rfl,(x1.trans x2).trans x3⟩
 ·rw[QN h1];have h4:(e != 0)=true:=by simpa using h1
  go_enter func28,ntmps28;go_wp2_with (go_at_call 23;refine(HF.o _ HV.o).mono ?_;rintro e w1 ⟨rfl,x1⟩)
  go_ret2;exact⟨rfl,x1⟩
theorem I3 (p:List UInt8) (w:World):Calls prog 11 #[.agg #[.slice none 0 0,.slice none 0 0,.string ⟨#[]⟩],.string (Qb p)] w λe w'=>e=.returned (.tuple #[.string ⟨#[]⟩,.int .i64 3])/\Ext w w':=by
 have HM:=Qa N2;have x0:=(Qg w).alloc (.cells #[.slice none 0 0,.slice none 0 0,.string ⟨#[]⟩] 24);go_enter func11,ntmps11
 go_wp2_with (first
  | (go_at_call 27;refine(HM.o _).mono ?_;rintro e w1 ⟨rfl,x1⟩)
  | (refine Qr _ _ rfl rfl w1.heap.size QB _ _ rfl rfl (Qs _ _ _) rfl ?_;intro w2 b2 g2))
 have y2:Ext w1 w2:=((Qg w1).alloc _).grown g2 (λj e=>by cases e;exact Q4 _);go_ret2;exact⟨rfl,(x0.trans x1).trans y2⟩
end Go.Proofs.YtfaplefkakpgcaaGreatDoor
