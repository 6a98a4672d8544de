/- single.file, single.File. -/
import Derived.Test.YtfaplefkakpgcaaGreatDoorXf32
import Derived.Test.YtfaplefkakpgcaaGreatDoorXf38
set_option linter.unusedVariables false
set_option linter.unusedSimpArgs false
set_option maxHeartbeats 32000000
set_option maxRecDepth 100000
namespace Go.Proofs.YtfaplefkakpgcaaGreatDoor
open Go.Proofs.Tryz
open Go.RowKit
def igX (v:List (List UInt8)) (I:Option Int) (k:Int):List Int × Int:=match I with
 | some J=>if 1<=k/\k<=J then (inoAt v k,0) else (zero12,2)
 | none=>(zero12,3)
theorem igX_any (A:Option Addr) (n c:Nat) (v:List (List UInt8)) (I:Option Int) (k:Int) (w:World) (hv:Strs w A n v) (hn:n<=9223372036854775807) (hg:GoodX v I) :
  (igX v I k).1.length=12/\Calls prog 69 #[.slice A n c,.int .i64 k] w λe w'=>e=.returned (.tuple #[.agg (intVals (igX v I k).1),.int .i64 (igX v I k).2])/\Ext w w':=by
 cases I with
 | none=>exact⟨rfl,iget_bad A n c v k w hv hn hg⟩
 | some J =>
  by_cases h:1<=k/\k<=J
  ·have e:igX v (some J) k=(inoAt v k,0):=if_pos h;rw[e];exact⟨rfl,iget_yes A n c v J k w hv hg h.1 h.2⟩
  ·have e:igX v (some J) k=(zero12,2):=if_neg h;rw[e];exact⟨rfl,iget_no A n c v J k w hv hg (by omega)⟩
def fileX (v:List (List UInt8)) (I:Option Int) (p:List UInt8):Int × Int :=
 if (findX v I p).2≠0 then (0,(findX v I p).2) else if (igX v I (findX v I p).1).2=0/\(igX v I (findX v I p).1).1.getD 0 0=1 then ((findX v I p).1,0) else (0,11)
def sfileX (v:List (List UInt8)) (I:Option Int) (p:List UInt8):List UInt8 × Int :=
 if (fileX v I p).2≠0 then ([],(fileX v I p).2) else readX v I (fileX v I p).1 0 8960
theorem intVals_zero {x:List Int}(h:x.length=12):(intVals x)[0]? =some (.int .i64 (x.getD 0 0)):=by
 match x,h with
 | a::l,_=>rfl
theorem sgfile_any (A:Option Addr) (n c:Nat) (v:List (List UInt8)) (I:Option Int) (p:List UInt8) (w:World) (hv:Strs w A n v) (hn:n<=9223372036854775807) (hg:GoodX v I) (hp:p.length<=100000000) :
  Calls prog 28 #[.slice A n c,.string (str p)] w λe w'=>e=.returned (.tuple #[.int .i64 (fileX v I p).1,.int .i64 (fileX v I p).2])/\Ext w w':=by
 have HF:=lh_ (λw h=>findX_any A n c v I p w h hn hg hp);have HG:=lh_ (λw h=>(igX_any A n c v I (findX v I p).1 w h hn hg).2);have hl:=(igX_any A n c v I (findX v I p).1 w hv hn hg).1;have HV:=lh_ hv;unfold fileX;clear hv hg hn hp;generalize findX v I p=F at *;obtain⟨k,e⟩:=F;simp only at HF HG hl ⊢;generalize igX v I k=Y at *;obtain⟨x,e2⟩:=Y;simp only at HG hl ⊢;by_cases h1:e=0
 ·subst h1;have hx0:=intVals_zero hl;have HL:=lh_ hl;clear hl;rw[if_neg (by decide)];generalize hkd:x.getD 0 0=kd at *;by_cases h2:e2=0
  ·subst h2;by_cases h3:kd=1
   ·subst h3;rw[if_pos ⟨rfl,rfl⟩];go_enter func28,ntmps28
    go_wp2_with (first
     | (go_at_call 23;refine(HF.out _ HV.out).mono ?_;rintro e w1 ⟨rfl,x1⟩)
     | (go_at_call 69;refine(HG.out _ (HV.out.ext x1)).mono ?_;rintro e w2 ⟨rfl,x2⟩)
     | (refine wp_st_ino (.tmp 8) (.tmp 22) rfl rfl w2.heap.size x zero12 _ rfl rfl (Box.new _ _ _) HL.out rfl ?_;intro w3 b3 g3;have q0:w3.cell? ⟨w2.heap.size,0,none⟩=some (.int .i64 1):=(b3.cell 0).trans hx0))
    have x3:Ext w2 w3:=((Ext.refl w2).alloc _).grown g3 (λj e=>by cases e;exact Nat.le_refl _);go_ret2;exact⟨rfl,(x1.trans x2).trans x3⟩
   ·rw[if_neg (λh=>h3 h.2)];have h4:(kd != 1)=true:=by simpa using h3
    go_enter func28,ntmps28
    go_wp2_with (first
     | (go_at_call 23;refine(HF.out _ HV.out).mono ?_;rintro e w1 ⟨rfl,x1⟩)
     | (go_at_call 69;refine(HG.out _ (HV.out.ext x1)).mono ?_;rintro e w2 ⟨rfl,x2⟩)
     | (refine wp_st_ino (.tmp 8) (.tmp 22) rfl rfl w2.heap.size x zero12 _ rfl rfl (Box.new _ _ _) HL.out rfl ?_;intro w3 b3 g3;have q0:w3.cell? ⟨w2.heap.size,0,none⟩=some (.int .i64 kd):=(b3.cell 0).trans hx0))
    have x3:Ext w2 w3:=((Ext.refl w2).alloc _).grown g3 (λj e=>by cases e;exact Nat.le_refl _);go_ret2;exact⟨rfl,(x1.trans x2).trans x3⟩
  ·rw[if_neg (λh=>h2 h.1)];have h4:(e2 != 0)=true:=by simpa using h2
   go_enter func28,ntmps28
   go_wp2_with (first
    | (go_at_call 23;refine(HF.out _ HV.out).mono ?_;rintro e w1 ⟨rfl,x1⟩)
    | (go_at_call 69;refine(HG.out _ (HV.out.ext x1)).mono ?_;rintro e w2 ⟨rfl,x2⟩)
    | (refine wp_st_ino (.tmp 8) (.tmp 22) rfl rfl w2.heap.size x zero12 _ rfl rfl (Box.new _ _ _) HL.out rfl ?_;intro w3 b3 g3))
   have x3:Ext w2 w3:=((Ext.refl w2).alloc _).grown g3 (λj e=>by cases e;exact Nat.le_refl _);go_ret2;exact⟨rfl,(x1.trans x2).trans x3⟩
 ·rw[if_pos h1];have h4:(e != 0)=true:=by simpa using h1
  go_enter func28,ntmps28;go_wp2_with (go_at_call 23;refine(HF.out _ HV.out).mono ?_;rintro e w1 ⟨rfl,x1⟩)
  go_ret2;exact⟨rfl,x1⟩
theorem sfile_of (FA B:Option Addr) (fn fc bn bc:Nat) (s:ByteArray) (d:MacD) (I:Option Int) (p:List UInt8) (w:World) (hM:∀w',Ext w w'->Calls prog 27 #[.agg #[.slice FA fn fc,.slice B bn bc,.string s]] w' λe w''=>∃z:Mac,e=.returned (.tuple #[.agg z.cells,.int .i64 0])/\Ext w' w''/\MacIn w'' z d)
  (hv:(viewP d.bl d.pe d.di).length<=9223372036854775807) (hg:GoodX (viewP d.bl d.pe d.di) I) (hp:p.length<=100000000) :
  Calls prog 11 #[.agg #[.slice FA fn fc,.slice B bn bc,.string s],.string (str p)] w λe w'=>e=.returned (.tuple #[.string (str (sfileX (viewP d.bl d.pe d.di) I p).1),.int .i64 (sfileX (viewP d.bl d.pe d.di) I p).2])/\Ext w w':=by
 have HV:=lh_ (λz w h=>view_any z d w h);have HS:=lh_ (λA c w h=>sgfile_any A (viewP d.bl d.pe d.di).length c (viewP d.bl d.pe d.di) I p w h hv hg hp);have HR:=lh_ (λA c w h=>readX_any A (viewP d.bl d.pe d.di).length c (viewP d.bl d.pe d.di) I (fileX (viewP d.bl d.pe d.di) I p).1 0 8960 w h hv hg (by decide) (by decide));have HM:=lh_ hM;unfold sfileX;clear hv hg hp hM;generalize fileX (viewP d.bl d.pe d.di) I p=F at *;obtain⟨k,e⟩:=F;simp only at HS HR ⊢;have x0:=(Ext.refl w).alloc (.cells #[.slice FA fn fc,.slice B bn bc,.string s] 24);by_cases h1:e=0
 ·subst h1;rw[if_neg (by decide)];go_enter func11,ntmps11
  go_upto_region 2 with(first
   | (go_at_call 27;refine(HM.out _ x0).mono ?_;rintro e w1 ⟨z,rfl,x1,hi⟩)
   | (refine wp_st_mac _ _ rfl rfl w1.heap.size z _ _ rfl rfl (Box.new _ _ _) rfl ?_;intro w2 b2 g2))
  have y2:Ext w1 w2:=((Ext.refl w1).alloc _).grown g2 (λj e=>by cases e;exact Nat.le_refl _);have HI:=lh_ (hi.ext y2);have X2:=lh_ ((x0.trans x1).trans y2);clear hi x1 y2 g2 x0
  go_wp2_with (first
   | (refine wp_ld_mac _ rfl rfl w1.heap.size _ _ rfl b2 rfl ?_)
   | (go_at_call 18;refine(HV.out z _ HI.out).mono ?_;rintro e w3 ⟨A,c,rfl,x3,o3⟩;have HSt:=lh_ (Strs.own o3);clear o3)
   | (go_at_call 28;refine(HS.out _ _ _ HSt.out).mono ?_;rintro e w4 ⟨rfl,x4⟩)
   | (go_at_call 24;refine(HR.out _ _ _ (HSt.out.ext x4)).mono ?_;rintro e w5 ⟨rfl,x5⟩))
  go_ret2;exact⟨rfl,((X2.out.trans x3).trans x4).trans x5⟩
 ·rw[if_pos h1];have h4:(e != 0)=true:=by simpa using h1
  go_enter func11,ntmps11
  go_upto_region 2 with(first
   | (go_at_call 27;refine(HM.out _ x0).mono ?_;rintro e w1 ⟨z,rfl,x1,hi⟩)
   | (refine wp_st_mac _ _ rfl rfl w1.heap.size z _ _ rfl rfl (Box.new _ _ _) rfl ?_;intro w2 b2 g2))
  have y2:Ext w1 w2:=((Ext.refl w1).alloc _).grown g2 (λj e=>by cases e;exact Nat.le_refl _);have HI:=lh_ (hi.ext y2);have X2:=lh_ ((x0.trans x1).trans y2);clear hi x1 y2 g2 x0
  go_wp2_with (first
   | (refine wp_ld_mac _ rfl rfl w1.heap.size _ _ rfl b2 rfl ?_)
   | (go_at_call 18;refine(HV.out z _ HI.out).mono ?_;rintro e w3 ⟨A,c,rfl,x3,o3⟩;have HSt:=lh_ (Strs.own o3);clear o3)
   | (go_at_call 28;refine(HS.out _ _ _ HSt.out).mono ?_;rintro e w4 ⟨rfl,x4⟩))
  go_ret2;exact⟨rfl,(X2.out.trans x3).trans x4⟩
theorem sfile_none (p:List UInt8) (w:World):Calls prog 11 #[.agg #[.slice none 0 0,.slice none 0 0,.string ⟨#[]⟩],.string (str p)] w λe w'=>e=.returned (.tuple #[.string ⟨#[]⟩,.int .i64 3])/\Ext w w':=by
 have HM:=lh_ imach_none;have x0:=(Ext.refl w).alloc (.cells #[.slice none 0 0,.slice none 0 0,.string ⟨#[]⟩] 24);go_enter func11,ntmps11
 go_wp2_with (first
  | (go_at_call 27;refine(HM.out _).mono ?_;rintro e w1 ⟨rfl,x1⟩)
  | (refine wp_st_mac _ _ rfl rfl w1.heap.size mac0 _ _ rfl rfl (Box.new _ _ _) rfl ?_;intro w2 b2 g2))
 have y2:Ext w1 w2:=((Ext.refl w1).alloc _).grown g2 (λj e=>by cases e;exact Nat.le_refl _);go_ret2;exact⟨rfl,(x0.trans x1).trans y2⟩
end Go.Proofs.YtfaplefkakpgcaaGreatDoor
