import Derived.Test.YtfaplefkakpgcaaGreatDoorQa27
import Derived.Test.YtfaplefkakpgcaaGreatDoorQa34
set_option linter.unusedVariables false
set_option linter.unusedSimpArgs false
set_option maxHeartbeats 32000000
set_option maxRecDepth 100000
namespace Go.Proofs.YtfaplefkakpgcaaGreatDoor
open Go.Proofs.Tryz
open Go.RowKit
def Wr (v:List (List UInt8)) (I:Option Int) (k:Int):List Int × Int:=match I with
 | some J=>if 1<=k/\k<=J then (QV v k,0) else (QE,2)
 | none=>(QE,3)
theorem Tk (A:Option Addr) (n c:Nat) (v:List (List UInt8)) (I:Option Int) (k:Int) (w:World) (hv:Strs w A n v) (hn:n<=9223372036854775807) (hg:Wf v I) :
  (Wr v I k).1.length=12/\Calls prog 69 #[.slice A n c,.int .i64 k] w λe w'=>e=.returned (.tuple #[.agg (Qj (Wr v I k).1),.int .i64 (Wr v I k).2])/\Ext w w':=by
 cases I with
 | none=>exact⟨rfl,Re A n c v k w hv hn hg⟩
 | some J =>
  by_cases h:1<=k/\k<=J
  ·have e:Wr v (some J) k=(QV v k,0):=Qv h;rw[e];exact⟨rfl,KA A n c v J k w hv hg h.1 h.2⟩
  ·have e:Wr v (some J) k=(QE,2):=Qr h;rw[e];exact⟨rfl,Tl A n c v J k w hv hg (by omega)⟩
def XR (v:List (List UInt8)) (I:Option Int) (p:List UInt8):Int × Int :=
 if (QT v I p).2≠0 then (0,(QT v I p).2) else if (Wr v I (QT v I p).1).2=0/\(Wr v I (QT v I p).1).1.getD 0 0=1 then ((QT v I p).1,0) else (0,11)
def Z2 (v:List (List UInt8)) (I:Option Int) (p:List UInt8):List UInt8 × Int :=
 if (XR v I p).2≠0 then ([],(XR v I p).2) else ZO v I (XR v I p).1 0 8960
theorem Lr {x:List Int}(h:x.length=12):(Qj x)[0]? =some (.int .i64 (x.getD 0 0)):=by
 match x,h with
 | a::l,_=>rfl
theorem EW (A:Option Addr) (n c:Nat) (v:List (List UInt8)) (I:Option Int) (p:List UInt8) (w:World) (hv:Strs w A n v) (hn:n<=9223372036854775807) (hg:Wf v I) (hp:p.length<=100000000) :
  Calls prog 28 #[.slice A n c,.string (Qb p)] w λe w'=>e=.returned (.tuple #[.int .i64 (XR v I p).1,.int .i64 (XR v I p).2])/\Ext w w':=by
 have HF:=Qa (λw h=>P5 A n c v I p w h hn hg hp);have HG:=Qa (λw h=>(Tk A n c v I (QT v I p).1 w h hn hg).2);have hl:=(Tk A n c v I (QT v I p).1 w hv hn hg).1;have HV:=Qa hv;unfold XR;clear hv hg hn hp;generalize QT v I p=F at *;obtain⟨k,e⟩:=F;simp only at HF HG hl ⊢;generalize Wr v I k=Y at *;obtain⟨x,e2⟩:=Y;simp only at HG hl ⊢;by_cases h1:e=0
 ·subst h1;have oE:=Lr hl;have HL:=Qa hl;clear hl;rw[Qr (by decide)];generalize Fu:x.getD 0 0=kd at *;by_cases h2:e2=0
  ·subst h2;by_cases h3:kd=1
   ·subst h3;rw[Qv ⟨rfl,rfl⟩];go_enter func28,ntmps28
    go_wp2_with (first
     | (go_at_call 23;refine(HF.o _ HV.o).mono ?_;rintro e w1 ⟨rfl,x1⟩)
     | (go_at_call 69;refine(HG.o _ (HV.o.ext x1)).mono ?_;rintro e w2 ⟨rfl,x2⟩)
     | (refine QR (.tmp 8) (.tmp 22) rfl rfl w2.heap.size x QE _ rfl rfl (QA _ _ _) HL.o rfl ?_;intro w3 b3 g3;have q0:w3.cell? ⟨w2.heap.size,0,none⟩=some (.int .i64 1):=(b3.cell 0).trans oE))
    have x3:Ext w2 w3:=((Qf w2).alloc _).grown g3 (λj e=>by cases e;exact QW _);go_ret2;exact⟨rfl,(x1.trans x2).trans x3⟩
   ·rw[Qr (λh=>h3 h.2)];have h4:(kd != 1)=true:=by simpa using h3
    go_enter func28,ntmps28
    go_wp2_with (first
     | (go_at_call 23;refine(HF.o _ HV.o).mono ?_;rintro e w1 ⟨rfl,x1⟩)
     | (go_at_call 69;refine(HG.o _ (HV.o.ext x1)).mono ?_;rintro e w2 ⟨rfl,x2⟩)
     | (refine QR (.tmp 8) (.tmp 22) rfl rfl w2.heap.size x QE _ rfl rfl (QA _ _ _) HL.o rfl ?_;intro w3 b3 g3;have q0:w3.cell? ⟨w2.heap.size,0,none⟩=some (.int .i64 kd):=(b3.cell 0).trans oE))
    have x3:Ext w2 w3:=((Qf w2).alloc _).grown g3 (λj e=>by cases e;exact QW _);go_ret2;exact⟨rfl,(x1.trans x2).trans x3⟩
  ·rw[Qr (λh=>h2 h.1)];have h4:(e2 != 0)=true:=by simpa using h2
   go_enter func28,ntmps28
   go_wp2_with (first
    | (go_at_call 23;refine(HF.o _ HV.o).mono ?_;rintro e w1 ⟨rfl,x1⟩)
    | (go_at_call 69;refine(HG.o _ (HV.o.ext x1)).mono ?_;rintro e w2 ⟨rfl,x2⟩)
    | (refine QR (.tmp 8) (.tmp 22) rfl rfl w2.heap.size x QE _ rfl rfl (QA _ _ _) HL.o rfl ?_;intro w3 b3 g3))
   have x3:Ext w2 w3:=((Qf w2).alloc _).grown g3 (λj e=>by cases e;exact QW _);go_ret2;exact⟨rfl,(x1.trans x2).trans x3⟩
 ·rw[Qv h1];have h4:(e != 0)=true:=by simpa using h1
  go_enter func28,ntmps28;go_wp2_with (go_at_call 23;refine(HF.o _ HV.o).mono ?_;rintro e w1 ⟨rfl,x1⟩)
  go_ret2;exact⟨rfl,x1⟩
theorem O1 (FA B:Option Addr) (fn fc bn bc:Nat) (s:ByteArray) (d:QL) (I:Option Int) (p:List UInt8) (w:World) (hM:∀w',Ext w w'->Calls prog 27 #[.agg #[.slice FA fn fc,.slice B bn bc,.string s]] w' λe w''=>∃z:Q1,e=.returned (.tuple #[.agg z.cells,.int .i64 0])/\Ext w' w''/\Jg w'' z d)
  (hv:(QH d.bl d.pe d.di).length<=9223372036854775807) (hg:Wf (QH d.bl d.pe d.di) I) (hp:p.length<=100000000) :
  Calls prog 11 #[.agg #[.slice FA fn fc,.slice B bn bc,.string s],.string (Qb p)] w λe w'=>e=.returned (.tuple #[.string (Qb (Z2 (QH d.bl d.pe d.di) I p).1),.int .i64 (Z2 (QH d.bl d.pe d.di) I p).2])/\Ext w w':=by
 have HV:=Qa (λz w h=>Fa z d w h);have HS:=Qa (λA c w h=>EW A (QH d.bl d.pe d.di).length c (QH d.bl d.pe d.di) I p w h hv hg hp);have HR:=Qa (λA c w h=>MC A (QH d.bl d.pe d.di).length c (QH d.bl d.pe d.di) I (XR (QH d.bl d.pe d.di) I p).1 0 8960 w h hv hg (by decide) (by decide));have HM:=Qa hM;unfold Z2;clear hv hg hp hM;generalize XR (QH d.bl d.pe d.di) I p=F at *;obtain⟨k,e⟩:=F;simp only at HS HR ⊢;have x0:=(Qf w).alloc (.cells #[.slice FA fn fc,.slice B bn bc,.string s] 24);by_cases h1:e=0
 ·subst h1;rw[Qr (by decide)];go_enter func11,ntmps11
  go_upto_region 2 with(first
   | (go_at_call 27;refine(HM.o _ x0).mono ?_;rintro e w1 ⟨z,rfl,x1,hi⟩)
   | (refine JD _ _ rfl rfl w1.heap.size z _ _ rfl rfl (QA _ _ _) rfl ?_;intro w2 b2 g2))
  have y2:Ext w1 w2:=((Qf w1).alloc _).grown g2 (λj e=>by cases e;exact QW _);have HI:=Qa (hi.ext y2);have X2:=Qa ((x0.trans x1).trans y2);clear hi x1 y2 g2 x0
  go_wp2_with (first
   | (refine QI _ rfl rfl w1.heap.size _ _ rfl b2 rfl ?_)
   | (go_at_call 18;refine(HV.o z _ HI.o).mono ?_;rintro e w3 ⟨A,c,rfl,x3,o3⟩;have bU:=Qa (Cz o3);clear o3)
   | (go_at_call 28;refine(HS.o _ _ _ bU.o).mono ?_;rintro e w4 ⟨rfl,x4⟩)
   | (go_at_call 24;refine(HR.o _ _ _ (bU.o.ext x4)).mono ?_;rintro e w5 ⟨rfl,x5⟩))
  go_ret2;exact⟨rfl,((X2.o.trans x3).trans x4).trans x5⟩
 ·rw[Qv h1];have h4:(e != 0)=true:=by simpa using h1
  go_enter func11,ntmps11
  go_upto_region 2 with(first
   | (go_at_call 27;refine(HM.o _ x0).mono ?_;rintro e w1 ⟨z,rfl,x1,hi⟩)
   | (refine JD _ _ rfl rfl w1.heap.size z _ _ rfl rfl (QA _ _ _) rfl ?_;intro w2 b2 g2))
  have y2:Ext w1 w2:=((Qf w1).alloc _).grown g2 (λj e=>by cases e;exact QW _);have HI:=Qa (hi.ext y2);have X2:=Qa ((x0.trans x1).trans y2);clear hi x1 y2 g2 x0
  go_wp2_with (first
   | (refine QI _ rfl rfl w1.heap.size _ _ rfl b2 rfl ?_)
   | (go_at_call 18;refine(HV.o z _ HI.o).mono ?_;rintro e w3 ⟨A,c,rfl,x3,o3⟩;have bU:=Qa (Cz o3);clear o3)
   | (go_at_call 28;refine(HS.o _ _ _ bU.o).mono ?_;rintro e w4 ⟨rfl,x4⟩))
  go_ret2;exact⟨rfl,(X2.o.trans x3).trans x4⟩
theorem EV (p:List UInt8) (w:World):Calls prog 11 #[.agg #[.slice none 0 0,.slice none 0 0,.string ⟨#[]⟩],.string (Qb p)] w λe w'=>e=.returned (.tuple #[.string ⟨#[]⟩,.int .i64 3])/\Ext w w':=by
 have HM:=Qa UV;have x0:=(Qf w).alloc (.cells #[.slice none 0 0,.slice none 0 0,.string ⟨#[]⟩] 24);go_enter func11,ntmps11
 go_wp2_with (first
  | (go_at_call 27;refine(HM.o _).mono ?_;rintro e w1 ⟨rfl,x1⟩)
  | (refine JD _ _ rfl rfl w1.heap.size Ju _ _ rfl rfl (QA _ _ _) rfl ?_;intro w2 b2 g2))
 have y2:Ext w1 w2:=((Qf w1).alloc _).grown g2 (λj e=>by cases e;exact QW _);go_ret2;exact⟨rfl,(x0.trans x1).trans y2⟩
theorem PH {fn:Func}{p s r:Tmp}{ty:TypeId}(h:fn.results=#[.cell p ty,.tmp s,.tmp r]) (tmps:Array Value) (w:World) (g:Nat) (t:TypeId) (cs:Array Value) (d:TypeDesc) (v u:Value)
  (hp:tmps.getD p undef=.pointer (some ⟨g,0,none⟩)) (hs:tmps.getD s undef=v) (hr:tmps.getD r undef=u) (hg:Box w g t cs)
  (hu:prog.underlying ty=some d) (hd:Ls d=true) (hi:(prog.info? ty).map (·.size)=some cs.size) :
  (results fn tmps).run prog w=.ok (.tuple #[.agg cs,v,u]) w:=by
 have nf:tmps[p]?.getD undef=.pointer (some ⟨g,0,none⟩):=by simpa using hp
 have ff:tmps[s]?.getD undef=v:=by simpa using hs
 have qK:tmps[r]?.getD undef=u:=by simpa using hr
 simp[results,h,nf,ff,qK,asAddr,mR w g t ty cs (0,0) d hg hu (by cases d<;>first|rfl|cases hd) hi]
theorem E3 (w:World):Calls prog 14 #[.agg #[.slice none 0 0,.slice none 0 0,.string ⟨#[]⟩],.int .i64 1,.agg Ju.cells] w λe w'=>e=.returned (.tuple #[.agg Ju.cells,.int .i64 0,.int .i64 3])/\Ext w w':=by
 have HM:=Qa UV;have x0:=(((Qf w).alloc (.cells #[.slice none 0 0,.slice none 0 0,.string ⟨#[]⟩] 24)).alloc (.cells Ju.cells 38)).alloc (.cells Ju.cells 38);have br:=QA ((w.alloc (.cells #[.slice none 0 0,.slice none 0 0,.string ⟨#[]⟩] 24)).alloc (.cells Ju.cells 38)) 38 Ju.cells;have bx:=((QA w 24 #[.slice none 0 0,.slice none 0 0,.string ⟨#[]⟩]).ext ((Qf _).alloc (.cells Ju.cells 38))).ext ((Qf _).alloc (.cells Ju.cells 38));rw[Ki,Ki]at br;go_enter func14,ntmps14;go_upto_region 1 with fail;change Code.wp _ _ _ _ (((w.alloc (.cells #[.slice none 0 0,.slice none 0 0,.string ⟨#[]⟩] 24)).alloc (.cells Ju.cells 38)).alloc (.cells Ju.cells 38));generalize ((w.alloc (.cells #[.slice none 0 0,.slice none 0 0,.string ⟨#[]⟩] 24)).alloc (.cells Ju.cells 38)).alloc (.cells Ju.cells 38)=w0 at x0 br bx ⊢;obtain⟨G,hG⟩:∃G,G=w.heap.size:=⟨_,rfl⟩
 rw[←hG]at br bx ⊢;have HG:=Qa hG;clear hG
 go_upto_region 2 with(first
  | (refine XZ _ _ rfl rfl G #[.slice none 0 0,.slice none 0 0,.string ⟨#[]⟩] _ _ rfl bx underlying24 rfl I0 ?_)
  | (go_at_call 27;refine(HM.o _).mono ?_;rintro e w1 ⟨rfl,x1⟩)
  | (refine JD _ _ rfl rfl w1.heap.size Ju _ _ rfl rfl (QA _ _ _) rfl ?_;intro w2 b2 g2))
 have y2:Ext w1 w2:=((Qf w1).alloc _).grown g2 (λj e=>by cases e;exact QW _);have iD:=br.ext (x1.trans y2);go_wp2_with (refine JD _ _ rfl rfl (G+1+1) Ju _ _ rfl rfl iD rfl ?_;intro w9 b9 g9)
 exact ZD (PH rfl _ _ (G+1+1) _ _ _ _ _ rfl rfl rfl b9 underlying38 rfl Ro) rfl ⟨rfl,(x0.trans (x1.trans y2)).grown g9 (λj e=>by cases e;rw[←HG.o];omega)⟩
theorem ES (w:World):Calls prog 10 #[] w λe w'=>e=.returned (.bool true)/\Ext w w':=by
 have HM:=Qa UV;have HF:=Qa (λw=>EV [47,97] w);have HP:=Qa E3;go_enter func10,ntmps10
 go_wp2_with (first
  | (go_at_call 11;refine(HF.o _).mono ?_;rintro e w1 ⟨rfl,x1⟩)
  | (go_at_call 14;refine(HP.o _).mono ?_;rintro e w2 ⟨rfl,x2⟩)
  | (go_at_call 27;refine(HM.o _).mono ?_;rintro e w5 ⟨rfl,x5⟩)
  | (refine JD (.tmp 3) (.tmp 17) rfl rfl w2.heap.size Ju _ _ rfl rfl (QA _ _ _) rfl ?_;intro w3 b3 g3)
  | (refine JD (.tmp 6) (.tmp 23) rfl rfl w5.heap.size Ju _ _ rfl rfl (QA _ _ _) rfl ?_;intro w6 b6 g6;have x3:Ext w2 w3:=((Qf w2).alloc _).grown g3 (λj e=>by cases e;exact QW _);have x6:Ext w5 w6:=((Qf w5).alloc _).grown g6 (λj e=>by cases e;exact QW _);have q0:w6.cell? ⟨w2.heap.size,4,none⟩=some (.slice none 0 0):=((b3.ext x5).ext x6).cell 4))
 go_ret;exact⟨rfl,(((x1.trans x2).trans x3).trans x5).trans x6⟩
end Go.Proofs.YtfaplefkakpgcaaGreatDoor
