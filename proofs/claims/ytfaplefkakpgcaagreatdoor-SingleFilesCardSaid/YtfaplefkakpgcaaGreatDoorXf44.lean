/- The file of any image: single.File, and the document's (layer 56: file, File). -/
import Derived.Test.YtfaplefkakpgcaaGreatDoorXf32
import Derived.Test.YtfaplefkakpgcaaGreatDoorXf39
import Derived.Test.YtfaplefkakpgcaaGreatDoorXf43
import Derived.Test.YtfaplefkakpgcaaGreatDoorXf20
import Derived.Test.YtfaplefkakpgcaaGreatDoorXf41
set_option linter.unusedVariables false
set_option linter.unusedSimpArgs false
set_option maxHeartbeats 32000000
set_option maxRecDepth 100000
namespace Go.Proofs.YtfaplefkakpgcaaGreatDoor
open Go.Proofs.Tryz
open Go.RowKit
theorem rigX_any (A:Option Addr) (n c:Nat) (v:List (List UInt8)) (I:Option Int) (k:Int) (w:World) (hv:Strs w A n v) (hn:n<=9223372036854775807) (hg:GoodX v I) :
  Calls prog 74 #[.slice A n c,.int .i64 k] w λe w'=>e=.returned (.tuple #[.agg (intVals (igX v I k).1),.int .i64 (igX v I k).2])/\Ext w w':=by
 cases I with
 | none=>exact riget_bad A n c v k w hv hn hg
 | some J =>
  by_cases h:1<=k/\k<=J
  ·have e:igX v (some J) k=(inoAt v k,0):=if_pos h;rw[e];exact riget_yes A n c v J k w hv hg h.1 h.2
  ·have e:igX v (some J) k=(zero12,2):=if_neg h;rw[e];exact riget_out A n c v J k w hv hg (by omega)
theorem igX_len (v:List (List UInt8)) (I:Option Int) (k:Int):(igX v I k).1.length=12:=by
 unfold igX;cases I with
 | none=>rfl
 | some J =>
  simp only;split
  ·rfl
  ·rfl
theorem rfile56_any (A:Option Addr) (n c:Nat) (v:List (List UInt8)) (I:Option Int) (p:List UInt8) (w:World) (hv:Strs w A n v) (hn:n<=9223372036854775807) (hg:GoodX v I) (hp:p.length<=100000) :
  Calls prog 31 #[.slice A n c,.string (str p)] w λe w'=>e=.returned (.tuple #[.int .i64 (fileX v I p).1,.int .i64 (fileX v I p).2])/\Ext w w':=by
 have HF:=lh_ (λw h=>rfindp_any A n c v I p w h hn hg hp);have HG:=lh_ (λw h=>rigX_any A n c v I (findX v I p).1 w h hn hg);have hl:=igX_len v I (findX v I p).1;have HV:=lh_ hv;unfold fileX;clear hv hg hn hp;generalize findX v I p=F at *;obtain⟨k,e⟩:=F;simp only at HF HG hl ⊢;generalize igX v I k=Y at *;obtain⟨x,e2⟩:=Y;simp only at HG hl ⊢;by_cases h1:e=0
 ·subst h1;have hx0:=intVals_zero hl;have HL:=lh_ hl;clear hl;rw[if_neg (by decide)];generalize hkd:x.getD 0 0=kd at *;by_cases h2:e2=0
  ·subst h2;by_cases h3:kd=1
   ·subst h3;rw[if_pos ⟨rfl,rfl⟩];go_enter func31,ntmps31
    go_wp2_with (first
     | (go_at_call 73;refine(HF.out _ HV.out).mono ?_;rintro e w1 ⟨rfl,x1⟩)
     | (go_at_call 74;refine(HG.out _ (HV.out.ext x1)).mono ?_;rintro e w2 ⟨rfl,x2⟩)
     | (refine wp_st_ino (.tmp 8) (.tmp 23) rfl rfl w2.heap.size x zero12 _ rfl rfl (Box.new _ _ _) HL.out rfl ?_;intro w3 b3 g3;have q0:w3.cell? ⟨w2.heap.size,0,none⟩=some (.int .i64 1):=(b3.cell 0).trans hx0))
    have x3:Ext w2 w3:=((Ext.refl w2).alloc _).grown g3 (λj e=>by cases e;exact Nat.le_refl _);go_ret2;exact⟨rfl,(x1.trans x2).trans x3⟩
   ·rw[if_neg (λh=>h3 h.2)];have h4:(kd != 1)=true:=by simpa using h3
    go_enter func31,ntmps31
    go_wp2_with (first
     | (go_at_call 73;refine(HF.out _ HV.out).mono ?_;rintro e w1 ⟨rfl,x1⟩)
     | (go_at_call 74;refine(HG.out _ (HV.out.ext x1)).mono ?_;rintro e w2 ⟨rfl,x2⟩)
     | (refine wp_st_ino (.tmp 8) (.tmp 23) rfl rfl w2.heap.size x zero12 _ rfl rfl (Box.new _ _ _) HL.out rfl ?_;intro w3 b3 g3;have q0:w3.cell? ⟨w2.heap.size,0,none⟩=some (.int .i64 kd):=(b3.cell 0).trans hx0))
    have x3:Ext w2 w3:=((Ext.refl w2).alloc _).grown g3 (λj e=>by cases e;exact Nat.le_refl _);go_ret2;exact⟨rfl,(x1.trans x2).trans x3⟩
  ·rw[if_neg (λh=>h2 h.1)];have h4:(e2 != 0)=true:=by simpa using h2
   go_enter func31,ntmps31
   go_wp2_with (first
    | (go_at_call 73;refine(HF.out _ HV.out).mono ?_;rintro e w1 ⟨rfl,x1⟩)
    | (go_at_call 74;refine(HG.out _ (HV.out.ext x1)).mono ?_;rintro e w2 ⟨rfl,x2⟩)
    | (refine wp_st_ino (.tmp 8) (.tmp 23) rfl rfl w2.heap.size x zero12 _ rfl rfl (Box.new _ _ _) HL.out rfl ?_;intro w3 b3 g3))
   have x3:Ext w2 w3:=((Ext.refl w2).alloc _).grown g3 (λj e=>by cases e;exact Nat.le_refl _);go_ret2;exact⟨rfl,(x1.trans x2).trans x3⟩
 ·rw[if_pos h1];have h4:(e != 0)=true:=by simpa using h1
  go_enter func31,ntmps31;go_wp2_with (go_at_call 73;refine(HF.out _ HV.out).mono ?_;rintro e w1 ⟨rfl,x1⟩)
  go_ret2;exact⟨rfl,x1⟩
noncomputable def volI (v:List (List UInt8)):Option Int:=by
 classical
 exact if h:∃J,Good v J then some (Classical.choose h) else none
theorem volI_good (v:List (List UInt8)):GoodX v (volI v):=by
 unfold volI;by_cases h:∃J,Good v J
 ·rw[dif_pos h];exact Classical.choose_spec h
 ·rw[dif_neg h];exactλI hI=>h ⟨I,hI⟩
noncomputable def imgF (FB BB:List (List UInt8)) (s p:List UInt8):List UInt8 × Int :=
 if imgE FB BB s≠0 then ([],imgE FB BB s) else match restQ s with
  | some (_,e)=>sfileX (viewP BB e.pe e.di) (volI (viewP BB e.pe e.di)) p
  | none=>([],3)
theorem sfile_err (fr bl:Sl) (FB BB:List (List UInt8)) (s p:List UInt8) (w:World) (hM:∀w',Ext w w'->Calls prog 27 #[.agg (imC fr bl s)] w' λe w''=>e=.returned (.tuple #[.agg mac0.cells,.int .i64 (imgE FB BB s)])/\Ext w' w'') (h0:imgE FB BB s≠0) :
  Calls prog 11 #[.agg (imC fr bl s),.string (str p)] w λe w'=>e=.returned (.tuple #[.string (str []),.int .i64 (imgE FB BB s)])/\Ext w w':=by
 have HM:=lh_ hM;have x0:=(Ext.refl w).alloc (.cells (imC fr bl s) 24);have h4:(imgE FB BB s != 0)=true:=by simpa using h0
 clear h0 hM;generalize imgE FB BB s=c at *;go_enter func11,ntmps11
 go_wp2_with (first
  | (go_at_call 27;refine(HM.out _ x0).mono ?_;rintro e w1 ⟨rfl,x1⟩)
  | (refine wp_st_mac _ _ rfl rfl w1.heap.size mac0 _ _ rfl rfl (Box.new _ _ _) rfl ?_;intro w2 b2 g2))
 have y2:Ext w1 w2:=((Ext.refl w1).alloc _).grown g2 (λj e=>by cases e;exact Nat.le_refl _);go_ret2;exact⟨rfl,(x0.trans x1).trans y2⟩
theorem sfile_img (fr bl:Sl) (FB BB:List (List UInt8)) (s p:List UInt8) (w:World) (hF:RowOf stL w fr.A fr.n FB) (hfk:fr.ok) (hfs:fr.n<=100000) (hB:RowOf stL w bl.A bl.n BB) (hbk:bl.ok) (hbs:bl.n<=100000) (hs:s.length<=4000) (hp:p.length<=100000) (hD:Dec10 w) :
  Calls prog 11 #[.agg (imC fr bl s),.string (str p)] w λe w'=>e=.returned (.tuple #[.string (str (imgF FB BB s p).1),.int .i64 (imgF FB BB s p).2])/\Ext w w':=by
 have HM:=λw' (x:Ext w w')=>imach_any fr bl FB BB s w' (hF.ext x) hfk hfs (hB.ext x) hbk hbs hs (hD.ext x);by_cases h0:imgE FB BB s=0
 ·cases hq:restQ s with
  | none => unfold imgE at h0;rw[hq]at h0;exact absurd (show(3:Int)=0 from h0) (by decide)
  | some q =>
   obtain⟨z0,e0⟩:=q;have e:imgF FB BB s p=sfileX (viewP BB e0.pe e0.di) (volI (viewP BB e0.pe e0.di)) p:=by unfold imgF;rw[if_neg (λh=>h h0),hq]
   rw[e];have hst:∃z,StateOk z (imgD FB BB e0):=by
    unfold imgE at h0;rw[hq]at h0;simp only at h0;have hc:chkE (imgM z0 (imgD FB BB e0)) (imgD FB BB e0)=0:=by
     by_cases hc:chkE (imgM z0 (imgD FB BB e0)) (imgD FB BB e0)=0
     ·exact hc
     ·rw[orE_l hc]at h0;exact absurd h0 hc
    exact⟨imgM z0 (imgD FB BB e0),chkE_zero.1 hc⟩
   obtain⟨z,hst⟩:=hst;obtain⟨I,hgood⟩:=hst.disk.2.2.2;have hpb:=plan_bd hgood.plan;have hvl:(viewP (imgD FB BB e0).bl (imgD FB BB e0).pe (imgD FB BB e0).di).length<=9223372036854775807:=by omega
   exact sfile_of fr.A bl.A fr.n fr.c bl.n bl.c (str s) (imgD FB BB e0) (volI (viewP BB e0.pe e0.di)) p w (λw' x=>(HM w' x).mono (λe w'' k=>by
    rcases k with⟨k1,_⟩|⟨_,z1,e1,z2,k2,k3,k4,_,k5,_⟩
    ·exact absurd h0 k1
    ·rw[hq]at k2;injection k2 with k2;injection k2 with k2a k2b;subst k2a k2b;exact⟨z2,k3,k4,k5⟩)) hvl (volI_good _) (by omega)
 ·have e:imgF FB BB s p=([],imgE FB BB s):=by unfold imgF;rw[if_pos h0]
  rw[e];exact sfile_err fr bl FB BB s p w (λw' x=>(HM w' x).mono (λe w'' k=>by
   rcases k with⟨_,k1,k2⟩|⟨k1,_⟩
   ·exact⟨k1,k2⟩
   ·exact absurd k1 h0)) h0
theorem rFile_err (fr bl:Sl) (c:Int) (s p:List UInt8) (w:World) (hM:∀w',Ext w w'->Calls prog 29 #[.agg (imC fr bl s)] w' λe w''=>e=.returned (.tuple #[.agg mac0.cells,.int .i64 c])/\Ext w' w'') (h0:c≠0) :
  Calls prog 12 #[.agg (imC fr bl s),.string (str p)] w λe w'=>e=.returned (.tuple #[.string (str []),.int .i64 c])/\Ext w w':=by
 have HM:=lh_ hM;have x0:=(Ext.refl w).alloc (.cells (imC fr bl s) 24);have b0:=Box.new w 24 (imC fr bl s);have h4:(c != 0)=true:=by simpa using h0
 clear h0 hM;go_enter func12,ntmps12;go_upto_region 1 with fail;change Code.wp _ _ _ _ (w.alloc (.cells (imC fr bl s) 24));generalize w.alloc (.cells (imC fr bl s) 24)=w0 at x0 b0 ⊢
 go_wp2_with (first
  | (refine wp_ld _ _ rfl rfl w.heap.size (imC fr bl s) _ _ rfl b0 underlying24 rfl imSz ?_)
  | (go_at_call 29;refine(HM.out _ x0).mono ?_;rintro e w1 ⟨rfl,x1⟩)
  | (refine wp_st_mac _ _ rfl rfl w1.heap.size mac0 _ _ rfl rfl (Box.new _ _ _) rfl ?_;intro w2 b2 g2))
 have y2:Ext w1 w2:=((Ext.refl w1).alloc _).grown g2 (λj e=>by cases e;exact Nat.le_refl _);go_ret2;exact⟨rfl,(x0.trans x1).trans y2⟩
theorem rFile_of (fr bl:Sl) (s:List UInt8) (d:MacD) (I:Option Int) (p:List UInt8) (w:World) (hM:∀w',Ext w w'->Calls prog 29 #[.agg (imC fr bl s)] w' λe w''=>∃z:Mac,e=.returned (.tuple #[.agg z.cells,.int .i64 0])/\Ext w' w''/\MacIn w'' z d)
  (hj:jrnE d.bl d.pe=0) (hv:(viewP d.bl d.pe d.di).length<=9223372036854775807) (hg:GoodX (viewP d.bl d.pe d.di) I) (hp:p.length<=100000) :
  Calls prog 12 #[.agg (imC fr bl s),.string (str p)] w λe w'=>e=.returned (.tuple #[.string (str (sfileX (viewP d.bl d.pe d.di) I p).1),.int .i64 (sfileX (viewP d.bl d.pe d.di) I p).2])/\Ext w w':=by
 have HV:=lh_ (λz w h=>rview_any z d w h hj);have HS:=lh_ (λA c w h=>rfile56_any A (viewP d.bl d.pe d.di).length c (viewP d.bl d.pe d.di) I p w h hv hg hp);have HR:=lh_ (λA c w h=>rreadX_any A (viewP d.bl d.pe d.di).length c (viewP d.bl d.pe d.di) I (fileX (viewP d.bl d.pe d.di) I p).1 0 8960 w h hv hg (by decide) (by decide));have HM:=lh_ hM;unfold sfileX;clear hv hg hp hM hj;generalize fileX (viewP d.bl d.pe d.di) I p=F at *;obtain⟨k,e⟩:=F;simp only at HS HR ⊢;have x0:=(Ext.refl w).alloc (.cells (imC fr bl s) 24);have b0:=Box.new w 24 (imC fr bl s);by_cases h1:e=0
 ·subst h1;rw[if_neg (by decide)];go_enter func12,ntmps12;go_upto_region 1 with fail;change Code.wp _ _ _ _ (w.alloc (.cells (imC fr bl s) 24));generalize w.alloc (.cells (imC fr bl s) 24)=w0 at x0 b0 ⊢
  go_upto_region 2 with(first
   | (refine wp_ld _ _ rfl rfl w.heap.size (imC fr bl s) _ _ rfl b0 underlying24 rfl imSz ?_)
   | (go_at_call 29;refine(HM.out _ x0).mono ?_;rintro e w1 ⟨z,rfl,x1,hi⟩)
   | (refine wp_st_mac _ _ rfl rfl w1.heap.size z _ _ rfl rfl (Box.new _ _ _) rfl ?_;intro w2 b2 g2))
  have y2:Ext w1 w2:=((Ext.refl w1).alloc _).grown g2 (λj e=>by cases e;exact Nat.le_refl _);have HI:=lh_ (hi.ext y2);have X2:=lh_ ((x0.trans x1).trans y2);clear hi x1 y2 g2 x0
  go_wp2_with (first
   | (refine wp_ld_mac _ rfl rfl w1.heap.size _ _ rfl b2 rfl ?_)
   | (go_at_call 30;refine(HV.out z _ HI.out).mono ?_;rintro e w3 ⟨A,c,rfl,x3,o3⟩;have HSt:=lh_ (Strs.own o3);clear o3)
   | (go_at_call 31;refine(HS.out _ _ _ HSt.out).mono ?_;rintro e w4 ⟨rfl,x4⟩)
   | (go_at_call 32;refine(HR.out _ _ _ (HSt.out.ext x4)).mono ?_;rintro e w5 ⟨rfl,x5⟩))
  go_ret2;exact⟨rfl,((X2.out.trans x3).trans x4).trans x5⟩
 ·rw[if_pos h1];have h4:(e != 0)=true:=by simpa using h1
  go_enter func12,ntmps12;go_upto_region 1 with fail;change Code.wp _ _ _ _ (w.alloc (.cells (imC fr bl s) 24));generalize w.alloc (.cells (imC fr bl s) 24)=w0 at x0 b0 ⊢
  go_upto_region 2 with(first
   | (refine wp_ld _ _ rfl rfl w.heap.size (imC fr bl s) _ _ rfl b0 underlying24 rfl imSz ?_)
   | (go_at_call 29;refine(HM.out _ x0).mono ?_;rintro e w1 ⟨z,rfl,x1,hi⟩)
   | (refine wp_st_mac _ _ rfl rfl w1.heap.size z _ _ rfl rfl (Box.new _ _ _) rfl ?_;intro w2 b2 g2))
  have y2:Ext w1 w2:=((Ext.refl w1).alloc _).grown g2 (λj e=>by cases e;exact Nat.le_refl _);have HI:=lh_ (hi.ext y2);have X2:=lh_ ((x0.trans x1).trans y2);clear hi x1 y2 g2 x0
  go_wp2_with (first
   | (refine wp_ld_mac _ rfl rfl w1.heap.size _ _ rfl b2 rfl ?_)
   | (go_at_call 30;refine(HV.out z _ HI.out).mono ?_;rintro e w3 ⟨A,c,rfl,x3,o3⟩;have HSt:=lh_ (Strs.own o3);clear o3)
   | (go_at_call 31;refine(HS.out _ _ _ HSt.out).mono ?_;rintro e w4 ⟨rfl,x4⟩))
  go_ret2;exact⟨rfl,(X2.out.trans x3).trans x4⟩
theorem rFile_img (fr bl:Sl) (FB BB:List (List UInt8)) (s p:List UInt8) (w:World) (hF:RowOf stL w fr.A fr.n FB) (hfk:fr.ok) (hB:RowOf stL w bl.A bl.n BB) (hbk:bl.ok) (hs:s.length<=4000) (hp:p.length<=100000) :
  Calls prog 12 #[.agg (imC fr bl s),.string (str p)] w λe w'=>e=.returned (.tuple #[.string (str (imgF FB BB s p).1),.int .i64 (imgF FB BB s p).2])/\Ext w w':=by
 have HM:=λw' (x:Ext w w')=>rmach_any fr bl FB BB s w' (hF.ext x) hfk (hB.ext x) hbk hs;by_cases h0:imgE FB BB s=0
 ·cases hq:restQ s with
  | none => unfold imgE at h0;rw[hq]at h0;exact absurd (show(3:Int)=0 from h0) (by decide)
  | some q =>
   obtain⟨z0,e0⟩:=q;have e:imgF FB BB s p=sfileX (viewP BB e0.pe e0.di) (volI (viewP BB e0.pe e0.di)) p:=by unfold imgF;rw[if_neg (λh=>h h0),hq]
   rw[e];have hst:∃z,StateOk z (imgD FB BB e0):=by
    unfold imgE at h0;rw[hq]at h0;simp only at h0;have hc:chkE (imgM z0 (imgD FB BB e0)) (imgD FB BB e0)=0:=by
     by_cases hc:chkE (imgM z0 (imgD FB BB e0)) (imgD FB BB e0)=0
     ·exact hc
     ·rw[orE_l hc]at h0;exact absurd h0 hc
    exact⟨imgM z0 (imgD FB BB e0),chkE_zero.1 hc⟩
   obtain⟨z,hst⟩:=hst;obtain⟨I,hgood⟩:=hst.disk.2.2.2;have hpb:=plan_bd hgood.plan;have hvl:(viewP (imgD FB BB e0).bl (imgD FB BB e0).pe (imgD FB BB e0).di).length<=9223372036854775807:=by omega
   exact rFile_of fr bl s (imgD FB BB e0) (volI (viewP BB e0.pe e0.di)) p w (λw' x=>(HM w' x).mono (λe w'' k=>by
    rcases k with⟨k1,_⟩|⟨_,z1,e1,z2,k2,k3,k4,_,k5,_⟩
    ·exact absurd h0 k1
    ·rw[hq]at k2;injection k2 with k2;injection k2 with k2a k2b;subst k2a k2b;exact⟨z2,k3,k4,k5⟩)) hst.disk.1 hvl (volI_good _) hp
 ·have e:imgF FB BB s p=([],imgE FB BB s):=by unfold imgF;rw[if_pos h0]
  rw[e];exact rFile_err fr bl (imgE FB BB s) s p w (λw' x=>(HM w' x).mono (λe w'' k=>by
   rcases k with⟨_,k1,k2⟩|⟨k1,_⟩
   ·exact⟨k1,k2⟩
   ·exact absurd k1 h0)) h0
theorem results_cellP {fn:Func}{p s r:Tmp}{ty:TypeId}(h:fn.results=#[.cell p ty,.tmp s,.tmp r]) (tmps:Array Value) (w:World) (g:Nat) (t:TypeId) (cs:Array Value) (d:TypeDesc) (v u:Value)
  (hp:tmps.getD p undef=.pointer (some ⟨g,0,none⟩)) (hs:tmps.getD s undef=v) (hr:tmps.getD r undef=u) (hg:Box w g t cs)
  (hu:prog.underlying ty=some d) (hd:isAggD d=true) (hi:(prog.info? ty).map (·.size)=some cs.size) :
  (results fn tmps).run prog w=.ok (.tuple #[.agg cs,v,u]) w:=by
 have hp':tmps[p]?.getD undef=.pointer (some ⟨g,0,none⟩):=by simpa using hp
 have hs':tmps[s]?.getD undef=v:=by simpa using hs
 have hr':tmps[r]?.getD undef=u:=by simpa using hr
 simp[results,h,hp',hs',hr',asAddr,run_loadVar_row w g t ty cs (0,0) d hg hu (by cases d<;>first|rfl|cases hd) hi]
theorem sproc_none (w:World):Calls prog 14 #[.agg #[.slice none 0 0,.slice none 0 0,.string ⟨#[]⟩],.int .i64 1,.agg mac0.cells] w λe w'=>e=.returned (.tuple #[.agg mac0.cells,.int .i64 0,.int .i64 3])/\Ext w w':=by
 have HM:=lh_ imach_none;have x0:=(((Ext.refl w).alloc (.cells #[.slice none 0 0,.slice none 0 0,.string ⟨#[]⟩] 24)).alloc (.cells mac0.cells 38)).alloc (.cells mac0.cells 38);have br:=Box.new ((w.alloc (.cells #[.slice none 0 0,.slice none 0 0,.string ⟨#[]⟩] 24)).alloc (.cells mac0.cells 38)) 38 mac0.cells;have bx:=((Box.new w 24 #[.slice none 0 0,.slice none 0 0,.string ⟨#[]⟩]).ext ((Ext.refl _).alloc (.cells mac0.cells 38))).ext ((Ext.refl _).alloc (.cells mac0.cells 38));rw[World.size_alloc,World.size_alloc]at br;go_enter func14,ntmps14;go_upto_region 1 with fail;change Code.wp _ _ _ _ (((w.alloc (.cells #[.slice none 0 0,.slice none 0 0,.string ⟨#[]⟩] 24)).alloc (.cells mac0.cells 38)).alloc (.cells mac0.cells 38));generalize ((w.alloc (.cells #[.slice none 0 0,.slice none 0 0,.string ⟨#[]⟩] 24)).alloc (.cells mac0.cells 38)).alloc (.cells mac0.cells 38)=w0 at x0 br bx ⊢;obtain⟨G,hG⟩:∃G,G=w.heap.size:=⟨_,rfl⟩
 rw[← hG]at br bx ⊢;have HG:=lh_ hG;clear hG
 go_upto_region 2 with(first
  | (refine wp_ld _ _ rfl rfl G #[.slice none 0 0,.slice none 0 0,.string ⟨#[]⟩] _ _ rfl bx underlying24 rfl imgSz ?_)
  | (go_at_call 27;refine(HM.out _).mono ?_;rintro e w1 ⟨rfl,x1⟩)
  | (refine wp_st_mac _ _ rfl rfl w1.heap.size mac0 _ _ rfl rfl (Box.new _ _ _) rfl ?_;intro w2 b2 g2))
 have y2:Ext w1 w2:=((Ext.refl w1).alloc _).grown g2 (λj e=>by cases e;exact Nat.le_refl _);have br2:=br.ext (x1.trans y2);go_wp2_with (refine wp_st_mac _ _ rfl rfl (G+1+1) mac0 _ _ rfl rfl br2 rfl ?_;intro w9 b9 g9)
 exact bodyPost_ret (results_cellP rfl _ _ (G+1+1) _ _ _ _ _ rfl rfl rfl b9 underlying38 rfl macSz) rfl ⟨rfl,(x0.trans (x1.trans y2)).grown g9 (λj e=>by cases e;rw[← HG.out];omega)⟩
theorem sawake_any (w:World):Calls prog 10 #[] w λe w'=>e=.returned (.bool true)/\Ext w w':=by
 have HM:=lh_ imach_none;have HF:=lh_ (λw=>sfile_none [47,97] w);have HP:=lh_ sproc_none;go_enter func10,ntmps10
 go_wp2_with (first
  | (go_at_call 11;refine(HF.out _).mono ?_;rintro e w1 ⟨rfl,x1⟩)
  | (go_at_call 14;refine(HP.out _).mono ?_;rintro e w2 ⟨rfl,x2⟩)
  | (go_at_call 27;refine(HM.out _).mono ?_;rintro e w5 ⟨rfl,x5⟩)
  | (refine wp_st_mac (.tmp 3) (.tmp 17) rfl rfl w2.heap.size mac0 _ _ rfl rfl (Box.new _ _ _) rfl ?_;intro w3 b3 g3)
  | (refine wp_st_mac (.tmp 6) (.tmp 23) rfl rfl w5.heap.size mac0 _ _ rfl rfl (Box.new _ _ _) rfl ?_;intro w6 b6 g6;have x3:Ext w2 w3:=((Ext.refl w2).alloc _).grown g3 (λj e=>by cases e;exact Nat.le_refl _);have x6:Ext w5 w6:=((Ext.refl w5).alloc _).grown g6 (λj e=>by cases e;exact Nat.le_refl _);have q0:w6.cell? ⟨w2.heap.size,4,none⟩=some (.slice none 0 0):=((b3.ext x5).ext x6).cell 4))
 go_ret;exact⟨rfl,(((x1.trans x2).trans x3).trans x5).trans x6⟩
theorem singleFiles_any (fr bl:Sl) (FB BB:List (List UInt8)) (s p:List UInt8) (w:World) (hF:RowOf stL w fr.A fr.n FB) (hfk:fr.ok) (hB:RowOf stL w bl.A bl.n BB) (hbk:bl.ok) (hsl:s.length<=maxLen) (hpl:p.length<=maxLen) (hD0:Dec10 w) :
  Calls prog 3 #[.agg (imC fr bl s),.string (str p)] w λen w'=>en=.returned (.bool true)/\Ext w w':=by
 have hfn:fr.n=FB.length:=hF.1;have hbn:bl.n=BB.length:=hB.1;have HGr:=lh_ (λw (h1:Strs w fr.A FB.length FB) (h2:Strs w bl.A BB.length BB)=>greatX_any fr.A bl.A fr.c bl.c FB BB s (maxLen_le hsl) w h1 h2 (by rw[← hfn];exact maxLen_le hfk.2.1) (by rw[← hbn];exact maxLen_le hbk.2.1));have HAw:=lh_ sawake_any;have x0:=(Ext.refl w).alloc (.cells (imC fr bl s) 24);have bi:=Box.new w 24 (imC fr bl s);have HF:=lh_ (hF.ext x0);have HB:=lh_ (hB.ext x0);have HD:=lh_ (hD0.ext x0);have HFN:=lh_ hfn;have HBN:=lh_ hbn;have HFK:=lh_ hfk;have HBK:=lh_ hbk;have hz:(str p).size=p.length:=str_size p;have hpm:p.length<=9223372036854775807:=maxLen_le hpl;clear hF hB hD0 hfn hbn hfk hbk hsl hpl;go_enter func3,ntmps3;go_upto_region 1 with fail;change Code.wp _ _ _ _ (w.alloc (.cells (imC fr bl s) 24));generalize w.alloc (.cells (imC fr bl s) 24)=w1 at *;generalize w.heap.size=G at *;obtain⟨KH,hKH⟩:∃KH:Prop,KH=((FB.length<=20/\BB.length<=80/\s.length<=4000)/\p.length<=300):=⟨_,rfl⟩
 have HKH:=lh_ hKH;clear hKH;go_cut [16] (λs wx=>∃q:Bool,s=.bool q/\Ext w1 wx/\(q=false->KH));case first =>
  clear HAw HD;have HFs:=lh_ (show Strs w1 fr.A FB.length FB by have:=HF.out.strs;rw[HFN.out]at this;exact this);have HBs:=lh_ (show Strs w1 bl.A BB.length BB by have:=HB.out.strs;rw[HBN.out]at this;exact this);have bi':Box w1 G 24 #[.slice fr.A FB.length fr.c,.slice bl.A BB.length bl.c,.string (str s)]:=by rw[← HFN.out,← HBN.out];exact bi
  rcases Bool.eq_false_or_eq_true (decide (300<(p.length:Int))) with dp|dp
  ·go_wp2_with (first
    | (refine wp_ld _ _ rfl rfl G #[.slice fr.A FB.length fr.c,.slice bl.A BB.length bl.c,.string (str s)] _ _ rfl bi' underlying24 rfl (by kernel_rfl) ?_)
    | (go_at_call 9;refine(HGr.out _ HFs.out HBs.out).mono ?_;rintro e9 w2 ⟨⟨z,rfl,hz2⟩,x2⟩;clear hz2;rcases Bool.eq_false_or_eq_true (decide (0<z)) with dz|dz))
   all_goals go_meet
   ·exact⟨true,rfl,x2,λh=>by cases h⟩
   ·exact⟨true,rfl,x2,λh=>by cases h⟩
  ·go_wp2_with (first
    | (refine wp_ld _ _ rfl rfl G #[.slice fr.A FB.length fr.c,.slice bl.A BB.length bl.c,.string (str s)] _ _ rfl bi' underlying24 rfl (by kernel_rfl) ?_)
    | (go_at_call 9;refine(HGr.out _ HFs.out HBs.out).mono ?_;rintro e9 w2 ⟨⟨z,rfl,hz2⟩,x2⟩;have HZ2:=lh_ hz2;clear hz2;rcases Bool.eq_false_or_eq_true (decide (0<z)) with dz|dz))
   all_goals go_meet
   ·exact⟨true,rfl,x2,λh=>by cases h⟩
   ·have z2:=HZ2.out (by simpa using dz);have:=of_decide_eq_false dp;exact⟨false,rfl,x2,λ_=>by rw[HKH.out];exact⟨z2,by omega⟩⟩
 case rest =>
 obtain⟨q,rfl,x2,hq⟩:=hcut;cases q with
 | true =>
  go_wp2_with (go_at_call 10;refine(HAw.out _).mono ?_;rintro e9 w3 ⟨rfl,x3⟩)
  go_ret;exact⟨rfl,(x0.trans x2).trans x3⟩
 | false =>
 have KH':=hq rfl;rw[HKH.out]at KH';obtain⟨⟨g1,g2,g3⟩,g4⟩:=KH';have HS1:=lh_ (λw (x:Ext w1 w)=>sfile_img fr bl FB BB s p w (HF.out.ext x) HFK.out (by rw[HFN.out];omega) (HB.out.ext x) HBK.out (by rw[HBN.out];omega) g3 (by omega) (HD.out.ext x));have HS2:=lh_ (λw (x:Ext w1 w)=>rFile_img fr bl FB BB s p w (HF.out.ext x) HFK.out (HB.out.ext x) HBK.out g3 (by omega));clear HKH hq HGr g1 g2 g3 g4 hpm hz;have bi:=bi.ext x2;generalize imgF FB BB s p=F at *;obtain⟨u,c⟩:=F;simp only at HS1 HS2
 go_wp2_with (first
  | (refine wp_ld _ (.tmp 2) rfl rfl G (imC fr bl s) _ _ rfl bi underlying24 rfl imSz ?_)
  | (go_at_call 11;refine(HS1.out _ x2).mono ?_;rintro e9 w3 ⟨rfl,x3⟩;have bi:=bi.ext x3)
  | (refine wp_ld _ (.tmp 2) rfl rfl G (imC fr bl s) _ _ rfl (bi.ext x3) underlying24 rfl imSz ?_)
  | (go_at_call 12;refine(HS2.out _ (x2.trans x3)).mono ?_;rintro e9 w4 ⟨rfl,x4⟩)
  | (go_at_call 10;refine(HAw.out _).mono ?_;rintro e9 w5 ⟨rfl,x5⟩))
 go_ret;exact⟨rfl,(x0.trans x2).trans (x3.trans (x4.trans x5))⟩
end Go.Proofs.YtfaplefkakpgcaaGreatDoor
