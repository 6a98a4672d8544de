/- state.Check on a machine that may be: its volume; all points. -/
import Derived.Test.YtfaplefkakpgcaaGreatDoorXf30
import Derived.Test.YtfaplefkakpgcaaGreatDoorXf21
import Derived.Test.YtfaplefkakpgcaaGreatDoorXf14
set_option linter.unusedVariables false
set_option linter.unusedSimpArgs false
set_option maxHeartbeats 32000000
set_option maxRecDepth 100000
namespace Go.Proofs.YtfaplefkakpgcaaGreatDoor
open Go.Proofs.Tryz
open Go.RowKit
theorem volume_ok (m:Mac) (d:MacD) (w:World) (hi:MacIn w m d) (h:DiskOk d) :
  Calls prog 49 #[.agg m.cells] w λe w'=>e=.returned (.int .i64 0)/\Ext w w':=by
 obtain⟨hj,hdl,hdi,I,hgood⟩:=h;have hdrv:drvE d.bl d.pe=0:=by
  unfold jrnE at hj;split at hj
  ·rename_i h;exact absurd hj h
  ·rename_i h;exact Decidable.of_not_not h
 have hlen:=homeP_len hj;have hok:=drvOk_of hj;have hleast:=hok.least;have HC:=lh_ (λw h1 h2=>dcheck_any m.bl.A m.pe.A m.bl.n m.bl.c m.pe.n m.pe.c m.dleft d.bl d.pe w h1 h2 (maxLen_le hi.pek.2.1));have HH:=lh_ (λw h1 h2=>home_any m.bl.A m.pe.A m.bl.n m.bl.c m.pe.n m.pe.c m.dleft d.bl d.pe w h1 h2 (maxLen_le hi.pek.2.1) hi.blk.2.2);rw[hdrv]at HC;have HO:=lh_ (λA n c w h=>of_yes A n c (viewP d.bl d.pe d.di) I w h hgood);have x0:=(Ext.refl w).alloc (.cells m.cells 38);have bm:=Box.new w 38 m.cells;have HM:=lh_ (hi.ext x0);obtain⟨hd1,hd2⟩:=hi.di.wrs;have HD1:=lh_ hd1;have HDI:=lh_ hdi;have HV:=lh_ (show viewP d.bl d.pe d.di=d.di.foldl layP (homeP d.bl d.pe) from rfl);have hH33:0<(homeP d.bl d.pe).length:=by omega
 have HHL:=lh_ hlen;have hmost:(homeP d.bl d.pe).length<=1000:=by have:=hok.most;omega
 clear hi hj hdrv hgood hok hdi hlen hleast hd1;go_enter func49,ntmps49;go_upto_region 1 with fail;generalize w.alloc (.cells m.cells 38)=w1 at *
 go_upto_region 4 with(first
  | (refine wp_ld_drvM (.tmp 10) rfl rfl w.heap.size m 38 rfl bm ?_)
  | (go_at_call 93;refine(HC.out _ HM.out.bl.strs HM.out.pe.wrs).mono ?_;rintro e w2 ⟨rfl,x2⟩))
 have bm2:=bm.ext x2;have xx2:=x0.trans x2
 go_upto_region 5 with(first
  | (refine wp_ld_drvM (.tmp 16) rfl rfl w.heap.size m 38 rfl bm2 ?_)
  | (go_at_call 50;refine(HH.out _ (HM.out.ext x2).bl.strs (HM.out.ext x2).pe.wrs).mono ?_;rintro e w3 ⟨A1,c1,rfl,x3,own1⟩))
 have bm3:=bm2.ext x3;have xx3:=xx2.trans x3;have hGw:w.heap.size<w2.heap.size:=bm2.lt;have c16:w3.cell? ⟨w.heap.size,16,none⟩=some (.slice m.di.A m.di.n m.di.c):=bm3.cell 16;have own1':=own_base own1 (base':=w.heap.size) (by omega);have d32:decide (32<(m.di.n:Int))=false:=by have:=HD1.out;simp;omega
 clear bm bm2 x2 x3 xx2 own1 HC HH x0;generalize homeP d.bl d.pe=H at *;have hH0:((H.length:Int)==0)=false:=by rw[beq_eq_false_iff_ne];omega
 have hln:m.di.n=d.di.length:=HD1.out;go_upto_region 11 with fail;clear d32 hH0 c16;have HOv:=lh_ HO.out;have HVl:=lh_ HV.out;have HDL:=lh_ (λk=>foldl_lay_len (d.di.take k) H);have HTk:=lh_ (λk (h:k<d.di.length)=>foldl_lay_take h H);have HLK:=lh_ (show∀(k:Nat) (h:k<d.di.length),0<=(d.di.getD k default).1/\(d.di.getD k default).1<(H.length:Int)/\(d.di.getD k default).2.length=128/\d.di[k]=d.di.getD k default/\decide ((d.di.getD k default).1<=(if 0<k then (d.di.getD (k-1) default).1 else -1))=false fromλk h=>by
  have e:d.di.getD k default=d.di[k]:=by rw[List.getD_eq_getElem?_getD,List.getElem?_eq_getElem h];rfl
  obtain⟨h1,h2,h3,h4⟩:=HDI.out k h;rw[e];refine⟨h1,by rw[HHL.out];exact h2,h3,rfl,decide_eq_false ?_⟩;split
  ·rename_i h0;have:=h4 h0;rw[List.getD_eq_getElem?_getD,List.getElem?_eq_getElem (by omega)];show¬d.di[k].1<=(d.di[k-1]'(by omega)).1;omega
  ·omega)
 clear HV HO HDI HHL;generalize viewP d.bl d.pe d.di=V at *;generalize d.di=l at *;generalize hdA:m.di.A=dA at hd2 ⊢;generalize hdn:m.di.n=dn at hd2 hln ⊢;clear hdA hdn HD1;subst hln;go_loopw [5,29] (λs i wx=>∃k:Nat,k<=l.length/\i=.int .i64 k/\s=.int .i64 (if 0<k then (l.getD (k-1) default).1 else -1)/\Ext w wx/\wx.ownsRow w.heap.size 9 1 (.slice A1 H.length c1) H.length (strL ((l.take k).foldl layP H))) (λ_ i _=>l.length-(intOf i).toNat);case atStart=>exact⟨0,by omega,rfl,rfl,xx3,own1'⟩
 case round =>
  obtain⟨k,hk,rfl,rfl,xk,ok⟩:=hrel;by_cases hlt:k<l.length
  ·obtain⟨b2,o2,rfl,hcell⟩:=hd2 (by omega);have e1:=xk.keep (hcell k hlt).1;have e2:=xk.keep (hcell k hlt).2;obtain⟨h0,h1,h128,hge,hlast⟩:=HLK.out k hlt;have HT:=lh_ (HTk.out k hlt);have HVl:=lh_ (HDL.out k);have HN:=lh_ (show(if 0<k+1 then (l.getD (k+1-1) default).1 else -1)=(l.getD k default).1 by rw[if_pos (by omega),Nat.add_sub_cancel]);have hki:(k:Int)<(l.length:Int):=by omega
   have hz:=str_size;rw[hge]at e1 e2 HT;clear hcell hge;generalize (if 0<k then (l.getD (k-1) default).1 else (-1:Int))=last at *;generalize l.getD k default=y at *;generalize (l.take k).foldl layP H=W at *;have d1:decide ((H.length:Int)<=y.1)=false:=decide_eq_false (by omega);have d2:((y.2.length:Int) != 128)=false:=by rw[h128];rfl
   obtain⟨y1,y2⟩:=y;simp only at h0 h1 h128 d1 d2 e1 e2 hlast HN;obtain⟨q,rfl⟩:∃q:Nat,y1=q:=⟨y1.toNat,by omega⟩
   have hqN:q<H.length:=by omega
   have hqI:(q:Int)<(H.length:Int):=h1;have okA:=own_ext ok ((Ext.refl wr).alloc (.cells #[.int .i64 (q:Int),.string (str y2)] 92));have HY:=lh_ (show layP W ((q:Int),y2)=W.set q y2 by unfold layP;simp only;rw[if_pos (by have:=HVl.out;omega)];rfl);obtain⟨g,cap,hgc,hg,_⟩:=Strs.own' ok (by omega);injection hgc with hgA _ hgc;subst hgA;subst hgc;have kc:(wr.alloc (.cells #[.int .i64 (q:Int),.string (str y2)] 92)).cell? ⟨g,q,none⟩=some (.string (str (W.getD q []))):=(okA.cellAt q (by omega)).trans (by have:=HVl.out;simp[strL,this,hqN,List.getD_eq_getElem?_getD]);have kf:=okA.frozenAt q;clear h0 h1 h128;go_wp2_with fail;go_roundw;case rel=>exact⟨k+1,by omega,by go_num,by rw[HN.out],(xk.alloc _).setCell hg _,by rw[HT.out,HY.out];exact own_set okA _⟩
   case measure=>simp[intOf];omega
  ·have hlt2:¬(k:Int)<(l.length:Int):=by omega
   obtain rfl:k=l.length:=by omega
   rw[List.take_length,← HVl.out]at ok;have hVl:V.length=H.length:=by rw[HVl.out];exact foldl_lay_len _ _
   rw[← hVl]at ok ⊢;have hs:=Strs.own ok;clear hVl HVl HTk HDL HLK ok
   go_wp2_with (first
    | (go_at_call 94;refine(HOv.out _ _ _ _ hs).mono ?_;rintro e w6 ⟨rfl,x6⟩)
    | (rw[geomV_eq];refine wp_st_geom (.tmp 8) (.tmp 62) rfl rfl w6.heap.size _ [0,0,0,0,0,0] 144 rfl rfl (Box.new _ _ _) rfl rfl ?_;intro w7 b7 g7))
   all_goals
    go_ret;exact⟨rfl,((xk.trans x6).alloc _).grown g7 (λj e=>by cases e;exact(xk.trans x6).size)⟩
theorem jrn_of {d:MacD}(h:drvE d.bl d.pe=0) (hl:33<d.bl.length):jrnE d.bl d.pe=0:=by
 unfold jrnE;rw[if_neg (by omega),if_neg (by omega)]
theorem of_none (A:Option Addr) (n c:Nat) (v:List (List UInt8)) (w:World) (hv:Strs w A n v) (hnk:n<=9223372036854775807) (hg:¬∃I,Good v I) :
  Calls prog 94 #[.slice A n c] w λe w'=>e=.returned (.tuple #[noGeom,.int .i64 3])/\Ext w w' :=
 (gof_any A n c v w hv hnk).mono λe w' ⟨h,x⟩=>⟨by
  rcases h with⟨I,hI,_⟩|h
  ·exact absurd ⟨I,hI⟩ hg
  ·exact h,x⟩
theorem volume_drv (m:Mac) (d:MacD) (w:World) (hi:MacIn w m d) (h:drvE d.bl d.pe≠0) :
  Calls prog 49 #[.agg m.cells] w λe w'=>e=.returned (.int .i64 (drvE d.bl d.pe))/\Ext w w':=by
 have HC:=lh_ (λw h1 h2=>dcheck_any m.bl.A m.pe.A m.bl.n m.bl.c m.pe.n m.pe.c m.dleft d.bl d.pe w h1 h2 (maxLen_le hi.pek.2.1));have x0:=(Ext.refl w).alloc (.cells m.cells 38);have bm:=Box.new w 38 m.cells;have HM:=lh_ (hi.ext x0);clear hi;generalize drvE d.bl d.pe=n at *;have hn:(n != 0)=true:=by simpa using h
 clear h;go_enter func49,ntmps49;go_upto_region 1 with fail;generalize w.alloc (.cells m.cells 38)=w1 at *
 go_wp2_with (first
  | (refine wp_ld_drvM (.tmp 10) rfl rfl w.heap.size m 38 rfl bm ?_)
  | (go_at_call 93;refine(HC.out _ HM.out.bl.strs HM.out.pe.wrs).mono ?_;rintro e w2 ⟨rfl,x2⟩))
 go_ret;exact⟨rfl,x0.trans x2⟩
theorem volume_home (m:Mac) (d:MacD) (w:World) (hi:MacIn w m d) (h:drvE d.bl d.pe=0) (hl:¬33<d.bl.length) :
  Calls prog 49 #[.agg m.cells] w λe w'=>e=.returned (.int .i64 3)/\Ext w w':=by
 have HC:=lh_ (λw h1 h2=>dcheck_any m.bl.A m.pe.A m.bl.n m.bl.c m.pe.n m.pe.c m.dleft d.bl d.pe w h1 h2 (maxLen_le hi.pek.2.1));have HH:=lh_ (λw h1 h2=>home_any m.bl.A m.pe.A m.bl.n m.bl.c m.pe.n m.pe.c m.dleft d.bl d.pe w h1 h2 (maxLen_le hi.pek.2.1) hi.blk.2.2);have hh:homeP d.bl d.pe=[]:=by
  have hj:jrnE d.bl d.pe=2:=by unfold jrnE;rw[if_neg (by omega),if_pos (by omega)]
  unfold homeP;rw[if_pos (by rw[hj];decide)]
 rw[h]at HC;rw[hh]at HH;have x0:=(Ext.refl w).alloc (.cells m.cells 38);have bm:=Box.new w 38 m.cells;have HM:=lh_ (hi.ext x0);clear hi h hl hh;go_enter func49,ntmps49;go_upto_region 1 with fail;generalize w.alloc (.cells m.cells 38)=w1 at *
 go_wp2_with (first
  | (refine wp_ld_drvM (.tmp 10) rfl rfl w.heap.size m 38 rfl bm ?_)
  | (go_at_call 93;refine(HC.out _ HM.out.bl.strs HM.out.pe.wrs).mono ?_;rintro e w2 ⟨rfl,x2⟩)
  | (refine wp_ld_drvM (.tmp 16) rfl rfl w.heap.size m 38 rfl (bm.ext x2) ?_)
  | (go_at_call 50;refine(HH.out _ (HM.out.ext x2).bl.strs (HM.out.ext x2).pe.wrs).mono ?_;rintro e w3 ⟨A1,c1,rfl,x3,own1⟩))
 go_ret;exact⟨rfl,(x0.trans x2).trans x3⟩
theorem volume_no (m:Mac) (d:MacD) (w:World) (hi:MacIn w m d) (hd:drvE d.bl d.pe=0) (hl33:33<d.bl.length) (c:Int) (h:(32<d.di.length/\c=6)\/(d.di.length<=32/\c=3/\¬(DirtyK (d.bl.length-33) d.di d.di.length/\∃I,Good (viewP d.bl d.pe d.di) I))) :
  Calls prog 49 #[.agg m.cells] w λe w'=>e=.returned (.int .i64 c)/\Ext w w':=by
 have hj:=jrn_of hd hl33;have hlen:=homeP_len hj;have hok:=drvOk_of hj;have hleast:=hok.least;have HC:=lh_ (λw h1 h2=>dcheck_any m.bl.A m.pe.A m.bl.n m.bl.c m.pe.n m.pe.c m.dleft d.bl d.pe w h1 h2 (maxLen_le hi.pek.2.1));have HH:=lh_ (λw h1 h2=>home_any m.bl.A m.pe.A m.bl.n m.bl.c m.pe.n m.pe.c m.dleft d.bl d.pe w h1 h2 (maxLen_le hi.pek.2.1) hi.blk.2.2);rw[hd]at HC;have x0:=(Ext.refl w).alloc (.cells m.cells 38);have bm:=Box.new w 38 m.cells;have HM:=lh_ (hi.ext x0);obtain⟨hd1,hd2⟩:=hi.di.wrs;have HD1:=lh_ hd1;have HV:=lh_ (show viewP d.bl d.pe d.di=d.di.foldl layP (homeP d.bl d.pe) from rfl);have hH33:0<(homeP d.bl d.pe).length:=by omega
 have HHL:=lh_ hlen;have hmost:(homeP d.bl d.pe).length<=1000:=by have:=hok.most;omega
 rw[← hlen]at h;have HCs:=lh_ h;clear h hi hj hok hlen hleast hd1 hd hl33;go_enter func49,ntmps49;go_upto_region 1 with fail;generalize w.alloc (.cells m.cells 38)=w1 at *
 go_upto_region 4 with(first
  | (refine wp_ld_drvM (.tmp 10) rfl rfl w.heap.size m 38 rfl bm ?_)
  | (go_at_call 93;refine(HC.out _ HM.out.bl.strs HM.out.pe.wrs).mono ?_;rintro e w2 ⟨rfl,x2⟩))
 have bm2:=bm.ext x2;have xx2:=x0.trans x2
 go_upto_region 5 with(first
  | (refine wp_ld_drvM (.tmp 16) rfl rfl w.heap.size m 38 rfl bm2 ?_)
  | (go_at_call 50;refine(HH.out _ (HM.out.ext x2).bl.strs (HM.out.ext x2).pe.wrs).mono ?_;rintro e w3 ⟨A1,c1,rfl,x3,own1⟩))
 have bm3:=bm2.ext x3;have xx3:=xx2.trans x3;have hGw:w.heap.size<w2.heap.size:=bm2.lt;have c16:w3.cell? ⟨w.heap.size,16,none⟩=some (.slice m.di.A m.di.n m.di.c):=bm3.cell 16;have own1':=own_base own1 (base':=w.heap.size) (by omega);clear bm bm2 x2 x3 xx2 own1 HC HH x0;generalize homeP d.bl d.pe=H at *;have hH0:((H.length:Int)==0)=false:=by rw[beq_eq_false_iff_ne];omega
 have hln:m.di.n=d.di.length:=HD1.out;rcases HCs.out with⟨h32,rfl⟩|⟨h32,rfl,hno⟩
 ·have d32:decide (32<(m.di.n:Int))=true:=by simp;omega
  clear hln;go_wp2_with fail;go_ret;exact⟨rfl,xx3⟩
 have d32:decide (32<(m.di.n:Int))=false:=by simp;omega
 have HNo:=lh_ hno;clear hno HCs;go_upto_region 11 with fail;clear d32 hH0 c16;have HDL:=lh_ (λk=>foldl_lay_len (d.di.take k) H);have HTk:=lh_ (λk (h:k<d.di.length)=>foldl_lay_take h H);have HDN:=lh_ (show∀k,DirtyK H.length d.di k->(h:k<d.di.length)->0<=d.di[k].1->d.di[k].1<(H.length:Int)->d.di[k].2.length=128->(0<k->(d.di.getD (k-1) default).1<d.di[k].1)->DirtyK H.length d.di (k+1) fromλk h hk h1 h2 h3 h4 i hi hik=>by
  by_cases e:i<k
  ·exact h i hi e
  ·obtain rfl:i=k:=by omega
   refine⟨h1,h2,h3,λh0=>?_⟩;have:=h4 h0;rw[List.getD_eq_getElem?_getD,List.getElem?_eq_getElem (by omega)]at this;exact this)
 have HD0:=lh_ (show∀k,DirtyK H.length d.di k->0<k->(h:k-1<d.di.length)->0<=(d.di.getD (k-1) default).1 fromλk h h0 hk=>by
  rw[List.getD_eq_getElem?_getD,List.getElem?_eq_getElem hk];exact(h (k-1) hk (by omega)).1)
 generalize hDK:DirtyK H.length d.di=DK at *;have HDz:=lh_ (show DK 0 by rw[← hDK];exactλi h hk=>by omega);clear hDK HHL;have HNo2:=lh_ (show DK d.di.length->¬∃I,Good (d.di.foldl layP H) I fromλh1 h2=>HNo.out ⟨h1,by rw[HV.out];exact h2⟩);clear HNo HV;generalize d.di=l at *;generalize hdA:m.di.A=dA at hd2 ⊢;generalize hdn:m.di.n=dn at hd2 hln ⊢;clear hdA hdn HD1;subst hln;go_loopw [5,29] (λs i wx=>∃k:Nat,k<=l.length/\i=.int .i64 k/\s=.int .i64 (if 0<k then (l.getD (k-1) default).1 else -1)/\Ext w wx/\wx.ownsRow w.heap.size 9 1 (.slice A1 H.length c1) H.length (strL ((l.take k).foldl layP H))/\DK k) (λ_ i _=>l.length-(intOf i).toNat);case atStart=>exact⟨0,by omega,rfl,rfl,xx3,own1',HDz.out⟩
 case round =>
  obtain⟨k,hk,rfl,rfl,xk,ok,hdk⟩:=hrel;have HDK:=lh_ hdk;clear hdk;by_cases hlt:k<l.length
  ·obtain⟨b2,o2,rfl,hcell⟩:=hd2 (by omega);have e1:=xk.keep (hcell k hlt).1;have e2:=xk.keep (hcell k hlt).2;have HT:=lh_ (HTk.out k hlt);have HVl:=lh_ (HDL.out k);have HN:=lh_ (show(if 0<k+1 then (l.getD (k+1-1) default).1 else -1)=l[k].1 by
    rw[if_pos (by omega),Nat.add_sub_cancel,List.getD_eq_getElem?_getD,List.getElem?_eq_getElem hlt];rfl)
   have hki:(k:Int)<(l.length:Int):=by omega
   have hz:=str_size;have HL0:=lh_ (show -1<=(if 0<k then (l.getD (k-1) default).1 else (-1:Int)) from by
    split
    ·rename_i h0;have:=HD0.out k HDK.out h0 (by omega);omega
    ·omega)
   have HNx:=lh_ (show 0<=l[k].1->l[k].1<(H.length:Int)->l[k].2.length=128->(if 0<k then (l.getD (k-1) default).1 else (-1:Int))<l[k].1->DK (k+1) fromλh1 h2 h3 h4=>HDN.out k HDK.out hlt h1 h2 h3 (λh0=>by rw[if_pos h0]at h4;exact h4));clear hcell;generalize (if 0<k then (l.getD (k-1) default).1 else (-1:Int))=last at *;generalize l[k]=y at *;generalize (l.take k).foldl layP H=W at *;have xz:=xk.alloc (.cells #[.int .i64 y.1,.string (str y.2)] 92);by_cases g1:y.1<=last
   ·have g1':decide (y.1<=last)=true:=decide_eq_true g1;clear g1;go_wp2_with fail;go_ret;exact⟨rfl,xz⟩
   have g1':decide (y.1<=last)=false:=decide_eq_false g1;by_cases g2:(H.length:Int)<=y.1
   ·have g2':decide ((H.length:Int)<=y.1)=true:=decide_eq_true g2;clear g1 g2;go_wp2_with fail;go_ret;exact⟨rfl,xz⟩
   have g2':decide ((H.length:Int)<=y.1)=false:=decide_eq_false g2;by_cases g3:y.2.length=128;case neg =>
    have g3':((y.2.length:Int) != 128)=true:=by simp;omega
    clear g1 g2 g3;go_wp2_with fail;go_ret;exact⟨rfl,xz⟩
   have g3':((y.2.length:Int) != 128)=false:=by rw[g3];rfl
   have h0:0<=y.1:=by have:=HL0.out;omega
   have HNy:=lh_ (HNx.out h0 (by omega) g3 (by omega));clear HNx g3 g1;obtain⟨y1,y2⟩:=y;simp only at h0 g2 g1' g2' g3' e1 e2 HN HNy;obtain⟨q,rfl⟩:∃q:Nat,y1=q:=⟨y1.toNat,by omega⟩
   have hqN:q<H.length:=by omega
   have hqI:(q:Int)<(H.length:Int):=by omega
   have okA:=own_ext ok ((Ext.refl wr).alloc (.cells #[.int .i64 (q:Int),.string (str y2)] 92));have HY:=lh_ (show layP W ((q:Int),y2)=W.set q y2 by unfold layP;simp only;rw[if_pos (by have:=HVl.out;omega)];rfl);obtain⟨g,cap,hgc,hg,_⟩:=Strs.own' ok (by omega);injection hgc with hgA _ hgc;subst hgA;subst hgc;have kc:(wr.alloc (.cells #[.int .i64 (q:Int),.string (str y2)] 92)).cell? ⟨g,q,none⟩=some (.string (str (W.getD q []))):=(okA.cellAt q (by omega)).trans (by have:=HVl.out;simp[strL,this,hqN,List.getD_eq_getElem?_getD]);have kf:=okA.frozenAt q;clear h0 g2;go_wp2_with fail;go_roundw;case rel=>exact⟨k+1,by omega,by go_num,by rw[HN.out],(xk.alloc _).setCell hg _,by rw[HT.out,HY.out];exact own_set okA _,HNy.out⟩
   case measure=>simp[intOf];omega
  ·have hlt2:¬(k:Int)<(l.length:Int):=by omega
   obtain rfl:k=l.length:=by omega
   rw[List.take_length]at ok;have hVl:(l.foldl layP H).length=H.length:=foldl_lay_len _ _;have HNN:=lh_ (HNo2.out HDK.out);generalize l.foldl layP H=V at *;rw[← hVl]at ok ⊢;have hs:=Strs.own ok;have hVk:V.length<=9223372036854775807:=by omega
   clear hVl HTk HDL ok
   go_wp2_with (first
    | (go_at_call 94;refine(of_none _ _ _ _ _ hs hVk HNN.out).mono ?_;rintro e w6 ⟨rfl,x6⟩)
    | (rw[noGeom_eq];refine wp_st_geom (.tmp 8) (.tmp 62) rfl rfl w6.heap.size _ [0,0,0,0,0,0] 144 rfl rfl (Box.new _ _ _) rfl rfl ?_;intro w7 b7 g7))
   all_goals
    go_ret;exact⟨rfl,((xk.trans x6).alloc _).grown g7 (λj e=>by cases e;exact(xk.trans x6).size)⟩
theorem stvolume_any (m:Mac) (d:MacD) (w:World) (hi:MacIn w m d) :
  Calls prog 49 #[.agg m.cells] w λe w'=>e=.returned (.int .i64 (voE d))/\Ext w w':=by
 by_cases hok:DiskOk d
 ·rw[voE_zero.2 hok];exact volume_ok m d w hi hok
 have hok2:voE d≠0:=λh=>hok (voE_zero.1 h);unfold voE at hok2 ⊢;by_cases h1:drvE d.bl d.pe=0;case neg=>rw[orE_l h1];exact volume_drv m d w hi h1
 rw[h1,orE_r]at hok2 ⊢;by_cases h2:33<d.bl.length;case neg=>rw[errB_no h2,orE_l (by omega)];exact volume_home m d w hi h1 h2
 rw[errB_yes h2,orE_r]at hok2 ⊢;by_cases h3:d.di.length<=32;case neg=>rw[errB_no h3,orE_l (by omega)];exact volume_no m d w hi h1 h2 6 (.inl ⟨by omega,rfl⟩)
 rw[errB_yes h3,orE_r]at hok2 ⊢;by_cases h4:DirtyK (d.bl.length-33) d.di d.di.length;case neg=>rw[errB_no h4,orE_l (by omega)];exact volume_no m d w hi h1 h2 3 (.inr ⟨h3,rfl,λh=>h4 h.1⟩)
 rw[errB_yes h4,orE_r]at hok2 ⊢;by_cases h5:∃I,Good (viewP d.bl d.pe d.di) I
 ·rw[errB_yes h5]at hok2;exact absurd rfl hok2
 ·rw[errB_no h5];exact volume_no m d w hi h1 h2 3 (.inr ⟨h3,rfl,λh=>h5 h.2⟩)
theorem stnumbers_any (m:Mac) (w:World) :
  Calls prog 44 #[.agg m.cells] w λe w'=>e=.returned (.int .i64 (numE m))/\Ext w w':=by
 by_cases h:NumsOk m
 ·unfold numE;rw[errB_yes h];exact numbers_ok m w h
 unfold numE;rw[errB_no h];have x0:=(Ext.refl w).alloc (.cells m.cells 38);have bm:=Box.new w 38 m.cells;have HN:=lh_ h;clear h;go_enter func44,ntmps44;go_upto_region 1 with fail;generalize w.alloc (.cells m.cells 38)=w1 at *;obtain⟨k0,k1,k2,k3,k4,k5,k6,k7,k8,k9,k10,k11,k12,k13,k14,k15,k16⟩:=mac_cells bm;clear k0 k4 k5 k7 k8 k10 k11 k12 k13 k14 k15 k16 bm;go_wp2_with fail
 all_goals
  go_ret
  first
   | exact⟨rfl,x0⟩
   | (exfalso;refine HN.out ⟨⟨?_,?_⟩,⟨?_,?_⟩,?_,⟨?_,?_⟩,⟨?_,?_⟩⟩<;>omega)
theorem sttexts_any (m:Mac) (w:World) :
  Calls prog 48 #[.agg m.cells] w λe w'=>e=.returned (.int .i64 (teE m))/\Ext w w':=by
 by_cases h:m.inn.length<=65536/\m.init.length<=128
 ·unfold teE;rw[errB_yes h];exact texts_ok m w h
 unfold teE;rw[errB_no h];have x0:=(Ext.refl w).alloc (.cells m.cells 38);have bm:=Box.new w 38 m.cells;have hz:=str_size;by_cases h1:m.inn.length<=65536
 ·have f1:decide (65536<(m.inn.length:Int))=false:=by simp;omega
  have f2:decide (128<(m.init.length:Int))=true:=by simp;omega
  clear h h1;go_enter func48,ntmps48;go_upto_region 1 with fail;generalize w.alloc (.cells m.cells 38)=w1 at *;obtain⟨k0,k1,k2,k3,k4,k5,k6,k7,k8,k9,k10,k11,k12,k13,k14,k15,k16⟩:=mac_cells bm;clear k0 k1 k2 k3 k4 k5 k6 k8 k9 k11 k12 k13 k14 k15 k16 bm;go_wp2_with fail;go_ret;exact⟨rfl,x0⟩
 ·have f1:decide (65536<(m.inn.length:Int))=true:=by simp;omega
  clear h h1;go_enter func48,ntmps48;go_upto_region 1 with fail;generalize w.alloc (.cells m.cells 38)=w1 at *;obtain⟨k0,k1,k2,k3,k4,k5,k6,k7,k8,k9,k10,k11,k12,k13,k14,k15,k16⟩:=mac_cells bm;clear k0 k1 k2 k3 k4 k5 k6 k8 k9 k11 k12 k13 k14 k15 k16 bm;go_wp2_with fail;go_ret;exact⟨rfl,x0⟩
theorem stframes_any (m:Mac) (d:MacD) (w:World) (hi:MacIn w m d) :
  Calls prog 45 #[.agg m.cells] w λe w'=>e=.returned (.int .i64 (frE m d))/\Ext w w':=by
 unfold frE;by_cases h:1<=m.fr.n/\m.fr.n<=64;case neg =>
  rw[errB_no h,orE_l (by omega)];have x0:=(Ext.refl w).alloc (.cells m.cells 38);have bm:=Box.new w 38 m.cells;clear hi;by_cases h1:1<=m.fr.n
  ·have f1:decide ((m.fr.n:Int)<1)=false:=by simp;omega
   have f2:decide (64<(m.fr.n:Int))=true:=by simp;omega
   clear h h1;go_enter func45,ntmps45;go_upto_region 1 with fail;generalize w.alloc (.cells m.cells 38)=w1 at *;obtain⟨k0,k1,k2,k3,k4,k5,k6,k7,k8,k9,k10,k11,k12,k13,k14,k15,k16⟩:=mac_cells bm;clear k0 k1 k2 k3 k5 k6 k7 k8 k9 k10 k11 k12 k13 k14 k15 k16 bm;go_wp2_with fail;go_ret;exact⟨rfl,x0⟩
  ·have f1:decide ((m.fr.n:Int)<1)=true:=by simp;omega
   clear h h1;go_enter func45,ntmps45;go_upto_region 1 with fail;generalize w.alloc (.cells m.cells 38)=w1 at *;obtain⟨k0,k1,k2,k3,k4,k5,k6,k7,k8,k9,k10,k11,k12,k13,k14,k15,k16⟩:=mac_cells bm;clear k0 k1 k2 k3 k5 k6 k7 k8 k9 k10 k11 k12 k13 k14 k15 k16 bm;go_wp2_with fail;go_ret;exact⟨rfl,x0⟩
 rw[errB_yes h,orE_r];by_cases hf:∀b∈d.fr,b.length=128;case pos => rw[errB_yes hf];exact frames_ok m d w hi h hf
 rw[errB_no hf];have x0:=(Ext.refl w).alloc (.cells m.cells 38);have bm:=Box.new w 38 m.cells;obtain⟨hv1,hv2⟩:=hi.fr.strs;clear hi;obtain⟨a1,a2⟩:=h;have hz:=str_size;have f1:decide ((m.fr.n:Int)<1)=false:=by simp;omega
 have f2:decide (64<(m.fr.n:Int))=false:=by simp;omega
 have HF:=lh_ hf;have HV1:=lh_ hv1;clear hf hv1;go_enter func45,ntmps45;go_upto_region 1 with fail;generalize w.alloc (.cells m.cells 38)=w1 at *;obtain⟨k0,k1,k2,k3,k4,k5,k6,k7,k8,k9,k10,k11,k12,k13,k14,k15,k16⟩:=mac_cells bm;clear k0 k1 k2 k3 k5 k6 k7 k8 k9 k10 k11 k12 k13 k14 k15 k16 bm;go_wp2_with fail;clear f1 f2 k4;generalize d.fr=l at *;generalize m.fr.A=A at *;generalize m.fr.n=n at *;obtain rfl:n=l.length:=HV1.out;go_loop [18] (λi=>∃k:Nat,k<=l.length/\i=.int .i64 k/\∀(j:Nat) (h:j<l.length),j<k->l[j].length=128) (λi=>l.length-(intOf i).toNat);case atStart=>exact⟨0,by omega,rfl,λj h h2=>by omega⟩
 case round =>
  obtain⟨k,hk,rfl,hall⟩:=hrel;have HA:=lh_ hall;clear hall;by_cases hlt:k<l.length
  ·obtain⟨b,o,rfl,hcell⟩:=hv2 (by omega);have e1:=x0.keep (hcell k hlt);have hki:(k:Int)<(l.length:Int):=by omega
   by_cases hl:l[k].length=128
   ·have hl':((l[k].length:Int) != 128)=false:=by rw[hl];rfl
    have HN:=lh_ (show∀(j:Nat) (h:j<l.length),j<k+1->l[j].length=128 fromλj hj h2=>by
     by_cases e:j<k
     ·exact HA.out j hj e
     ·obtain rfl:j=k:=by omega
      exact hl)
    clear hcell hl;generalize l[k]=y at *;go_wp2_with fail;go_round;case rel=>exact⟨k+1,by omega,by go_num,HN.out⟩
    case measure=>simp[intOf];omega
   ·have hl':((l[k].length:Int) != 128)=true:=by simp;omega
    clear hcell hl;generalize l[k]=y at *;go_wp2_with fail;go_ret;exact⟨rfl,x0⟩
  ·exfalso;refine HF.out (λb hb=>?_);obtain⟨j,hj,rfl⟩:=List.getElem_of_mem hb;exact HA.out j hj (by omega)
theorem stpipes_any (m:Mac) (d:MacD) (w:World) (hi:MacIn w m d) :
  Calls prog 47 #[.agg m.cells] w λe w'=>e=.returned (.int .i64 (piE m d))/\Ext w w':=by
 unfold piE;by_cases h:m.pi.n<=64;case neg =>
  rw[errB_no h,orE_l (by omega)];have x0:=(Ext.refl w).alloc (.cells m.cells 38);have bm:=Box.new w 38 m.cells;clear hi;have f2:decide (64<(m.pi.n:Int))=true:=by simp;omega
  clear h;go_enter func47,ntmps47;go_upto_region 1 with fail;generalize w.alloc (.cells m.cells 38)=w1 at *;have k8:w1.cell? ⟨w.heap.size,8,none⟩=some (.slice m.pi.A m.pi.n m.pi.c):=bm.cell 8;go_wp2_with fail;go_ret;exact⟨rfl,x0⟩
 rw[errB_yes h,orE_r];by_cases hp:PipesK m d.pi d.pi.length;case pos => rw[errB_yes hp];exact pipes_ok m d w hi h hp
 rw[errB_no hp];have x0:=(Ext.refl w).alloc (.cells m.cells 38);have bm:=Box.new w 38 m.cells;obtain⟨hv1,hv2⟩:=hi.pi.wrs;clear hi;have hz:=str_size;have f2:decide (64<(m.pi.n:Int))=false:=by simp;omega
 have HP:=lh_ hp;have HV1:=lh_ hv1;clear hp hv1;go_enter func47,ntmps47;go_upto_region 1 with fail;generalize w.alloc (.cells m.cells 38)=w1 at *;have k8:w1.cell? ⟨w.heap.size,8,none⟩=some (.slice m.pi.A m.pi.n m.pi.c):=bm.cell 8;have k9:∀wx,Ext w1 wx->wx.cell? ⟨w.heap.size,9,none⟩=some (.int .i64 m.newPipe):=λwx x=>(bm.ext x).cell 9;have K9:=lh_ k9;clear k9 bm;go_wp2_with fail;clear f2 k8;have HPN:=lh_ (show∀k,PipesK m d.pi k->(h:k<d.pi.length)->1<=d.pi[k].1->d.pi[k].1<m.newPipe->d.pi[k].2.length<=64->(0<k->(d.pi.getD (k-1) default).1<d.pi[k].1)->PipesK m d.pi (k+1) fromλk h hk h1 h2 h3 h4 i hi hik=>by
  by_cases e:i<k
  ·exact h i hi e
  ·obtain rfl:i=k:=by omega
   refine⟨h1,h2,h3,λh0=>?_⟩;have:=h4 h0;rw[List.getD_eq_getElem?_getD,List.getElem?_eq_getElem (by omega)]at this;exact this)
 have HP0:=lh_ (show∀k,PipesK m d.pi k->0<k->(h:k-1<d.pi.length)->1<=(d.pi.getD (k-1) default).1 fromλk h h0 hk=>by
  rw[List.getD_eq_getElem?_getD,List.getElem?_eq_getElem hk];exact(h (k-1) hk (by omega)).1)
 generalize hPK:PipesK m d.pi=PK at *;have HPz:=lh_ (show PK 0 by rw[← hPK];exactλi h hk=>by omega);clear hPK;generalize hl:d.pi=l at *;clear hl;generalize m.pi.A=A at *;generalize m.pi.n=n at *;obtain rfl:n=l.length:=HV1.out;go_loopw [3,13] (λs i wx=>∃k:Nat,k<=l.length/\i=.int .i64 k/\s=.int .i64 (if 0<k then (l.getD (k-1) default).1 else 0)/\Ext w1 wx/\PK k) (λ_ i _=>l.length-(intOf i).toNat);case atStart=>exact⟨0,by omega,rfl,rfl,Ext.refl _,HPz.out⟩
 case round =>
  obtain⟨k,hk,rfl,rfl,xk,hpk⟩:=hrel;have HPK:=lh_ hpk;clear hpk;by_cases hlt:k<l.length
  ·obtain⟨b,o,rfl,hcell⟩:=hv2 (by omega);have e1:=(x0.trans xk).keep (hcell k hlt).1;have e2:=(x0.trans xk).keep (hcell k hlt).2;have hki:(k:Int)<(l.length:Int):=by omega
   have g4:l[k]=l.getD k default:=by rw[List.getD_eq_getElem?_getD,List.getElem?_eq_getElem hlt];rfl
   have G4:=lh_ g4;have HL0:=lh_ (show 0<=(if 0<k then (l.getD (k-1) default).1 else (0:Int)) from by
    split
    ·rename_i h0;have:=HP0.out k HPK.out h0 (by omega);omega
    ·omega)
   have HNx:=lh_ (show 1<=l[k].1->l[k].1<m.newPipe->l[k].2.length<=64->(if 0<k then (l.getD (k-1) default).1 else (0:Int))<l[k].1->PK (k+1) fromλh1 h2 h3 h4=>HPN.out k HPK.out hlt h1 h2 h3 (λh0=>by rw[if_pos h0]at h4;exact h4));generalize (if 0<k then (l.getD (k-1) default).1 else (0:Int))=last at *;have xz:=xk.alloc (.cells #[.int .i64 l[k].1,.string (str l[k].2)] 95);have k9:=K9.out _ xz;clear hcell g4;generalize l[k]=y at *;by_cases g1:y.1<=last
   ·have g1':decide (y.1<=last)=true:=decide_eq_true g1;clear g1;go_wp2_with fail;go_ret;exact⟨rfl,x0.trans xz⟩
   have g1':decide (y.1<=last)=false:=decide_eq_false g1;by_cases g2:m.newPipe<=y.1
   ·have g2':decide (m.newPipe<=y.1)=true:=decide_eq_true g2;clear g1 g2;go_wp2_with fail;go_ret;exact⟨rfl,x0.trans xz⟩
   have g2':decide (m.newPipe<=y.1)=false:=decide_eq_false g2;by_cases g3:64<y.2.length
   ·have g3':decide (64<(y.2.length:Int))=true:=by simp;omega
    clear g1 g2 g3;go_wp2_with fail;go_ret;exact⟨rfl,x0.trans xz⟩
   have g3':decide (64<(y.2.length:Int))=false:=by simp;omega
   have HNy:=lh_ (HNx.out (by have:=HL0.out;omega) (by omega) (by omega) (by omega));clear g1 g2 g3 HNx;go_wp2_with fail;go_roundw;case rel=>exact⟨k+1,by omega,by go_num,by rw[if_pos (by omega),Nat.add_sub_cancel,← G4.out],xz,HNy.out⟩
   case measure=>simp[intOf];omega
  ·exfalso;obtain rfl:k=l.length:=by omega
   exact HP.out HPK.out
noncomputable def stepE (m:Mac) (d:MacD):Nat->Int
 | 0=>numE m
 | 1=>frE m d
 | 2=>prE m d
 | 3=>piE m d
 | 4=>teE m
 | _=>voE d
theorem chkE_step {m:Mac}{d:MacD}{k:Nat}(hk:k<6) (h:∀j,j<k->stepE m d j=0) (h0:stepE m d k≠0):chkE m d=stepE m d k:=by
 unfold chkE;rcases(by omega:k=0\/k=1\/k=2\/k=3\/k=4\/k=5) with rfl|rfl|rfl|rfl|rfl|rfl
 ·exact orE_l h0 _
 ·rw[show numE m=0 from h 0 (by omega),orE_r];exact orE_l h0 _
 ·rw[show numE m=0 from h 0 (by omega),orE_r,show frE m d=0 from h 1 (by omega),orE_r];exact orE_l h0 _
 ·rw[show numE m=0 from h 0 (by omega),orE_r,show frE m d=0 from h 1 (by omega),orE_r,show prE m d=0 from h 2 (by omega),orE_r];exact orE_l h0 _
 ·rw[show numE m=0 from h 0 (by omega),orE_r,show frE m d=0 from h 1 (by omega),orE_r,show prE m d=0 from h 2 (by omega),orE_r,show piE m d=0 from h 3 (by omega),orE_r];exact orE_l h0 _
 ·rw[show numE m=0 from h 0 (by omega),orE_r,show frE m d=0 from h 1 (by omega),orE_r,show prE m d=0 from h 2 (by omega),orE_r,show piE m d=0 from h 3 (by omega),orE_r,show teE m=0 from h 4 (by omega),orE_r];rfl
theorem chkE_all {m:Mac}{d:MacD}(h:∀j,j<6->stepE m d j=0):chkE m d=0:=by
 unfold chkE;rw[show numE m=0 from h 0 (by omega),orE_r,show frE m d=0 from h 1 (by omega),orE_r,show prE m d=0 from h 2 (by omega),orE_r,show piE m d=0 from h 3 (by omega),orE_r,show teE m=0 from h 4 (by omega),orE_r];exact h 5 (by omega)
theorem frn_of {m:Mac}{d:MacD}(h:frE m d=0):m.fr.n<=64:=by
 unfold frE at h;exact((errB_zero (show(6:Int)≠0 by omega)).1 (orE_zero.1 h).1).2
theorem scheck_any (m:Mac) (d:MacD) (w:World) (hi:MacIn w m d) (hpi:m.pi.n<=4000) :
  Calls prog 17 #[.agg m.cells] w λe w'=>e=.returned (.int .i64 (chkE m d))/\Ext w w':=by
 have H1:=lh_ (λw=>stnumbers_any m w);have H2:=lh_ (λw hi=>stframes_any m d w hi);have H3:=lh_ (λw hi h=>stprocs_any m d w hi hpi h);have H4:=lh_ (λw hi=>stpipes_any m d w hi);have H5:=lh_ (λw=>sttexts_any m w);have H6:=lh_ (λw hi=>stvolume_any m d w hi);have HS:=lh_ (λk hk=>chkE_step (m:=m) (d:=d) (k:=k) hk);have HA:=lh_ (chkE_all (m:=m) (d:=d));have HN:=lh_ (show∀k,(∀j,j<k->stepE m d j=0)->stepE m d k=0->∀j,j<k+1->stepE m d j=0 fromλk h h0 j hj=>by
  by_cases e:j<k
  ·exact h j e
  ·obtain rfl:j=k:=by omega
   exact h0)
 have x0:=(Ext.refl w).alloc (.cells m.cells 38);have bm:=Box.new w 38 m.cells;have HM:=lh_ (hi.ext x0);clear hi;go_enter func17,ntmps17;go_upto_region 1 with fail;generalize w.alloc (.cells m.cells 38)=w1 at *;generalize w.heap.size=G at *;go_upto_region 2 with fail;have xm:Ext w1 (w1.alloc (.cells #[.func (.func 44) #[] #[],.func (.func 45) #[] #[],.func (.func 46) #[] #[],.func (.func 47) #[] #[],.func (.func 48) #[] #[],.func (.func 49) #[] #[]] 44)):=(Ext.refl _).alloc _;have bf:=Box.new w1 44 #[.func (.func 44) #[] #[],.func (.func 45) #[] #[],.func (.func 46) #[] #[],.func (.func 47) #[] #[],.func (.func 48) #[] #[],.func (.func 49) #[] #[]];have bm2:=bm.ext xm;have HM2:=lh_ (HM.out.ext xm);have xx:=x0.trans xm;generalize hw2:w1.alloc _=w2 at *;generalize w1.heap.size=G1 at *;clear hw2 bm HM x0 xm;generalize hce:chkE m d=cE at *;have HCE:=lh_ hce;clear hce;go_loopw [8] (λi wx=>∃k:Nat,k<=6/\i=.int .i64 k/\Ext w2 wx/\∀j,j<k->stepE m d j=0) (λi _=>6-(intOf i).toNat);case atStart=>exact⟨0,by omega,rfl,Ext.refl _,λj h=>by omega⟩
 case round =>
  obtain⟨k,hk,rfl,xk,hst⟩:=hrel;have HST:=lh_ hst;clear hst;have bmk:=bm2.ext xk;have bfk:=bf.ext xk;have HMk:=lh_ (HM2.out.ext xk);by_cases hlt:k<6
  ·have hki:(k:Int)<6:=by omega
   have HX:=lh_ xk;clear xk bm2 bf HM2;rcases(by omega:k=0\/k=1\/k=2\/k=3\/k=4\/k=5) with h0|h0|h0|h0|h0|h0
   ·have hf:wr.cell? ⟨G1,k,none⟩=some (.func (.func 44) #[] #[]):=by rw[h0];exact bfk.cell 0
    have HE:=lh_ (show numE m=stepE m d k by rw[h0];rfl);have HSk:=lh_ (λh=>(HS.out k hlt HST.out h).symm);have HNk:=lh_ (HN.out k HST.out);have HCl:=lh_ (H1.out wr);clear h0 bfk;generalize stepE m d k=sE at *;generalize numE m=nE at *;by_cases hz:nE=0
    ·have HNz:=lh_ (HNk.out (HE.out.symm.trans hz));subst hz
     go_wp2_with (first
      | (refine wp_ld_mac (.tmp 1) rfl rfl G _ _ rfl bmk rfl ?_)
      | (go_at_call 44;refine(HCl.out).mono ?_;rintro e w3 ⟨rfl,x3⟩))
     go_roundw;case rel=>exact⟨k+1,by omega,by go_num,HX.out.trans x3,HNz.out⟩
     case measure=>simp[intOf];omega
    ·have hz2:(nE != 0)=true:=by simpa using hz
     have HNz:=lh_ (show nE=cE from HE.out.trans (HSk.out (λh=>hz (HE.out.trans h))));clear hz
     go_wp2_with (first
      | (refine wp_ld_mac (.tmp 1) rfl rfl G _ _ rfl bmk rfl ?_)
      | (go_at_call 44;refine(HCl.out).mono ?_;rintro e w3 ⟨rfl,x3⟩))
     go_ret;exact⟨congrArg (λx=>Ending.returned (Value.int .i64 x)) (HNz.out.trans HCE.out.symm),(xx.trans HX.out).trans x3⟩
   ·have hf:wr.cell? ⟨G1,k,none⟩=some (.func (.func 45) #[] #[]):=by rw[h0];exact bfk.cell 1
    have HE:=lh_ (show frE m d=stepE m d k by rw[h0];rfl);have HSk:=lh_ (λh=>(HS.out k hlt HST.out h).symm);have HNk:=lh_ (HN.out k HST.out);have HCl:=lh_ (H2.out wr HMk.out);clear h0 bfk;generalize stepE m d k=sE at *;generalize frE m d=nE at *;by_cases hz:nE=0
    ·have HNz:=lh_ (HNk.out (HE.out.symm.trans hz));subst hz
     go_wp2_with (first
      | (refine wp_ld_mac (.tmp 1) rfl rfl G _ _ rfl bmk rfl ?_)
      | (go_at_call 45;refine(HCl.out).mono ?_;rintro e w3 ⟨rfl,x3⟩))
     go_roundw;case rel=>exact⟨k+1,by omega,by go_num,HX.out.trans x3,HNz.out⟩
     case measure=>simp[intOf];omega
    ·have hz2:(nE != 0)=true:=by simpa using hz
     have HNz:=lh_ (show nE=cE from HE.out.trans (HSk.out (λh=>hz (HE.out.trans h))));clear hz
     go_wp2_with (first
      | (refine wp_ld_mac (.tmp 1) rfl rfl G _ _ rfl bmk rfl ?_)
      | (go_at_call 45;refine(HCl.out).mono ?_;rintro e w3 ⟨rfl,x3⟩))
     go_ret;exact⟨congrArg (λx=>Ending.returned (Value.int .i64 x)) (HNz.out.trans HCE.out.symm),(xx.trans HX.out).trans x3⟩
   ·have hf:wr.cell? ⟨G1,k,none⟩=some (.func (.func 46) #[] #[]):=by rw[h0];exact bfk.cell 2
    have HE:=lh_ (show prE m d=stepE m d k by rw[h0];rfl);have HSk:=lh_ (λh=>(HS.out k hlt HST.out h).symm);have HNk:=lh_ (HN.out k HST.out);have HCl:=lh_ (H3.out wr HMk.out (frn_of (HST.out 1 (by omega))));clear h0 bfk;generalize stepE m d k=sE at *;generalize prE m d=nE at *;by_cases hz:nE=0
    ·have HNz:=lh_ (HNk.out (HE.out.symm.trans hz));subst hz
     go_wp2_with (first
      | (refine wp_ld_mac (.tmp 1) rfl rfl G _ _ rfl bmk rfl ?_)
      | (go_at_call 46;refine(HCl.out).mono ?_;rintro e w3 ⟨rfl,x3⟩))
     go_roundw;case rel=>exact⟨k+1,by omega,by go_num,HX.out.trans x3,HNz.out⟩
     case measure=>simp[intOf];omega
    ·have hz2:(nE != 0)=true:=by simpa using hz
     have HNz:=lh_ (show nE=cE from HE.out.trans (HSk.out (λh=>hz (HE.out.trans h))));clear hz
     go_wp2_with (first
      | (refine wp_ld_mac (.tmp 1) rfl rfl G _ _ rfl bmk rfl ?_)
      | (go_at_call 46;refine(HCl.out).mono ?_;rintro e w3 ⟨rfl,x3⟩))
     go_ret;exact⟨congrArg (λx=>Ending.returned (Value.int .i64 x)) (HNz.out.trans HCE.out.symm),(xx.trans HX.out).trans x3⟩
   ·have hf:wr.cell? ⟨G1,k,none⟩=some (.func (.func 47) #[] #[]):=by rw[h0];exact bfk.cell 3
    have HE:=lh_ (show piE m d=stepE m d k by rw[h0];rfl);have HSk:=lh_ (λh=>(HS.out k hlt HST.out h).symm);have HNk:=lh_ (HN.out k HST.out);have HCl:=lh_ (H4.out wr HMk.out);clear h0 bfk;generalize stepE m d k=sE at *;generalize piE m d=nE at *;by_cases hz:nE=0
    ·have HNz:=lh_ (HNk.out (HE.out.symm.trans hz));subst hz
     go_wp2_with (first
      | (refine wp_ld_mac (.tmp 1) rfl rfl G _ _ rfl bmk rfl ?_)
      | (go_at_call 47;refine(HCl.out).mono ?_;rintro e w3 ⟨rfl,x3⟩))
     go_roundw;case rel=>exact⟨k+1,by omega,by go_num,HX.out.trans x3,HNz.out⟩
     case measure=>simp[intOf];omega
    ·have hz2:(nE != 0)=true:=by simpa using hz
     have HNz:=lh_ (show nE=cE from HE.out.trans (HSk.out (λh=>hz (HE.out.trans h))));clear hz
     go_wp2_with (first
      | (refine wp_ld_mac (.tmp 1) rfl rfl G _ _ rfl bmk rfl ?_)
      | (go_at_call 47;refine(HCl.out).mono ?_;rintro e w3 ⟨rfl,x3⟩))
     go_ret;exact⟨congrArg (λx=>Ending.returned (Value.int .i64 x)) (HNz.out.trans HCE.out.symm),(xx.trans HX.out).trans x3⟩
   ·have hf:wr.cell? ⟨G1,k,none⟩=some (.func (.func 48) #[] #[]):=by rw[h0];exact bfk.cell 4
    have HE:=lh_ (show teE m=stepE m d k by rw[h0];rfl);have HSk:=lh_ (λh=>(HS.out k hlt HST.out h).symm);have HNk:=lh_ (HN.out k HST.out);have HCl:=lh_ (H5.out wr);clear h0 bfk;generalize stepE m d k=sE at *;generalize teE m=nE at *;by_cases hz:nE=0
    ·have HNz:=lh_ (HNk.out (HE.out.symm.trans hz));subst hz
     go_wp2_with (first
      | (refine wp_ld_mac (.tmp 1) rfl rfl G _ _ rfl bmk rfl ?_)
      | (go_at_call 48;refine(HCl.out).mono ?_;rintro e w3 ⟨rfl,x3⟩))
     go_roundw;case rel=>exact⟨k+1,by omega,by go_num,HX.out.trans x3,HNz.out⟩
     case measure=>simp[intOf];omega
    ·have hz2:(nE != 0)=true:=by simpa using hz
     have HNz:=lh_ (show nE=cE from HE.out.trans (HSk.out (λh=>hz (HE.out.trans h))));clear hz
     go_wp2_with (first
      | (refine wp_ld_mac (.tmp 1) rfl rfl G _ _ rfl bmk rfl ?_)
      | (go_at_call 48;refine(HCl.out).mono ?_;rintro e w3 ⟨rfl,x3⟩))
     go_ret;exact⟨congrArg (λx=>Ending.returned (Value.int .i64 x)) (HNz.out.trans HCE.out.symm),(xx.trans HX.out).trans x3⟩
   ·have hf:wr.cell? ⟨G1,k,none⟩=some (.func (.func 49) #[] #[]):=by rw[h0];exact bfk.cell 5
    have HE:=lh_ (show voE d=stepE m d k by rw[h0];rfl);have HSk:=lh_ (λh=>(HS.out k hlt HST.out h).symm);have HNk:=lh_ (HN.out k HST.out);have HCl:=lh_ (H6.out wr HMk.out);clear h0 bfk;generalize stepE m d k=sE at *;generalize voE d=nE at *;by_cases hz:nE=0
    ·have HNz:=lh_ (HNk.out (HE.out.symm.trans hz));subst hz
     go_wp2_with (first
      | (refine wp_ld_mac (.tmp 1) rfl rfl G _ _ rfl bmk rfl ?_)
      | (go_at_call 49;refine(HCl.out).mono ?_;rintro e w3 ⟨rfl,x3⟩))
     go_roundw;case rel=>exact⟨k+1,by omega,by go_num,HX.out.trans x3,HNz.out⟩
     case measure=>simp[intOf];omega
    ·have hz2:(nE != 0)=true:=by simpa using hz
     have HNz:=lh_ (show nE=cE from HE.out.trans (HSk.out (λh=>hz (HE.out.trans h))));clear hz
     go_wp2_with (first
      | (refine wp_ld_mac (.tmp 1) rfl rfl G _ _ rfl bmk rfl ?_)
      | (go_at_call 49;refine(HCl.out).mono ?_;rintro e w3 ⟨rfl,x3⟩))
     go_ret;exact⟨congrArg (λx=>Ending.returned (Value.int .i64 x)) (HNz.out.trans HCE.out.symm),(xx.trans HX.out).trans x3⟩
  ·have hlt2:¬(k:Int)<6:=by omega
   have hc0:cE=0:=HA.out (λj hj=>HST.out j (by omega));have HC0:=lh_ hc0;clear hc0;go_wp2_with fail;go_ret;exact⟨congrArg (λx=>Ending.returned (Value.int .i64 x)) (HC0.out.symm.trans HCE.out.symm),xx.trans xk⟩
end Go.Proofs.YtfaplefkakpgcaaGreatDoor
