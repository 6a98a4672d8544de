/- The document's row of a machine (layer 32: rest). -/
import Derived.Test.YtfaplefkakpgcaaGreatDoorXf5
import Derived.Test.YtfaplefkakpgcaaGreatDoorXf28
import Derived.Test.YtfaplefkakpgcaaGreatDoorXf25
import Derived.Test.YtfaplefkakpgcaaGreatDoorXf20
set_option linter.unusedVariables false
set_option linter.unusedSimpArgs false
set_option maxHeartbeats 32000000
set_option maxRecDepth 100000
namespace Go.Proofs.YtfaplefkakpgcaaGreatDoor
open Go.Proofs.Tryz
open Go.RowKit
theorem rrestT_any (m:Mac) (d:MacD) (w:World) (hf:RestFit m d) (hi:MacIn w m d) :
  Calls prog 43 #[.agg m.cells] w λe w'=>e=.returned (.string (str (restT m d)))/\Ext w w':=by
 have HSum:=lh_ (show sumL (restL m d)<=1000000000 by
  have:=sumL_few 1404000 (restL m d) (restL_few hf);rw[show(restL m d).length=16 from rfl]at this;omega)
 have hpi:=hi.pi;have hpr:=hi.pr;have hpe:=hi.pe;have hdi:=hi.di;have HF:=lh_ hf;have x0:=(Ext.refl w).alloc (.cells m.cells 38);have b0:=Box.new w 38 m.cells;clear hf hi;go_enter func43,ntmps43;go_upto_region 1 with fail;replace hpi:=hpi.ext x0;replace hpr:=hpr.ext x0;replace hpe:=hpe.ext x0;replace hdi:=hdi.ext x0;generalize w.alloc (.cells m.cells 38)=w0 at *;generalize w.heap.size=G at *;obtain⟨clock,quantum,cur,left,⟨fA,fn,fc⟩,⟨rA,rn,rc⟩,next,init,⟨A,n,c⟩,newPipe,inn,fin,told,⟨bA,bn,bc⟩,⟨pA,pn,pc⟩,dleft,⟨dA,dn,dc⟩⟩:=m;obtain⟨dfr,dpr,l,dbl,dpe,ddi⟩:=d;simp only at hpi hpr hpe hdi;obtain rfl:n=l.length:=hpi.1;obtain rfl:rn=dpr.length:=hpr.1;obtain rfl:pn=dpe.length:=hpe.1;obtain rfl:dn=ddi.length:=hdi.1;have HR:=lh_ hpi;have HPr:=lh_ hpr;have HPe:=lh_ hpe;have HDi:=lh_ hdi;clear hpi hpr hpe hdi;have hlr:dpr.length<=1000:=HF.out.prl;have o0:=own_new0 w0 9 1;have x1:=(Ext.refl w0).alloc (.cells #[] 9);go_upto_region 2 with fail;generalize w0.alloc (.cells #[] 9)=w1 at *;have q5:w1.cell? ⟨G,5,none⟩=some (.slice rA dpr.length rc):=(b0.ext x1).cell 5;have HO0:=lh_ o0;have HX1:=lh_ x1;clear o0 x1;go_upto_region 3 with fail;go_loopw [3,9] (λu i wx=>∃k:Nat,k<=dpr.length/\i=.int .i64 k/\Ext w0 wx/\wx.ownsRow w0.heap.size 9 1 u k (strL ((dpr.take k).map procT))) (λ_ i _=>dpr.length-(intOf i).toNat);case atStart=>exact⟨0,by omega,rfl,HX1.out,HO0.out⟩
 case round =>
  clear HX1 HO0 q5;obtain⟨k,hk,rfl,xj,oj⟩:=hrel;obtain⟨uM,huM⟩:∃v:Value,v=u3:=⟨_,rfl⟩
  subst huM;by_cases hlt:k<dpr.length
  ·obtain⟨b2,o2,hA,hcell⟩:=HPr.out.2 (by omega);subst hA;have r1:=range_ext (pr_range hcell hlt) xj;clear hcell;have hki:(k:Int)<(dpr.length:Int):=by omega
   have HY:=lh_ (HF.out.pr dpr[k] (List.getElem_mem _));have HT1:=lh_ (show(dpr.take (k+1)).map procT=(dpr.take k).map procT++[procT dpr[k]] by rw[List.take_succ_eq_append_getElem hlt,List.map_append];rfl);generalize dpr[k]=y at *;have z5:=xj.size;have q5:wr.cell? ⟨G,5,none⟩=some (.slice (some ⟨b2,o2,none⟩) dpr.length rc):=(b0.ext xj).cell 5;have HPR:=lh_ (rprocT_any y wr HY.out);have HOJ:=lh_ oj;clear HY oj;generalize procT y=T at *
   go_wp2_with (first
    | (refine wp_ld_pr (.tmp 16) rfl rfl b2 (o2+k*96) y rfl r1 ?_)
    | (go_at_call 83;refine HPR.out.mono ?_;rintro e w4 ⟨rfl,x4⟩)
    | (refine wp_app_strs w0.heap.size rfl _ _ rfl rfl rfl (own_ext HOJ.out (x4.alloc (.cells #[.string (str T)] 9))) (strs_ofBox (ss:=[T]) (Box.new w4 9 #[.string (str T)])) (by omega) (Nat.le_trans z5 (x4.alloc (.cells #[.string (str T)] 9)).size) (by omega) ?_;intro u7 w7 o7 g7))
   have x7:Ext w0 w7:=((xj.trans x4).alloc _).grown g7 (λj e=>own_low HOJ.out e);go_roundw;case rel=>exact⟨k+1,by omega,by go_num,x7,by rw[HT1.out];exact o7⟩
   case measure=>simp[intOf];omega
  ·obtain rfl:k=dpr.length:=by omega
   rw[List.take_length]at oj;have hsum:sumL (dpr.map procT)<=1000000000:=by
    have:=sumL_few 1400 (dpr.map procT) (λs hs=>by
     obtain⟨x,hx,rfl⟩:=List.mem_map.1 hs;exact procT_len (HF.out.pr x hx))
    rw[List.length_map]at this;omega
   obtain⟨A4,c4,e4⟩:=own_asSl oj;subst e4;have HS4:=lh_ (Strs.own oj);have HM4:=lh_ hsum;have bC:=b0.ext xj;have xC:=xj;have X0:=lh_ x0;clear hsum oj b0 xj HPr hlr hlt hk x0;go_upto_region 7 with fail;refine wp_region_known 44 [[],[0],[1],[],[3],[4],[],[6],[7],[],[9],[10],[],[12],[13],[],[15],[],[17],[18],[],[20],[],[22],[23],[],[25],[26],[],[28],[29],[30],[],[32],[33],[34],[],[36],[37],[],[39],[40],[],[42],[2,5,8,11,14,16,19,21,24,27,31,35,38,41,43]] [(.pointer (some ⟨G,0,none⟩)),(.int .u64 clock),(.string (str (putL clock 8))),(.pointer (some ⟨G,1,none⟩)),(.int .i64 quantum),(.string (str (Lib.itoa quantum))),(.pointer (some ⟨G,2,none⟩)),(.int .i64 cur),(.string (str (Lib.itoa cur))),(.pointer (some ⟨G,3,none⟩)),(.int .i64 left),(.string (str (Lib.itoa left))),(.pointer (some ⟨G,6,none⟩)),(.int .i64 next),(.string (str (Lib.itoa next))),(.pointer (some ⟨G,7,none⟩)),(.string (str (init))),(.pointer (some ⟨G,9,none⟩)),(.int .i64 newPipe),(.string (str (Lib.itoa newPipe))),(.pointer (some ⟨G,10,none⟩)),(.string (str (inn))),(.pointer (some ⟨G,11,none⟩)),(.bool fin),(.string (str (flagT fin))),(.pointer (some ⟨G,12,none⟩)),(.int .u64 told),(.string (str (putL told 8))),(.pointer (some ⟨G,13,none⟩)),(.pointer (some ⟨G,15,none⟩)),(.int .i64 dleft),(.string (str (Lib.itoa dleft))),(.pointer (some ⟨G,13,none⟩)),(.pointer (some ⟨G,14,none⟩)),(.slice pA dpe.length pc),(.string (str (writesT dpe))),(.pointer (some ⟨G,16,none⟩)),(.slice dA ddi.length dc),(.string (str (writesT ddi))),(.pointer (some ⟨G,8,none⟩)),(.slice A l.length c),(.string (str (writesT l))),(.slice A4 dpr.length c4),(.string (str (rowL (dpr.map procT))))] (by kernel_rfl) (by kernel_rfl) rfl ?_;simp only[List.take_succ_cons,List.take_zero,List.drop_succ_cons,List.drop_zero]
   iterate 2
    refine vW rfl (by simp[Act.put]) (λw' hx=>?_) ?_
    ·have c0:w'.cell? ⟨G,0,none⟩=some (.int .u64 clock):=(bC.ext hx).cell 0;go_wp2_with fail;exact Ext.refl _
    simp only[pS_,pN_,sA_,s0_,s1_]
   refine vW rfl (by simp[Act.put]) (λw' hx=>?_) ?_
   ·go_wp2_with (go_at_call 85;refine(rput_8 clock _ HF.out.clock.1 HF.out.clock.2).mono ?_;rintro e w2 ⟨rfl,x2⟩)
   simp only[pS_,pN_,sA_,s0_,s1_]
   iterate 2
    refine vW rfl (by simp[Act.put]) (λw' hx=>?_) ?_
    ·have c0:w'.cell? ⟨G,1,none⟩=some (.int .i64 quantum):=(bC.ext hx).cell 1;go_wp2_with fail;exact Ext.refl _
    simp only[pS_,pN_,sA_,s0_,s1_]
   refine vW rfl (by simp[Act.put]) (λw' hx=>?_) ?_
   ·go_wp2_with (go_at_call 86;refine(rdecT_any quantum _ HF.out.quantum).mono ?_;rintro e w2 ⟨rfl,x2⟩)
   simp only[pS_,pN_,sA_,s0_,s1_]
   iterate 2
    refine vW rfl (by simp[Act.put]) (λw' hx=>?_) ?_
    ·have c0:w'.cell? ⟨G,2,none⟩=some (.int .i64 cur):=(bC.ext hx).cell 2;go_wp2_with fail;exact Ext.refl _
    simp only[pS_,pN_,sA_,s0_,s1_]
   refine vW rfl (by simp[Act.put]) (λw' hx=>?_) ?_
   ·go_wp2_with (go_at_call 86;refine(rdecT_any cur _ HF.out.cur).mono ?_;rintro e w2 ⟨rfl,x2⟩)
   simp only[pS_,pN_,sA_,s0_,s1_]
   iterate 2
    refine vW rfl (by simp[Act.put]) (λw' hx=>?_) ?_
    ·have c0:w'.cell? ⟨G,3,none⟩=some (.int .i64 left):=(bC.ext hx).cell 3;go_wp2_with fail;exact Ext.refl _
    simp only[pS_,pN_,sA_,s0_,s1_]
   refine vW rfl (by simp[Act.put]) (λw' hx=>?_) ?_
   ·go_wp2_with (go_at_call 86;refine(rdecT_any left _ HF.out.left).mono ?_;rintro e w2 ⟨rfl,x2⟩)
   simp only[pS_,pN_,sA_,s0_,s1_]
   iterate 2
    refine vW rfl (by simp[Act.put]) (λw' hx=>?_) ?_
    ·have c0:w'.cell? ⟨G,6,none⟩=some (.int .i64 next):=(bC.ext hx).cell 6;go_wp2_with fail;exact Ext.refl _
    simp only[pS_,pN_,sA_,s0_,s1_]
   refine vW rfl (by simp[Act.put]) (λw' hx=>?_) ?_
   ·go_wp2_with (go_at_call 86;refine(rdecT_any next _ HF.out.next).mono ?_;rintro e w2 ⟨rfl,x2⟩)
   simp only[pS_,pN_,sA_,s0_,s1_]
   iterate 4
    refine vW rfl (by simp[Act.put]) (λw' hx=>?_) ?_
    ·have c0:w'.cell? ⟨G,7,none⟩=some (.string (str (init))):=(bC.ext hx).cell 7;have c1:w'.cell? ⟨G,9,none⟩=some (.int .i64 newPipe):=(bC.ext hx).cell 9;go_wp2_with fail;exact Ext.refl _
    simp only[pS_,pN_,sA_,s0_,s1_]
   refine vW rfl (by simp[Act.put]) (λw' hx=>?_) ?_
   ·go_wp2_with (go_at_call 86;refine(rdecT_any newPipe _ HF.out.newPipe).mono ?_;rintro e w2 ⟨rfl,x2⟩)
   simp only[pS_,pN_,sA_,s0_,s1_]
   iterate 4
    refine vW rfl (by simp[Act.put]) (λw' hx=>?_) ?_
    ·have c0:w'.cell? ⟨G,10,none⟩=some (.string (str (inn))):=(bC.ext hx).cell 10;have c1:w'.cell? ⟨G,11,none⟩=some (.bool fin):=(bC.ext hx).cell 11;go_wp2_with fail;exact Ext.refl _
    simp only[pS_,pN_,sA_,s0_,s1_]
   refine vW rfl (by simp[Act.put]) (λw' hx=>?_) ?_
   ·go_wp2_with (go_at_call 87;refine(rflagT_any fin _).mono ?_;rintro e w2 ⟨rfl,x2⟩)
   simp only[pS_,pN_,sA_,s0_,s1_]
   iterate 2
    refine vW rfl (by simp[Act.put]) (λw' hx=>?_) ?_
    ·have c0:w'.cell? ⟨G,12,none⟩=some (.int .u64 told):=(bC.ext hx).cell 12;go_wp2_with fail;exact Ext.refl _
    simp only[pS_,pN_,sA_,s0_,s1_]
   refine vW rfl (by simp[Act.put]) (λw' hx=>?_) ?_
   ·go_wp2_with (go_at_call 85;refine(rput_8 told _ HF.out.told.1 HF.out.told.2).mono ?_;rintro e w2 ⟨rfl,x2⟩)
   simp only[pS_,pN_,sA_,s0_,s1_]
   iterate 3
    refine vW rfl (by simp[Act.put]) (λw' hx=>?_) ?_
    ·have c0:w'.cell? ⟨G,15,none⟩=some (.int .i64 dleft):=(bC.ext hx).cell 15;go_wp2_with fail;exact Ext.refl _
    simp only[pS_,pN_,sA_,s0_,s1_]
   refine vW rfl (by simp[Act.put]) (λw' hx=>?_) ?_
   ·go_wp2_with (go_at_call 86;refine(rdecT_any dleft _ HF.out.dleft).mono ?_;rintro e w2 ⟨rfl,x2⟩)
   simp only[pS_,pN_,sA_,s0_,s1_]
   iterate 3
    refine vW rfl (by simp[Act.put]) (λw' hx=>?_) ?_
    ·have c0:w'.cell? ⟨G,14,none⟩=some (.slice pA dpe.length pc):=(bC.ext hx).cell 14;go_wp2_with fail;exact Ext.refl _
    simp only[pS_,pN_,sA_,s0_,s1_]
   refine vW rfl (by simp[Act.put]) (λw' hx=>?_) ?_
   ·go_wp2_with (go_at_call 88;refine(rwritesT_any pA dpe.length pc dpe _ (HPe.out.ext (xC.trans hx)) HF.out.pe HF.out.pel).mono ?_;rintro e w2 ⟨rfl,x2⟩)
   simp only[pS_,pN_,sA_,s0_,s1_]
   iterate 2
    refine vW rfl (by simp[Act.put]) (λw' hx=>?_) ?_
    ·have c0:w'.cell? ⟨G,16,none⟩=some (.slice dA ddi.length dc):=(bC.ext hx).cell 16;go_wp2_with fail;exact Ext.refl _
    simp only[pS_,pN_,sA_,s0_,s1_]
   refine vW rfl (by simp[Act.put]) (λw' hx=>?_) ?_
   ·go_wp2_with (go_at_call 88;refine(rwritesT_any dA ddi.length dc ddi _ (HDi.out.ext (xC.trans hx)) HF.out.di HF.out.dil).mono ?_;rintro e w2 ⟨rfl,x2⟩)
   simp only[pS_,pN_,sA_,s0_,s1_]
   iterate 2
    refine vW rfl (by simp[Act.put]) (λw' hx=>?_) ?_
    ·have c0:w'.cell? ⟨G,8,none⟩=some (.slice A l.length c):=(bC.ext hx).cell 8;go_wp2_with fail;exact Ext.refl _
    simp only[pS_,pN_,sA_,s0_,s1_]
   refine vW rfl (by simp[Act.put]) (λw' hx=>?_) ?_
   ·go_wp2_with (go_at_call 89;refine(rpipesT_any A l.length c l _ (HR.out.ext (xC.trans hx)) HF.out.pi HF.out.pil).mono ?_;rintro e w2 ⟨rfl,x2⟩)
   simp only[pS_,pN_,sA_,s0_,s1_];refine vW rfl (by simp[Act.put]) (λw' hx=>?_) ?_
   ·go_wp2_with fail;exact Ext.refl _
   simp only[pS_,pN_,sA_,s0_,s1_];refine vW rfl (by simp[Act.put]) (λw' hx=>?_) ?_
   ·go_wp2_with (go_at_call 84;refine(rrow_any A4 dpr.length c4 (dpr.map procT) _ (HS4.out.ext hx) HM4.out (by have:=HF.out.prl;simp only at this;omega)).mono ?_;rintro e w2 ⟨rfl,x2⟩)
   simp only[pS_,pN_,sA_,s0_,s1_];rw[vWalk];intro wq hxq;refine row_step (n:=16) (T:=9) (cs:=#[.string (str [104,105,98,50]),.string (str (putL clock 8)),.string (str (Lib.itoa quantum)),.string (str (Lib.itoa cur)),.string (str (Lib.itoa left)),.string (str (Lib.itoa next)),.string (str (init)),.string (str (Lib.itoa newPipe)),.string (str (inn)),.string (str (flagT fin)),.string (str (putL told 8)),.string (str (Lib.itoa dleft)),.string (str (writesT dpe)),.string (str (writesT ddi)),.string (str (writesT l)),.string (str (rowL (dpr.map procT)))]) rfl (by simp[Act.put]) rfl ?_ (λg66 w' hxw bg66=>?_)
   ·go_wp2_with fail;exact⟨(Ext.refl wq).alloc _,_,rfl,Box.new _ _ _⟩
   simp only[pS_,pN_,sA_,s0_,s1_];have hx:=hxq.trans hxw;clear hxq hxw;have HS:=lh_ (strs_ofBox (ss:=[[104,105,98,50],putL clock 8,Lib.itoa quantum,Lib.itoa cur,Lib.itoa left,Lib.itoa next,init,Lib.itoa newPipe,inn,flagT fin,putL told 8,Lib.itoa dleft,writesT dpe,writesT ddi,writesT l,rowL (dpr.map procT)]) bg66);clear bg66;go_wp2_with (go_at_call 84;refine(rrow_any (some ⟨g66,0,none⟩) 16 16 [[104,105,98,50],putL clock 8,Lib.itoa quantum,Lib.itoa cur,Lib.itoa left,Lib.itoa next,init,Lib.itoa newPipe,inn,flagT fin,putL told 8,Lib.itoa dleft,writesT dpe,writesT ddi,writesT l,rowL (dpr.map procT)] _ HS.out HSum.out (by decide)).mono ?_;rintro e w2 ⟨rfl,x2⟩)
   go_ret;exact⟨rfl,((X0.out.trans xC).trans hx).trans x2⟩
abbrev imC (fr bl:Sl) (s:List UInt8):Array Value:=#[.slice fr.A fr.n fr.c,.slice bl.A bl.n bl.c,.string (str s)]
theorem imSz {fr bl:Sl}{s:List UInt8}:(prog.info? 24).map (·.size)=some (imC fr bl s).size:=by kernel_rfl
theorem imOne (fr bl:Sl) (s:List UInt8):(imC fr bl s).all (·.oneCell')=true:=by kernel_rfl
theorem rrawT_any (m:Mac) (d:MacD) (w:World) (hf:RestFit m d) (hi:MacIn w m d) :
  Calls prog 71 #[.agg m.cells] w λe w'=>e=.returned (.agg (imC m.fr m.bl (restT m d)))/\Ext w w':=by
 have x0:=((Ext.refl w).alloc (.cells m.cells 38)).alloc (.cells (imC sl0 sl0 []) 24);have bm:=(Box.new w 38 m.cells).ext ((Ext.refl _).alloc (.cells (imC sl0 sl0 []) 24));have br:=Box.new (w.alloc (.cells m.cells 38)) 24 (imC sl0 sl0 []);rw[World.size_alloc]at br;have HI:=lh_ hi;have HF:=lh_ hf;clear hf hi;go_enter func71,ntmps71;go_upto_region 1 with fail;change Code.wp _ _ _ _ ((w.alloc (.cells m.cells 38)).alloc (.cells (imC sl0 sl0 []) 24));generalize (w.alloc (.cells m.cells 38)).alloc (.cells (imC sl0 sl0 []) 24)=w0 at *;obtain⟨G,hG⟩:∃G,G=w.heap.size:=⟨_,rfl⟩
 have hG0:w.heap.size<=G+1:=by omega
 rw[← hG]at bm br ⊢;clear hG;have HBM:=lh_ (λ(w':World) (h:But (G+1) w0.drew w')=>h.box (bm.ext (Ext.refl w0).drew) (show G≠G+1 by omega));have HXE:=lh_ (λ(w':World) (h:But (G+1) w0.drew w')=>h.past (x0.trans (Ext.refl w0).drew) hG0);clear hG0;refine wp_region_ret 9 [[],[0],[],[2],[3],[],[5],[1,4,6],[7]] [.pointer (some ⟨G,4,none⟩),.slice m.fr.A m.fr.n m.fr.c,.pointer (some ⟨G,13,none⟩),.pointer (some ⟨G,13,none⟩),.slice m.bl.A m.bl.n m.bl.c,.agg m.cells,.string (str (restT m d)),.agg (imC m.fr m.bl (restT m d)),undef] 8 (G+1) 24 (imC m.fr m.bl (restT m d)) _ (by kernel_rfl) (by kernel_rfl) br rfl (λus=>?_);simp only[List.take_succ_cons,List.take_zero,List.drop_succ_cons,List.drop_zero];rw[mWalk];refine And.intro (λw' hC hd=>?_) ?_
 ·clear hd;refine g_of_list 3 rfl (by simp[Act.put]) ?_;go_wp2_with fail;exact⟨RetR.same (by decide),RetV.of (by decide) rfl⟩
 simp only[pS_,pN_,sA_,s0_,s1_];rw[mWalk];refine And.intro (λw' hC hd=>?_) ?_
 ·have h0:us 0=.pointer (some ⟨G,4,none⟩):=RetV.at (by decide) (hd 0 (by simp));clear hd;generalize us 0=u0 at *;subst h0;have q0:w'.cell? ⟨G,4,none⟩=some (.slice m.fr.A m.fr.n m.fr.c):=(HBM.out w' hC.1).cell 4;refine g_of_list 4 rfl (by simp[Act.put]) ?_;go_wp2_with fail;exact⟨RetR.same (by decide),RetV.of (by decide) rfl⟩
 simp only[pS_,pN_,sA_,s0_,s1_];rw[mWalk];refine And.intro (λw' hC hd=>?_) ?_
 ·clear hd;refine g_of_list 5 rfl (by simp[Act.put]) ?_;go_wp2_with fail;exact⟨RetR.same (by decide),RetV.of (by decide) rfl⟩
 simp only[pS_,pN_,sA_,s0_,s1_];rw[mWalk];refine And.intro (λw' hC hd=>?_) ?_
 ·have h2:us 2=.pointer (some ⟨G,13,none⟩):=RetV.at (by decide) (hd 2 (by simp));clear hd;generalize us 2=u2 at *;subst h2;refine g_of_list 6 rfl (by simp[Act.put]) ?_;go_wp2_with fail;exact⟨RetR.same (by decide),RetV.of (by decide) rfl⟩
 simp only[pS_,pN_,sA_,s0_,s1_];rw[mWalk];refine And.intro (λw' hC hd=>?_) ?_
 ·have h3:us 3=.pointer (some ⟨G,13,none⟩):=RetV.at (by decide) (hd 3 (by simp));clear hd;generalize us 3=u3 at *;subst h3;have q0:w'.cell? ⟨G,13,none⟩=some (.slice m.bl.A m.bl.n m.bl.c):=(HBM.out w' hC.1).cell 13;refine g_of_list 7 rfl (by simp[Act.put]) ?_;go_wp2_with fail;exact⟨RetR.same (by decide),RetV.of (by decide) rfl⟩
 simp only[pS_,pN_,sA_,s0_,s1_];rw[mWalk];refine And.intro (λw' hC hd=>?_) ?_
 ·clear hd;have b':=HBM.out w' hC.1;refine g_of_list 8 rfl (by simp[Act.put]) ?_;go_wp2_with (refine wp_ld_mac _ rfl rfl G _ _ rfl b' rfl ?_)
  exact⟨RetR.same (by decide),RetV.of (by decide) rfl⟩
 simp only[pS_,pN_,sA_,s0_,s1_];rw[mWalk];refine And.intro (λw' hC hd=>?_) ?_
 ·have h5:us 5=.agg m.cells:=RetV.at (by decide) (hd 5 (by simp));clear hd;generalize us 5=u5 at *;subst h5;have hi:=HI.out.ext (HXE.out w' hC.1);refine g_of_list 9 rfl (by simp[Act.put]) ?_;go_wp2_with (go_at_call 43;refine(rrestT_any m d _ HF.out hi).mono ?_;rintro e w2 ⟨rfl,x2⟩)
  exact⟨RetR.ext (by decide) x2,RetV.of (by decide) rfl⟩
 simp only[pS_,pN_,sA_,s0_,s1_];rw[mWalk];refine And.intro (λw' hC hd=>?_) ?_
 ·have h1:us 1=.slice m.fr.A m.fr.n m.fr.c:=RetV.at (by decide) (hd 1 (by simp));have h4:us 4=.slice m.bl.A m.bl.n m.bl.c:=RetV.at (by decide) (hd 4 (by simp));have h6:us 6=.string (str (restT m d)):=RetV.at (by decide) (hd 6 (by simp));clear hd;generalize us 1=u1 at *;subst h1;generalize us 4=u4 at *;subst h4;generalize us 6=u6 at *;subst h6;refine g_of_list 10 rfl (by simp[Act.put]) ?_;go_wp2_with fail;exact⟨RetR.same (by decide),RetV.of (by decide) rfl⟩
 simp only[pS_,pN_,sA_,s0_,s1_];rw[mWalk];refine And.intro (λw' hC hd=>?_) ?_
 ·have h7:us 7=.agg (imC m.fr m.bl (restT m d)):=RetV.at (by decide) (hd 7 (by simp));clear hd;generalize us 7=u7 at *;subst h7;obtain⟨hC1,cs,hC2,hC3⟩:=hC;refine g_of_store rfl rfl (λw u h=>h) ?_;go_wp2_with (refine wp_st _ (.tmp 2) (.tmp 10) rfl rfl (G+1) (imC m.fr m.bl (restT m d)) cs _ rfl rfl hC2 imSz hC3 (imOne _ _ _) ?_;intro w2 b2 g2)
  exact⟨RetR.st ⟨g2.os,g2.tape,g2.output,g2.size,λk hk hne=>g2.block k hk (λe=>hne (by injection e))⟩ b2,RetV.st b2⟩
 simp only[pS_,pN_,sA_,s0_,s1_];rw[mWalk];intro wz hC hv;have h0:us 0=.pointer (some ⟨G,4,none⟩):=RetV.at (by decide) (hv 0 (by omega));have h1:us 1=.slice m.fr.A m.fr.n m.fr.c:=RetV.at (by decide) (hv 1 (by omega));have h2:us 2=.pointer (some ⟨G,13,none⟩):=RetV.at (by decide) (hv 2 (by omega));have h3:us 3=.pointer (some ⟨G,13,none⟩):=RetV.at (by decide) (hv 3 (by omega));have h4:us 4=.slice m.bl.A m.bl.n m.bl.c:=RetV.at (by decide) (hv 4 (by omega));have h5:us 5=.agg m.cells:=RetV.at (by decide) (hv 5 (by omega));have h6:us 6=.string (str (restT m d)):=RetV.at (by decide) (hv 6 (by omega));have h7:us 7=.agg (imC m.fr m.bl (restT m d)):=RetV.at (by decide) (hv 7 (by omega));have bz:Box wz (G+1) 24 (imC m.fr m.bl (restT m d)):=RetV.bx (hv 8 (by omega));clear hv;generalize us 0=y0 at *;subst h0;generalize us 1=y1 at *;subst h1;generalize us 2=y2 at *;subst h2;generalize us 3=y3 at *;subst h3;generalize us 4=y4 at *;subst h4;generalize us 5=y5 at *;subst h5;generalize us 6=y6 at *;subst h6;generalize us 7=y7 at *;subst h7;generalize us 8=y8 at *;rw[wpList];have xz:=HXE.out wz hC.1;go_wp2_with fail;exact bodyPost_ret (results_cell1 rfl _ _ (G+1) _ _ _ rfl bz underlying24 rfl imSz) rfl ⟨rfl,xz⟩
end Go.Proofs.YtfaplefkakpgcaaGreatDoor
