/- image.Machine of any image. -/
import Derived.Test.YtfaplefkakpgcaaGreatDoorXf26
import Derived.Test.YtfaplefkakpgcaaGreatDoorXf31
import Derived.Test.YtfaplefkakpgcaaGreatDoorXf28
import Derived.Test.YtfaplefkakpgcaaGreatDoorXf29
import Derived.Test.YtfaplefkakpgcaaGreatDoorXf30
set_option linter.unusedVariables false
set_option linter.unusedSimpArgs false
set_option maxHeartbeats 32000000
set_option maxRecDepth 100000
namespace Go.Proofs.YtfaplefkakpgcaaGreatDoor
open Go.Proofs.Tryz
open Go.RowKit
def ImachR (FB BB:List (List UInt8)) (s:List UInt8) (w:World) (e:Ending) (w':World):Prop :=
 (imgE FB BB s≠0/\e=.returned (.tuple #[.agg mac0.cells,.int .i64 (imgE FB BB s)])/\Ext w w')\/
 (imgE FB BB s=0/\∃z0 e0 z,restQ s=some (z0,e0)/\e=.returned (.tuple #[.agg z.cells,.int .i64 0])/\Ext w w'/\SameSc z z0/\MacIn w' z (imgD FB BB e0)/\StateOk z (imgD FB BB e0)/\MacFit z (imgD FB BB e0)/\restT z (imgD FB BB e0)=s)
theorem imach_no (fr bl:Sl) (FB BB:List (List UInt8)) (s:List UInt8) (w:World) (hs:s.length<=4000) (hq:restQ s=none) (hD0:Dec10 w) :
  Calls prog 27 #[.agg #[.slice fr.A fr.n fr.c,.slice bl.A bl.n bl.c,.string (str s)]] w (ImachR FB BB s w):=by
 have HR:=lh_ (λw hD=>(readRest_any s w (by omega) hD).mono (λe w' k=>by rw[hq]at k;exact(k:e=.returned (.tuple #[.agg mac0.cells,.bool false])/\Ext w w')));have x0:=((Ext.refl w).alloc (.cells #[.slice fr.A fr.n fr.c,.slice bl.A bl.n bl.c,.string (str s)] 24)).alloc (.cells mac0.cells 38);have bx:=(Box.new w 24 #[.slice fr.A fr.n fr.c,.slice bl.A bl.n bl.c,.string (str s)]).ext ((Ext.refl _).alloc (.cells mac0.cells 38));have br:=Box.new (w.alloc (.cells #[.slice fr.A fr.n fr.c,.slice bl.A bl.n bl.c,.string (str s)] 24)) 38 mac0.cells;rw[World.size_alloc]at br;have HD:=lh_ (hD0.ext x0);have HE:=lh_ (show imgE FB BB s=3 by unfold imgE;rw[hq]);clear hD0 hq hs;go_enter func27,ntmps27;go_upto_region 1 with fail;change Code.wp _ _ _ _ ((w.alloc (.cells #[.slice fr.A fr.n fr.c,.slice bl.A bl.n bl.c,.string (str s)] 24)).alloc (.cells mac0.cells 38));generalize (w.alloc (.cells #[.slice fr.A fr.n fr.c,.slice bl.A bl.n bl.c,.string (str s)] 24)).alloc (.cells mac0.cells 38)=w0 at x0 bx br HD ⊢;obtain⟨G,hG⟩:∃G,G=w.heap.size:=⟨_,rfl⟩
 rw[← hG]at bx br ⊢;have HG:=lh_ hG;clear hG;have q2:w0.cell? ⟨G,2,none⟩=some (.string (str s)):=bx.cell 2
 go_upto_region 2 with(first
  | (go_at_call 68;refine(HR.out _ HD.out).mono ?_;rintro e w1 ⟨rfl,x1⟩)
  | (refine wp_st_mac _ _ rfl rfl w1.heap.size mac0 _ _ rfl rfl (Box.new _ _ _) rfl ?_;intro w2 b2 g2))
 have y2:Ext w1 w2:=((Ext.refl w1).alloc _).grown g2 (λj e=>by cases e;exact Nat.le_refl _);have br2:=br.ext (x1.trans y2);go_wp2_with (refine wp_st_mac (.tmp 2) _ rfl rfl (G+1) mac0 _ _ rfl rfl br2 rfl ?_;intro w9 b9 g9)
 refine bodyPost_ret (results_cell2 rfl _ _ (G+1) _ _ _ _ rfl rfl b9 underlying38 rfl macSz) rfl (.inl ⟨by rw[HE.out];decide,by rw[HE.out];rfl,(x0.trans (x1.trans y2)).grown g9 (λj e=>by cases e;rw[← HG.out];exact Nat.le_succ _)⟩)
theorem imach_some (fr bl:Sl) (FB BB:List (List UInt8)) (s:List UInt8) (z:Mac) (e0:MacD) (w:World) (hF:RowOf stL w fr.A fr.n FB) (hfk:fr.ok) (hfs:fr.n<=100000) (hB:RowOf stL w bl.A bl.n BB) (hbk:bl.ok) (hbs:bl.n<=100000)
  (hs:s.length<=4000) (hq:restQ s=some (z,e0)) (hpe:e0.pe.length<=1000) (hD0:Dec10 w) :
  Calls prog 27 #[.agg #[.slice fr.A fr.n fr.c,.slice bl.A bl.n bl.c,.string (str s)]] w (ImachR FB BB s w):=by
 have HR:=lh_ (λw hD=>readRest_yes s z e0 w hq (by omega) hD);have hfit:=restQ_fit hq;have HC1:=lh_ (λw h=>clone_any fr FB w h hfk hfs);have HC2:=lh_ (λw h=>clone_any bl BB w h hbk hbs);have x0:=((Ext.refl w).alloc (.cells #[.slice fr.A fr.n fr.c,.slice bl.A bl.n bl.c,.string (str s)] 24)).alloc (.cells mac0.cells 38);have bx:=(Box.new w 24 #[.slice fr.A fr.n fr.c,.slice bl.A bl.n bl.c,.string (str s)]).ext ((Ext.refl _).alloc (.cells mac0.cells 38));have br:=Box.new (w.alloc (.cells #[.slice fr.A fr.n fr.c,.slice bl.A bl.n bl.c,.string (str s)] 24)) 38 mac0.cells;rw[World.size_alloc]at br;have HD:=lh_ (hD0.ext x0);have HF:=lh_ (hF.ext x0);have HB:=lh_ (hB.ext x0);have HFS:=lh_ (show FB.length<=100000 by rw[← hF.1];exact hfs);have HBS:=lh_ (show BB.length<=100000 by rw[← hB.1];exact hbs);have HQ:=lh_ hq;have HFT:=lh_ hfit;have HS:=lh_ hs;have HPE:=lh_ hpe;obtain⟨OUT,hOUT⟩:∃OUT,OUT=ImachR FB BB s w:=⟨_,rfl⟩
 rw[← hOUT];have HO:=lh_ hOUT;clear hF hfk hfs hB hbk hbs hs hq hfit hD0 hpe hOUT;go_enter func27,ntmps27;go_upto_region 1 with fail;change Code.wp _ _ _ _ ((w.alloc (.cells #[.slice fr.A fr.n fr.c,.slice bl.A bl.n bl.c,.string (str (s))] 24)).alloc (.cells mac0.cells 38));generalize (w.alloc (.cells #[.slice fr.A fr.n fr.c,.slice bl.A bl.n bl.c,.string (str (s))] 24)).alloc (.cells mac0.cells 38)=w0 at x0 bx br HD HF HB ⊢;obtain⟨G,hG⟩:∃G,G=w.heap.size:=⟨_,rfl⟩
 rw[← hG]at bx br ⊢;have HG:=lh_ hG;clear hG;have hgr:G+1<w0.heap.size:=br.lt;have q2:w0.cell? ⟨G,2,none⟩=some (.string (str (s))):=bx.cell 2
 go_upto_region 2 with(first
  | (go_at_call 68;refine(HR.out _ HD.out).mono ?_;rintro e w1 ⟨pr,pi,pe,di,rfl,x1,n1,n2,n3,n4,oPr,oPi,oPe,oDi⟩;have HN1:=lh_ n1;have HN2:=lh_ n2;have HN3:=lh_ n3;have HN4:=lh_ n4;clear n1 n2 n3 n4)
  | (refine wp_st_mac _ _ rfl rfl w1.heap.size ({ z with pr:=pr,pi:=pi,pe:=pe,di:=di }:Mac) _ _ rfl rfl (Box.new _ _ _) rfl ?_;intro w2 b2 g2))
 have y2:Ext w1 w2:=((Ext.refl w1).alloc _).grown g2 (λj e=>by cases e;exact Nat.le_refl _);have X2:=x1.trans y2;have hgM:w0.heap.size<=w1.heap.size:=x1.size;replace oPr:=own_ext oPr y2;replace oPi:=own_ext oPi y2;replace oPe:=own_ext oPe y2;replace oDi:=own_ext oDi y2;clear y2 g2 x1 q2 HR;generalize w1.heap.size=gM at *;clear w1;have q0:w2.cell? ⟨G,0,none⟩=some (.slice fr.A fr.n fr.c):=(bx.ext X2).cell 0
 go_upto_region 5 with(first
  | (go_at_call 53;refine(HC1.out _ (HF.out.ext X2)).mono ?_;rintro e w3 ⟨A1,c1,rfl,o3,x3⟩)
  | (refine wp_st_cell _ _ _ rfl rfl gM 4 _ _ ({ z with pr:=pr,pi:=pi,pe:=pe,di:=di,fr:=⟨A1,FB.length,c1⟩ }:Mac).cells _ rfl rfl rfl szStrs (b2.ext x3) (show 4<17 by decide) rfl ?_;intro w4 b4 d4))
 have b23:=b2.ext x3;have oFr:=own_base (own_but o3 d4 b23 (by decide)) X2.size;replace oPr:=own_but (own_ext oPr x3) d4 b23 (by decide);replace oPi:=own_but (own_ext oPi x3) d4 b23 (by decide);replace oPe:=own_but (own_ext oPe x3) d4 b23 (by decide);replace oDi:=own_but (own_ext oDi x3) d4 b23 (by decide);have X4:=d4.past (X2.trans x3) hgM;clear b2 b23 o3 x3 d4 q0 X2;clear w2 w3;have q1:w4.cell? ⟨G,1,none⟩=some (.slice bl.A bl.n bl.c):=(bx.ext X4).cell 1
 go_upto_region 6 with(first
  | (go_at_call 53;refine(HC2.out _ (HB.out.ext X4)).mono ?_;rintro e w5 ⟨A2,c2,rfl,o5,x5⟩)
  | (refine wp_st_cell _ _ _ rfl rfl gM 13 _ _ ({ z with pr:=pr,pi:=pi,pe:=pe,di:=di,fr:=⟨A1,FB.length,c1⟩,bl:=⟨A2,BB.length,c2⟩ }:Mac).cells _ rfl rfl rfl szStrs (b4.ext x5) (show 13<17 by decide) rfl ?_;intro w6 b6 d6))
 have b45:=b4.ext x5;have oBl:=own_base (own_but o5 d6 b45 (by decide)) X4.size;replace oFr:=own_but (own_ext oFr x5) d6 b45 (by decide);replace oPr:=own_but (own_ext oPr x5) d6 b45 (by decide);replace oPi:=own_but (own_ext oPi x5) d6 b45 (by decide);replace oPe:=own_but (own_ext oPe x5) d6 b45 (by decide);replace oDi:=own_but (own_ext oDi x5) d6 b45 (by decide);have X6:=lh_ (d6.past (X4.trans x5) hgM);clear b4 b45 o5 x5 d6 q1 X4;clear w4 w5;have bx6:=bx.ext X6.out;have br6:=br.ext X6.out;have HSC:Hid (SameSc ({ z with pr:=pr,pi:=pi,pe:=pe,di:=di,fr:=⟨A1,FB.length,c1⟩,bl:=⟨A2,BB.length,c2⟩ }:Mac) z):=lh_ ⟨rfl,rfl,rfl,rfl,rfl,rfl,rfl,rfl,rfl,rfl,rfl⟩;have HTY:Hid (MacTy w6 ({ z with pr:=pr,pi:=pi,pe:=pe,di:=di,fr:=⟨A1,FB.length,c1⟩,bl:=⟨A2,BB.length,c2⟩ }:Mac)):=lh_ ⟨ty_of_own oFr (by decide),ty_of_own oPr (by decide),ty_of_own oPi (by decide),ty_of_own oBl (by decide),ty_of_own oPe (by decide),ty_of_own oDi (by decide)⟩;have HMI:Hid (MacIn w6 ({ z with pr:=pr,pi:=pi,pe:=pe,di:=di,fr:=⟨A1,FB.length,c1⟩,bl:=⟨A2,BB.length,c2⟩ }:Mac) (imgD FB BB e0)):=lh_ (by
  have k1:=HFT.out.prl;have k2:=HFT.out.pil;have k3:=HFT.out.pel;have k4:=HFT.out.dil;have k5:=HS.out;have k6:=HFT.out.initl;have k7:=HFT.out.innl
  refine⟨own_row oFr (λ_ _=>rfl) rfl rfl,own_row oPr (λ_ _=>prL_len _) HN1.out rfl,own_row oPi (λ_ _=>rfl) HN2.out rfl,own_row oBl (λ_ _=>rfl) rfl rfl,own_row oPe (λ_ _=>rfl) HN3.out rfl,own_row oDi (λ_ _=>rfl) HN4.out rfl,
   own_ok (s:=⟨A1,FB.length,c1⟩) oFr HFS.out,own_ok oPr (by rw[HN1.out];omega),own_ok oPi (by rw[HN2.out];omega),own_ok (s:=⟨A2,BB.length,c2⟩) oBl HBS.out,own_ok oPe (by rw[HN3.out];omega),own_ok oDi (by rw[HN4.out];omega),?_,?_,?_⟩
  ·show z.init.length<=maxLen;unfold maxLen;omega
  ·show z.inn.length<=maxLen;unfold maxLen;omega
  ·show(Lit.int .i64 z.dleft).wf=true;exact HFT.out.dwf)
 have HCK:=lh_ (show chkE ({ z with pr:=pr,pi:=pi,pe:=pe,di:=di,fr:=⟨A1,FB.length,c1⟩,bl:=⟨A2,BB.length,c2⟩ }:Mac) (imgD FB BB e0)=chkE (imgM z (imgD FB BB e0)) (imgD FB BB e0) from chkE_same ⟨rfl,rfl,rfl,rfl,rfl,rfl,rfl,rfl,rfl,rfl,rfl⟩ rfl HN1.out HN2.out);have HP1:=lh_ (show(({ z with pr:=pr,pi:=pi,pe:=pe,di:=di,fr:=⟨A1,FB.length,c1⟩,bl:=⟨A2,BB.length,c2⟩ }:Mac)).pr.n=(imgD FB BB e0).pr.length from HN1.out);have HP2:=lh_ (show(({ z with pr:=pr,pi:=pi,pe:=pe,di:=di,fr:=⟨A1,FB.length,c1⟩,bl:=⟨A2,BB.length,c2⟩ }:Mac)).pi.n=(imgD FB BB e0).pi.length from HN2.out);generalize ({ z with pr:=pr,pi:=pi,pe:=pe,di:=di,fr:=⟨A1,FB.length,c1⟩,bl:=⟨A2,BB.length,c2⟩ }:Mac)=M3 at b6 HSC HTY HMI HCK HP1 HP2;clear oFr oPr oPi oBl oPe oDi HN1 HN2 HN3 HN4 HFS HBS HC1 HC2 HF HB;have HPI:=lh_ (show M3.pi.n<=4000 by rw[HP2.out];have:=HFT.out.pil;have:=HS.out;exact Nat.le_trans HFT.out.pil HS.out)
 go_upto_region 7 with(first
  | (refine wp_ld_mac _ rfl rfl gM _ _ rfl b6 rfl ?_)
  | (go_at_call 17;refine(scheck_any M3 (imgD FB BB e0) _ HMI.out HPI.out).mono ?_;rintro e w7 ⟨rfl,x7⟩))
 replace b6:=b6.ext x7;replace bx6:=bx6.ext x7;replace br6:=br6.ext x7;replace HMI:=lh_ (HMI.out.ext x7);replace HTY:=lh_ (HTY.out.ext x7);replace X6:=lh_ (X6.out.trans x7);clear x7 bx br;by_cases hc:chkE M3 (imgD FB BB e0)=0;case neg =>
  have HE:=lh_ (show imgE FB BB s=chkE M3 (imgD FB BB e0) by unfold imgE;rw[HQ.out];simp only;rw[← HCK.out,orE_l hc]);have HCN:=lh_ hc;generalize chkE M3 (imgD FB BB e0)=c at *;have hcb:(c != 0)=true:=by simpa using hc
  clear hc;go_wp2_with (refine wp_st_mac (.tmp 2) _ rfl rfl (G+1) mac0 _ _ rfl rfl br6 rfl ?_;intro w9 b9 g9)
  refine bodyPost_ret (results_cell2 rfl _ _ (G+1) _ _ _ _ rfl rfl b9 underlying38 rfl macSz) rfl ?_;rw[HO.out];exact .inl ⟨by rw[HE.out];exact HCN.out,by rw[HE.out];rfl,(x0.trans X6.out).grown g9 (λj e=>by cases e;rw[← HG.out];exact Nat.le_succ _)⟩
 have hST:=chkE_zero.1 hc;have HST:=lh_ hST;have HMF:=lh_ (macFit_same HFT.out.fit HSC.out (d':=imgD FB BB e0) rfl);have HRF:=lh_ (rest_fit hST HMF.out HP1.out.symm HP2.out.symm HPE.out);have HRO:=lh_ (λw hi hD=>restOf_any M3 (imgD FB BB e0) w HRF.out hi hD);have HE:=lh_ (show imgE FB BB s=if restT M3 (imgD FB BB e0)=s then 0 else 3 by unfold imgE;rw[HQ.out];simp only;rw[← HCK.out,hc,orE_r,rest_sameT HSC.out]);rw[hc];obtain⟨t,htt⟩:∃t,t=restT M3 (imgD FB BB e0):=⟨_,rfl⟩
 rw[← htt]at HRO HE;have HT:=lh_ htt;clear hc hST htt;go_upto_region 9 with fail;refine wp_region_web' 4 [[],[0],[],[2]] (listV [isV (.agg M3.cells),isV (.string (str t)),isV (.pointer (some ⟨G,2,none⟩)),isV (.string (str s))]) (by kernel_rfl) (by kernel_rfl) (listV_ext (λp hp=>by simp only[List.mem_cons,List.not_mem_nil,or_false]at hp;rcases hp with rfl|rfl|rfl|rfl<;>first|exact lasts_is _)) (λus=>?_);simp only[List.take_succ_cons,List.take_zero,List.drop_succ_cons,List.drop_zero];rw[mWalk];refine And.intro (λw' hx hd=>?_) ?_
 ·clear hd;refine web_of_list 31 rfl (by simp) rfl ?_;go_wp2_with (refine wp_ld_mac _ rfl rfl gM _ _ rfl (b6.ext hx) rfl ?_)
  exact⟨Ext.refl _,rfl⟩
 simp only[pS_,pN_,sA_,s0_,s1_];rw[mWalk];refine And.intro (λw' hx hd=>?_) ?_
 ·have h0:=hd 0 (by simp);clear hd;generalize us 0=u0 at *;obtain rfl:u0=.agg M3.cells:=h0;refine web_of_list 32 rfl (by simp[Act.put]) rfl ?_;go_wp2_with (go_at_call 54;refine(HRO.out _ (HMI.out.ext hx) (HD.out.ext (X6.out.trans hx))).mono ?_;rintro e w2 ⟨rfl,x2⟩)
  first|exact⟨x2,rfl⟩|exact rfl
 simp only[pS_,pN_,sA_,s0_,s1_];rw[mWalk];refine And.intro (λw' hx hd=>?_) ?_
 ·clear hd;refine web_of_list 33 rfl (by simp[Act.put]) rfl ?_;go_wp2_with fail;exact⟨Ext.refl _,rfl⟩
 simp only[pS_,pN_,sA_,s0_,s1_];rw[mWalk];refine And.intro (λw' hx hd=>?_) ?_
 ·have h2:=hd 2 (by simp);clear hd;generalize us 2=u2 at *;obtain rfl:u2=.pointer (some ⟨G,2,none⟩):=h2;have q0:w'.cell? ⟨G,2,none⟩=some (.string (str s)):=(bx6.ext hx).cell 2;refine web_of_list 34 rfl (by simp[Act.put]) rfl ?_;go_wp2_with fail;exact⟨Ext.refl _,rfl⟩
 simp only[pS_,pN_,sA_,s0_,s1_];rw[mWalk];intro w' hx hv;have h1:=hv 1 (by omega);have h3:=hv 3 (by omega);clear hv;generalize us 0=u0 at *;generalize us 1=u1 at *;generalize us 2=u2 at *;generalize us 3=u3 at *;obtain rfl:u1=.string (str t):=h1;obtain rfl:u3=.string (str s):=h3;have bf:=b6.ext hx;have rf:=br6.ext hx;have xf:=lh_ (X6.out.trans hx);have Hf:=lh_ (HMI.out.ext hx);by_cases he:t=s
 ·have HE0:=lh_ (show imgE FB BB s=0 by rw[HE.out,if_pos he]);have HTS:=lh_ (show restT M3 (imgD FB BB e0)=s by rw[← HT.out];exact he);have hq:((str t).toList==(str s).toList)=true:=by rw[he];simp
  clear he
  go_wp2_with (first
   | (refine wp_ld_mac _ rfl rfl gM _ _ rfl bf rfl ?_)
   | (refine wp_st_mac _ _ rfl rfl (G+1) M3 _ _ rfl rfl rf rfl ?_;intro w9 b9 g9))
  refine bodyPost_ret (results_cell2 rfl _ _ (G+1) _ _ _ _ rfl rfl b9 underlying38 rfl macSz) rfl ?_;rw[HO.out];have hMI:=Hf.out;exact .inr ⟨HE0.out,z,e0,M3,HQ.out,rfl,(x0.trans xf.out).grown g9 (λj e=>by cases e;rw[← HG.out];exact Nat.le_succ _),HSC.out,hMI.grown (MacTy.ext HTY.out hx) rf g9,HST.out,HMF.out,HTS.out⟩
 ·have HE0:=lh_ (show imgE FB BB s=3 by rw[HE.out,if_neg he]);have hq:((str t).toList==(str s).toList)=false:=by rw[str_toList,str_toList];simpa using he
  clear he;go_wp2_with (refine wp_st_mac (.tmp 2) _ rfl rfl (G+1) mac0 _ _ rfl rfl rf rfl ?_;intro w9 b9 g9)
  refine bodyPost_ret (results_cell2 rfl _ _ (G+1) _ _ _ _ rfl rfl b9 underlying38 rfl macSz) rfl ?_;rw[HO.out];exact .inl ⟨by rw[HE0.out];decide,by rw[HE0.out];rfl,(x0.trans xf.out).grown g9 (λj e=>by cases e;rw[← HG.out];exact Nat.le_succ _)⟩
theorem imach_any (fr bl:Sl) (FB BB:List (List UInt8)) (s:List UInt8) (w:World) (hF:RowOf stL w fr.A fr.n FB) (hfk:fr.ok) (hfs:fr.n<=100000) (hB:RowOf stL w bl.A bl.n BB) (hbk:bl.ok) (hbs:bl.n<=100000) (hs:s.length<=4000) (hD0:Dec10 w) :
  Calls prog 27 #[.agg #[.slice fr.A fr.n fr.c,.slice bl.A bl.n bl.c,.string (str s)]] w (ImachR FB BB s w):=by
 cases hq:restQ s with
 | none=>exact imach_no fr bl FB BB s w hs hq hD0
 | some p=>exact imach_some fr bl FB BB s p.1 p.2 w hF hfk hfs hB hbk hbs hs hq (restQ_pe hq hs) hD0
section
variable {ops:Array Oper}{rest:List Oper}{o:Oper}{a:Act}{w:World}{Q:Exit->Act->World->Prop}
theorem wp_field_img (x:Operand) (hgd:o.guard=none) (ho:o.op=.field 24 x 2) (fr bl:Sl) (s:List UInt8) (hx:a.eval x=.agg (imC fr bl s)) (hK:wpList prog ops Q rest (a.put o.dst (.string (str s))) w):wpList prog ops Q (o::rest) a w:=by
 refine wpList_plain hgd λK hK'=>?_;unfold Oper.wp execOp;have:(Instr.field 24 (.agg (imC fr bl s)) 2).run prog w=.ok (.string (str s)) w:=by
  have hagg:(isAgg 9).run prog w=.ok false w:=by unfold isAgg;rw[Sem.run_bind,run_underlying underlying9 w];rfl
  simp[Instr.field,asAgg,run_underlying underlying24,part,Sem.run_bind,hagg]
 simp only[ho,hx,this,Sem.run_bind,Sem.run_pure,Result.andThen_ok];exact hK' _ _ hK
end
structure RO (B:Nat) (w:World) (z:Mac) (e:MacD):Prop where
 pr:w.ownsRow B 57 96 (.slice z.pr.A z.pr.n z.pr.c) z.pr.n (e.pr.flatMap prL)
 pi:w.ownsRow B 95 2 (.slice z.pi.A z.pi.n z.pi.c) z.pi.n (e.pi.flatMap wrL)
 pe:w.ownsRow B 92 2 (.slice z.pe.A z.pe.n z.pe.c) z.pe.n (e.pe.flatMap wrL)
 di:w.ownsRow B 92 2 (.slice z.di.A z.di.n z.di.c) z.di.n (e.di.flatMap wrL)
theorem RO.ext {B:Nat}{w w':World}{z:Mac}{e:MacD}(h:RO B w z e) (x:Ext w w'):RO B w' z e:=⟨own_ext h.pr x,own_ext h.pi x,own_ext h.pe x,own_ext h.di x⟩
theorem RO.grown {B g:Nat}{w w':World}{z:Mac}{e:MacD}{cs:Array Value}(h:RO B w z e) (hb:Box w g 38 cs) (k:w.grownBy w' (some g)):RO B w' z e :=
 ⟨h.pr.kept k (.inr (own_ne h.pr hb (by decide)).symm),h.pi.kept k (.inr (own_ne h.pi hb (by decide)).symm),h.pe.kept k (.inr (own_ne h.pe hb (by decide)).symm),h.di.kept k (.inr (own_ne h.di hb (by decide)).symm)⟩
structure RMK (FB BB:List (List UInt8)) (s:List UInt8) (z0 z:Mac) (e0:MacD):Prop where
 sc:SameSc z z0
 frn:z.fr.n=FB.length
 bln:z.bl.n=BB.length
 frk:z.fr.ok
 blk:z.bl.ok
 prn:z.pr.n=e0.pr.length
 pin:z.pi.n=e0.pi.length
 pen:z.pe.n=e0.pe.length
 din:z.di.n=e0.di.length
 fit:RestK s z0 e0
theorem RMK.mac {FB BB:List (List UInt8)}{s:List UInt8}{z0 z:Mac}{e0:MacD}{B:Nat}{w:World}(h:RMK FB BB s z0 z e0) (hs:s.length<=4000) (o:RO B w z e0) (hF:RowOf stL w z.fr.A z.fr.n FB) (hB:RowOf stL w z.bl.A z.bl.n BB):MacIn w z (imgD FB BB e0):=by
 have k1:=h.fit.prl;have k2:=h.fit.pil;have k3:=h.fit.pel;have k4:=h.fit.dil;have k6:=h.fit.initl;have k7:=h.fit.innl
 refine⟨hF,own_row o.pr (λ_ _=>prL_len _) h.prn rfl,own_row o.pi (λ_ _=>rfl) h.pin rfl,hB,own_row o.pe (λ_ _=>rfl) h.pen rfl,own_row o.di (λ_ _=>rfl) h.din rfl,
  h.frk,own_ok o.pr (by rw[h.prn];omega),own_ok o.pi (by rw[h.pin];omega),h.blk,own_ok o.pe (by rw[h.pen];omega),own_ok o.di (by rw[h.din];omega),?_,?_,?_⟩
 ·rw[h.sc.init];unfold maxLen;omega
 ·rw[h.sc.inn];unfold maxLen;omega
 ·rw[h.sc.dleft];exact h.fit.dwf
theorem rmach_no (fr bl:Sl) (FB BB:List (List UInt8)) (s:List UInt8) (w:World) (hs:s.length<=4000) (hq:restQ s=none) :
  Calls prog 29 #[.agg (imC fr bl s)] w (ImachR FB BB s w):=by
 have HR:=lh_ (λw=>(rto_any fr bl s w (by omega)).mono (λe w' k=>by unfold ToR at k;rw[hq]at k;obtain⟨z,k1,k2,_⟩:=k;exact(⟨z,k1,k2⟩:∃z:Mac,e=.returned (.tuple #[.agg z.cells,.bool false])/\Ext w w')));have x0:=((Ext.refl w).alloc (.cells (imC fr bl s) 24)).alloc (.cells mac0.cells 38);have bx:=(Box.new w 24 (imC fr bl s)).ext ((Ext.refl _).alloc (.cells mac0.cells 38));have br:=Box.new (w.alloc (.cells (imC fr bl s) 24)) 38 mac0.cells;rw[World.size_alloc]at br;have HE:=lh_ (show imgE FB BB s=3 by unfold imgE;rw[hq]);clear hq hs;go_enter func29,ntmps29;go_upto_region 1 with fail;change Code.wp _ _ _ _ ((w.alloc (.cells (imC fr bl s) 24)).alloc (.cells mac0.cells 38));generalize (w.alloc (.cells (imC fr bl s) 24)).alloc (.cells mac0.cells 38)=w0 at x0 bx br ⊢;obtain⟨G,hG⟩:∃G,G=w.heap.size:=⟨_,rfl⟩
 rw[← hG]at bx br ⊢;have HG:=lh_ hG;clear hG
 go_upto_region 2 with(first
  | (refine wp_ld _ _ rfl rfl G (imC fr bl s) _ _ rfl bx underlying24 rfl imSz ?_)
  | (go_at_call 70;refine(HR.out _).mono ?_;rintro e w1 ⟨zz,rfl,x1⟩)
  | (refine wp_st_mac (.tmp 4) (.tmp 10) rfl rfl w1.heap.size zz _ _ rfl rfl (Box.new _ _ _) rfl ?_;intro w2 b2 g2))
 have y2:Ext w1 w2:=((Ext.refl w1).alloc _).grown g2 (λj e=>by cases e;exact Nat.le_refl _);have br2:=br.ext (x1.trans y2);go_wp2_with (refine wp_st_mac (.tmp 2) (.tmp 14) rfl rfl (G+1) mac0 _ _ rfl rfl br2 rfl ?_;intro w9 b9 g9)
 refine bodyPost_ret (results_cell2 rfl _ _ (G+1) _ _ _ _ rfl rfl b9 underlying38 rfl macSz) rfl (.inl ⟨by rw[HE.out];decide,by rw[HE.out];rfl,(x0.trans (x1.trans y2)).grown g9 (λj e=>by cases e;rw[← HG.out];exact Nat.le_succ _)⟩)
theorem rmach_some (fr bl:Sl) (FB BB:List (List UInt8)) (s:List UInt8) (z0:Mac) (e0:MacD) (w:World) (hF:RowOf stL w fr.A fr.n FB) (hfk:fr.ok) (hB:RowOf stL w bl.A bl.n BB) (hbk:bl.ok)
  (hs:s.length<=4000) (hq:restQ s=some (z0,e0)) (hpe:e0.pe.length<=1000) :
  Calls prog 29 #[.agg (imC fr bl s)] w (ImachR FB BB s w):=by
 have HR:=lh_ (λw=>(rto_any fr bl s w (by omega)).mono (λe w' k=>by
  unfold ToR at k;obtain⟨z,k1,k2,k3⟩:=k;obtain⟨k4,k5,k6,k7,k8,k9,k10,k11,k12,k13,k14⟩:=k3 z0 e0 hq;rw[hq]at k1;exact(⟨z,k1,k2,k4,k5,k6,k7,k8,k9,k10,⟨k11,k12,k13,k14⟩⟩:∃z:Mac,e=.returned (.tuple #[.agg z.cells,.bool true])/\Ext w w'/\SameSc z z0/\z.fr=fr/\z.bl=bl/\z.pr.n=e0.pr.length/\z.pi.n=e0.pi.length/\z.pe.n=e0.pe.length/\z.di.n=e0.di.length/\RO w.heap.size w' z e0)))
 have HFIT:=lh_ (restQ_fit hq);have x0:=((Ext.refl w).alloc (.cells (imC fr bl s) 24)).alloc (.cells mac0.cells 38);have bx:=(Box.new w 24 (imC fr bl s)).ext ((Ext.refl _).alloc (.cells mac0.cells 38));have br:=Box.new (w.alloc (.cells (imC fr bl s) 24)) 38 mac0.cells;rw[World.size_alloc]at br;have HQ:=lh_ hq;have HS:=lh_ hs;have HPE:=lh_ hpe;have HFB:=lh_ hF;have HBB:=lh_ hB;have HFK:=lh_ hfk;have HBK:=lh_ hbk;obtain⟨OUT,hOUT⟩:∃OUT,OUT=ImachR FB BB s w:=⟨_,rfl⟩
 rw[← hOUT];have HO:=lh_ hOUT;clear hF hfk hB hbk hs hq hpe hOUT;go_enter func29,ntmps29;go_upto_region 1 with fail;change Code.wp _ _ _ _ ((w.alloc (.cells (imC fr bl s) 24)).alloc (.cells mac0.cells 38));generalize (w.alloc (.cells (imC fr bl s) 24)).alloc (.cells mac0.cells 38)=w0 at x0 bx br ⊢;obtain⟨G,hG⟩:∃G,G=w.heap.size:=⟨_,rfl⟩
 rw[← hG]at bx br ⊢;have HG:=lh_ hG;clear hG;have hgr:G+1<w0.heap.size:=br.lt
 go_upto_region 2 with(first
  | (refine wp_ld _ _ rfl rfl G (imC fr bl s) _ _ rfl bx underlying24 rfl imSz ?_)
  | (go_at_call 70;refine(HR.out _).mono ?_;rintro e w1 ⟨M3,rfl,x1,c1,c2,c3,c4,c5,c6,c7,hro⟩)
  | (refine wp_st_mac (.tmp 4) (.tmp 10) rfl rfl w1.heap.size M3 _ _ rfl rfl (Box.new _ _ _) rfl ?_;intro w2 b2 g2))
 have y2:Ext w1 w2:=((Ext.refl w1).alloc _).grown g2 (λj e=>by cases e;exact Nat.le_refl _);have X2:=x1.trans y2;have HRO:=lh_ (hro.ext y2);have HK:Hid (RMK FB BB s z0 M3 e0):=lh_ ⟨c1,by rw[c2];exact HFB.out.1,by rw[c3];exact HBB.out.1,by rw[c2];exact HFK.out,by rw[c3];exact HBK.out,c4,c5,c6,c7,HFIT.out⟩;have HFR:=lh_ c2;have HBL:=lh_ c3;have hgM:w0.heap.size<=w1.heap.size:=x1.size;replace b2:Box w2 w1.heap.size 38 M3.cells:=b2;generalize w1.heap.size=gM at b2 hgM ⊢;have XW:=lh_ (x0.trans X2);replace br:=br.ext X2;replace bx:=bx.ext X2;clear x1 y2 g2 hro c1 c2 c3 c4 c5 c6 c7 HR X2 hgM;clear w1;have HMI:=lh_ (λ(w':World) (x:Ext w w') (o:RO w0.heap.size w' M3 e0)=>show MacIn w' M3 (imgD FB BB e0) from HK.out.mac HS.out o (by rw[HFR.out];exact HFB.out.ext x) (by rw[HBL.out];exact HBB.out.ext x));have HCK:=lh_ (show chkE M3 (imgD FB BB e0)=chkE (imgM z0 (imgD FB BB e0)) (imgD FB BB e0) from chkE_same ⟨HK.out.sc.clock,HK.out.sc.quantum,HK.out.sc.cur,HK.out.sc.left,HK.out.sc.next,HK.out.sc.init,HK.out.sc.newPipe,HK.out.sc.inn,HK.out.sc.fin,HK.out.sc.told,HK.out.sc.dleft⟩ HK.out.frn HK.out.prn HK.out.pin);have HPR:=lh_ (show M3.pr.n<=4000 by rw[HK.out.prn];exact Nat.le_trans HFIT.out.prl HS.out);have HPI:=lh_ (show M3.pi.n<=4000 by rw[HK.out.pin];exact Nat.le_trans HFIT.out.pil HS.out)
 go_upto_region 5 with(first
  | (refine wp_ld_mac _ rfl rfl gM _ _ rfl b2 rfl ?_)
  | (go_at_call 19;refine(rcheck_ex M3 (imgD FB BB e0) _ (HMI.out _ XW.out HRO.out) HPR.out HPI.out).mono ?_;rintro e w7 ⟨⟨nn,rfl,hnn⟩,x7⟩;subst hnn))
 replace b2:=b2.ext x7;replace bx:=bx.ext x7;replace br:=br.ext x7;replace HRO:=lh_ (HRO.out.ext x7);replace XW:=lh_ (XW.out.trans x7);clear x7;by_cases hc:chkE M3 (imgD FB BB e0)=0;case neg =>
  have HE:=lh_ (show imgE FB BB s=chkE M3 (imgD FB BB e0) by unfold imgE;rw[HQ.out];simp only;rw[← HCK.out,orE_l hc]);have HCN:=lh_ hc;generalize chkE M3 (imgD FB BB e0)=c at *;have hcb:(c != 0)=true:=by simpa using hc
  clear hc;go_wp2_with (refine wp_st_mac (.tmp 2) (.tmp 19) rfl rfl (G+1) mac0 _ _ rfl rfl br rfl ?_;intro w9 b9 g9)
  refine bodyPost_ret (results_cell2 rfl _ _ (G+1) _ _ _ _ rfl rfl b9 underlying38 rfl macSz) rfl ?_;rw[HO.out];exact .inl ⟨by rw[HE.out];exact HCN.out,by rw[HE.out];rfl,XW.out.grown g9 (λj e=>by cases e;rw[← HG.out];exact Nat.le_succ _)⟩
 have hST:=chkE_zero.1 hc;have HST:=lh_ hST;have HMF:=lh_ (macFit_same HFIT.out.fit HK.out.sc (d':=imgD FB BB e0) rfl);have HRF:=lh_ (rest_fit hST HMF.out HK.out.prn.symm HK.out.pin.symm HPE.out);have HRW:=lh_ (λw hi=>rrawT_any M3 (imgD FB BB e0) w HRF.out hi);have HE:=lh_ (show imgE FB BB s=if restT M3 (imgD FB BB e0)=s then 0 else 3 by unfold imgE;rw[HQ.out];simp only;rw[← HCK.out,hc,orE_r,rest_sameT HK.out.sc]);rw[hc];obtain⟨t,htt⟩:∃t,t=restT M3 (imgD FB BB e0):=⟨_,rfl⟩
 rw[← htt]at HRW HE;have HT:=lh_ htt;clear hc hST htt;go_upto_region 7 with fail;refine wp_region_web' 5 [[],[0],[1],[],[3]] (listV [isV (.agg M3.cells),isV (.agg (imC M3.fr M3.bl t)),isV (.string (str t)),isV (.pointer (some ⟨G,2,none⟩)),isV (.string (str s))]) (by kernel_rfl) (by kernel_rfl) (listV_ext (λp hp=>by simp only[List.mem_cons,List.not_mem_nil,or_false]at hp;rcases hp with rfl|rfl|rfl|rfl|rfl<;>first|exact lasts_is _)) (λus=>?_);simp only[List.take_succ_cons,List.take_zero,List.drop_succ_cons,List.drop_zero];rw[mWalk];refine And.intro (λw' hx hd=>?_) ?_
 ·clear hd;refine web_of_list 21 rfl (by simp) rfl ?_;go_wp2_with (refine wp_ld_mac _ rfl rfl gM _ _ rfl (b2.ext hx) rfl ?_)
  exact⟨Ext.refl _,rfl⟩
 simp only[pS_,pN_,sA_,s0_,s1_];rw[mWalk];refine And.intro (λw' hx hd=>?_) ?_
 ·have h0:=hd 0 (by simp);clear hd;generalize us 0=u0 at *;obtain rfl:u0=.agg M3.cells:=h0;refine web_of_list 22 rfl (by simp[Act.put]) rfl ?_;go_wp2_with (go_at_call 71;refine(HRW.out _ (HMI.out _ (XW.out.trans hx) (HRO.out.ext hx))).mono ?_;rintro e w2 ⟨rfl,x2⟩)
  first|exact⟨x2,rfl⟩|exact rfl
 simp only[pS_,pN_,sA_,s0_,s1_];rw[mWalk];refine And.intro (λw' hx hd=>?_) ?_
 ·have h1:=hd 1 (by simp);clear hd;generalize us 1=u1 at *;obtain rfl:u1=.agg (imC M3.fr M3.bl t):=h1;refine web_of_list 23 rfl (by simp[Act.put]) rfl ?_;go_wp2_with (refine wp_field_img (.tmp 22) rfl rfl M3.fr M3.bl t rfl ?_)
  exact⟨Ext.refl _,rfl⟩
 simp only[pS_,pN_,sA_,s0_,s1_];rw[mWalk];refine And.intro (λw' hx hd=>?_) ?_
 ·clear hd;refine web_of_list 24 rfl (by simp[Act.put]) rfl ?_;go_wp2_with fail;exact⟨Ext.refl _,rfl⟩
 simp only[pS_,pN_,sA_,s0_,s1_];rw[mWalk];refine And.intro (λw' hx hd=>?_) ?_
 ·have h3:=hd 3 (by simp);clear hd;generalize us 3=u3 at *;obtain rfl:u3=.pointer (some ⟨G,2,none⟩):=h3;have q0:w'.cell? ⟨G,2,none⟩=some (.string (str s)):=(bx.ext hx).cell 2;refine web_of_list 25 rfl (by simp[Act.put]) rfl ?_;go_wp2_with fail;exact⟨Ext.refl _,rfl⟩
 simp only[pS_,pN_,sA_,s0_,s1_];rw[mWalk];intro w' hx hv;have h2:=hv 2 (by omega);have h4:=hv 4 (by omega);clear hv;generalize us 2=u2 at *;generalize us 4=u4 at *;obtain rfl:u2=.string (str t):=h2;obtain rfl:u4=.string (str s):=h4;have bf:=b2.ext hx;have rf:=br.ext hx;have XF:=lh_ (XW.out.trans hx);have HRF2:=lh_ (HRO.out.ext hx);by_cases he:t=s
 ·have HE0:=lh_ (show imgE FB BB s=0 by rw[HE.out,if_pos he]);have HTS:=lh_ (show restT M3 (imgD FB BB e0)=s by rw[← HT.out];exact he);have hq:((str t).toList==(str s).toList)=true:=by rw[he];simp
  clear he
  go_wp2_with (first
   | (refine wp_ld_mac _ rfl rfl gM _ _ rfl bf rfl ?_)
   | (refine wp_st_mac (.tmp 2) (.tmp 28) rfl rfl (G+1) M3 _ _ rfl rfl rf rfl ?_;intro w9 b9 g9))
  refine bodyPost_ret (results_cell2 rfl _ _ (G+1) _ _ _ _ rfl rfl b9 underlying38 rfl macSz) rfl ?_;rw[HO.out];have X9:=XF.out.grown g9 (λj e=>by cases e;rw[← HG.out];exact Nat.le_succ _);exact .inr ⟨HE0.out,z0,e0,M3,HQ.out,rfl,X9,HK.out.sc,HMI.out _ X9 (HRF2.out.grown rf g9),HST.out,HMF.out,HTS.out⟩
 ·have HE0:=lh_ (show imgE FB BB s=3 by rw[HE.out,if_neg he]);have hq:((str t).toList==(str s).toList)=false:=by rw[str_toList,str_toList];simpa using he
  clear he;go_wp2_with (refine wp_st_mac (.tmp 2) (.tmp 27) rfl rfl (G+1) mac0 _ _ rfl rfl rf rfl ?_;intro w9 b9 g9)
  refine bodyPost_ret (results_cell2 rfl _ _ (G+1) _ _ _ _ rfl rfl b9 underlying38 rfl macSz) rfl ?_;rw[HO.out];exact .inl ⟨by rw[HE0.out];decide,by rw[HE0.out];rfl,XF.out.grown g9 (λj e=>by cases e;rw[← HG.out];exact Nat.le_succ _)⟩
theorem rmach_any (fr bl:Sl) (FB BB:List (List UInt8)) (s:List UInt8) (w:World) (hF:RowOf stL w fr.A fr.n FB) (hfk:fr.ok) (hB:RowOf stL w bl.A bl.n BB) (hbk:bl.ok) (hs:s.length<=4000) :
  Calls prog 29 #[.agg (imC fr bl s)] w (ImachR FB BB s w):=by
 cases hq:restQ s with
 | none=>exact rmach_no fr bl FB BB s w hs hq
 | some p=>exact rmach_some fr bl FB BB s p.1 p.2 w hF hfk hB hbk hs hq (restQ_pe hq hs)
theorem imgSz {a b c:Value}:(prog.info? 24).map (·.size)=some (#[a,b,c]:Array Value).size:=by kernel_rfl
theorem imach_none (w:World) :
  Calls prog 27 #[.agg #[.slice none 0 0,.slice none 0 0,.string ⟨#[]⟩]] w λe w'=>e=.returned (.tuple #[.agg mac0.cells,.int .i64 3])/\Ext w w':=by
 have HR:=lh_ (λw=>readRest_none [] w (by decide) (by decide));have x0:=((Ext.refl w).alloc (.cells #[.slice none 0 0,.slice none 0 0,.string (str [])] 24)).alloc (.cells mac0.cells 38);have bx:=(Box.new w 24 #[.slice none 0 0,.slice none 0 0,.string (str [])]).ext ((Ext.refl _).alloc (.cells mac0.cells 38));have br:=Box.new (w.alloc (.cells #[.slice none 0 0,.slice none 0 0,.string (str [])] 24)) 38 mac0.cells;rw[World.size_alloc]at br;go_enter func27,ntmps27;go_upto_region 1 with fail;change Code.wp _ _ _ _ ((w.alloc (.cells #[.slice none 0 0,.slice none 0 0,.string (str [])] 24)).alloc (.cells mac0.cells 38));generalize (w.alloc (.cells #[.slice none 0 0,.slice none 0 0,.string (str [])] 24)).alloc (.cells mac0.cells 38)=w0 at x0 bx br ⊢;obtain⟨G,hG⟩:∃G,G=w.heap.size:=⟨_,rfl⟩
 rw[← hG]at bx br ⊢;have HG:=lh_ hG;clear hG;have q2:w0.cell? ⟨G,2,none⟩=some (.string (str [])):=bx.cell 2
 go_upto_region 2 with(first
  | (go_at_call 68;refine(HR.out _).mono ?_;rintro e w1 ⟨rfl,x1⟩)
  | (refine wp_st_mac _ _ rfl rfl w1.heap.size mac0 _ _ rfl rfl (Box.new _ _ _) rfl ?_;intro w2 b2 g2))
 have y2:Ext w1 w2:=((Ext.refl w1).alloc _).grown g2 (λj e=>by cases e;exact Nat.le_refl _);have br2:=br.ext (x1.trans y2);go_wp2_with (refine wp_st_mac _ _ rfl rfl (G+1) mac0 _ _ rfl rfl br2 rfl ?_;intro w9 b9 g9)
 exact bodyPost_ret (results_cell2 rfl _ _ (G+1) _ _ _ _ rfl rfl b9 underlying38 rfl macSz) rfl ⟨rfl,(x0.trans (x1.trans y2)).grown g9 (λj e=>by cases e;rw[← HG.out];exact Nat.le_succ _)⟩
end Go.Proofs.YtfaplefkakpgcaaGreatDoor
