import Derived.Test.YtfaplefkakpgcaaGreatDoorQa25
import Derived.Test.YtfaplefkakpgcaaGreatDoorQa26
set_option linter.unusedVariables false
set_option linter.unusedSimpArgs false
set_option maxHeartbeats 32000000
set_option maxRecDepth 100000
namespace Go.Proofs.YtfaplefkakpgcaaGreatDoor
open Go.Proofs.Tryz
open Go.RowKit
theorem BC (fr bl:Sl) (m:Q1) (d:QL) (w:World) (hF:Q8 FE w fr.A fr.n d.fr) (dK:fr.ok) (Bq:fr.n<=100000) (hB:Q8 FE w bl.A bl.n d.bl) (Sh:bl.ok) (az:bl.n<=100000)
  (hR:Xf m d) (hS:YR m d) (Eg:m.fr.n=d.fr.length) (Eh:m.pr.n=d.pr.length) (Kz:m.pi.n=d.pi.length) (Br:m.init.length<=maxLen) (hnk:m.inn.length<=maxLen) (Tj:(Lit.int .i64 m.dleft).wf=true) (hD0:JW w) :
  Calls prog 27 #[.agg #[.slice fr.A fr.n fr.c,.slice bl.A bl.n bl.c,.string (Qb (Jy m d))]] w λe w'=>∃z:Q1,e=.returned (.tuple #[.agg z.cells,.int .i64 0])/\Ext w w'/\WT z m/\Jg w' z d:=by
 obtain⟨z,e0,hq,hsc,epr,epi,epe,edi⟩:=GN hR;have HR:=Qa (λw hD=>LG (Jy m d) z e0 w hq (Ap hR) hD);have ad:=Qa (λw h=>Ua fr d.fr w h dK Bq);have Pt:=Qa (λw h=>Ua bl d.bl w h Sh az);have x0:=((Qf w).alloc (.cells #[.slice fr.A fr.n fr.c,.slice bl.A bl.n bl.c,.string (Qb (Jy m d))] 24)).alloc (.cells Ju.cells 38);have bx:=(QA w 24 #[.slice fr.A fr.n fr.c,.slice bl.A bl.n bl.c,.string (Qb (Jy m d))]).ext ((Qf _).alloc (.cells Ju.cells 38));have br:=QA (w.alloc (.cells #[.slice fr.A fr.n fr.c,.slice bl.A bl.n bl.c,.string (Qb (Jy m d))] 24)) 38 Ju.cells;rw[Ki]at br;have HD:=Qa (hD0.ext x0);have HF:=Qa (hF.ext x0);have HB:=Qa (hB.ext x0);have lo:=Qa hS;have UI:=Qa hsc;have lh:=Qa hR;have lD:=Qa (Hw epr);have gN:=Qa (show e0.pr.length=d.pr.length by have:=congrArg List.length epr;simpa using this);have gL:=Qa epi;have lC:=Qa epe;have lB:=Qa edi;have ef:=Qa Eg;have ZE:=Qa Eh;have YQ:=Qa Kz;have uE:=Qa Br;have ae:=Qa hnk;have lR:=Qa Tj;have lL:=Qa (show d.fr.length<=100000 by rw[←hF.1];exact Bq);have kv:=Qa (show d.bl.length<=100000 by rw[←hB.1];exact az);clear hF dK Bq hB Sh az hR hS Eg Eh Kz Br hnk Tj hD0 hq hsc epr epi epe edi;go_enter func27,ntmps27;go_upto_region 1 with fail;change Code.wp _ _ _ _ ((w.alloc (.cells #[.slice fr.A fr.n fr.c,.slice bl.A bl.n bl.c,.string (Qb (Jy m d))] 24)).alloc (.cells Ju.cells 38));generalize (w.alloc (.cells #[.slice fr.A fr.n fr.c,.slice bl.A bl.n bl.c,.string (Qb (Jy m d))] 24)).alloc (.cells Ju.cells 38)=w0 at x0 bx br HD HF HB ⊢;obtain⟨G,hG⟩:∃G,G=w.heap.size:=⟨_,rfl⟩
 rw[←hG]at bx br ⊢;have HG:=Qa hG;clear hG;have hgr:G+1<w0.heap.size:=br.lt;have q2:w0.cell? ⟨G,2,none⟩=some (.string (Qb (Jy m d))):=bx.cell 2
 go_upto_region 2 with(first
  | (go_at_call 68;refine(HR.o _ HD.o).mono ?_;rintro e w1 ⟨pr,pi,pe,di,rfl,x1,n1,n2,n3,n4,Ca,PG,Ut,UY⟩;have lU:=Qa n1;have Sx:=Qa n2;have pO:=Qa n3;have pP:=Qa n4;clear n1 n2 n3 n4)
  | (refine JD _ _ rfl rfl w1.heap.size ({ z with pr:=pr,pi:=pi,pe:=pe,di:=di }:Q1) _ _ rfl rfl (QA _ _ _) rfl ?_;intro w2 b2 g2))
 have y2:Ext w1 w2:=((Qf w1).alloc _).grown g2 (λj e=>by cases e;exact QW _);have X2:=x1.trans y2;have vd:w0.heap.size<=w1.heap.size:=x1.size;replace Ca:=Qe Ca y2;replace PG:=Qe PG y2;replace Ut:=Qe Ut y2;replace UY:=Qe UY y2;clear y2 g2 x1 q2 HR;generalize w1.heap.size=gM at *;clear w1;have q0:w2.cell? ⟨G,0,none⟩=some (.slice fr.A fr.n fr.c):=(bx.ext X2).cell 0
 go_upto_region 5 with(first
  | (go_at_call 53;refine(ad.o _ (HF.o.ext X2)).mono ?_;rintro e w3 ⟨A1,c1,rfl,o3,x3⟩)
  | (refine Z5 _ _ _ rfl rfl gM 4 _ _ ({ z with pr:=pr,pi:=pi,pe:=pe,di:=di,fr:=⟨A1,d.fr.length,c1⟩ }:Q1).cells _ rfl rfl rfl aE (b2.ext x3) (show 4<17 by decide) rfl ?_;intro w4 b4 d4))
 have kH:=b2.ext x3;have kX:=Zy (QX o3 d4 kH (by decide)) X2.size;replace Ca:=QX (Qe Ca x3) d4 kH (by decide);replace PG:=QX (Qe PG x3) d4 kH (by decide);replace Ut:=QX (Qe Ut x3) d4 kH (by decide);replace UY:=QX (Qe UY x3) d4 kH (by decide);have X4:=d4.past (X2.trans x3) vd;clear b2 kH o3 x3 d4 q0 X2;clear w2 w3;have q1:w4.cell? ⟨G,1,none⟩=some (.slice bl.A bl.n bl.c):=(bx.ext X4).cell 1
 go_upto_region 6 with(first
  | (go_at_call 53;refine(Pt.o _ (HB.o.ext X4)).mono ?_;rintro e w5 ⟨A2,c2,rfl,o5,x5⟩)
  | (refine Z5 _ _ _ rfl rfl gM 13 _ _ ({ z with pr:=pr,pi:=pi,pe:=pe,di:=di,fr:=⟨A1,d.fr.length,c1⟩,bl:=⟨A2,d.bl.length,c2⟩ }:Q1).cells _ rfl rfl rfl aE (b4.ext x5) (show 13<17 by decide) rfl ?_;intro w6 b6 d6))
 have iC:=b4.ext x5;have qQ:=Zy (QX o5 d6 iC (by decide)) X4.size;replace kX:=QX (Qe kX x5) d6 iC (by decide);replace Ca:=QX (Qe Ca x5) d6 iC (by decide);replace PG:=QX (Qe PG x5) d6 iC (by decide);replace Ut:=QX (Qe Ut x5) d6 iC (by decide);replace UY:=QX (Qe UY x5) d6 iC (by decide);have X6:=Qa (d6.past (X4.trans x5) vd);clear b4 iC o5 x5 d6 q1 X4;clear w4 w5;have iF:=bx.ext X6.o;have ro:=br.ext X6.o;have ll:Zv (WT ({ z with pr:=pr,pi:=pi,pe:=pe,di:=di,fr:=⟨A1,d.fr.length,c1⟩,bl:=⟨A2,d.bl.length,c2⟩ }:Q1) m):=Qa ⟨UI.o.clock,UI.o.quantum,UI.o.cur,UI.o.left,UI.o.next,UI.o.init,UI.o.newPipe,UI.o.inn,UI.o.fin,UI.o.told,UI.o.dleft⟩;have pT:Zv (Wg w6 ({ z with pr:=pr,pi:=pi,pe:=pe,di:=di,fr:=⟨A1,d.fr.length,c1⟩,bl:=⟨A2,d.bl.length,c2⟩ }:Q1)):=Qa ⟨Xs kX (by decide),Xs Ca (by decide),Xs PG (by decide),Xs qQ (by decide),Xs Ut (by decide),Xs UY (by decide)⟩;have Dv:Zv (Jg w6 ({ z with pr:=pr,pi:=pi,pe:=pe,di:=di,fr:=⟨A1,d.fr.length,c1⟩,bl:=⟨A2,d.bl.length,c2⟩ }:Q1) d):=Qa (by
  have k1:=lh.o.prl;have k2:=lh.o.pil;have k3:=lh.o.pel;have k4:=lh.o.dil;rw[lD.o]at Ca;rw[gL.o]at PG Sx;rw[lC.o]at Ut pO;rw[lB.o]at UY pP;rw[gN.o]at lU
  refine⟨Xh kX (λ_ _=>rfl) rfl rfl,Xh Ca (λ_ _=>Zo _) lU.o rfl,Xh PG (λ_ _=>rfl) Sx.o rfl,Xh qQ (λ_ _=>rfl) rfl rfl,Xh Ut (λ_ _=>rfl) pO.o rfl,Xh UY (λ_ _=>rfl) pP.o rfl,
   KG (s:=⟨A1,d.fr.length,c1⟩) kX lL.o,KG Ca (by rw[lU.o];omega),KG PG (by rw[Sx.o];omega),KG (s:=⟨A2,d.bl.length,c2⟩) qQ kv.o,KG Ut (by rw[pO.o];omega),KG UY (by rw[pP.o];omega),?_,?_,?_⟩
  ·show z.init.length<=maxLen;rw[UI.o.init];exact uE.o
  ·show z.inn.length<=maxLen;rw[UI.o.inn];exact ae.o
  ·show(Lit.int .i64 z.dleft).wf=true;rw[UI.o.dleft];exact lR.o)
 have LW:Zv (YR ({ z with pr:=pr,pi:=pi,pe:=pe,di:=di,fr:=⟨A1,d.fr.length,c1⟩,bl:=⟨A2,d.bl.length,c2⟩ }:Q1) d):=Qa (LO lo.o ll.o ef.o.symm (by show pr.n=_;rw[lU.o,gN.o,ZE.o]) (by show pi.n=_;rw[Sx.o,gL.o,YQ.o]));generalize ({ z with pr:=pr,pi:=pi,pe:=pe,di:=di,fr:=⟨A1,d.fr.length,c1⟩,bl:=⟨A2,d.bl.length,c2⟩ }:Q1)=M3 at b6 ll pT Dv LW;clear kX Ca PG qQ Ut UY lU Sx pO pP lo UI lD gN gL lC lB ef ZE YQ uE ae lR lL kv ad Pt HF HB;have rE:=Qa (λw hi hD=>(RN M3 d w (LH lh.o ll.o) hi hD).mono (λe w' h=>(⟨h.1.trans (by rw[EN ll.o]),h.2⟩:e=.returned (.string (Qb (Jy m d)))/\Ext w w')))
 go_upto_region 7 with(first
  | (refine QI _ rfl rfl gM _ _ rfl b6 rfl ?_)
  | (go_at_call 17;refine(MH M3 d _ Dv.o LW.o).mono ?_;rintro e w7 ⟨rfl,x7⟩))
 replace b6:=b6.ext x7;replace iF:=iF.ext x7;replace ro:=ro.ext x7;replace Dv:=Qa (Dv.o.ext x7);replace pT:=Qa (pT.o.ext x7);replace X6:=Qa (X6.o.trans x7);clear x7 LW bx br;go_upto_region 9 with fail;refine ZB 4 [[],[0],[],[2]] (Wy [Xp (.agg M3.cells),Xp (.string (Qb (Jy m d))),Xp (.pointer (some ⟨G,2,none⟩)),Xp (.string (Qb (Jy m d)))]) (by kernel_rfl) (by kernel_rfl) (Uh (λp hp=>by simp only[TA,Td,L1]at hp;rcases hp with rfl|rfl|rfl|rfl<;>first|exact Wv _)) (λus=>?_);simp only[Yh,Yt,YB,Yu];rw[Qx];refine YA (λw' hx hd=>?_) ?_
 ·clear hd;refine Qk 31 rfl (by simp) rfl ?_;go_wp2_with (refine QI _ rfl rfl gM _ _ rfl (b6.ext hx) rfl ?_)
  exact⟨Qf _,rfl⟩
 simp only[S_];rw[Qx];refine YA (λw' hx hd=>?_) ?_
 ·have h0:=hd 0 (by simp);clear hd;generalize us 0=u0 at *;obtain rfl:u0=.agg M3.cells:=h0;refine Qk 32 rfl (by simp[Act.put]) rfl ?_;go_wp2_with (go_at_call 54;refine(rE.o _ (Dv.o.ext hx) (HD.o.ext (X6.o.trans hx))).mono ?_;rintro e w2 ⟨rfl,x2⟩)
  first|exact⟨x2,rfl⟩|exact rfl
 simp only[S_];rw[Qx];refine YA (λw' hx hd=>?_) ?_
 ·clear hd;refine Qk 33 rfl (by simp[Act.put]) rfl ?_;go_wp2_with fail;exact⟨Qf _,rfl⟩
 simp only[S_];rw[Qx];refine YA (λw' hx hd=>?_) ?_
 ·have h2:=hd 2 (by simp);clear hd;generalize us 2=u2 at *;obtain rfl:u2=.pointer (some ⟨G,2,none⟩):=h2;have q0:w'.cell? ⟨G,2,none⟩=some (.string (Qb (Jy m d))):=(iF.ext hx).cell 2;refine Qk 34 rfl (by simp[Act.put]) rfl ?_;go_wp2_with fail;exact⟨Qf _,rfl⟩
 simp only[S_];rw[Qx];intro w' hx hv;have h1:=hv 1 (by omega);have h3:=hv 3 (by omega);clear hv;generalize us 0=u0 at *;generalize us 1=u1 at *;generalize us 2=u2 at *;generalize us 3=u3 at *;obtain rfl:u1=.string (Qb (Jy m d)):=h1;obtain rfl:u3=.string (Qb (Jy m d)):=h3;have bf:=b6.ext hx;have rf:=ro.ext hx;have xf:=Qa (X6.o.trans hx);have Hf:=Qa (Dv.o.ext hx);have hq:((Qb (Jy m d)).toList==(Qb (Jy m d)).toList)=true:=by simp
 go_wp2_with (first
  | (refine QI _ rfl rfl gM _ _ rfl bf rfl ?_)
  | (refine JD _ _ rfl rfl (G+1) M3 _ _ rfl rfl rf rfl ?_;intro w9 b9 g9))
 refine ZD (Qn rfl _ _ (G+1) _ _ _ _ rfl rfl b9 underlying38 rfl Ro) rfl ⟨M3,rfl,(x0.trans xf.o).grown g9 (λj e=>by cases e;rw[←HG.o];exact Nat.le_succ _),ll.o,?_⟩;have hMI:=Hf.o;exact hMI.grown (Wg.ext pT.o hx) rf g9
def jK (B:Nat) (l:List (List UInt8)):World->Value->Prop:=λw u=>∃A c,u=.slice A l.length c/\w.ownsRow B 9 1 (.slice A l.length c) l.length (l.flatMap FE)
theorem BL (B:Nat) (l:List (List UInt8)):Tx (jK B l):=λ_ _ _ hx ⟨A,c,e,o⟩=>⟨A,c,e,Qe o hx⟩
theorem dO (A B:Option Addr) (n c n' c':Nat) (s:ByteArray):(#[.slice A n c,.slice B n' c',.string s]:Array Value).all (·.oneCell')=true:=all_oneCell_toArray (cs:=[.slice A n c,.slice B n' c',.string s]) (λv hv=>by
 simp only[TA,Td,L1]at hv;rcases hv with rfl|rfl|rfl<;>rfl)
theorem I0 {a b c:Value}:(prog.info? 24).map (·.size)=some (#[a,b,c]:Array Value).size:=by kernel_rfl
theorem dR (m:Q1) (d:QL) (w:World) (hi:Jg w m d) (hS:YR m d) (hR:Xf m d) (hD0:JW w) (Bq:m.fr.n<=100000) (az:m.bl.n<=100000) :
  Calls prog 20 #[.agg m.cells] w λe w'=>∃fr bl:Sl,e=.returned (.agg #[.slice fr.A fr.n fr.c,.slice bl.A bl.n bl.c,.string (Qb (Jy m d))])/\Ext w w'/\Q8 FE w' fr.A fr.n d.fr/\fr.ok/\fr.n<=100000/\Q8 FE w' bl.A bl.n d.bl/\bl.ok/\bl.n<=100000:=by
 have ad:=Qa (λw h=>Ua m.fr d.fr w h hi.frk Bq);have Pt:=Qa (λw h=>Ua m.bl d.bl w h hi.blk az);have lL:=Qa (show d.fr.length<=100000 by rw[←hi.fr.1];exact Bq);have kv:=Qa (show d.bl.length<=100000 by rw[←hi.bl.1];exact az);have rE:=Qa (λw hi hD=>RN m d w hR hi hD);have lo:=Qa hS;have x0:=((Qf w).alloc (.cells m.cells 38)).alloc (.cells #[.slice none 0 0,.slice none 0 0,.string ⟨#[]⟩] 24);have bm:=(QA w 38 m.cells).ext ((Qf _).alloc (.cells #[.slice none 0 0,.slice none 0 0,.string ⟨#[]⟩] 24));have bi:=QA (w.alloc (.cells m.cells 38)) 24 #[.slice none 0 0,.slice none 0 0,.string ⟨#[]⟩];rw[Ki]at bi;have Dv:=Qa (hi.ext x0);have HD:=Qa (hD0.ext x0);clear hi hS hR hD0 Bq az;go_enter func20,ntmps20;go_upto_region 1 with fail;generalize (w.alloc (.cells m.cells 38)).alloc (.cells #[.slice none 0 0,.slice none 0 0,.string ⟨#[]⟩] 24)=w0 at x0 bm bi Dv HD ⊢;obtain⟨G,hG⟩:∃G,G=w.heap.size:=⟨_,rfl⟩
 rw[←hG]at bm bi ⊢;have HG:=Qa hG;clear hG
 go_wp2_with (first
  | (refine QI _ rfl rfl G _ _ rfl bm rfl ?_)
  | (go_at_call 17;refine(MH m d _ Dv.o lo.o).mono ?_;rintro e w7 ⟨rfl,x7⟩))
 replace bm:=bm.ext x7;replace bi:=bi.ext x7;replace Dv:=Qa (Dv.o.ext x7);replace HD:=Qa (HD.o.ext x7);have X7:=Qa (x0.trans x7);clear x7 x0 lo;refine ZB 9 [[],[0],[1],[],[3],[4],[5],[],[7]] (Wy [Xp (.pointer (some ⟨G,4,none⟩)),Xp (.slice m.fr.A m.fr.n m.fr.c),jK G d.fr,Xp (.pointer (some ⟨G,13,none⟩)),Xp (.pointer (some ⟨G,13,none⟩)),Xp (.slice m.bl.A m.bl.n m.bl.c),jK G d.bl,Xp (.agg m.cells),Xp (.string (Qb (Jy m d)))]) (by kernel_rfl) (by kernel_rfl) (Uh (λp hp=>by simp only[TA,Td,L1]at hp;rcases hp with rfl|rfl|rfl|rfl|rfl|rfl|rfl|rfl|rfl<;>first|exact Wv _|exact BL _ _)) (λus=>?_);simp only[Yh,Yt,YB,Yu];rw[Qx];refine YA (λw' hx hd=>?_) ?_
 ·clear hd;refine Qk 7 rfl (by simp) rfl ?_;go_wp2_with fail;exact⟨Qf _,rfl⟩
 simp only[S_];rw[Qx];refine YA (λw' hx hd=>?_) ?_
 ·have h0:=hd 0 (by simp);clear hd;generalize us 0=u0 at *;obtain rfl:u0=.pointer (some ⟨G,4,none⟩):=h0;have q0:w'.cell? ⟨G,4,none⟩=some (.slice m.fr.A m.fr.n m.fr.c):=(bm.ext hx).cell 4;refine Qk 8 rfl (by simp[Act.put]) rfl ?_;go_wp2_with fail;exact⟨Qf _,rfl⟩
 simp only[S_];rw[Qx];refine YA (λw' hx hd=>?_) ?_
 ·have h1:=hd 1 (by simp);clear hd;generalize us 1=u1 at *;obtain rfl:u1=.slice m.fr.A m.fr.n m.fr.c:=h1;refine Qk 9 rfl (by simp[Act.put]) rfl ?_;go_wp2_with (go_at_call 53;refine(ad.o _ (Dv.o.ext hx).fr).mono ?_;rintro e w2 ⟨A,c,rfl,o2,x2⟩)
  have VH:=(X7.o.trans hx).size;first|exact⟨x2,A,c,rfl,Zy o2 (by rw[HG.o];exact VH)⟩|exact⟨A,c,rfl,Zy o2 (by rw[HG.o];exact VH)⟩
 simp only[S_];rw[Qx];refine YA (λw' hx hd=>?_) ?_
 ·clear hd;refine Qk 10 rfl (by simp[Act.put]) rfl ?_;go_wp2_with fail;exact⟨Qf _,rfl⟩
 simp only[S_];rw[Qx];refine YA (λw' hx hd=>?_) ?_
 ·have h3:=hd 3 (by simp);clear hd;generalize us 3=u3 at *;obtain rfl:u3=.pointer (some ⟨G,13,none⟩):=h3;refine Qk 11 rfl (by simp[Act.put]) rfl ?_;go_wp2_with fail;exact⟨Qf _,rfl⟩
 simp only[S_];rw[Qx];refine YA (λw' hx hd=>?_) ?_
 ·have h4:=hd 4 (by simp);clear hd;generalize us 4=u4 at *;obtain rfl:u4=.pointer (some ⟨G,13,none⟩):=h4;have q0:w'.cell? ⟨G,13,none⟩=some (.slice m.bl.A m.bl.n m.bl.c):=(bm.ext hx).cell 13;refine Qk 12 rfl (by simp[Act.put]) rfl ?_;go_wp2_with fail;exact⟨Qf _,rfl⟩
 simp only[S_];rw[Qx];refine YA (λw' hx hd=>?_) ?_
 ·have h5:=hd 5 (by simp);clear hd;generalize us 5=u5 at *;obtain rfl:u5=.slice m.bl.A m.bl.n m.bl.c:=h5;refine Qk 13 rfl (by simp[Act.put]) rfl ?_;go_wp2_with (go_at_call 53;refine(Pt.o _ (Dv.o.ext hx).bl).mono ?_;rintro e w2 ⟨A,c,rfl,o2,x2⟩)
  have VH:=(X7.o.trans hx).size;first|exact⟨x2,A,c,rfl,Zy o2 (by rw[HG.o];exact VH)⟩|exact⟨A,c,rfl,Zy o2 (by rw[HG.o];exact VH)⟩
 simp only[S_];rw[Qx];refine YA (λw' hx hd=>?_) ?_
 ·clear hd;refine Qk 14 rfl (by simp[Act.put]) rfl ?_;go_wp2_with (refine QI _ rfl rfl G _ _ rfl (bm.ext hx) rfl ?_)
  exact⟨Qf _,rfl⟩
 simp only[S_];rw[Qx];refine YA (λw' hx hd=>?_) ?_
 ·have h7:=hd 7 (by simp);clear hd;generalize us 7=u7 at *;obtain rfl:u7=.agg m.cells:=h7;refine Qk 15 rfl (by simp[Act.put]) rfl ?_;go_wp2_with (go_at_call 54;refine(rE.o _ (Dv.o.ext hx) (HD.o.ext hx)).mono ?_;rintro e w2 ⟨rfl,x2⟩)
  first|exact⟨x2,rfl⟩|exact rfl
 simp only[S_];rw[Qx];intro w' hx hv;have h2:=hv 2 (by omega);have h6:=hv 6 (by omega);have h8:=hv 8 (by omega);clear hv;generalize us 2=u2 at *;generalize us 6=u6 at *;generalize us 8=u8 at *;obtain⟨A1,c1,rfl,oA⟩:=h2;obtain⟨A2,c2,rfl,oB⟩:=h6;obtain rfl:u8=.string (Qb (Jy m d)):=h8;have ri:=bi.ext hx;have xf:=X7.o.trans hx;go_wp2_with (refine Yv _ _ _ rfl rfl (G+1) #[.slice A1 d.fr.length c1,.slice A2 d.bl.length c2,.string (Qb (Jy m d))] _ _ rfl rfl ri I0 rfl (dO _ _ _ _ _ _ _) ?_;intro w9 b9 g9)
 have f1:=Xh (s:=⟨A1,d.fr.length,c1⟩) (oA.kept g9 (.inr (Jz oA ri (by decide)).symm)) (λ_ _=>rfl) rfl rfl;have f2:=Xh (s:=⟨A2,d.bl.length,c2⟩) (oB.kept g9 (.inr (Jz oB ri (by decide)).symm)) (λ_ _=>rfl) rfl rfl;refine ZD (QG rfl _ _ (G+1) _ _ _ rfl b9 underlying24 rfl I0) rfl ⟨⟨A1,d.fr.length,c1⟩,⟨A2,d.bl.length,c2⟩,rfl,xf.grown g9 (λj e=>by cases e;rw[←HG.o];exact Nat.le_succ _),f1,KG (s:=⟨A1,d.fr.length,c1⟩) oA lL.o,lL.o,f2,KG (s:=⟨A2,d.bl.length,c2⟩) oB kv.o,kv.o⟩
theorem UV (w:World) :
  Calls prog 27 #[.agg #[.slice none 0 0,.slice none 0 0,.string ⟨#[]⟩]] w λe w'=>e=.returned (.tuple #[.agg Ju.cells,.int .i64 3])/\Ext w w':=by
 have HR:=Qa (λw=>UE [] w (by decide) (by decide));have x0:=((Qf w).alloc (.cells #[.slice none 0 0,.slice none 0 0,.string (Qb [])] 24)).alloc (.cells Ju.cells 38);have bx:=(QA w 24 #[.slice none 0 0,.slice none 0 0,.string (Qb [])]).ext ((Qf _).alloc (.cells Ju.cells 38));have br:=QA (w.alloc (.cells #[.slice none 0 0,.slice none 0 0,.string (Qb [])] 24)) 38 Ju.cells;rw[Ki]at br;go_enter func27,ntmps27;go_upto_region 1 with fail;change Code.wp _ _ _ _ ((w.alloc (.cells #[.slice none 0 0,.slice none 0 0,.string (Qb [])] 24)).alloc (.cells Ju.cells 38));generalize (w.alloc (.cells #[.slice none 0 0,.slice none 0 0,.string (Qb [])] 24)).alloc (.cells Ju.cells 38)=w0 at x0 bx br ⊢;obtain⟨G,hG⟩:∃G,G=w.heap.size:=⟨_,rfl⟩
 rw[←hG]at bx br ⊢;have HG:=Qa hG;clear hG;have q2:w0.cell? ⟨G,2,none⟩=some (.string (Qb [])):=bx.cell 2
 go_upto_region 2 with(first
  | (go_at_call 68;refine(HR.o _).mono ?_;rintro e w1 ⟨rfl,x1⟩)
  | (refine JD _ _ rfl rfl w1.heap.size Ju _ _ rfl rfl (QA _ _ _) rfl ?_;intro w2 b2 g2))
 have y2:Ext w1 w2:=((Qf w1).alloc _).grown g2 (λj e=>by cases e;exact QW _);have iD:=br.ext (x1.trans y2);go_wp2_with (refine JD _ _ rfl rfl (G+1) Ju _ _ rfl rfl iD rfl ?_;intro w9 b9 g9)
 exact ZD (Qn rfl _ _ (G+1) _ _ _ _ rfl rfl b9 underlying38 rfl Ro) rfl ⟨rfl,(x0.trans (x1.trans y2)).grown g9 (λj e=>by cases e;rw[←HG.o];exact Nat.le_succ _)⟩
end Go.Proofs.YtfaplefkakpgcaaGreatDoor
