/- The document's machines, point by point: Check tells that a machine may be. -/
import Derived.Test.YtfaplefkakpgcaaGreatDoorXf25
import Derived.Test.YtfaplefkakpgcaaGreatDoorXf24
import Derived.Test.YtfaplefkakpgcaaGreatDoorXf21
import Derived.Maps.Own
import Derived.Maps.OwnSet
import Derived.Maps.OwnOps
import Derived.Maps.Views
set_option linter.unusedVariables false
set_option linter.unusedSimpArgs false
set_option maxHeartbeats 32000000
set_option maxRecDepth 100000
namespace Go.Proofs.YtfaplefkakpgcaaGreatDoor
open Go.Proofs.Tryz
open Go.RowKit
def CheckX (m:Mac) (d:MacD) (e:Ending):Prop:=∃n:Int,e=.returned (.int .i64 n)/\n=chkE m d
theorem jrnE_drv {d:MacD}(hj:jrnE d.bl d.pe=0):drvE d.bl d.pe=0:=by
 by_cases h0:drvE d.bl d.pe=0
 ·exact h0
 ·unfold jrnE at hj;rw[if_pos h0]at hj;exact hj
theorem DiskC.voE_eq {d:MacD}{n:Int}(h:DiskC d n):n=voE d:=by
 by_cases hok:DiskOk d
 ·rw[voE_zero.2 hok];cases h with
  | drv h=>exact jrnE_drv hok.1
  | home _ h=>exact absurd hok.1 h
  | many _ h=>have:=hok.2.1;omega
  | form _ _ h=>exact absurd hok h
  | ok _=>rfl
 have hne:voE d≠0:=λh=>hok (voE_zero.1 h);unfold voE at hne ⊢;cases h with
 | drv h=>rw[orE_l h]
 | home h hj => rw[h,orE_r]at hne ⊢;have hl:¬33<d.bl.length:=λhl=>hj (by unfold jrnE;rw[if_neg (by omega),if_neg (by omega)]);rw[errB_no hl,orE_l (by omega)]
 | many hj h => have hl:33<d.bl.length:=(drvOk_of hj).least;rw[jrnE_drv hj,orE_r,errB_yes hl,orE_r,errB_no (by omega),orE_l (by omega)]
 | form hj h hn =>
  have hl:33<d.bl.length:=(drvOk_of hj).least;rw[jrnE_drv hj,orE_r,errB_yes hl,orE_r,errB_yes h,orE_r]at hne ⊢;by_cases h4:DirtyK (d.bl.length-33) d.di d.di.length
  ·rw[errB_yes h4,orE_r]at hne ⊢;by_cases h5:∃I,Good (viewP d.bl d.pe d.di) I
   ·rw[errB_yes h5]at hne;exact absurd rfl hne
   ·rw[errB_no h5]
  ·rw[errB_no h4,orE_l (by omega)]
 | ok h=>exact absurd h hok
section
variable {m:Mac}{d:MacD}
theorem chk_num (h:¬NumsOk m):chkE m d=2:=by
 unfold chkE numE;rw[errB_no h,orE_l (show(2:Int)≠0 by decide)]
theorem chk_frn (h1:NumsOk m) (h:¬(1<=m.fr.n/\m.fr.n<=64)):chkE m d=6:=by
 unfold chkE numE frE;rw[errB_yes h1,orE_r,errB_no h,orE_l (show(6:Int)≠0 by decide),orE_l (show(6:Int)≠0 by decide)]
theorem chk_fr (h1:NumsOk m) (h2:1<=m.fr.n/\m.fr.n<=64) (h:¬∀b∈d.fr,b.length=128):chkE m d=3:=by
 unfold chkE numE frE;rw[errB_yes h1,orE_r,errB_yes h2,orE_r,errB_no h,orE_l (show(3:Int)≠0 by decide)]
theorem frE_zero (h2:1<=m.fr.n/\m.fr.n<=64) (h3:∀b∈d.fr,b.length=128):frE m d=0:=by
 unfold frE;rw[errB_yes h2,orE_r,errB_yes h3]
theorem chk_prn (h1:NumsOk m) (h2:1<=m.fr.n/\m.fr.n<=64) (h3:∀b∈d.fr,b.length=128) (h:¬m.pr.n<=8):chkE m d=6:=by
 unfold chkE numE;rw[errB_yes h1,orE_r,frE_zero h2 h3,orE_r];unfold prE;rw[errB_no h,orE_l (show(6:Int)≠0 by decide),orE_l (show(6:Int)≠0 by decide)]
theorem chk_pr (h1:NumsOk m) (h2:1<=m.fr.n/\m.fr.n<=64) (h3:∀b∈d.fr,b.length=128) (h4:m.pr.n<=8) (h:¬ProcsK m d d.pr.length):chkE m d=3:=by
 unfold chkE numE;rw[errB_yes h1,orE_r,frE_zero h2 h3,orE_r];unfold prE;rw[errB_yes h4,orE_r,errB_no h,orE_l (show(3:Int)≠0 by decide)]
theorem chk_pin (h1:NumsOk m) (h2:1<=m.fr.n/\m.fr.n<=64) (h3:∀b∈d.fr,b.length=128) (h4:m.pr.n<=8) (h5:ProcsK m d d.pr.length) (h:¬m.pi.n<=64):chkE m d=6:=by
 unfold chkE numE;rw[errB_yes h1,orE_r,frE_zero h2 h3,orE_r];unfold prE;rw[errB_yes h4,orE_r,errB_yes h5,orE_r];unfold piE;rw[errB_no h,orE_l (show(6:Int)≠0 by decide),orE_l (show(6:Int)≠0 by decide)]
theorem chk_pi (h1:NumsOk m) (h2:1<=m.fr.n/\m.fr.n<=64) (h3:∀b∈d.fr,b.length=128) (h4:m.pr.n<=8) (h5:ProcsK m d d.pr.length) (h6:m.pi.n<=64) (h:¬PipesK m d.pi d.pi.length):chkE m d=3:=by
 unfold chkE numE;rw[errB_yes h1,orE_r,frE_zero h2 h3,orE_r];unfold prE;rw[errB_yes h4,orE_r,errB_yes h5,orE_r];unfold piE;rw[errB_yes h6,orE_r,errB_no h,orE_l (show(3:Int)≠0 by decide)]
theorem chk_te (h1:NumsOk m) (h2:1<=m.fr.n/\m.fr.n<=64) (h3:∀b∈d.fr,b.length=128) (h4:m.pr.n<=8) (h5:ProcsK m d d.pr.length) (h6:m.pi.n<=64) (h7:PipesK m d.pi d.pi.length) (h:¬(m.inn.length<=65536/\m.init.length<=128)):chkE m d=6:=by
 unfold chkE numE;rw[errB_yes h1,orE_r,frE_zero h2 h3,orE_r];unfold prE;rw[errB_yes h4,orE_r,errB_yes h5,orE_r];unfold piE;rw[errB_yes h6,orE_r,errB_yes h7,orE_r];unfold teE;rw[errB_no h,orE_l (show(6:Int)≠0 by decide)]
theorem chk_all (h1:NumsOk m) (h2:1<=m.fr.n/\m.fr.n<=64) (h3:∀b∈d.fr,b.length=128) (h4:m.pr.n<=8) (h5:ProcsK m d d.pr.length) (h6:m.pi.n<=64) (h7:PipesK m d.pi d.pi.length) (h8:m.inn.length<=65536/\m.init.length<=128):chkE m d=voE d:=by
 unfold chkE numE;rw[errB_yes h1,orE_r,frE_zero h2 h3,orE_r];unfold prE;rw[errB_yes h4,orE_r,errB_yes h5,orE_r];unfold piE;rw[errB_yes h6,orE_r,errB_yes h7,orE_r];unfold teE;rw[errB_yes h8,orE_r]
end
theorem rcheck_ex (m:Mac) (d:MacD) (w:World) (h:MacIn w m d) (hrn:m.pr.n<=4000) (hpn:m.pi.n<=4000) :
  Calls prog 19 #[.agg m.cells] w λe w'=>CheckX m d e/\Ext w w':=by
 have HP:=lh_ (λy w h=>rprocess_ok m d y w h hrn hpn);have HDI:=lh_ (λw h=>rdisk_ex m d w h);obtain⟨hf1,hf2⟩:=h.fr.strs;obtain⟨hr1,hr2⟩:=h.pr;obtain⟨hi1,hi2⟩:=h.pi.wrs;have hfk:=h.frk.2.1;have hrk:=h.prk.2.1;have hik:=h.pik.2.1;unfold maxLen at hfk hrk hik;have HF1:=lh_ hf1;have HR1:=lh_ hr1;have HI1:=lh_ hi1;have hz:=str_size;clear hf1 hr1 hi1;go_enter func19,ntmps19;go_upto_region 1 with fail;have xa:Ext w (w.alloc (.cells m.cells 38)):=(Ext.refl _).alloc _;have bm:=Box.new w 38 m.cells;generalize w.alloc (.cells m.cells 38)=w1 at *;have HM:=lh_ (h.ext xa);clear h;obtain⟨k0,k1,k2,k3,k4,k5,k6,k7,k8,k9,k10,k11,k12,k13,k14,k15,k16⟩:=mac_cells bm;clear k0 k11 k12 k13 k14 k15 k16;go_upto_region 2 with fail;go_cut [56] (λs wx=>BvP s (NumsOk m)/\w1=wx);case first =>
  clear k4 k5 k7 k8 k10;go_wp2_with fail
  all_goals
   go_meet
   first
    | exact⟨BvP.yes (λh=>by obtain⟨⟨_,_⟩,⟨_,_⟩,_,⟨_,_⟩,⟨_,_⟩⟩:=h;omega),rfl⟩
    | exact⟨BvP.of ⟨λh=>by
      simp only[Bool.or_eq_false_iff,decide_eq_false_iff_not]at h;exact⟨by omega,by omega,by omega,by omega,by omega⟩,λh=>by
      obtain⟨⟨_,_⟩,⟨_,_⟩,_,⟨_,_⟩,⟨_,_⟩⟩:=h;simp only[Bool.or_eq_false_iff,decide_eq_false_iff_not];omega⟩,rfl⟩
 case rest =>
 obtain⟨⟨b56,rfl,hb56⟩,rfl⟩:=hcut;have HB56:=lh_ hb56;clear hb56;cases b56 with
 | true => go_wp2_with fail;go_ret;exact⟨⟨2,rfl,(chk_num (λh=>by have:=HB56.out.2 h;cases this)).symm⟩,xa⟩
 | false =>
 clear k1 k2 k3 k6 k9;have HNU:=lh_ (HB56.out.1 rfl);go_upto_region 4 with fail;go_cut [66] (λs wx=>BvP s (1<=m.fr.n/\m.fr.n<=64)/\w1=wx);case first =>
  go_wp2_with fail
  all_goals
   go_meet
   first
    | exact⟨BvP.yes (λh=>by omega),rfl⟩
    | exact⟨BvP.of ⟨λh=>by
      simp only[Bool.or_eq_false_iff,decide_eq_false_iff_not]at h;omega,λh=>by
      simp only[Bool.or_eq_false_iff,decide_eq_false_iff_not];omega⟩,rfl⟩
 case rest =>
 obtain⟨⟨b66,rfl,hb66⟩,rfl⟩:=hcut;have HB66:=lh_ hb66;clear hb66;cases b66 with
 | true => go_wp2_with fail;go_ret;exact⟨⟨6,rfl,(chk_frn HNU.out (λh=>by have:=HB66.out.2 h;cases this)).symm⟩,xa⟩
 | false =>
 have HFRN:=lh_ (HB66.out.1 rfl);go_wp2_with fail;obtain⟨fl,hfl⟩:∃x,x=d.fr:=⟨_,rfl⟩
 rw[← hfl]at hf2 HF1;have HFL:=lh_ hfl;clear hfl;generalize m.fr.A=fA at *;go_loop [70] (λi=>∃j:Nat,j<=m.fr.n/\i=.int .i64 j/\∀b∈fl.take j,b.length=128) (λi=>m.fr.n-(intOf i).toNat);case atStart=>exact⟨0,by omega,rfl,by simp⟩
 case round =>
  obtain⟨j,hj,rfl,hall⟩:=hrel;have HALL:=lh_ hall;clear hall;by_cases hlt:j<m.fr.n
  ·obtain⟨b,o,rfl,hcell⟩:=hf2 (by omega);have c1:=xa.keep (hcell j (by rw[← HF1.out];exact hlt));have HAN:=lh_ (λ(h:(fl[j]'(by rw[← HF1.out];exact hlt)).length=128)=>show∀b∈fl.take (j+1),b.length=128 fromλb hb=>by
    rw[List.take_succ_eq_append_getElem (by rw[← HF1.out];exact hlt)]at hb;rcases List.mem_append.1 hb with hb|hb
    ·exact HALL.out b hb
    ·rw[List.mem_singleton.1 hb];exact h)
   have HBF:=lh_ (λ(h:∀b∈d.fr,b.length=128)=>show(fl[j]'(by rw[← HF1.out];exact hlt)).length=128 from h _ (by rw[← HFL.out];exact List.getElem_mem _));generalize fl[j]'(by rw[← HF1.out];exact hlt)=s at *;have hjn:(j:Int)<(m.fr.n:Int):=by omega
   clear hcell;by_cases hl:s.length=128
   ·have hl':((s.length:Int) != 128)=false:=by rw[hl];rfl
    have HAM:=lh_ (HAN.out hl);clear hl;go_wp2_with fail;go_round;case rel=>exact⟨j+1,by omega,by go_num,HAM.out⟩
    case measure=>simp[intOf];omega
   ·have hl':((s.length:Int) != 128)=true:=by simp;omega
    have HX:=lh_ hl;go_wp2_with fail;go_ret;exact⟨⟨3,rfl,(chk_fr HNU.out HFRN.out (λh=>HX.out (HBF.out h))).symm⟩,xa⟩
  ·obtain rfl:j=m.fr.n:=by omega
   have HFA:=lh_ (show∀b∈d.fr,b.length=128 by
    have h:=HALL.out;rw[List.take_of_length_le (by rw[← HF1.out];exact Nat.le_refl _),HFL.out]at h;exact h)
   clear HALL;by_cases h8:8<m.pr.n
   ·have HX:=lh_ h8;go_wp2_with fail;go_ret;exact⟨⟨6,rfl,(chk_prn HNU.out HFRN.out HFA.out (λh=>by have:=HX.out;omega)).symm⟩,xa⟩
   ·go_wp2_with fail;clear k4 k5 k7 k8 k10;have HPL:=lh_ (show∀k (h:k<d.pr.length),ProcsK m d k->ProcOk m d d.pr[k]->(0<k->(d.pr[k-1]'(by omega)).pid<d.pr[k].pid)->ProcsK m d (k+1) fromλk h h1 h2 h3 i hi hik=>by
     by_cases e:i<k
     ·exact h1 i hi e
     ·obtain rfl:i=k:=by omega
      exact⟨h2,h3⟩)
    have HPRN:=lh_ (show m.pr.n<=8 by omega);have HP3:=lh_ (λ(h:¬ProcsK m d d.pr.length)=>show(3:Int)=chkE m d from(chk_pr HNU.out HFRN.out HFA.out HPRN.out h).symm);have HPA:=lh_ (show∀k (h:k<d.pr.length),ProcsK m d d.pr.length->ProcOk m d d.pr[k]/\(0<k->(d.pr[k-1]'(by omega)).pid<d.pr[k].pid) fromλk h hp=>hp k h h);obtain⟨l,hll⟩:∃x,x=d.pr:=⟨_,rfl⟩
    rw[← hll]at hr2 HR1;have HLL:=lh_ hll;clear hll;generalize hrA:m.pr.A=A at hr2 ⊢;have HRA:=lh_ hrA;clear hrA;go_loopw [85] (λi wx=>∃k:Nat,k<=m.pr.n/\i=.int .i64 k/\Ext w1 wx/\ProcsK m d k) (λi _=>m.pr.n-(intOf i).toNat);case atStart=>exact⟨0,by omega,rfl,Ext.refl _,λi h hk=>by omega⟩
    case round =>
     obtain⟨k,hk,rfl,xk,hprk⟩:=hrel;have HPRK:=lh_ hprk;clear hprk;by_cases hlt:k<m.pr.n
     ·obtain⟨b,o,rfl,hcell⟩:=hr2 (by omega);have hlk:k<l.length:=by rw[← HR1.out];exact hlt
      have r1:=range_ext (pr_range hcell hlk) (xa.trans xk);have e0:0<k->wr.cell? ⟨b,o+(k-1)*96,none⟩=some (.int .i64 (l[k-1]'(by omega)).pid):=λh=>(xa.trans xk).keep (pr_range hcell (k:=k-1) (by omega) 0 _ rfl);clear hcell;have hkn:(k:Int)<(m.pr.n:Int):=by omega
      have HNX:=lh_ (show ProcOk m d l[k]->(0<k->(l[k-1]'(by omega)).pid<l[k].pid)->ProcsK m d (k+1) from by
       have he:=HLL.out;subst he;exact HPL.out k hlk HPRK.out)
      have HNA:=lh_ (show ProcsK m d d.pr.length->ProcOk m d l[k]/\(0<k->(l[k-1]'(by omega)).pid<l[k].pid) from by
       have he:=HLL.out;subst he;exact HPA.out k hlk)
      generalize l[k]=y at *;generalize hprv:l[k-1]'(by omega)=prv at *;clear hprv
      go_upto_region 17 with(first
       | (refine wp_ld_pr (.tmp 88) rfl rfl b (o+k*96) y rfl r1 ?_)
       | (refine wp_st_pr (.tmp 7) (.tmp 89) rfl rfl wr.heap.size y _ 57 rfl rfl (Box.new _ _ _) rfl ?_;intro w2 b2 g2))
      have z2:Ext wr w2:=((Ext.refl wr).alloc _).grown g2 (λj e=>by cases e;exact Nat.le_refl _);have x2:=xk.trans z2;have c0:∀x:Later w2,x.now.cell? ⟨wr.heap.size,0,none⟩=some (.int .i64 y.pid):=λx=>(b2.ext x.ext).cell 0;have k5:∀x:Later w2,x.now.cell? ⟨w.heap.size,5,none⟩=some (.slice (some ⟨b,o,none⟩) m.pr.n m.pr.c):=λx=>by rw[← HRA.out];exact((bm.ext x2).ext x.ext).cell 5
      have rm:∀wx,(∃x:Later w2,wx=x.now)->wx.rangeAt w.heap.size 0 m.cells.toList:=λwx ⟨x,hx⟩=>by rw[hx];exact mac_range ((bm.ext x2).ext x.ext)
      have rp:∀wx,(∃x:Later w2,wx=x.now)->wx.rangeAt wr.heap.size 0 (prL y):=λwx ⟨x,hx⟩=>by rw[hx];exact pr_range0 (b2.ext x.ext)
      have RM:=lh_ rm;have RP:=lh_ rp;have HPC:∀x:Later w2,Hid (Calls prog 51 #[.agg m.cells,.agg (prL y).toArray] x.now λe w'=>ProcR m d y e/\Ext x.now w'):=λx=>lh_ (HP.out y _ (HM.out.ext (x2.trans x.ext)));clear r1 g2 rm rp;have E0:0<k->∀x:Later w2,x.now.cell? ⟨b,o+(k-1)*96,none⟩=some (.int .i64 prv.pid):=λh x=>x.ext.keep (z2.keep (e0 h));clear e0;by_cases n3:0<k
      ·have d3:decide ((0:Int)<(k:Int))=true:=by simp;omega
       have E0':=E0 n3;clear E0;have E0:=E0';clear E0';have kk1:(k:Int)-1=((k-1:Nat):Int):=by omega
       have kk2:IntKind.i64.wrap ((k:Int)-1)=((k-1:Nat):Int):=by rw[IntKind.wrap_i64];omega
       have kk3:((k-1:Nat):Int)<(m.pr.n:Int):=by omega
       by_cases n4:y.pid<=prv.pid
       ·have d4:decide (y.pid<=prv.pid)=true:=decide_eq_true n4;simp only[Act.put];refine wp_region_later_tail 17 (by kernel_rfl) (by kernel_rfl) ?_;simp only[List.take_succ_cons,List.take_zero,List.drop_succ_cons,List.drop_zero]
        repeat (first
         | (go_big_quiet_want;refine quiet_ld_mac (.tmp 1) rfl w.heap.size rfl m RM.out ?_;simp only[pS_,pN_,sA_,s0_,s1_];go_big_quiet_on)
         | (go_big_quiet_want;refine quiet_ld_pr (.tmp 7) rfl wr.heap.size rfl y RP.out ?_;simp only[pS_,pN_,sA_,s0_,s1_];go_big_quiet_on)
         | go_big_quiet_step (fail))
        refine wpQuiet_nil ?_;rintro w3 ⟨x3,rfl⟩;clear c0 k5 E0;have HX:=lh_ n4;have HX3:=lh_ n3;go_wp2_with fail;go_ret;exact⟨⟨3,rfl,HP3.out (λh=>by have:=(HNA.out h).2 HX3.out;have:=HX.out;omega)⟩,(xa.trans x2).trans x3.ext⟩
       ·have d4:decide (y.pid<=prv.pid)=false:=decide_eq_false n4;simp only[Act.put];refine wp_region_later_tail 17 (by kernel_rfl) (by kernel_rfl) ?_;simp only[List.take_succ_cons,List.take_zero,List.drop_succ_cons,List.drop_zero]
        repeat (first
         | (go_big_quiet_want;refine quiet_ld_mac (.tmp 1) rfl w.heap.size rfl m RM.out ?_;simp only[pS_,pN_,sA_,s0_,s1_];go_big_quiet_on)
         | (go_big_quiet_want;refine quiet_ld_pr (.tmp 7) rfl wr.heap.size rfl y RP.out ?_;simp only[pS_,pN_,sA_,s0_,s1_];go_big_quiet_on)
         | go_big_quiet_step (fail))
        refine wpQuiet_nil ?_;rintro w3 ⟨x3,rfl⟩;clear c0 k5 E0;have HLT:=lh_ (show prv.pid<y.pid by omega);go_wp2_with (go_at_call 51;refine(HPC x3).out.mono ?_;rintro e w4 ⟨⟨b4,rfl,hb4⟩,x4⟩;have HB4:=lh_ hb4;clear hb4;rcases b4 with _|_)
        ·go_ret;exact⟨⟨3,rfl,HP3.out (λh=>by have:=HB4.out.2 (HNA.out h).1;cases this)⟩,((xa.trans x2).trans x3.ext).trans x4⟩
        ·go_roundw;case rel=>exact⟨k+1,by omega,by go_num,(x2.trans x3.ext).trans x4,HNX.out (HB4.out.1 (by first|rfl|trivial)) (λ_=>HLT.out)⟩
         case measure=>simp[intOf];omega
      ·have d3:decide ((0:Int)<(k:Int))=false:=by simp;omega
       simp only[Act.put];refine wp_region_later_tail 17 (by kernel_rfl) (by kernel_rfl) ?_;simp only[List.take_succ_cons,List.take_zero,List.drop_succ_cons,List.drop_zero]
       repeat (first
        | (go_big_quiet_want;refine quiet_ld_mac (.tmp 1) rfl w.heap.size rfl m RM.out ?_;simp only[pS_,pN_,sA_,s0_,s1_];go_big_quiet_on)
        | (go_big_quiet_want;refine quiet_ld_pr (.tmp 7) rfl wr.heap.size rfl y RP.out ?_;simp only[pS_,pN_,sA_,s0_,s1_];go_big_quiet_on)
        | go_big_quiet_step (fail))
       refine wpQuiet_nil ?_;rintro w3 ⟨x3,rfl⟩;clear c0 k5 E0;go_wp2_with (go_at_call 51;refine(HPC x3).out.mono ?_;rintro e w4 ⟨⟨b4,rfl,hb4⟩,x4⟩;have HB4:=lh_ hb4;clear hb4;rcases b4 with _|_)
       ·go_ret;exact⟨⟨3,rfl,HP3.out (λh=>by have:=HB4.out.2 (HNA.out h).1;cases this)⟩,((xa.trans x2).trans x3.ext).trans x4⟩
       ·go_roundw;case rel=>exact⟨k+1,by omega,by go_num,(x2.trans x3.ext).trans x4,HNX.out (HB4.out.1 (by first|rfl|trivial)) (λh=>absurd h n3)⟩
        case measure=>simp[intOf];omega
     ·obtain rfl:k=m.pr.n:=by omega
      have HPR:=lh_ (show ProcsK m d d.pr.length by
       have h:=HPRK.out;rw[HR1.out,HLL.out]at h;exact h)
      have HPN:=lh_ (show m.pr.n<=8 by omega);have q8:wr.cell? ⟨w.heap.size,8,none⟩=some (.slice m.pi.A m.pi.n m.pi.c):=(bm.ext xk).cell 8;by_cases h64:64<m.pi.n
      ·have HX:=lh_ h64;go_wp2_with fail;go_ret;exact⟨⟨6,rfl,(chk_pin HNU.out HFRN.out HFA.out HPN.out HPR.out (λh=>by have:=HX.out;omega)).symm⟩,xa.trans xk⟩
      ·go_wp2_with fail;clear q8;generalize wr=w5 at *;have HPL2:=lh_ (show∀k (h:k<d.pi.length),PipesK m d.pi k->(1<=d.pi[k].1/\d.pi[k].1<m.newPipe/\d.pi[k].2.length<=64)->(0<k->(d.pi[k-1]'(by omega)).1<d.pi[k].1)->PipesK m d.pi (k+1) fromλk h h1 h2 h3 i hi hik=>by
        by_cases e:i<k
        ·exact h1 i hi e
        ·obtain rfl:i=k:=by omega
         exact⟨h2.1,h2.2.1,h2.2.2,h3⟩)
       have HPIN:=lh_ (show m.pi.n<=64 by omega);have HQ3:=lh_ (λ(h:¬PipesK m d.pi d.pi.length)=>show(3:Int)=chkE m d from(chk_pi HNU.out HFRN.out HFA.out HPN.out HPR.out HPIN.out h).symm);have HQA:=lh_ (show∀k (h:k<d.pi.length),PipesK m d.pi d.pi.length->1<=d.pi[k].1/\d.pi[k].1<m.newPipe/\d.pi[k].2.length<=64/\(0<k->(d.pi[k-1]'(by omega)).1<d.pi[k].1) fromλk h hp=>hp k h h);obtain⟨pl,hpl⟩:∃x,x=d.pi:=⟨_,rfl⟩
       rw[← hpl]at hi2 HI1;have HPLe:=lh_ hpl;clear hpl;go_loopw [118] (λi wx=>∃k:Nat,k<=m.pi.n/\i=.int .i64 k/\Ext w1 wx/\PipesK m d.pi k) (λi _=>m.pi.n-(intOf i).toNat);case atStart=>exact⟨0,by omega,rfl,xk,λi h hk=>by omega⟩
       case round =>
        clear xk;obtain⟨k,hk,rfl,xk,hpik⟩:=hrel;have HPIK:=lh_ hpik;clear hpik;by_cases hlt:k<m.pi.n
        ·obtain⟨b,o,hA,hcell⟩:=hi2 (by omega);have hlk:k<pl.length:=by rw[← HI1.out];exact hlt
         have e1:=(xa.trans xk).keep (hcell k hlk).1;have e2:=(xa.trans xk).keep (hcell k hlk).2;have e0:0<k->wr.cell? ⟨b,o+(k-1)*2,none⟩=some (.int .i64 (pl[k-1]'(by omega)).1):=λh=>(xa.trans xk).keep (hcell (k-1) (by omega)).1;have r8:wr.cell? ⟨w.heap.size,8,none⟩=some (.slice m.pi.A m.pi.n m.pi.c):=(bm.ext xk).cell 8;have r9:wr.cell? ⟨w.heap.size,9,none⟩=some (.int .i64 m.newPipe):=(bm.ext xk).cell 9;rw[hA]at r8;clear hcell;have hkn:(k:Int)<(m.pi.n:Int):=by omega
         have HNX2:=lh_ (show(1<=pl[k].1/\pl[k].1<m.newPipe/\pl[k].2.length<=64)->(0<k->(pl[k-1]'(by omega)).1<pl[k].1)->PipesK m d.pi (k+1) from by
          have he:=HPLe.out;subst he;exact HPL2.out k hlk HPIK.out)
         have HNA2:=lh_ (show PipesK m d.pi d.pi.length->1<=pl[k].1/\pl[k].1<m.newPipe/\pl[k].2.length<=64/\(0<k->(pl[k-1]'(by omega)).1<pl[k].1) from by
          have he:=HPLe.out;subst he;exact HQA.out k hlk)
         generalize pl[k]=y at *;generalize hprv:pl[k-1]'(by omega)=prv at *;clear hprv;go_upto_region 25 with fail;have E1:(wr.alloc (.cells #[.int .i64 y.1,.string (str y.2)] 95)).cell? ⟨w.heap.size,8,none⟩=some (.slice (some ⟨b,o,none⟩) m.pi.n m.pi.c):=((Ext.refl wr).alloc _).keep r8;have E9:(wr.alloc (.cells #[.int .i64 y.1,.string (str y.2)] 95)).cell? ⟨w.heap.size,9,none⟩=some (.int .i64 m.newPipe):=((Ext.refl wr).alloc _).keep r9;have E0:0<k->(wr.alloc (.cells #[.int .i64 y.1,.string (str y.2)] 95)).cell? ⟨b,o+(k-1)*2,none⟩=some (.int .i64 prv.1):=λh=>((Ext.refl wr).alloc _).keep (e0 h);clear e0 e1 e2 r8 r9;by_cases n0:y.1<1
         ·have d0:decide (y.1<1)=true:=decide_eq_true n0;have HX:=lh_ n0;clear E0;go_quiet (fail);go_wp2_with fail;go_ret;exact⟨⟨3,rfl,HQ3.out (λh=>by have:=HNA2.out h;have:=HX.out;omega)⟩,(xa.trans xk).trans (((Ext.refl wr).alloc _).drewN _)⟩
         ·have d0:decide (y.1<1)=false:=decide_eq_false n0;by_cases n1:m.newPipe<=y.1
          ·have d1:decide (m.newPipe<=y.1)=true:=decide_eq_true n1;have HX:=lh_ n1;clear E0;go_quiet (fail);go_wp2_with fail;go_ret;exact⟨⟨3,rfl,HQ3.out (λh=>by have:=HNA2.out h;have:=HX.out;omega)⟩,(xa.trans xk).trans (((Ext.refl wr).alloc _).drewN _)⟩
          ·have d1:decide (m.newPipe<=y.1)=false:=decide_eq_false n1;by_cases n3:0<k
           ·have d3:decide ((0:Int)<(k:Int))=true:=by simp;omega
            have E0':=E0 n3;have kk1:(k:Int)-1=((k-1:Nat):Int):=by omega
            have kk2:IntKind.i64.wrap ((k:Int)-1)=((k-1:Nat):Int):=by rw[IntKind.wrap_i64];omega
            have kk3:((k-1:Nat):Int)<(m.pi.n:Int):=by omega
            clear E0;by_cases n4:y.1<=prv.1
            ·have d4:decide (y.1<=prv.1)=true:=decide_eq_true n4;have HX:=lh_ n4;have HX3:=lh_ n3;go_quiet (fail);go_wp2_with fail;go_ret;exact⟨⟨3,rfl,HQ3.out (λh=>by have:=HNA2.out h;have:=this.2.2.2 HX3.out;have:=HX.out;omega)⟩,(xa.trans xk).trans (((Ext.refl wr).alloc _).drewN _)⟩
            ·have d4:decide (y.1<=prv.1)=false:=decide_eq_false n4;by_cases n2:64<y.2.length
             ·have d2:decide (64<(y.2.length:Int))=true:=by simp;omega
              have HX:=lh_ n2;go_quiet (fail);go_wp2_with fail;go_ret;exact⟨⟨3,rfl,HQ3.out (λh=>by have:=HNA2.out h;have:=HX.out;omega)⟩,(xa.trans xk).trans (((Ext.refl wr).alloc _).drewN _)⟩
             ·have d2:decide (64<(y.2.length:Int))=false:=by simp;omega
              have HN2:=lh_ (HNX2.out ⟨by omega,by omega,by omega⟩ (λ_=>by omega));go_quiet (fail);go_wp2_with fail;go_roundw;case rel=>exact⟨k+1,by omega,by go_num,(xk.alloc _).drewN _,HN2.out⟩
              case measure=>simp[intOf];omega
           ·have d3:decide ((0:Int)<(k:Int))=false:=by simp;omega
            clear E0;by_cases n2:64<y.2.length
            ·have d2:decide (64<(y.2.length:Int))=true:=by simp;omega
             have HX:=lh_ n2;go_quiet (fail);go_wp2_with fail;go_ret;exact⟨⟨3,rfl,HQ3.out (λh=>by have:=HNA2.out h;have:=HX.out;omega)⟩,(xa.trans xk).trans (((Ext.refl wr).alloc _).drewN _)⟩
            ·have d2:decide (64<(y.2.length:Int))=false:=by simp;omega
             have HN2:=lh_ (HNX2.out ⟨by omega,by omega,by omega⟩ (λh=>absurd h n3));go_quiet (fail);go_wp2_with fail;go_roundw;case rel=>exact⟨k+1,by omega,by go_num,(xk.alloc _).drewN _,HN2.out⟩
             case measure=>simp[intOf];omega
        ·obtain rfl:k=m.pi.n:=by omega
         have HPI:=lh_ (show PipesK m d.pi d.pi.length by
          have h:=HPIK.out;rw[HI1.out,HPLe.out]at h;exact h)
         obtain⟨k0,k1,k2,k3,k4,k5,k6,k7,k8,k9,k10,k11,k12,k13,k14,k15,k16⟩:=mac_cells (bm.ext xk);have bmk:=bm.ext xk;clear k0 k1 k2 k3 k4 k5 k6 k8 k9 k11 k12 k13 k14 k15 k16;go_upto_region 28 with fail;go_cut [165] (λs wx=>BvP s (m.inn.length<=65536/\m.init.length<=128)/\wr=wx);case first =>
          go_wp2_with fail
          all_goals
           go_meet
           first
            | exact⟨BvP.yes (λh=>by omega),rfl⟩
            | exact⟨BvP.of ⟨λh=>by
              simp only[Bool.or_eq_false_iff,decide_eq_false_iff_not]at h;omega,λh=>by
              simp only[Bool.or_eq_false_iff,decide_eq_false_iff_not];omega⟩,rfl⟩
         case rest =>
          obtain⟨⟨b165,rfl,hb165⟩,rfl⟩:=hcut;have HB165:=lh_ hb165;clear hb165;cases b165 with
          | true => go_wp2_with fail;go_ret;exact⟨⟨6,rfl,(chk_te HNU.out HFRN.out HFA.out HPN.out HPR.out HPIN.out HPI.out (λh=>by have:=HB165.out.2 h;cases this)).symm⟩,xa.trans xk⟩
          | false =>
           clear k7 k10
           go_wp2_with (first
            | (refine wp_ld_mac (.tmp 1) rfl rfl w.heap.size _ 38 rfl bmk rfl ?_)
            | (go_at_call 52;refine(HDI.out _ (HM.out.ext xk)).mono ?_;rintro e w6 ⟨⟨n6,rfl,hn6⟩,x6⟩;have HN6:=lh_ hn6;clear hn6))
           go_ret;refine⟨⟨n6,rfl,?_⟩,(xa.trans xk).trans x6⟩;rw[chk_all HNU.out HFRN.out HFA.out HPN.out HPR.out HPIN.out HPI.out (HB165.out.1 (by first|rfl|trivial))];exact HN6.out.voE_eq
section
variable {ops:Array Oper}{rest:List Oper}{o:Oper}{a:Act}{w:World}{Q:Exit->Act->World->Prop}
theorem pr_range1 {w:World}{g:Nat}{t:TypeId}{p:PrT}(h:Box w g t (prL p).toArray):w.rangeAt g 0 (prL p):=λj v hj=>by
 rw[Nat.zero_add];exact(h.cell j).trans (by rw[← hj];simp)
theorem wp_ld_pr_g (x:Operand) (hw:Region.wanted o (yielded ops a.tmps)=true) (ho:o.op=.load 57 x) (g:Nat) (p:PrT) (t:TypeId) (hx:a.eval x=.pointer (some ⟨g,0,none⟩))
  (hb:Box w g t (prL p).toArray) (hK:wpList prog ops Q rest (a.put o.dst (.agg (prL p).toArray)) w):wpList prog ops Q (o::rest) a w:=by
 unfold wpList;rw[if_pos hw];exact .inl (wp_load_mid _ x ho g 0 hx _ _ (pr_range1 hb) underlying57 rfl (by rw[prL_len];exact prSize) hK)
end
theorem stlives_any (y:PrT) (w:World) :
  Calls prog 158 #[.agg (prL y).toArray] w λe w'=>e=.returned (.bool (y.state==1||y.state==2))/\Ext w w':=by
 have b0:=Box.new w 57 (prL y).toArray;have x0:=(Ext.refl w).alloc (.cells (prL y).toArray 57);go_enter func158,ntmps158;go_upto_region 1 with fail;generalize w.alloc (.cells (prL y).toArray 57)=w1 at *;have c2:w1.cell? ⟨w.heap.size,2,none⟩=some (.int .i64 y.state):=b0.cell 2;clear b0;rcases Bool.eq_false_or_eq_true (y.state==1) with h1|h1<;>rcases Bool.eq_false_or_eq_true (y.state==2) with h2|h2<;>go_wp2_with fail
 all_goals
  go_ret;exact⟨by rw[h1,h2];rfl,x0⟩
theorem fields_ok (m:Mac) (d:MacD) (y:PrT) (w:World) (h:ProcOk m d y) :
  Calls prog 90 #[.agg (prL y).toArray] w λe w'=>e=.returned (.bool true)/\Ext w w':=by
 have HL:=lh_ (λw=>stlives_any y w);have b0:=Box.new w 57 (prL y).toArray;have x0:=(Ext.refl w).alloc (.cells (prL y).toArray 57);have hreg:=h.reg;have hst:=h.state;have hwhy:=h.why;have hcode:=h.code;clear h;go_enter func90,ntmps90;go_upto_region 1 with fail;generalize w.alloc (.cells (prL y).toArray 57)=w1 at *;generalize w.heap.size=G at *;have cf:∀wx,Ext w1 wx->wx.cell? ⟨G,2,none⟩=some (.int .i64 y.state)/\wx.cell? ⟨G,3,none⟩=some (.int .u32 0)/\wx.cell? ⟨G,93,none⟩=some (.int .u32 y.code)/\wx.cell? ⟨G,94,none⟩=some (.int .i64 y.why)/\wx.cell? ⟨G,95,none⟩=some (.int .u64 y.num):=λwx x => ⟨(b0.ext x).cell 2,by rw[← hreg];exact(b0.ext x).cell 3,(b0.ext x).cell 93,(b0.ext x).cell 94,(b0.ext x).cell 95⟩
 have CF:=lh_ cf;clear cf hreg;have HL2:=HL.out;generalize y.state=s at *;have HLs:=lh_ HL2;clear HL HL2;generalize y.why=wy at *;generalize y.num=nm at *;generalize y.code=cd at *;rcases hst with rfl|rfl|rfl
 ·obtain⟨rfl,rfl⟩:wy=0/\nm=0:=by omega
  obtain rfl:cd=0:=by omega
  clear hwhy hcode
  go_wp2_with (first
   | (refine wp_ld_pr (.tmp 1) rfl rfl G 0 y rfl (pr_range1 b0) ?_)
   | (go_at_call 158;refine(HLs.out _).mono ?_;rintro e w2 ⟨rfl,x2⟩;obtain⟨c2,c3,c93,c94,c95⟩:=CF.out _ x2))
  go_ret;exact⟨rfl,x0.trans x2⟩
 ·obtain⟨hw1,hw2⟩:1<=wy/\wy<=5:=by omega
  have e1:decide (wy<1)=false:=by simp;omega
  have e2:decide (5<wy)=false:=by simp;omega
  obtain rfl:cd=0:=by omega
  clear hwhy hcode
  go_wp2_with (first
   | (refine wp_ld_pr (.tmp 1) rfl rfl G 0 y rfl (pr_range1 b0) ?_)
   | (go_at_call 158;refine(HLs.out _).mono ?_;rintro e w2 ⟨rfl,x2⟩;obtain⟨c2,c3,c93,c94,c95⟩:=CF.out _ x2))
  go_ret;exact⟨rfl,x0.trans x2⟩
 ·obtain⟨rfl,rfl⟩:wy=0/\nm=0:=by omega
  clear hwhy hcode
  go_wp2_with (first
   | (refine wp_ld_pr (.tmp 1) rfl rfl G 0 y rfl (pr_range1 b0) ?_)
   | (go_at_call 158;refine(HLs.out _).mono ?_;rintro e w2 ⟨rfl,x2⟩;obtain⟨c2,c3,c93,c94,c95⟩:=CF.out _ x2))
  go_ret;exact⟨rfl,x0.trans x2⟩
theorem place1_any (i:Int) (s:ByteArray) (g:Nat) (id:Int) (w:World) (h:Box w g 3 #[.int .i64 id]) :
  Calls prog 208 #[.agg #[.int .i64 i,.string s],.pointer (some ⟨g,0,none⟩)] w λe w'=>e=.returned (.bool (i==id))/\Ext w w':=by
 have x0:=(Ext.refl w).alloc (.cells #[.int .i64 i,.string s] 95);have c0:(w.alloc (.cells #[.int .i64 i,.string s] 95)).cell? ⟨g,0,none⟩=some (.int .i64 id):=(h.ext x0).cell 0;clear h;go_enter func208,ntmps208;go_wp2_with fail;go_ret;exact⟨rfl,x0⟩
theorem pidx_yes (A:Option Addr) (n c:Nat) (l:List WrT) (g:Nat) (id:Int) (w:World) (hv:Wrs w A n l) (hn:n<=4000) (hb:Box w g 3 #[.int .i64 id]) (hy:∃y∈l,y.1=id) :
  Calls prog 207 #[.slice A n c,.func (.func 208) #[] #[.pointer (some ⟨g,0,none⟩)]] w λe w'=>(∃k:Nat,k<=4000/\e=.returned (.int .i64 k))/\Ext w w':=by
 have HP:=lh_ (λi s w h=>place1_any i s g id w h);obtain⟨rfl,hv2⟩:=hv;have HY:=lh_ hy;clear hy;go_enter func207,ntmps207;go_wp2_with fail;go_loopw [8] (λi wx=>∃k:Nat,k<=l.length/\i=.int .i64 k/\Ext w wx/\∀(j:Nat) (h:j<l.length),j<k->l[j].1≠id) (λi _=>l.length-(intOf i).toNat);case atStart=>exact⟨0,by omega,rfl,Ext.refl _,λj h hk=>by omega⟩
 case round =>
  obtain⟨k,hk,rfl,xk,hno⟩:=hrel;have HNO:=lh_ hno;clear hno;by_cases hlt:k<l.length
  ·obtain⟨b,o,rfl,hcell⟩:=hv2 (by omega);have e1:=xk.keep (hcell k hlt).1;have e2:=xk.keep (hcell k hlt).2;have hki:(k:Int)<(l.length:Int):=by omega
   have hbk:=hb.ext xk;have HD:=lh_ (λ(h:l[k].1≠id)=>show∀(j:Nat) (h:j<l.length),j<k+1->l[j].1≠id fromλj hj hjk=>by
    by_cases e:j<k
    ·exact HNO.out j hj e
    ·obtain rfl:j=k:=by omega
     exact h)
   generalize l[k]=y at *;clear hcell;rcases Bool.eq_false_or_eq_true (y.1==id) with hd|hd
   ·go_wp2_with (go_at_call 208;refine(HP.out _ _ _ hbk).mono ?_;rintro e w2 ⟨rfl,x2⟩)
    go_ret;exact⟨⟨k,by omega,rfl⟩,xk.trans x2⟩
   ·go_wp2_with (go_at_call 208;refine(HP.out _ _ _ hbk).mono ?_;rintro e w2 ⟨rfl,x2⟩)
    go_roundw;case rel=>exact⟨k+1,by omega,by go_num,xk.trans x2,HD.out (by simpa using hd)⟩
    case measure=>simp[intOf];omega
  ·exfalso;obtain⟨y,hy,he⟩:=HY.out;obtain⟨j,hj,rfl⟩:=List.getElem_of_mem hy;exact HNO.out j hj (by omega) he
theorem place_yes (m:Mac) (d:MacD) (id:Int) (w:World) (h:MacIn w m d) (hn:m.pi.n<=4000) (hy:∃y∈d.pi,y.1=id) :
  Calls prog 161 #[.agg m.cells,.int .i64 id] w λe w'=>(∃k:Nat,k<=4000/\e=.returned (.int .i64 k))/\Ext w w':=by
 have hmf:∀(fn:Fn) (first cap:Array Value) (w:World),(Instr.makeFunc fn first cap).run prog w=.ok (.func fn first cap) w:=λ_ _ _ _=>rfl;have x1:Ext w (w.alloc (.cells m.cells 38)):=(Ext.refl _).alloc _;have x2:=x1.alloc (.cells #[.int .i64 id] 3);have ba:=(Box.new w 38 m.cells).ext ((Ext.refl _).alloc (.cells #[.int .i64 id] 3));have bi:=Box.new (w.alloc (.cells m.cells 38)) 3 #[.int .i64 id];rw[World.size_alloc]at bi;have q8:((w.alloc (.cells m.cells 38)).alloc (.cells #[.int .i64 id] 3)).cell? ⟨w.heap.size,8,none⟩=some (.slice m.pi.A m.pi.n m.pi.c):=ba.cell 8;have HV:=lh_ (h.pi.wrs.ext x2);have HP:=lh_ (λwx h1 h2=>pidx_yes m.pi.A m.pi.n m.pi.c d.pi (w.heap.size+1) id wx h1 hn h2 hy);clear h hy x1;go_enter func161,ntmps161;go_upto_region 1 with fail;generalize (w.alloc (.cells m.cells 38)).alloc (.cells #[.int .i64 id] 3)=w2 at *;generalize w.heap.size=G at *;go_wp2_with (go_at_call 207;refine(HP.out _ HV.out bi).mono ?_;rintro e w3 ⟨⟨k,hk,rfl⟩,x3⟩)
 go_ret;exact⟨⟨k,hk,rfl⟩,x2.trans x3⟩
theorem parent1_any (q y:PrT) (g:Nat) (w:World) (h:Box w g 57 (prL y).toArray) :
  Calls prog 160 #[.agg (prL q).toArray,.pointer (some ⟨g,0,none⟩)] w λe w'=>e=.returned (.bool (q.pid==y.parent&&(q.state==1||q.state==2)))/\Ext w w':=by
 have HL:=lh_ (λw=>stlives_any q w);have b0:=Box.new w 57 (prL q).toArray;have x0:=(Ext.refl w).alloc (.cells (prL q).toArray 57);have c1:(w.alloc (.cells (prL q).toArray 57)).cell? ⟨g,1,none⟩=some (.int .i64 y.parent):=(h.ext x0).cell 1;clear h;go_enter func160,ntmps160;go_upto_region 1 with fail;generalize w.alloc (.cells (prL q).toArray 57)=w1 at *;have c0:w1.cell? ⟨w.heap.size,0,none⟩=some (.int .i64 q.pid):=b0.cell 0;rcases Bool.eq_false_or_eq_true (q.pid==y.parent) with h1|h1
 ·go_wp2_with (first
   | (refine wp_ld_pr_g (.tmp 2) rfl rfl w.heap.size q 57 rfl b0 ?_)
   | (go_at_call 158;refine(HL.out _).mono ?_;rintro e w2 ⟨rfl,x2⟩))
  go_ret;exact⟨by rw[h1];rfl,x0.trans x2⟩
 ·go_wp2_with fail;go_ret;exact⟨by rw[h1];rfl,x0⟩
theorem pridx_yes (A:Option Addr) (n c:Nat) (l:List PrT) (g:Nat) (p:PrT) (w:World) (hv:RowOf prL w A n l) (hn:n<=4000) (hb:Box w g 57 (prL p).toArray) (hy:LivesP l p.parent) :
  Calls prog 206 #[.slice A n c,.func (.func 160) #[] #[.pointer (some ⟨g,0,none⟩)]] w λe w'=>(∃k:Nat,k<=4000/\e=.returned (.int .i64 k))/\Ext w w':=by
 have HP:=lh_ (λq w h=>parent1_any q p g w h);obtain⟨rfl,hv2⟩:=hv;have HY:=lh_ hy;clear hy;go_enter func206,ntmps206;go_wp2_with fail;go_loopw [8] (λi wx=>∃k:Nat,k<=l.length/\i=.int .i64 k/\Ext w wx/\∀(j:Nat) (h:j<l.length),j<k->¬(l[j].pid=p.parent/\(l[j].state=1\/l[j].state=2))) (λi _=>l.length-(intOf i).toNat);case atStart=>exact⟨0,by omega,rfl,Ext.refl _,λj h hk=>by omega⟩
 case round =>
  obtain⟨k,hk,rfl,xk,hno⟩:=hrel;have HNO:=lh_ hno;clear hno;by_cases hlt:k<l.length
  ·obtain⟨b,o,rfl,hcell⟩:=hv2 (by omega);have r1:=range_ext (pr_range hcell hlt) xk;have hki:(k:Int)<(l.length:Int):=by omega
   have hbk:=hb.ext xk;have HD:=lh_ (λ(h:¬(l[k].pid=p.parent/\(l[k].state=1\/l[k].state=2)))=>show∀(j:Nat) (h:j<l.length),j<k+1->¬(l[j].pid=p.parent/\(l[j].state=1\/l[j].state=2)) fromλj hj hjk=>by
    by_cases e:j<k
    ·exact HNO.out j hj e
    ·obtain rfl:j=k:=by omega
     exact h)
   generalize l[k]=y at *;clear hcell;rcases Bool.eq_false_or_eq_true (y.pid==p.parent&&(y.state==1||y.state==2)) with hd|hd
   ·go_wp2_with (first
     | (refine wp_ld_pr (.tmp 14) rfl rfl b (o+k*96) y rfl r1 ?_)
     | (go_at_call 160;refine(HP.out _ _ hbk).mono ?_;rintro e w2 ⟨rfl,x2⟩))
    go_ret;exact⟨⟨k,by omega,rfl⟩,xk.trans x2⟩
   ·go_wp2_with (first
     | (refine wp_ld_pr (.tmp 14) rfl rfl b (o+k*96) y rfl r1 ?_)
     | (go_at_call 160;refine(HP.out _ _ hbk).mono ?_;rintro e w2 ⟨rfl,x2⟩))
    go_roundw;case rel=>exact⟨k+1,by omega,by go_num,xk.trans x2,HD.out (by
     rintro⟨h1,h2⟩;rw[show(y.pid==p.parent)=true by simpa using h1,Bool.true_and]at hd;rcases h2 with h2|h2<;>simp[h2]at hd)⟩
    case measure=>simp[intOf];omega
  ·exfalso;obtain⟨y,hy,he⟩:=HY.out;obtain⟨j,hj,rfl⟩:=List.getElem_of_mem hy;exact HNO.out j hj (by omega) he
theorem prcont_yes (A:Option Addr) (n c:Nat) (l:List PrT) (g:Nat) (p:PrT) (w:World) (hv:RowOf prL w A n l) (hn:n<=4000) (hb:Box w g 57 (prL p).toArray) (hy:LivesP l p.parent) :
  Calls prog 159 #[.slice A n c,.func (.func 160) #[] #[.pointer (some ⟨g,0,none⟩)]] w λe w'=>e=.returned (.bool true)/\Ext w w':=by
 have HP:=lh_ (λw h1 h2=>pridx_yes A n c l g p w h1 hn h2 hy);go_enter func159,ntmps159;have d:∀k:Nat,decide ((0:Int)<=(k:Int))=true:=λk=>by simp
 go_wp2_with (go_at_call 206;refine(HP.out _ hv hb).mono ?_;rintro e w2 ⟨⟨k,hk,rfl⟩,x2⟩)
 go_ret;exact⟨rfl,x2⟩
theorem parent_ok' (m:Mac) (d:MacD) (y:PrT) (w:World) (hi:MacIn w m d) (hn:m.pr.n<=4000) (hst:y.state=1\/y.state=2\/y.state=3) (hpar:LivesP d.pr y.parent\/(y.state≠3/\y.parent=0)) :
  Calls prog 91 #[.agg m.cells,.agg (prL y).toArray] w λe w'=>e=.returned (.bool true)/\Ext w w':=by
 have hmf:∀(fn:Fn) (first cap:Array Value) (w:World),(Instr.makeFunc fn first cap).run prog w=.ok (.func fn first cap) w:=λ_ _ _ _=>rfl;have HL:=lh_ (λw=>stlives_any y w);have x0:=((Ext.refl w).alloc (.cells m.cells 38)).alloc (.cells (prL y).toArray 57);have bm:=(Box.new w 38 m.cells).ext ((Ext.refl _).alloc (.cells (prL y).toArray 57));have bp:=Box.new (w.alloc (.cells m.cells 38)) 57 (prL y).toArray;rw[World.size_alloc]at bp;have HR:=lh_ (hi.pr.ext x0);clear hi;go_enter func91,ntmps91;go_upto_region 1 with fail;generalize (w.alloc (.cells m.cells 38)).alloc (.cells (prL y).toArray 57)=w1 at *;generalize w.heap.size=G at *;have c1:w1.cell? ⟨G+1,1,none⟩=some (.int .i64 y.parent):=bp.cell 1;have HC:=lh_ (λw h1 h2 hy=>prcont_yes m.pr.A m.pr.n m.pr.c d.pr (G+1) y w h1 hn h2 hy);have q5:∀wx,Ext w1 wx->wx.cell? ⟨G,5,none⟩=some (.slice m.pr.A m.pr.n m.pr.c):=λwx x=>(bm.ext x).cell 5;have HQ:=lh_ q5;clear q5;have hcase:(y.parent=0/\(y.state==1||y.state==2)=true)\/(LivesP d.pr y.parent/\(y.parent≠0\/(y.state==1||y.state==2)=false)):=by
  by_cases e:y.parent=0/\(y.state==1||y.state==2)=true
  ·exact .inl e
  ·refine .inr ⟨?_,?_⟩
   ·rcases hpar with h|⟨h1,h2⟩
    ·exact h
    ·refine absurd ⟨h2,?_⟩ e;rcases hst with h|h|h
     ·simp[h]
     ·simp[h]
     ·exact absurd h h1
   ·by_cases e0:y.parent=0
    ·right;simpa[e0]using e
    ·exact .inl e0
 clear hst hpar;rcases hcase with⟨h1,h2⟩|⟨h1,h2⟩
 ·have e1:(y.parent==0)=true:=by simpa using h1
  clear h1
  go_wp2_with (first
   | (refine wp_ld_pr_g (.tmp 3) rfl rfl (G+1) y 57 rfl bp ?_)
   | (go_at_call 158;refine(HL.out _).mono ?_;rintro e w2 ⟨rfl,x2⟩))
  go_ret;exact⟨rfl,x0.trans x2⟩
 ·have HY:=lh_ h1;clear h1;rcases Bool.eq_false_or_eq_true (y.parent==0) with e1|e1
  ·have h3:(y.state==1||y.state==2)=false:=by
    rcases h2 with h2|h2
    ·exact absurd (by simpa using e1) h2
    ·exact h2
   clear h2
   go_wp2_with (first
    | (refine wp_ld_pr_g (.tmp 3) rfl rfl (G+1) y 57 rfl bp ?_)
    | (go_at_call 158;refine(HL.out _).mono ?_;rintro e w2 ⟨rfl,x2⟩;have q5:=HQ.out _ x2)
    | (go_at_call 159;refine(HC.out _ (HR.out.ext x2) (bp.ext x2) HY.out).mono ?_;rintro e w3 ⟨rfl,x3⟩))
   go_ret;exact⟨rfl,(x0.trans x2).trans x3⟩
  ·clear h2;have q5:=HQ.out _ (Ext.refl _)
   go_wp2_with (first
    | (go_at_call 159;refine(HC.out _ HR.out bp HY.out).mono ?_;rintro e w3 ⟨rfl,x3⟩))
   go_ret;exact⟨rfl,x0.trans x3⟩
theorem parent_ok (m:Mac) (d:MacD) (y:PrT) (w:World) (hi:MacIn w m d) (hn:m.pr.n<=4000) (h:ProcOk m d y) :
  Calls prog 91 #[.agg m.cells,.agg (prL y).toArray] w λe w'=>e=.returned (.bool true)/\Ext w w':=parent_ok' m d y w hi hn h.state h.par
theorem file_ok (m:Mac) (d:MacD) (k n p:Int) (w:World) (hi:MacIn w m d) (hn:m.pi.n<=4000) (h:FdP d.pi k n p) (h0:k≠0) :
  Calls prog 92 #[.agg m.cells,.agg #[.int .i64 k,.int .i64 n,.int .i64 p]] w λe w'=>e=.returned (.bool true)/\Ext w w':=by
 have HP:=lh_ (λid w h hy=>place_yes m d id w h hn hy);have x0:=((Ext.refl w).alloc (.cells m.cells 38)).alloc (.cells #[.int .i64 k,.int .i64 n,.int .i64 p] 54);have bm:=(Box.new w 38 m.cells).ext ((Ext.refl _).alloc (.cells #[.int .i64 k,.int .i64 n,.int .i64 p] 54));have HM:=lh_ (hi.ext x0);clear hi;have dk:∀k:Nat,decide ((0:Int)<=(k:Int))=true:=λk=>by simp
 go_enter func92,ntmps92;rcases h with⟨h1,rfl,rfl⟩|⟨rfl,h1,h2,h3,h4⟩|⟨h1,rfl,hy⟩
 ·rcases h1 with rfl|rfl|rfl
  ·exact absurd rfl h0
  ·go_wp2_with fail;go_ret;exact⟨rfl,x0⟩
  ·go_wp2_with fail;go_ret;exact⟨rfl,x0⟩
 ·have e1:decide (1<=n)=true:=decide_eq_true h1;have e2:decide (n<=64)=true:=decide_eq_true h2;have e3:decide (0<=p)=true:=decide_eq_true h3;have e4:decide (p<=8960)=true:=decide_eq_true h4;clear h1 h2 h3 h4;go_wp2_with fail;go_ret;exact⟨rfl,x0⟩
 ·have HY:=lh_ hy;clear hy
  rcases h1 with rfl|rfl<;>go_wp2_with (first
   | (refine wp_ld_mac_g (.tmp 2) rfl rfl w.heap.size m 38 rfl bm ?_)
   | (go_at_call 161;refine(HP.out _ _ HM.out HY.out).mono ?_;rintro e w2 ⟨⟨q,hq,rfl⟩,x2⟩))
  all_goals
   go_ret;exact⟨rfl,x0.trans x2⟩
def IsB (e:Ending) (p:Prop):Prop:=∃b,e=.returned (.bool b)/\(b=true↔p)
theorem IsB.yes {p:Prop}(h:p):IsB (.returned (.bool true)) p:=⟨true,rfl,λ_=>h,λ_=>rfl⟩
theorem IsB.no {p:Prop}(h:¬p):IsB (.returned (.bool false)) p:=⟨false,rfl,(λh=>by cases h),λh2=>absurd h2 h⟩
theorem IsB.out_yes {e:Ending}{p:Prop}(h:IsB e p) (hp:p):e=.returned (.bool true):=by
 obtain⟨b,rfl,hb⟩:=h;rw[hb.2 hp]
theorem IsB.out_no {e:Ending}{p:Prop}(h:IsB e p) (hp:¬p):e=.returned (.bool false):=by
 obtain⟨b,rfl,hb⟩:=h;cases b
 ·rfl
 ·exact absurd (hb.1 rfl) hp
theorem sfields_any (y:PrT) (w:World) :
  Calls prog 90 #[.agg (prL y).toArray] w λe w'=>IsB e (FieldsP y)/\Ext w w':=by
 have HL:=lh_ (λw=>stlives_any y w);have b0:=Box.new w 57 (prL y).toArray;have x0:=(Ext.refl w).alloc (.cells (prL y).toArray 57);obtain⟨P,hP⟩:∃P,P=FieldsP y:=⟨_,rfl⟩
 rw[← hP];have HPP:=lh_ hP;clear hP;go_enter func90,ntmps90;go_upto_region 1 with fail;generalize w.alloc (.cells (prL y).toArray 57)=w1 at *;generalize w.heap.size=G at *;have cf:∀wx,Ext w1 wx->wx.cell? ⟨G,2,none⟩=some (.int .i64 y.state)/\wx.cell? ⟨G,3,none⟩=some (.int .u32 (y.reg 0))/\wx.cell? ⟨G,93,none⟩=some (.int .u32 y.code)/\wx.cell? ⟨G,94,none⟩=some (.int .i64 y.why)/\wx.cell? ⟨G,95,none⟩=some (.int .u64 y.num):=λwx x => ⟨(b0.ext x).cell 2,(b0.ext x).cell 3,(b0.ext x).cell 93,(b0.ext x).cell 94,(b0.ext x).cell 95⟩
 have CF:=lh_ cf;clear cf;have HL2:=HL.out;have HF:=HPP.out;unfold FieldsP at HF;have hcase:y.state=1\/y.state=2\/y.state=3\/((y.state==1)=false/\(y.state==2)=false/\(y.state != 3)=true/\¬P):=by
  by_cases h1:y.state=1
  ·exact .inl h1
  ·by_cases h2:y.state=2
   ·exact .inr (.inl h2)
   ·by_cases h3:y.state=3
    ·exact .inr (.inr (.inl h3))
    ·exact .inr (.inr (.inr ⟨by simpa using h1,by simpa using h2,by simpa using h3,λh=>by rw[HF]at h;rcases h.1 with h|h|h<;>contradiction⟩))
 have HFF:=lh_ HF;clear HF HPP HL;generalize y.state=s at *;generalize y.why=wy at *;generalize y.num=nm at *;generalize y.code=cd at *;generalize y.reg 0=rg at *;have HLs:=lh_ HL2;clear HL2;have r0:=Bool.eq_false_or_eq_true (rg != 0);have r1:=Bool.eq_false_or_eq_true (cd==0);have r2:=Bool.eq_false_or_eq_true (wy != 0);have r3:=Bool.eq_false_or_eq_true (nm != 0);have r4:=Bool.eq_false_or_eq_true (decide (wy<1));have r5:=Bool.eq_false_or_eq_true (decide (5<wy));have HFin:=lh_ (λ(b:Bool) (h:b=true↔P)=>show IsB (.returned (.bool b)) P from⟨b,rfl,h⟩);rcases hcase with rfl|rfl|rfl|⟨s1,s2,s3,hnp⟩
 ·clear r4 r5;rcases r0 with r0|r0
  ·clear r1 r2 r3
   go_wp2_with (first
    | (refine wp_ld_pr (.tmp 1) rfl rfl G 0 y rfl (pr_range1 b0) ?_)
    | (go_at_call 158;refine(HLs.out _).mono ?_;rintro e w2 ⟨rfl,x2⟩;obtain⟨c2,c3,c93,c94,c95⟩:=CF.out _ x2))
   go_ret;refine⟨HFin.out _ ?_,x0.trans x2⟩;rw[HFF.out];simp at r0;simp;omega
  ·rcases r2 with r2|r2
   ·clear r1 r3
    go_wp2_with (first
     | (refine wp_ld_pr (.tmp 1) rfl rfl G 0 y rfl (pr_range1 b0) ?_)
     | (go_at_call 158;refine(HLs.out _).mono ?_;rintro e w2 ⟨rfl,x2⟩;obtain⟨c2,c3,c93,c94,c95⟩:=CF.out _ x2))
    go_ret;refine⟨HFin.out _ ?_,x0.trans x2⟩;rw[HFF.out];simp at r2;simp;omega
   ·rcases r3 with r3|r3
    ·clear r1
     go_wp2_with (first
      | (refine wp_ld_pr (.tmp 1) rfl rfl G 0 y rfl (pr_range1 b0) ?_)
      | (go_at_call 158;refine(HLs.out _).mono ?_;rintro e w2 ⟨rfl,x2⟩;obtain⟨c2,c3,c93,c94,c95⟩:=CF.out _ x2))
     go_ret;refine⟨HFin.out _ ?_,x0.trans x2⟩;rw[HFF.out];simp at r3;simp;omega
    ·go_wp2_with (first
      | (refine wp_ld_pr (.tmp 1) rfl rfl G 0 y rfl (pr_range1 b0) ?_)
      | (go_at_call 158;refine(HLs.out _).mono ?_;rintro e w2 ⟨rfl,x2⟩;obtain⟨c2,c3,c93,c94,c95⟩:=CF.out _ x2))
     go_ret;refine⟨HFin.out _ ?_,x0.trans x2⟩;rw[HFF.out];simp at r0 r2 r3;simp;omega
 ·clear r2 r3;rcases r0 with r0|r0
  ·clear r1 r4 r5
   go_wp2_with (first
    | (refine wp_ld_pr (.tmp 1) rfl rfl G 0 y rfl (pr_range1 b0) ?_)
    | (go_at_call 158;refine(HLs.out _).mono ?_;rintro e w2 ⟨rfl,x2⟩;obtain⟨c2,c3,c93,c94,c95⟩:=CF.out _ x2))
   go_ret;refine⟨HFin.out _ ?_,x0.trans x2⟩;rw[HFF.out];simp at r0;simp;omega
  ·rcases r4 with r4|r4
   ·clear r1 r5
    go_wp2_with (first
     | (refine wp_ld_pr (.tmp 1) rfl rfl G 0 y rfl (pr_range1 b0) ?_)
     | (go_at_call 158;refine(HLs.out _).mono ?_;rintro e w2 ⟨rfl,x2⟩;obtain⟨c2,c3,c93,c94,c95⟩:=CF.out _ x2))
    go_ret;refine⟨HFin.out _ ?_,x0.trans x2⟩;rw[HFF.out];simp at r4;simp;omega
   ·rcases r5 with r5|r5
    ·clear r1
     go_wp2_with (first
      | (refine wp_ld_pr (.tmp 1) rfl rfl G 0 y rfl (pr_range1 b0) ?_)
      | (go_at_call 158;refine(HLs.out _).mono ?_;rintro e w2 ⟨rfl,x2⟩;obtain⟨c2,c3,c93,c94,c95⟩:=CF.out _ x2))
     go_ret;refine⟨HFin.out _ ?_,x0.trans x2⟩;rw[HFF.out];simp at r5;simp;omega
    ·go_wp2_with (first
      | (refine wp_ld_pr (.tmp 1) rfl rfl G 0 y rfl (pr_range1 b0) ?_)
      | (go_at_call 158;refine(HLs.out _).mono ?_;rintro e w2 ⟨rfl,x2⟩;obtain⟨c2,c3,c93,c94,c95⟩:=CF.out _ x2))
     go_ret;refine⟨HFin.out _ ?_,x0.trans x2⟩;rw[HFF.out];simp at r0 r4 r5;simp;omega
 ·clear r1 r4 r5;rcases r0 with r0|r0
  ·clear r2 r3
   go_wp2_with (first
    | (refine wp_ld_pr (.tmp 1) rfl rfl G 0 y rfl (pr_range1 b0) ?_)
    | (go_at_call 158;refine(HLs.out _).mono ?_;rintro e w2 ⟨rfl,x2⟩;obtain⟨c2,c3,c93,c94,c95⟩:=CF.out _ x2))
   go_ret;refine⟨HFin.out _ ?_,x0.trans x2⟩;rw[HFF.out];simp at r0;simp;omega
  ·rcases r2 with r2|r2
   ·clear r3
    go_wp2_with (first
     | (refine wp_ld_pr (.tmp 1) rfl rfl G 0 y rfl (pr_range1 b0) ?_)
     | (go_at_call 158;refine(HLs.out _).mono ?_;rintro e w2 ⟨rfl,x2⟩;obtain⟨c2,c3,c93,c94,c95⟩:=CF.out _ x2))
    go_ret;refine⟨HFin.out _ ?_,x0.trans x2⟩;rw[HFF.out];simp at r2;simp;omega
   ·rcases r3 with r3|r3
    ·go_wp2_with (first
      | (refine wp_ld_pr (.tmp 1) rfl rfl G 0 y rfl (pr_range1 b0) ?_)
      | (go_at_call 158;refine(HLs.out _).mono ?_;rintro e w2 ⟨rfl,x2⟩;obtain⟨c2,c3,c93,c94,c95⟩:=CF.out _ x2))
     go_ret;refine⟨HFin.out _ ?_,x0.trans x2⟩;rw[HFF.out];simp at r3;simp;omega
    ·go_wp2_with (first
      | (refine wp_ld_pr (.tmp 1) rfl rfl G 0 y rfl (pr_range1 b0) ?_)
      | (go_at_call 158;refine(HLs.out _).mono ?_;rintro e w2 ⟨rfl,x2⟩;obtain⟨c2,c3,c93,c94,c95⟩:=CF.out _ x2))
     go_ret;refine⟨HFin.out _ ?_,x0.trans x2⟩;rw[HFF.out];simp at r0 r2 r3;simp;omega
 ·have HNP:=lh_ hnp;clear hnp r0 r1 r2 r3 r4 r5
  go_wp2_with (first
   | (refine wp_ld_pr (.tmp 1) rfl rfl G 0 y rfl (pr_range1 b0) ?_)
   | (go_at_call 158;refine(HLs.out _).mono ?_;rintro e w2 ⟨rfl,x2⟩;obtain⟨c2,c3,c93,c94,c95⟩:=CF.out _ x2))
  go_ret;exact⟨HFin.out _ ⟨(λh=>by cases h),λh=>absurd h HNP.out⟩,x0.trans x2⟩
theorem pidx_no (A:Option Addr) (n c:Nat) (l:List WrT) (g:Nat) (id:Int) (w:World) (hv:Wrs w A n l) (hn:n<=4000) (hb:Box w g 3 #[.int .i64 id]) (hy:¬∃y∈l,y.1=id) :
  Calls prog 207 #[.slice A n c,.func (.func 208) #[] #[.pointer (some ⟨g,0,none⟩)]] w λe w'=>e=.returned (.int .i64 (-1))/\Ext w w':=by
 have HP:=lh_ (λi s w h=>place1_any i s g id w h);obtain⟨rfl,hv2⟩:=hv;have HY:=lh_ hy;clear hy;go_enter func207,ntmps207;go_wp2_with fail;go_loopw [8] (λi wx=>∃k:Nat,k<=l.length/\i=.int .i64 k/\Ext w wx) (λi _=>l.length-(intOf i).toNat);case atStart=>exact⟨0,by omega,rfl,Ext.refl _⟩
 case round =>
  obtain⟨k,hk,rfl,xk⟩:=hrel;by_cases hlt:k<l.length
  ·obtain⟨b,o,rfl,hcell⟩:=hv2 (by omega);have e1:=xk.keep (hcell k hlt).1;have e2:=xk.keep (hcell k hlt).2;have hki:(k:Int)<(l.length:Int):=by omega
   have hbk:=hb.ext xk;have hd:(l[k].1==id)=false:=by have:l[k].1≠id:=λh=>HY.out ⟨_,List.getElem_mem hlt,h⟩;simpa using this
   generalize l[k]=y at *;clear hcell;go_wp2_with (go_at_call 208;refine(HP.out _ _ _ hbk).mono ?_;rintro e w2 ⟨rfl,x2⟩)
   go_roundw;case rel=>exact⟨k+1,by omega,by go_num,xk.trans x2⟩
   case measure=>simp[intOf];omega
  ·have hlt2:¬(k:Int)<(l.length:Int):=by omega
   go_wp2_with fail;go_ret;exact⟨rfl,xk⟩
theorem place_no (m:Mac) (d:MacD) (id:Int) (w:World) (h:MacIn w m d) (hn:m.pi.n<=4000) (hy:¬∃y∈d.pi,y.1=id) :
  Calls prog 161 #[.agg m.cells,.int .i64 id] w λe w'=>e=.returned (.int .i64 (-1))/\Ext w w':=by
 have hmf:∀(fn:Fn) (first cap:Array Value) (w:World),(Instr.makeFunc fn first cap).run prog w=.ok (.func fn first cap) w:=λ_ _ _ _=>rfl;have x1:Ext w (w.alloc (.cells m.cells 38)):=(Ext.refl _).alloc _;have x2:=x1.alloc (.cells #[.int .i64 id] 3);have ba:=(Box.new w 38 m.cells).ext ((Ext.refl _).alloc (.cells #[.int .i64 id] 3));have bi:=Box.new (w.alloc (.cells m.cells 38)) 3 #[.int .i64 id];rw[World.size_alloc]at bi;have q8:((w.alloc (.cells m.cells 38)).alloc (.cells #[.int .i64 id] 3)).cell? ⟨w.heap.size,8,none⟩=some (.slice m.pi.A m.pi.n m.pi.c):=ba.cell 8;have HV:=lh_ (h.pi.wrs.ext x2);have HP:=lh_ (λwx h1 h2=>pidx_no m.pi.A m.pi.n m.pi.c d.pi (w.heap.size+1) id wx h1 hn h2 hy);clear h hy x1;go_enter func161,ntmps161;go_upto_region 1 with fail;generalize (w.alloc (.cells m.cells 38)).alloc (.cells #[.int .i64 id] 3)=w2 at *;generalize w.heap.size=G at *;go_wp2_with (go_at_call 207;refine(HP.out _ HV.out bi).mono ?_;rintro e w3 ⟨rfl,x3⟩)
 go_ret;exact⟨rfl,x2.trans x3⟩
theorem file_no (m:Mac) (d:MacD) (k n p:Int) (w:World) (hi:MacIn w m d) (hn:m.pi.n<=4000) (h:¬FdP d.pi k n p) :
  Calls prog 92 #[.agg m.cells,.agg #[.int .i64 k,.int .i64 n,.int .i64 p]] w λe w'=>e=.returned (.bool false)/\Ext w w':=by
 have HP:=lh_ (λid w h hy=>place_no m d id w h hn hy);have x0:=((Ext.refl w).alloc (.cells m.cells 38)).alloc (.cells #[.int .i64 k,.int .i64 n,.int .i64 p] 54);have bm:=(Box.new w 38 m.cells).ext ((Ext.refl _).alloc (.cells #[.int .i64 k,.int .i64 n,.int .i64 p] 54));have HM:=lh_ (hi.ext x0);clear hi;go_enter func92,ntmps92;unfold FdP at h;by_cases k1:k=1
 ·subst k1;by_cases hn0:n=0
  ·subst hn0;have hp:(p==0)=false:=by
    have:p≠0:=λh2=>h (.inl ⟨by omega,rfl,h2⟩);simpa using this
   clear h;go_wp2_with fail;go_ret;exact⟨rfl,x0⟩
  ·have hp:(n==0)=false:=by simpa using hn0
   clear h hn0;go_wp2_with fail;go_ret;exact⟨rfl,x0⟩
 ·by_cases k2:k=2
  ·subst k2;by_cases hn0:n=0
   ·subst hn0;have hp:(p==0)=false:=by
     have:p≠0:=λh2=>h (.inl ⟨by omega,rfl,h2⟩);simpa using this
    clear h k1;go_wp2_with fail;go_ret;exact⟨rfl,x0⟩
   ·have hp:(n==0)=false:=by simpa using hn0
    clear h hn0 k1;go_wp2_with fail;go_ret;exact⟨rfl,x0⟩
  ·by_cases k3:k=3
   ·subst k3;have h4:¬(1<=n/\n<=64/\0<=p/\p<=8960):=λh2=>h (.inr (.inl ⟨rfl,h2⟩));clear h k1 k2;by_cases a1:1<=n
    ·have e1:decide (1<=n)=true:=decide_eq_true a1;by_cases a2:n<=64
     ·have e2:decide (n<=64)=true:=decide_eq_true a2;by_cases a3:0<=p
      ·have e3:decide (0<=p)=true:=decide_eq_true a3;have e4:decide (p<=8960)=false:=decide_eq_false (λh=>h4 ⟨a1,a2,a3,h⟩);clear a1 a2 a3 h4;go_wp2_with fail;go_ret;exact⟨rfl,x0⟩
      ·have e3:decide (0<=p)=false:=decide_eq_false a3;clear a1 a2 a3 h4;go_wp2_with fail;go_ret;exact⟨rfl,x0⟩
     ·have e2:decide (n<=64)=false:=decide_eq_false a2;clear a1 a2 h4;go_wp2_with fail;go_ret;exact⟨rfl,x0⟩
    ·have e1:decide (1<=n)=false:=decide_eq_false a1;clear a1 h4;go_wp2_with fail;go_ret;exact⟨rfl,x0⟩
   ·by_cases k45:k=4\/k=5
    ·by_cases hp0:p=0
     ·subst hp0;have HY:=lh_ (show¬∃y∈d.pi,y.1=n fromλh2=>h (.inr (.inr ⟨k45,rfl,h2⟩)));clear h k1 k2 k3
      rcases k45 with rfl|rfl<;>go_wp2_with (first
       | (refine wp_ld_mac_g (.tmp 2) rfl rfl w.heap.size m 38 rfl bm ?_)
       | (go_at_call 161;refine(HP.out _ _ HM.out HY.out).mono ?_;rintro e w2 ⟨rfl,x2⟩))
      all_goals
       go_ret;exact⟨rfl,x0.trans x2⟩
     ·have hp:(p==0)=false:=by simpa using hp0
      clear h k1 k2 k3 hp0;rcases k45 with rfl|rfl<;>go_wp2_with fail
      all_goals
       go_ret;exact⟨rfl,x0⟩
    ·have e1:(k==1)=false:=by simpa using k1
     have e2:(k==2)=false:=by simpa using k2
     have e3:(k==3)=false:=by simpa using k3
     have e4:(k==4)=false:=by have:k≠4:=λh=>k45 (.inl h);simpa using this
     have e5:(k==5)=false:=by have:k≠5:=λh=>k45 (.inr h);simpa using this
     clear h k1 k2 k3 k45;go_wp2_with fail;go_ret;exact⟨rfl,x0⟩
theorem pridx_no (A:Option Addr) (n c:Nat) (l:List PrT) (g:Nat) (p:PrT) (w:World) (hv:RowOf prL w A n l) (hn:n<=4000) (hb:Box w g 57 (prL p).toArray) (hy:¬LivesP l p.parent) :
  Calls prog 206 #[.slice A n c,.func (.func 160) #[] #[.pointer (some ⟨g,0,none⟩)]] w λe w'=>e=.returned (.int .i64 (-1))/\Ext w w':=by
 have HP:=lh_ (λq w h=>parent1_any q p g w h);obtain⟨rfl,hv2⟩:=hv;have HY:=lh_ hy;clear hy;go_enter func206,ntmps206;go_wp2_with fail;go_loopw [8] (λi wx=>∃k:Nat,k<=l.length/\i=.int .i64 k/\Ext w wx) (λi _=>l.length-(intOf i).toNat);case atStart=>exact⟨0,by omega,rfl,Ext.refl _⟩
 case round =>
  obtain⟨k,hk,rfl,xk⟩:=hrel;by_cases hlt:k<l.length
  ·obtain⟨b,o,rfl,hcell⟩:=hv2 (by omega);have r1:=range_ext (pr_range hcell hlt) xk;have hki:(k:Int)<(l.length:Int):=by omega
   have hbk:=hb.ext xk;have hd:(l[k].pid==p.parent&&(l[k].state==1||l[k].state==2))=false:=by rw[Bool.eq_false_iff];intro h;simp only[Bool.and_eq_true,Bool.or_eq_true,beq_iff_eq]at h;exact HY.out ⟨_,List.getElem_mem hlt,h.1,h.2⟩
   generalize l[k]=y at *;clear hcell
   go_wp2_with (first
    | (refine wp_ld_pr (.tmp 14) rfl rfl b (o+k*96) y rfl r1 ?_)
    | (go_at_call 160;refine(HP.out _ _ hbk).mono ?_;rintro e w2 ⟨rfl,x2⟩))
   go_roundw;case rel=>exact⟨k+1,by omega,by go_num,xk.trans x2⟩
   case measure=>simp[intOf];omega
  ·have hlt2:¬(k:Int)<(l.length:Int):=by omega
   go_wp2_with fail;go_ret;exact⟨rfl,xk⟩
theorem prcont_no (A:Option Addr) (n c:Nat) (l:List PrT) (g:Nat) (p:PrT) (w:World) (hv:RowOf prL w A n l) (hn:n<=4000) (hb:Box w g 57 (prL p).toArray) (hy:¬LivesP l p.parent) :
  Calls prog 159 #[.slice A n c,.func (.func 160) #[] #[.pointer (some ⟨g,0,none⟩)]] w λe w'=>e=.returned (.bool false)/\Ext w w':=by
 have HP:=lh_ (λw h1 h2=>pridx_no A n c l g p w h1 hn h2 hy);go_enter func159,ntmps159;go_wp2_with (go_at_call 206;refine(HP.out _ hv hb).mono ?_;rintro e w2 ⟨rfl,x2⟩)
 go_ret;exact⟨rfl,x2⟩
theorem parent_no (m:Mac) (d:MacD) (y:PrT) (w:World) (hi:MacIn w m d) (hn:m.pr.n<=4000) (hst:y.state=1\/y.state=2\/y.state=3) (h:¬ParP d y) :
  Calls prog 91 #[.agg m.cells,.agg (prL y).toArray] w λe w'=>e=.returned (.bool false)/\Ext w w':=by
 have hmf:∀(fn:Fn) (first cap:Array Value) (w:World),(Instr.makeFunc fn first cap).run prog w=.ok (.func fn first cap) w:=λ_ _ _ _=>rfl;have HL:=lh_ (λw=>stlives_any y w);have x0:=((Ext.refl w).alloc (.cells m.cells 38)).alloc (.cells (prL y).toArray 57);have bm:=(Box.new w 38 m.cells).ext ((Ext.refl _).alloc (.cells (prL y).toArray 57));have bp:=Box.new (w.alloc (.cells m.cells 38)) 57 (prL y).toArray;rw[World.size_alloc]at bp;have HR:=lh_ (hi.pr.ext x0);have h1:¬LivesP d.pr y.parent:=λh2=>h (.inl h2);have h2:y.parent≠0\/(y.state==1||y.state==2)=false:=by
  by_cases e:y.parent=0
  ·right;have:y.state=3:=by
    rcases hst with h3|h3|h3
    ·exact absurd (Or.inr ⟨by omega,e⟩) h
    ·exact absurd (Or.inr ⟨by omega,e⟩) h
    ·exact h3
   rw[this];rfl
  ·exact .inl e
 clear h hi hst;go_enter func91,ntmps91;go_upto_region 1 with fail;generalize (w.alloc (.cells m.cells 38)).alloc (.cells (prL y).toArray 57)=w1 at *;generalize w.heap.size=G at *;have c1:w1.cell? ⟨G+1,1,none⟩=some (.int .i64 y.parent):=bp.cell 1;have HC:=lh_ (λw h1 h2 hy=>prcont_no m.pr.A m.pr.n m.pr.c d.pr (G+1) y w h1 hn h2 hy);have q5:∀wx,Ext w1 wx->wx.cell? ⟨G,5,none⟩=some (.slice m.pr.A m.pr.n m.pr.c):=λwx x=>(bm.ext x).cell 5;have HQ:=lh_ q5;clear q5;have HY:=lh_ h1;clear h1;rcases Bool.eq_false_or_eq_true (y.parent==0) with e1|e1
 ·have h3:(y.state==1||y.state==2)=false:=by
   rcases h2 with h2|h2
   ·exact absurd (by simpa using e1) h2
   ·exact h2
  clear h2
  go_wp2_with (first
   | (refine wp_ld_pr_g (.tmp 3) rfl rfl (G+1) y 57 rfl bp ?_)
   | (go_at_call 158;refine(HL.out _).mono ?_;rintro e w2 ⟨rfl,x2⟩;have q5:=HQ.out _ x2)
   | (go_at_call 159;refine(HC.out _ (HR.out.ext x2) (bp.ext x2) HY.out).mono ?_;rintro e w3 ⟨rfl,x3⟩))
  go_ret;exact⟨rfl,(x0.trans x2).trans x3⟩
 ·clear h2;have q5:=HQ.out _ (Ext.refl _)
  go_wp2_with (first
   | (go_at_call 159;refine(HC.out _ HR.out bp HY.out).mono ?_;rintro e w3 ⟨rfl,x3⟩))
  go_ret;exact⟨rfl,x0.trans x3⟩
theorem stparent_any (m:Mac) (d:MacD) (y:PrT) (w:World) (hi:MacIn w m d) (hn:m.pr.n<=4000) (hst:y.state=1\/y.state=2\/y.state=3) :
  Calls prog 91 #[.agg m.cells,.agg (prL y).toArray] w λe w'=>IsB e (ParP d y)/\Ext w w':=by
 by_cases h:ParP d y
 ·exact(parent_ok' m d y w hi hn hst h).mono (λe w' k=>⟨k.1▸IsB.yes h,k.2⟩)
 ·exact(parent_no m d y w hi hn hst h).mono (λe w' k=>⟨k.1▸IsB.no h,k.2⟩)
theorem numbers_ok (m:Mac) (w:World) (h:NumsOk m) :
  Calls prog 44 #[.agg m.cells] w λe w'=>e=.returned (.int .i64 0)/\Ext w w':=by
 have x0:=(Ext.refl w).alloc (.cells m.cells 38);have bm:=Box.new w 38 m.cells;obtain⟨⟨a1,a2⟩,⟨b1,b2⟩,c1,⟨d1,d2⟩,⟨e1,e2⟩⟩:=h;have f1:decide (m.quantum<1)=false:=by simp;omega
 have f2:decide (1000<m.quantum)=false:=by simp;omega
 have f3:decide (m.left<0)=false:=by simp;omega
 have f4:decide (m.quantum<m.left)=false:=by simp;omega
 have f5:decide (m.cur<0)=false:=by simp;omega
 have f6:decide (m.next<1)=false:=by simp;omega
 have f7:decide (1000000000<m.next)=false:=by simp;omega
 have f8:decide (m.newPipe<1)=false:=by simp;omega
 have f9:decide (1000000000<m.newPipe)=false:=by simp;omega
 clear a1 a2 b1 b2 c1 d1 d2 e1 e2;go_enter func44,ntmps44;go_upto_region 1 with fail;generalize w.alloc (.cells m.cells 38)=w1 at *;obtain⟨k0,k1,k2,k3,k4,k5,k6,k7,k8,k9,k10,k11,k12,k13,k14,k15,k16⟩:=mac_cells bm;clear k0 k4 k5 k7 k8 k10 k11 k12 k13 k14 k15 k16 bm;go_wp2_with fail;go_ret;exact⟨rfl,x0⟩
theorem texts_ok (m:Mac) (w:World) (h:m.inn.length<=65536/\m.init.length<=128) :
  Calls prog 48 #[.agg m.cells] w λe w'=>e=.returned (.int .i64 0)/\Ext w w':=by
 have x0:=(Ext.refl w).alloc (.cells m.cells 38);have bm:=Box.new w 38 m.cells;obtain⟨a1,a2⟩:=h;have hz:=str_size;have f1:decide (65536<(m.inn.length:Int))=false:=by simp;omega
 have f2:decide (128<(m.init.length:Int))=false:=by simp;omega
 clear a1 a2;go_enter func48,ntmps48;go_upto_region 1 with fail;generalize w.alloc (.cells m.cells 38)=w1 at *;obtain⟨k0,k1,k2,k3,k4,k5,k6,k7,k8,k9,k10,k11,k12,k13,k14,k15,k16⟩:=mac_cells bm;clear k0 k1 k2 k3 k4 k5 k6 k8 k9 k11 k12 k13 k14 k15 k16 bm;go_wp2_with fail;go_ret;exact⟨rfl,x0⟩
theorem frames_ok (m:Mac) (d:MacD) (w:World) (hi:MacIn w m d) (h:1<=m.fr.n/\m.fr.n<=64) (hf:∀b∈d.fr,b.length=128) :
  Calls prog 45 #[.agg m.cells] w λe w'=>e=.returned (.int .i64 0)/\Ext w w':=by
 have x0:=(Ext.refl w).alloc (.cells m.cells 38);have bm:=Box.new w 38 m.cells;obtain⟨hv1,hv2⟩:=hi.fr.strs;clear hi;obtain⟨a1,a2⟩:=h;have hz:=str_size;have f1:decide ((m.fr.n:Int)<1)=false:=by simp;omega
 have f2:decide (64<(m.fr.n:Int))=false:=by simp;omega
 have HF:=lh_ hf;have HV1:=lh_ hv1;clear hf hv1;go_enter func45,ntmps45;go_upto_region 1 with fail;generalize w.alloc (.cells m.cells 38)=w1 at *;obtain⟨k0,k1,k2,k3,k4,k5,k6,k7,k8,k9,k10,k11,k12,k13,k14,k15,k16⟩:=mac_cells bm;clear k0 k1 k2 k3 k5 k6 k7 k8 k9 k10 k11 k12 k13 k14 k15 k16 bm;go_wp2_with fail;clear f1 f2 k4;generalize d.fr=l at *;generalize m.fr.A=A at *;generalize m.fr.n=n at *;obtain rfl:n=l.length:=HV1.out;go_loop [18] (λi=>∃k:Nat,k<=l.length/\i=.int .i64 k) (λi=>l.length-(intOf i).toNat);case atStart=>exact⟨0,by omega,rfl⟩
 case round =>
  obtain⟨k,hk,rfl⟩:=hrel;by_cases hlt:k<l.length
  ·obtain⟨b,o,rfl,hcell⟩:=hv2 (by omega);have e1:=x0.keep (hcell k hlt);have hki:(k:Int)<(l.length:Int):=by omega
   have hl:=HF.out _ (List.getElem_mem hlt);have hl':((l[k].length:Int) != 128)=false:=by rw[hl];rfl
   clear hcell hl;generalize l[k]=y at *;go_wp2_with fail;go_round;case rel=>exact⟨k+1,by omega,by go_num⟩
   case measure=>simp[intOf];omega
  ·obtain rfl:k=l.length:=by omega
   go_wp2_with fail;go_ret;exact⟨rfl,x0⟩
theorem pipes_ok (m:Mac) (d:MacD) (w:World) (hi:MacIn w m d) (hn:m.pi.n<=64) (hp:PipesK m d.pi d.pi.length) :
  Calls prog 47 #[.agg m.cells] w λe w'=>e=.returned (.int .i64 0)/\Ext w w':=by
 have x0:=(Ext.refl w).alloc (.cells m.cells 38);have bm:=Box.new w 38 m.cells;obtain⟨hv1,hv2⟩:=hi.pi.wrs;clear hi;have hz:=str_size;have f2:decide (64<(m.pi.n:Int))=false:=by simp;omega
 have HP:=lh_ hp;have HV1:=lh_ hv1;clear hp hv1;go_enter func47,ntmps47;go_upto_region 1 with fail;generalize w.alloc (.cells m.cells 38)=w1 at *;have k8:w1.cell? ⟨w.heap.size,8,none⟩=some (.slice m.pi.A m.pi.n m.pi.c):=bm.cell 8;have k9:∀wx,Ext w1 wx->wx.cell? ⟨w.heap.size,9,none⟩=some (.int .i64 m.newPipe):=λwx x=>(bm.ext x).cell 9;have K9:=lh_ k9;clear k9 bm;go_wp2_with fail;clear f2 k8;generalize hl:d.pi=l at *;clear hl;generalize m.pi.A=A at *;generalize m.pi.n=n at *;obtain rfl:n=l.length:=HV1.out;go_loopw [3,13] (λs i wx=>∃k:Nat,k<=l.length/\i=.int .i64 k/\s=.int .i64 (if 0<k then (l.getD (k-1) default).1 else 0)/\Ext w1 wx) (λ_ i _=>l.length-(intOf i).toNat);case atStart=>exact⟨0,by omega,rfl,rfl,Ext.refl _⟩
 case round =>
  obtain⟨k,hk,rfl,rfl,xk⟩:=hrel;by_cases hlt:k<l.length
  ·obtain⟨b,o,rfl,hcell⟩:=hv2 (by omega);have e1:=(x0.trans xk).keep (hcell k hlt).1;have e2:=(x0.trans xk).keep (hcell k hlt).2;have hki:(k:Int)<(l.length:Int):=by omega
   obtain⟨p1,p2,p3,p4⟩:=HP.out k hlt hlt;have g1:decide (l[k].1<=(if 0<k then (l.getD (k-1) default).1 else 0))=false:=by
    simp only[decide_eq_false_iff_not];split
    ·rename_i h0;have:=p4 h0;rw[List.getD_eq_getElem?_getD,List.getElem?_eq_getElem (by omega)];show¬l[k].1<=(l[k-1]'(by omega)).1;omega
    ·omega
   have g2:decide (m.newPipe<=l[k].1)=false:=by simp;omega
   have g3:decide (64<(l[k].2.length:Int))=false:=by simp;omega
   have g4:l[k]=l.getD k default:=by rw[List.getD_eq_getElem?_getD,List.getElem?_eq_getElem hlt];rfl
   have G4:=lh_ g4;generalize (if 0<k then (l.getD (k-1) default).1 else 0)=last at *;have xz:=xk.alloc (.cells #[.int .i64 l[k].1,.string (str l[k].2)] 95);have k9:=K9.out _ xz;clear hcell p1 p2 p3 p4 g4;generalize l[k]=y at *;go_wp2_with fail;go_roundw;case rel=>exact⟨k+1,by omega,by go_num,by rw[if_pos (by omega),Nat.add_sub_cancel,← G4.out],xz⟩
   case measure=>simp[intOf];omega
  ·obtain rfl:k=l.length:=by omega
   go_wp2_with fail
   all_goals
    go_ret;exact⟨rfl,x0.trans xk⟩
def MetD (l:List PrT) (k j:Nat) (D:DataW Unit):Prop:=∀fr:Nat,(Met l k j (fr:Int)->D.atKey (.int .i64 (fr:Int)) (.lit (.bool false))=.lit (.bool true))/\(¬Met l k j (fr:Int)->D.atKey (.int .i64 (fr:Int)) (.lit (.bool false))=.lit (.bool false))
theorem MetD.zero (l:List PrT):MetD l 0 0 (.map []):=λfr=>⟨λh=>absurd h met_zero,λ_=>rfl⟩
theorem MetD.proc {l:List PrT}{k:Nat}{D:DataW Unit}(h:MetD l k 16 D):MetD l (k+1) 0 D:=λfr=>⟨λhm=>(h fr).1 (met_proc.1 hm),λhm=>(h fr).2 (λh2=>hm (met_proc.2 h2))⟩
theorem MetD.skip {l:List PrT}{k j:Nat}{D:DataW Unit}(h:MetD l k j D) (hi:(l.getD k default).pis j=false):MetD l k (j+1) D:=λfr=>⟨λhm=>(h fr).1 ((met_skip hi).1 hm),λhm=>(h fr).2 (λh2=>hm ((met_skip hi).2 h2))⟩
theorem MetD.put {l:List PrT}{k j f:Nat}{D:DataW Unit}(h:MetD l k j D) (hD:Maps.IsMap D) (hi:(l.getD k default).pis j=true) (hf:(l.getD k default).pfr j=(f:Int)) (hk:WideAt.IsKeyLit (.int .i64 (f:Int))):MetD l k (j+1) (D.put (.int .i64 (f:Int)) (.lit (.bool true))):=λfr=>by
 by_cases e:fr=f
 ·subst e;refine⟨λ_=>Maps.atKey_put_same hD hk _ _,λhm=>?_⟩;exact absurd ((met_next hi).2 (.inr hf.symm)) hm
 ·have hne:Lit.int .i64 (fr:Int)≠.int .i64 (f:Int):=λh=>by injection h with _ h;omega
  rw[Maps.atKey_put_other hne];refine⟨λhm=>(h fr).1 ?_,λhm=>(h fr).2 (λh2=>hm ((met_next hi).2 (.inl h2)))⟩;rcases(met_next hi).1 hm with h2|h2
  ·exact h2
  ·rw[hf]at h2;omega
theorem boolZero (w:World):(zeroValue 4).run prog w=.ok (.bool false) w:=by kernel_rfl
theorem look_bool {w:World}(b n k:Nat) (D:DataW Unit) (q:Bool) (hown:w.ownsMap prog 3 (plainElem prog 4) b n D) (h1:k<=100000) (hat:D.atKey (.int .i64 (k:Int)) (.lit (.bool false))=.lit (.bool q)) :
  (Instr.lookup 125 (.map (some b)) (.int .i64 (k:Int)) false).run prog w=.ok (.bool q) w:=by
 have hk:=key_i64 k h1;obtain⟨v,ps,hrun,hv⟩:=hown.lookup intKeyed underlying125 (boolZero w) (zd:=.lit (.bool false)) (zp:=[]) (plainElem_bool underlying4 false) hk;rw[hat]at hv;obtain rfl:v=.bool q:=by
  unfold plainElem at hv;rw[underlying4]at hv;split at hv
  ·injection hv with hv;injection hv with hv _;injection hv with hv;injection hv with hv;rw[← hv]
  ·split at hv<;>cases hv
  ·split at hv<;>cases hv
  ·cases hv
 exact hrun
theorem pr_ranged {w:World}{b o:Nat}{l:List PrT}(hc:∀j v,(l.flatMap prL)[j]? =some v->w.cell? ⟨b,o+j,none⟩=some v) {k:Nat}(hk:k<l.length):w.rangeAt b (o+k*96) (prL (l.getD k default)):=by
 rw[List.getD_eq_getElem?_getD,List.getElem?_eq_getElem hk];exact pr_range hc hk
def lastPid (l:List PrT) (k:Nat):Int:=if 0<k then (l.getD (k-1) default).pid else 0
theorem lastPid_lt {m:Mac}{d:MacD}{k:Nat}(h:ProcsK m d d.pr.length) (hk:k<d.pr.length):ProcOk m d (d.pr.getD k default)/\decide ((d.pr.getD k default).pid<=lastPid d.pr k)=false:=by
 obtain⟨h1,h2⟩:=h k hk hk;have e:d.pr.getD k default=d.pr[k]:=by rw[List.getD_eq_getElem?_getD,List.getElem?_eq_getElem hk];rfl
 rw[e];refine⟨h1,decide_eq_false ?_⟩;unfold lastPid;split
 ·rename_i h0;have:=h2 h0;rw[List.getD_eq_getElem?_getD,List.getElem?_eq_getElem (by omega)];show¬d.pr[k].pid<=(d.pr[k-1]'(by omega)).pid;omega
 ·have:=h1.pid.1;omega
theorem procs_ok (m:Mac) (d:MacD) (w:World) (hi:MacIn w m d) (hn:m.pr.n<=8) (hpi:m.pi.n<=4000) (hp:ProcsK m d d.pr.length) (hfn:m.fr.n<=64) :
  Calls prog 46 #[.agg m.cells] w λe w'=>e=.returned (.int .i64 0)/\Ext w w':=by
 have HFi:=lh_ (λy w h=>fields_ok m d y w h);have HPa:=lh_ (λy w hi h=>parent_ok m d y w hi (by omega) h);have HFl:=lh_ (λk n p w hi h h0=>file_ok m d k n p w hi (by omega) h h0);have x0:=(Ext.refl w).alloc (.cells m.cells 38);have bm:=Box.new w 38 m.cells;have HM:=lh_ (hi.ext x0);obtain⟨hv1,hv2⟩:=hi.pr;have HV2:=lh_ hv2;have HV1:=lh_ hv1;clear hv2 hv1;have f1:decide (8<(m.pr.n:Int))=false:=by simp;omega
 have HP:=lh_ (λk hk=>lastPid_lt (k:=k) hp hk);clear hp;have hmk:=λw=>run_makeMap (P:=prog) 125 w;go_enter func46,ntmps46;go_upto_region 1 with fail;generalize w.alloc (.cells m.cells 38)=w1 at *;have k5:w1.cell? ⟨w.heap.size,5,none⟩=some (.slice m.pr.A m.pr.n m.pr.c):=bm.cell 5;go_upto_region 4 with fail;clear hmk f1 k5;have xm:=x0.alloc (.map #[] 0);have bm2:=bm.ext ((Ext.refl w1).alloc (.map #[] 0));have HM2:=lh_ (HM.out.ext ((Ext.refl w1).alloc (.map #[] 0)));have hmap:(w1.alloc (.map #[] 0)).ownsMap prog 3 (plainElem (H:=Unit) prog 4) w1.heap.size 0 (.map []):=World.ownsMap_made w1 prog 3 _;have hMB:(w1.alloc (.map #[] 0)).heap[w1.heap.size]? =some (.map #[] 0):=World.alloc_heap_new w1 _;have hlm:w.heap.size<w1.heap.size:=bm.lt;generalize w1.alloc (.map #[] 0)=w2 at *;generalize hBm:w1.heap.size=Bm at *;generalize hG:w.heap.size=G at *;have k5:w2.cell? ⟨G,5,none⟩=some (.slice m.pr.A m.pr.n m.pr.c):=bm2.cell 5;clear bm;go_upto_region 6 with fail;clear k5;have hln:m.pr.n=d.pr.length:=HV1.out;have hv3:=HV2.out;clear HV2;generalize hrA:m.pr.A=A at hv3 ⊢;generalize hrn:m.pr.n=pn at hv3 ⊢;have HRA:=lh_ hrA;obtain rfl:d.pr.length=pn:=by omega
 have hn8:d.pr.length<=8:=by omega
 clear hrA hrn hln hn;go_loopw [4,19] (λs i wx=>∃k:Nat,k<=d.pr.length/\i=.int .i64 k/\s=.int .i64 (lastPid d.pr k)/\(∃D,wx.ownsMap prog 3 (plainElem (H:=Unit) prog 4) Bm (16*k) D/\MetD d.pr k 0 D)/\w2.grownBy wx (some Bm)) (λ_ i _=>d.pr.length-(intOf i).toNat);case atStart=>exact⟨0,by omega,rfl,rfl,⟨.map [],hmap,MetD.zero _⟩,grown_refl _ _⟩
 case round =>
  obtain⟨k,hk,rfl,rfl,⟨D,hown,hmet⟩,hg⟩:=hrel;have xk:Ext w wr:=xm.grown hg (λj e=>by cases e;omega);have bmk:=bm2.grown hg (by intro e;injection e with e;omega);have HMk:=lh_ (hi.ext xk);have HG:=lh_ hg;clear hg;by_cases hlt:k<d.pr.length
  ·obtain⟨b,o,rfl,hcell⟩:=hv3 (by omega);have r1:=range_ext (pr_ranged hcell hlt) xk;obtain⟨hpo,hlast⟩:=HP.out k hlt;have hki:(k:Int)<(d.pr.length:Int):=by omega
   have HLN:=lh_ (show lastPid d.pr (k+1)=(d.pr.getD k default).pid by unfold lastPid;rw[if_pos (by omega),Nat.add_sub_cancel]);have hpo2:=hpo.pid;have hnx:decide (m.next<=(d.pr.getD k default).pid)=false:=decide_eq_false (by omega);have HPO:=lh_ hpo;have HMT:=lh_ hmet;have HMTs:=lh_ (λ(j:Nat) (fr:Int) h1 h2 h3=>met_one (l:=d.pr) (k:=k) (j:=j) (fr:=fr) hlt h1 h2 h3);have HMsk:=lh_ (λ(j:Nat) (D:DataW Unit) (h:MetD d.pr k j D) hi=>h.skip hi);have HMput:=lh_ (λ(j f:Nat) (D:DataW Unit) (h:MetD d.pr k j D) hD hi hf hk=>h.put (f:=f) hD hi hf hk);have HMpr:=lh_ (λ(D:DataW Unit) (h:MetD d.pr k 16 D)=>h.proc);clear hcell hpo hpo2 hmet;generalize lastPid d.pr k=last at *;generalize d.pr.getD k default=y at *
   go_upto_region 8 with(first
    | (refine wp_ld_pr (.tmp 21) rfl rfl b (o+k*96) y rfl r1 ?_)
    | (refine wp_st_pr (.tmp 6) (.tmp 22) rfl rfl wr.heap.size y _ 57 rfl rfl (Box.new _ _ _) rfl ?_;intro w3 b3 g3))
   have x3:Ext wr w3:=((Ext.refl wr).alloc _).grown g3 (λj e=>by cases e;exact Nat.le_refl _);have xx3:=xk.trans x3;have bm3:=bmk.ext x3;have own3:=ownsMap_ext hown x3;have HG3:=lh_ (grown_later HG.out x3);have hMk:Bm<wr.heap.size:=hown.lt;clear g3 r1 hown x3 bmk xk HMk;generalize wr.heap.size=P3 at *;have c0:w3.cell? ⟨P3,0,none⟩=some (.int .i64 y.pid):=b3.cell 0;have q6:w3.cell? ⟨G,6,none⟩=some (.int .i64 m.next):=bm3.cell 6
   go_upto_region 10 with(first
    | (refine wp_ld_pr_g (.tmp 6) rfl rfl P3 y 57 rfl b3 ?_)
    | (go_at_call 90;refine(HFi.out _ _ HPO.out).mono ?_;rintro e w4 ⟨rfl,x4⟩;have b4:=b3.ext x4;have bm4:=bm3.ext x4)
    | (refine wp_ld_mac_g (.tmp 1) rfl rfl G m 38 rfl bm4 ?_)
    | (refine wp_ld_pr_g (.tmp 6) rfl rfl P3 y 57 rfl b4 ?_)
    | (go_at_call 91;refine(HPa.out _ _ (hi.ext (xx3.trans x4)) HPO.out).mono ?_;rintro e w5 ⟨rfl,x5⟩))
   have b5:=b4.ext x5;have bm5:=bm4.ext x5;have x45:=x4.trans x5;have own5:=ownsMap_ext own3 x45;have HG5:=lh_ (grown_later HG3.out x45);have xx5:=xx3.trans x45;have hP5:=b5.lt;have hPm:P3≠Bm:=by omega
   have e0:w5.cell? ⟨P3,0,none⟩=some (.int .i64 y.pid):=b5.cell 0;have HPG:=lh_ HPO.out.page;have HFD:=lh_ HPO.out.fd;clear x4 x5 x45 b3 b4 bm3 bm4 c0 q6 own3 xx3 hlast hnx HG HG3 HPO HFi HPa
   go_upto_region 12 with(first
    | (refine wp_ld_space (.tmp 47) rfl rfl P3 57 y rfl b5 ?_))
   clear e0;go_loopw [49] (λi wx=>∃j:Nat,j<=16/\i=.int .i64 j/\(∃D,wx.ownsMap prog 3 (plainElem (H:=Unit) prog 4) Bm (16*k+j) D/\MetD d.pr k j D)/\w5.grownBy wx (some Bm)) (λi _=>16-(intOf i).toNat);case atStart=>exact⟨0,by omega,rfl,⟨D,own5,HMT.out⟩,grown_refl _ _⟩
   case round =>
    clear own5;obtain⟨j,hj,rfl,⟨D2,own6,hmet2⟩,hg6⟩:=hrel;have HMT2:=lh_ hmet2;have HG6:=lh_ hg6;have b6:=b5.grown hg6 (by intro e;injection e with e;omega);have bm6:=bm5.grown hg6 (by intro e;injection e with e;omega);have xx6:Ext w wr:=xx5.grown hg6 (λj e=>by cases e;omega);clear hmet2 hg6;by_cases hj2:j<16
    ·have hji:(j:Int)<16:=by omega
     have hpg:=HPG.out j hj2;have hms:=λfr=>HMTs.out j fr hj2;have hmp:=λf=>HMput.out j f D2 HMT2.out own6.isMap;have hsk:=HMsk.out j D2 HMT2.out;clear HMTs;go_upto_region 14 with(refine wp_idx_pte (.tmp 48) (.tmp 49) rfl rfl y j rfl rfl hj2 ?_)
     unfold PageP at hpg;generalize hia:y.pis j=ia at *;generalize hiw:y.pwr j=iw at *;generalize hif:y.pfr j=ifr at *;have xq:Ext wr (wr.alloc (.cells #[.bool ia,.bool iw,.int .i64 ifr] 50)):=(Ext.refl _).alloc _;have bq:=Box.new wr 50 #[.bool ia,.bool iw,.int .i64 ifr];have own7:=own6.alloc (.cells #[.bool ia,.bool iw,.int .i64 ifr] 50);have b7:=b6.ext xq;have bm7:=bm6.ext xq;have hQm:wr.heap.size≠Bm:=by have:=own6.lt;omega
     generalize wr.alloc (.cells #[.bool ia,.bool iw,.int .i64 ifr] 50)=wq at *;have q0:=bq.cell 0;have q1:=bq.cell 1;have q2:=bq.cell 2;rcases hpg with⟨rfl,rfl,rfl⟩|⟨rfl,hs3,hf0,hf1,hus⟩
     ·clear hmp hms;go_wp2_with fail;go_roundw;case rel=>exact⟨j+1,by omega,by go_num,⟨D2,own7.mono (by omega),hsk rfl⟩,grown_later HG6.out xq⟩
      case measure=>simp[intOf];omega
     ·obtain⟨f,rfl⟩:∃f:Nat,ifr=(f:Int):=⟨ifr.toNat,by omega⟩
      have hat:=(HMT2.out f).2 (hms _ rfl rfl hus);have hfb:f<=100000:=by omega
      have HMp:=lh_ (hmp f rfl rfl (intKeyed.key (key_i64 f hfb)));have d2:y.state=3->False:=hs3;have s3:(y.state==3)=false:=by simpa using hs3
      have s4:decide ((f:Int)<0)=false:=decide_eq_false (by omega);have s5:decide ((m.fr.n:Int)<=(f:Int))=false:=decide_eq_false (by omega);have s6:decide (m.fr.n<=f)=false:=decide_eq_false (by omega);have c2:wq.cell? ⟨P3,2,none⟩=some (.int .i64 y.state):=b7.cell 2;have c4:wq.cell? ⟨G,4,none⟩=some (.slice m.fr.A m.fr.n m.fr.c):=bm7.cell 4;have hlk:=look_bool Bm (16*k+j) f D2 false own7 hfb hat;clear hmp hms hsk hs3 d2 hus hf0 hf1 hat
      go_wp2_with (first
       | (at_mapUpdate;refine wpList_mapUpdate_own _ rfl _ _ _ 125 rfl 3 4 intKeyed underlying125 (plainElem (H:=Unit) prog 4) Bm (16*k+j) _ rfl own7 (by unfold maxLen;omega) _ _ (.int .i64 (f:Int)) rfl rfl (key_i64 f hfb) (.lit (.bool true)) [] (plainElem_bool underlying4 true) ?_;intro w8 own8 hg8))
      go_roundw;case rel=>exact⟨j+1,by omega,by go_num,⟨_,own8,HMp.out⟩,grown_then (grown_later HG6.out xq) hg8 (λj e=>.inr e)⟩
      case measure=>simp[intOf];omega
    ·have hjn16:¬(j:Int)<16:=by omega
     have HJ16:=lh_ (show j=16 by omega);have HMT3:=lh_ (show MetD d.pr k 16 D2 by rw[← HJ16.out];exact HMT2.out);clear HMput HMsk HMTs HPG HMT2;have HG7:=lh_ (grown_then HG5.out HG6.out (λj e=>.inr e))
     go_upto_region 22 with(first
      | (refine wp_ld_fds (.tmp 84) rfl rfl P3 57 y rfl b6 ?_))
     generalize hwz:wr=wz at *;clear hwz;go_loopw [86] (λi wx=>∃j:Nat,j<=8/\i=.int .i64 j/\Ext wz wx) (λi _=>8-(intOf i).toNat);case atStart=>exact⟨0,by omega,rfl,Ext.refl _⟩
     case round =>
      obtain⟨j,hj,rfl,xj⟩:=hrel;by_cases hj2:j<8
      ·have hji:(j:Int)<8:=by omega
       obtain⟨hfd,hdead⟩:=HFD.out j hj2;go_upto_region 24 with(refine wp_idx_fd (.tmp 85) (.tmp 86) rfl rfl y j rfl rfl hj2 ?_)
       generalize y.fk j=ik at *;generalize y.fn j=ifn at *;generalize y.fp j=ifp at *;have xq:Ext wr (wr.alloc (.cells #[.int .i64 ik,.int .i64 ifn,.int .i64 ifp] 54)):=(Ext.refl _).alloc _;have bq:=Box.new wr 54 #[.int .i64 ik,.int .i64 ifn,.int .i64 ifp];have xz:=xj.trans xq;generalize wr.alloc (.cells #[.int .i64 ik,.int .i64 ifn,.int .i64 ifp] 54)=wq at *;have q0:wq.cell? ⟨wr.heap.size,0,none⟩=some (.int .i64 ik):=bq.cell 0;have q1:=bq.cell 1;have q2:=bq.cell 2;have c2:wq.cell? ⟨P3,2,none⟩=some (.int .i64 y.state):=(b6.ext xz).cell 2;have bm7:=bm6.ext xz;have HMq:=lh_ (hi.ext (xx6.trans xz));clear bq xq;by_cases hk0:ik=0
       ·have hz:ifn=0/\ifp=0:=by
         rcases hfd with⟨_,h1,h2⟩|⟨h,_⟩|⟨h,_⟩
         ·exact⟨h1,h2⟩
         ·omega
         ·omega
        obtain⟨rfl,rfl⟩:=hz;subst hk0;clear hfd hdead;go_wp2_with fail;go_roundw;case rel=>exact⟨j+1,by omega,by go_num,xz⟩
        case measure=>simp[intOf];omega
       ·have hs3:(y.state==3)=false:=by
         have:y.state≠3:=λh=>hk0 (hdead h);simpa using this
        have hk1:(ik==0)=false:=by simpa using hk0
        have HFD2:=lh_ hfd;have HK0:=lh_ hk0;clear hfd hdead hk0
        go_wp2_with (first
         | (refine wp_ld_mac_g (.tmp 1) rfl rfl G m 38 rfl bm7 ?_)
         | (go_at_call 92;refine(HFl.out _ _ _ _ HMq.out HFD2.out HK0.out).mono ?_;rintro e w9 ⟨rfl,x9⟩))
        go_roundw;case rel=>exact⟨j+1,by omega,by go_num,xz.trans x9⟩
        case measure=>simp[intOf];omega
      ·have hjn8:¬(j:Int)<8:=by omega
       go_wp2_with fail;go_roundw;case rel=>exact⟨k+1,by omega,by go_num,by rw[HLN.out],⟨D2,(ownsMap_ext own6 xj).mono (by omega),HMpr.out _ HMT3.out⟩,grown_later HG7.out xj⟩
       case measure=>simp[intOf];omega
  ·obtain rfl:k=d.pr.length:=by omega
   go_wp2_with fail;go_ret;exact⟨rfl,xk⟩
theorem fdW_zero {d:MacD}{y:PrT}{j:Nat}(h1:y.fk j=0) (h2:y.fn j=0) (h3:y.fp j=0):FdW d y j:=⟨.inl ⟨.inl h1,h2,h3⟩,λ_=>h1⟩
theorem procs_no (m:Mac) (d:MacD) (w:World) (hi:MacIn w m d) (hn:m.pr.n<=8) (hpi:m.pi.n<=4000) (hno:¬ProcsK m d d.pr.length) (hfn:m.fr.n<=64) :
  Calls prog 46 #[.agg m.cells] w λe w'=>e=.returned (.int .i64 3)/\Ext w w':=by
 have HFi:=lh_ (λy w=>sfields_any y w);have HPa:=lh_ (λy w hi h=>stparent_any m d y w hi (by omega) h);have HFl:=lh_ (λk n p w hi h h0=>file_ok m d k n p w hi (by omega) h h0);have HFn:=lh_ (λk n p w hi h=>file_no m d k n p w hi (by omega) h);have x0:=(Ext.refl w).alloc (.cells m.cells 38);have bm:=Box.new w 38 m.cells;have HM:=lh_ (hi.ext x0);obtain⟨hv1,hv2⟩:=hi.pr;have HV2:=lh_ hv2;have HV1:=lh_ hv1;clear hv2 hv1;have f1:decide (8<(m.pr.n:Int))=false:=by simp;omega
 have HNO:=lh_ (λh:RowsW m d d.pr.length=>hno h.all);clear hno;have hmk:=λw=>run_makeMap (P:=prog) 125 w;go_enter func46,ntmps46;go_upto_region 1 with fail;generalize w.alloc (.cells m.cells 38)=w1 at *;have k5:w1.cell? ⟨w.heap.size,5,none⟩=some (.slice m.pr.A m.pr.n m.pr.c):=bm.cell 5;go_upto_region 4 with fail;clear hmk f1 k5;have xm:=x0.alloc (.map #[] 0);have bm2:=bm.ext ((Ext.refl w1).alloc (.map #[] 0));have HM2:=lh_ (HM.out.ext ((Ext.refl w1).alloc (.map #[] 0)));have hmap:(w1.alloc (.map #[] 0)).ownsMap prog 3 (plainElem (H:=Unit) prog 4) w1.heap.size 0 (.map []):=World.ownsMap_made w1 prog 3 _;have hMB:(w1.alloc (.map #[] 0)).heap[w1.heap.size]? =some (.map #[] 0):=World.alloc_heap_new w1 _;have hlm:w.heap.size<w1.heap.size:=bm.lt;generalize w1.alloc (.map #[] 0)=w2 at *;generalize hBm:w1.heap.size=Bm at *;generalize hG:w.heap.size=G at *;have k5:w2.cell? ⟨G,5,none⟩=some (.slice m.pr.A m.pr.n m.pr.c):=bm2.cell 5;clear bm;go_upto_region 6 with fail;clear k5;have hln:m.pr.n=d.pr.length:=HV1.out;have hv3:=HV2.out;clear HV2;generalize hrA:m.pr.A=A at hv3 ⊢;generalize hrn:m.pr.n=pn at hv3 ⊢;have HRA:=lh_ hrA;obtain rfl:d.pr.length=pn:=by omega
 have hn8:d.pr.length<=8:=by omega
 clear hrA hrn hln hn;go_loopw [4,19] (λs i wx=>∃k:Nat,k<=d.pr.length/\i=.int .i64 k/\s=.int .i64 (lastPid d.pr k)/\(∃D,wx.ownsMap prog 3 (plainElem (H:=Unit) prog 4) Bm (16*k) D/\MetD d.pr k 0 D)/\w2.grownBy wx (some Bm)/\RowsW m d k) (λ_ i _=>d.pr.length-(intOf i).toNat);case atStart=>exact⟨0,by omega,rfl,rfl,⟨.map [],hmap,MetD.zero _⟩,grown_refl _ _,RowsW.zero m d⟩
 case round =>
  obtain⟨k,hk,rfl,rfl,⟨D,hown,hmet⟩,hg,hrw⟩:=hrel;have xk:Ext w wr:=xm.grown hg (λj e=>by cases e;omega);have bmk:=bm2.grown hg (by intro e;injection e with e;omega);have HMk:=lh_ (hi.ext xk);have HG:=lh_ hg;have HRW:=lh_ hrw;clear hg hrw;by_cases hlt:k<d.pr.length
  ·obtain⟨b,o,rfl,hcell⟩:=hv3 (by omega);have r1:=range_ext (pr_ranged hcell hlt) xk;have hki:(k:Int)<(d.pr.length:Int):=by omega
   have HLN:=lh_ (show lastPid d.pr (k+1)=(d.pr.getD k default).pid by unfold lastPid;rw[if_pos (by omega),Nat.add_sub_cancel]);have HMT:=lh_ hmet;have HMsk:=lh_ (λ(j:Nat) (D:DataW Unit) (h:MetD d.pr k j D) hi=>h.skip hi);have HMput:=lh_ (λ(j f:Nat) (D:DataW Unit) (h:MetD d.pr k j D) hD hi hf hk=>h.put (f:=f) hD hi hf hk);have HMpr:=lh_ (λ(D:DataW Unit) (h:MetD d.pr k 16 D)=>h.proc);have HPZ:=lh_ (PagesW.zero HRW.out);have HPN:=lh_ (λ(j:Nat) (h:PagesW m d.pr k j) hp hm=>h.next hp hm);have HRN:=lh_ (λhp hl hu=>HRW.out.next hp hl hu);have HL0:=lh_ (show 0<=lastPid d.pr k from by
    unfold lastPid;split
    ·rename_i h0;have:=(HRW.out.1 (k-1) (by omega) (by omega)).1.pid.1;omega
    ·omega)
   have HPP:=lh_ (show pidB d.pr k=lastPid d.pr k from rfl);clear hcell hmet HRW;generalize hpw:PagesW m d.pr k=PW at *;generalize lastPid d.pr k=last at *;have hpu:∀j,PW j->(∀i,i<j->PageW m (d.pr.getD k default) i)/\∀fr,usersK d.pr fr k+cntFr (d.pr.getD k default) fr j<=1:=λj h=>by rw[← hpw]at h;exact h
   have HPU:=lh_ hpu;have HMT0:=lh_ (λ(j:Nat) (fr:Int)=>show Met d.pr k j fr\/¬Met d.pr k j fr from Classical.em _);clear hpu hpw;generalize d.pr.getD k default=y at *
   go_upto_region 8 with(first
    | (refine wp_ld_pr (.tmp 21) rfl rfl b (o+k*96) y rfl r1 ?_)
    | (refine wp_st_pr (.tmp 6) (.tmp 22) rfl rfl wr.heap.size y _ 57 rfl rfl (Box.new _ _ _) rfl ?_;intro w3 b3 g3))
   have x3:Ext wr w3:=((Ext.refl wr).alloc _).grown g3 (λj e=>by cases e;exact Nat.le_refl _);have xx3:=xk.trans x3;have bm3:=bmk.ext x3;have own3:=ownsMap_ext hown x3;have HG3:=lh_ (grown_later HG.out x3);have hMk:Bm<wr.heap.size:=hown.lt;clear g3 r1 hown x3 bmk xk HMk;generalize wr.heap.size=P3 at *;have c0:w3.cell? ⟨P3,0,none⟩=some (.int .i64 y.pid):=b3.cell 0;have q6:w3.cell? ⟨G,6,none⟩=some (.int .i64 m.next):=bm3.cell 6;by_cases hp1:y.pid<=last
   ·have hp1':decide (y.pid<=last)=true:=decide_eq_true hp1;go_wp2_with fail;go_ret;exact⟨rfl,xx3⟩
   have hp1':decide (y.pid<=last)=false:=decide_eq_false hp1;by_cases hp2:m.next<=y.pid
   ·have hp2':decide (m.next<=y.pid)=true:=decide_eq_true hp2;clear hp1;go_wp2_with fail;go_ret;exact⟨rfl,xx3⟩
   have hp2':decide (m.next<=y.pid)=false:=decide_eq_false hp2;have HPid:=lh_ (show(1<=y.pid/\y.pid<m.next)/\last<y.pid from by have:=HL0.out;omega);clear hp1 hp2;by_cases hF:FieldsP y;case neg =>
    have HFn:=lh_ hF;clear hF
    go_wp2_with (first
     | (refine wp_ld_pr_g (.tmp 6) rfl rfl P3 y 57 rfl b3 ?_)
     | (go_at_call 90;refine(HFi.out _ _).mono ?_;rintro e w4 ⟨hB,x4⟩;obtain rfl:=hB.out_no HFn.out;clear hB))
    go_ret;exact⟨rfl,xx3.trans x4⟩
   have HFP:=lh_ hF;clear hF;by_cases hP:ParP d y;case neg =>
    have HPn:=lh_ hP;clear hP
    go_wp2_with (first
     | (refine wp_ld_pr_g (.tmp 6) rfl rfl P3 y 57 rfl b3 ?_)
     | (go_at_call 90;refine(HFi.out _ _).mono ?_;rintro e w4 ⟨hB,x4⟩;obtain rfl:=hB.out_yes HFP.out;clear hB;have b4:=b3.ext x4;have bm4:=bm3.ext x4)
     | (refine wp_ld_mac_g (.tmp 1) rfl rfl G m 38 rfl bm4 ?_)
     | (refine wp_ld_pr_g (.tmp 6) rfl rfl P3 y 57 rfl b4 ?_)
     | (go_at_call 91;refine(HPa.out _ _ (hi.ext (xx3.trans x4)) HFP.out.1).mono ?_;rintro e w5 ⟨hB,x5⟩;obtain rfl:=hB.out_no HPn.out;clear hB))
    go_ret;exact⟨rfl,(xx3.trans x4).trans x5⟩
   have HPR:=lh_ hP;clear hP
   go_upto_region 10 with(first
    | (refine wp_ld_pr_g (.tmp 6) rfl rfl P3 y 57 rfl b3 ?_)
    | (go_at_call 90;refine(HFi.out _ _).mono ?_;rintro e w4 ⟨hB,x4⟩;obtain rfl:=hB.out_yes HFP.out;clear hB;have b4:=b3.ext x4;have bm4:=bm3.ext x4)
    | (refine wp_ld_mac_g (.tmp 1) rfl rfl G m 38 rfl bm4 ?_)
    | (refine wp_ld_pr_g (.tmp 6) rfl rfl P3 y 57 rfl b4 ?_)
    | (go_at_call 91;refine(HPa.out _ _ (hi.ext (xx3.trans x4)) HFP.out.1).mono ?_;rintro e w5 ⟨hB,x5⟩;obtain rfl:=hB.out_yes HPR.out;clear hB))
   have b5:=b4.ext x5;have bm5:=bm4.ext x5;have x45:=x4.trans x5;have own5:=ownsMap_ext own3 x45;have HG5:=lh_ (grown_later HG3.out x45);have xx5:=xx3.trans x45;have hP5:=b5.lt;have hPm:P3≠Bm:=by omega
   have e0:w5.cell? ⟨P3,0,none⟩=some (.int .i64 y.pid):=b5.cell 0;clear x4 x5 x45 b3 b4 bm3 bm4 c0 q6 own3 xx3 hp1' hp2' HG HG3 HFi HPa
   go_upto_region 12 with(first
    | (refine wp_ld_space (.tmp 47) rfl rfl P3 57 y rfl b5 ?_))
   clear e0;go_loopw [49] (λi wx=>∃j:Nat,j<=16/\i=.int .i64 j/\(∃D,wx.ownsMap prog 3 (plainElem (H:=Unit) prog 4) Bm (16*k+j) D/\MetD d.pr k j D)/\w5.grownBy wx (some Bm)/\PW j) (λi _=>16-(intOf i).toNat);case atStart=>exact⟨0,by omega,rfl,⟨D,own5,HMT.out⟩,grown_refl _ _,HPZ.out⟩
   case round =>
    clear own5;obtain⟨j,hj,rfl,⟨D2,own6,hmet2⟩,hg6,hpwj⟩:=hrel;have HMT2:=lh_ hmet2;have HG6:=lh_ hg6;have HPW:=lh_ hpwj;have b6:=b5.grown hg6 (by intro e;injection e with e;omega);have bm6:=bm5.grown hg6 (by intro e;injection e with e;omega);have xx6:Ext w wr:=xx5.grown hg6 (λj e=>by cases e;omega);clear hmet2 hg6 hpwj;by_cases hj2:j<16
    ·have hji:(j:Int)<16:=by omega
     have HMp0:=lh_ (λf=>HMput.out j f D2 HMT2.out own6.isMap);have HSk:=lh_ (HMsk.out j D2 HMT2.out);have HNx:=lh_ (HPN.out j HPW.out);have hcase:(y.pis j=false/\((y.pwr j=false/\y.pfr j=0/\PageW m y j)\/(y.pwr j=true\/(y.pfr j==0)=false)))\/(y.pis j=true/\((y.state==3)=true\/((y.state==3)=false/\(decide (y.pfr j<0)=true\/(decide (y.pfr j<0)=false/\(decide ((m.fr.n:Int)<=y.pfr j)=true\/(decide ((m.fr.n:Int)<=y.pfr j)=false/\PageW m y j/\(Met d.pr k j (y.pfr j)\/¬Met d.pr k j (y.pfr j))))))))):=by
      cases hc:y.pis j
      ·left;refine⟨rfl,?_⟩;cases hc2:y.pwr j
       ·by_cases h0:y.pfr j=0
        ·exact .inl ⟨rfl,h0,.inl ⟨hc,hc2,h0⟩⟩
        ·exact .inr (.inr (by simpa using h0))
       ·exact .inr (.inl rfl)
      ·right;refine⟨rfl,?_⟩;by_cases h3:y.state=3
       ·exact .inl (by simpa using h3)
       ·refine .inr ⟨by simpa using h3,?_⟩;by_cases h4:y.pfr j<0
        ·exact .inl (decide_eq_true h4)
        ·refine .inr ⟨decide_eq_false h4,?_⟩;by_cases h5:(m.fr.n:Int)<=y.pfr j
         ·exact .inl (decide_eq_true h5)
         ·exact .inr ⟨decide_eq_false h5,.inr ⟨hc,h3,by omega,by omega⟩,HMT0.out _ _⟩
     go_upto_region 14 with(refine wp_idx_pte (.tmp 48) (.tmp 49) rfl rfl y j rfl rfl hj2 ?_)
     have HMtt:=lh_ (λf:Nat=>HMT2.out f);have HCase:=lh_ hcase;clear hcase HMT2;have hcase:=HCase.out;clear HCase;generalize hpp:PageW m y j=PP at *;generalize hia:y.pis j=ia at *;generalize hiw:y.pwr j=iw at *;generalize hif:y.pfr j=ifr at *;clear hpp hia hiw hif;have xq:Ext wr (wr.alloc (.cells #[.bool ia,.bool iw,.int .i64 ifr] 50)):=(Ext.refl _).alloc _;have bq:=Box.new wr 50 #[.bool ia,.bool iw,.int .i64 ifr];have own7:=own6.alloc (.cells #[.bool ia,.bool iw,.int .i64 ifr] 50);have b7:=b6.ext xq;have bm7:=bm6.ext xq;have hQm:wr.heap.size≠Bm:=by have:=own6.lt;omega
     generalize wr.alloc (.cells #[.bool ia,.bool iw,.int .i64 ifr] 50)=wq at *;have q0:=bq.cell 0;have q1:=bq.cell 1;have q2:=bq.cell 2;rcases hcase with⟨rfl,⟨rfl,rfl,hpg⟩|hbad⟩|⟨rfl,hs3|⟨hs3,h4|⟨h4,h5|⟨h5,hpg,hmt⟩⟩⟩⟩
     ·have HPG:=lh_ hpg;clear hpg;go_wp2_with fail;go_roundw;case rel=>exact⟨j+1,by omega,by go_num,⟨D2,own7.mono (by omega),HSk.out rfl⟩,grown_later HG6.out xq,HNx.out HPG.out (λh=>by cases h)⟩
      case measure=>simp[intOf];omega
     ·rcases hbad with rfl|hb
      ·go_wp2_with fail;go_ret;exact⟨rfl,xx6.trans xq⟩
      ·cases iw<;>go_wp2_with fail
       all_goals
        go_ret;exact⟨rfl,xx6.trans xq⟩
     ·have c2:wq.cell? ⟨P3,2,none⟩=some (.int .i64 y.state):=b7.cell 2;go_wp2_with fail;go_ret;exact⟨rfl,xx6.trans xq⟩
     ·have c2:wq.cell? ⟨P3,2,none⟩=some (.int .i64 y.state):=b7.cell 2;go_wp2_with fail;go_ret;exact⟨rfl,xx6.trans xq⟩
     ·have c2:wq.cell? ⟨P3,2,none⟩=some (.int .i64 y.state):=b7.cell 2;have c4:wq.cell? ⟨G,4,none⟩=some (.slice m.fr.A m.fr.n m.fr.c):=bm7.cell 4;go_wp2_with fail;go_ret;exact⟨rfl,xx6.trans xq⟩
     ·have hf0:0<=ifr:=by have:=of_decide_eq_false h4;omega
      obtain⟨f,rfl⟩:∃f:Nat,ifr=(f:Int):=⟨ifr.toNat,by omega⟩
      have hf1:(f:Int)<(m.fr.n:Int):=by have:=of_decide_eq_false h5;omega
      have hfb:f<=100000:=by omega
      have c2:wq.cell? ⟨P3,2,none⟩=some (.int .i64 y.state):=b7.cell 2;have c4:wq.cell? ⟨G,4,none⟩=some (.slice m.fr.A m.fr.n m.fr.c):=bm7.cell 4;have s4:decide ((f:Int)<0)=false:=h4;have s6:decide (m.fr.n<=f)=false:=decide_eq_false (by omega);have HPG:=lh_ hpg;rcases hmt with hmt|hmt
      ·have hlk:=look_bool Bm (16*k+j) f D2 true own7 hfb ((HMtt.out f).1 hmt);clear hmt hpg hf0 hf1;go_wp2_with fail;go_ret;exact⟨rfl,xx6.trans xq⟩
      ·have hlk:=look_bool Bm (16*k+j) f D2 false own7 hfb ((HMtt.out f).2 hmt);have HNM:=lh_ hmt;have HMp:=lh_ (HMp0.out f rfl rfl (intKeyed.key (key_i64 f hfb)));clear hmt hpg hf0 hf1
       go_wp2_with (first
        | (at_mapUpdate;refine wpList_mapUpdate_own _ rfl _ _ _ 125 rfl 3 4 intKeyed underlying125 (plainElem (H:=Unit) prog 4) Bm (16*k+j) _ rfl own7 (by unfold maxLen;omega) _ _ (.int .i64 (f:Int)) rfl rfl (key_i64 f hfb) (.lit (.bool true)) [] (plainElem_bool underlying4 true) ?_;intro w8 own8 hg8))
       go_roundw;case rel=>exact⟨j+1,by omega,by go_num,⟨_,own8,HMp.out⟩,grown_then (grown_later HG6.out xq) hg8 (λj e=>.inr e),HNx.out HPG.out (λ_=>HNM.out)⟩
       case measure=>simp[intOf];omega
    ·have hjn16:¬(j:Int)<16:=by omega
     have HJ16:=lh_ (show j=16 by omega);have HMT3:=lh_ (show MetD d.pr k 16 D2 by rw[← HJ16.out];exact HMT2.out);have HPU2:=lh_ (HPU.out 16 (by rw[← HJ16.out];exact HPW.out));clear HMput HMsk HMT2 HMT0 HPW HPU HPN HPZ;have HG7:=lh_ (grown_then HG5.out HG6.out (λj e=>.inr e));have HRN2:=lh_ (λ(hf:FdsW d y 8)=>HRN.out ⟨HPid.out.1,HFP.out,HPR.out,λi hi=>HPU2.out.1 i hi,hf⟩ (by rw[HPP.out];exact HPid.out.2) HPU2.out.2);clear HRN HPU2
     go_upto_region 22 with(first
      | (refine wp_ld_fds (.tmp 84) rfl rfl P3 57 y rfl b6 ?_))
     generalize hwz:wr=wz at *;clear hwz;go_loopw [86] (λi wx=>∃j:Nat,j<=8/\i=.int .i64 j/\Ext wz wx/\FdsW d y j) (λi _=>8-(intOf i).toNat);case atStart=>exact⟨0,by omega,rfl,Ext.refl _,λi hi=>absurd hi (Nat.not_lt_zero _)⟩
     case round =>
      obtain⟨j,hj,rfl,xj,hfj⟩:=hrel;have HFJ:=lh_ hfj;clear hfj;by_cases hj2:j<8
      ·have hji:(j:Int)<8:=by omega
       have HFx:=lh_ (λh=>HFJ.out.next (j:=j) h);have hcase:(y.fk j=0/\y.fn j=0/\y.fp j=0/\FdW d y j)\/((y.fk j≠0\/y.fn j≠0\/y.fp j≠0)/\((y.state==3)=true\/((y.state==3)=false/\((FdP d.pi (y.fk j) (y.fn j) (y.fp j)/\y.fk j≠0/\FdW d y j)\/¬FdP d.pi (y.fk j) (y.fn j) (y.fp j))))):=by
        by_cases hz:y.fk j=0/\y.fn j=0/\y.fp j=0
        ·exact .inl ⟨hz.1,hz.2.1,hz.2.2,fdW_zero hz.1 hz.2.1 hz.2.2⟩
        ·refine .inr ⟨by omega,?_⟩;by_cases h3:y.state=3
         ·exact .inl (by simpa using h3)
         ·refine .inr ⟨by simpa using h3,?_⟩;by_cases hp:FdP d.pi (y.fk j) (y.fn j) (y.fp j)
          ·refine .inl ⟨hp,λh0=>?_,hp,λh=>absurd h h3⟩;rcases hp with⟨_,h4,h5⟩|⟨h4,_⟩|⟨h4,_⟩<;>omega
          ·exact .inr hp
       have HCase:=lh_ hcase;clear hcase;go_upto_region 24 with(refine wp_idx_fd (.tmp 85) (.tmp 86) rfl rfl y j rfl rfl hj2 ?_)
       have hcase:=HCase.out;clear HCase;generalize FdW d y j=FW at *;generalize y.fk j=ik at *;generalize y.fn j=ifn at *;generalize y.fp j=ifp at *;have xq:Ext wr (wr.alloc (.cells #[.int .i64 ik,.int .i64 ifn,.int .i64 ifp] 54)):=(Ext.refl _).alloc _;have bq:=Box.new wr 54 #[.int .i64 ik,.int .i64 ifn,.int .i64 ifp];have xz:=xj.trans xq;generalize wr.alloc (.cells #[.int .i64 ik,.int .i64 ifn,.int .i64 ifp] 54)=wq at *;have q0:wq.cell? ⟨wr.heap.size,0,none⟩=some (.int .i64 ik):=bq.cell 0;have q1:=bq.cell 1;have q2:=bq.cell 2;have c2:wq.cell? ⟨P3,2,none⟩=some (.int .i64 y.state):=(b6.ext xz).cell 2;have bm7:=bm6.ext xz;have HMq:=lh_ (hi.ext (xx6.trans xz));clear bq xq;rcases hcase with⟨rfl,rfl,rfl,hw⟩|⟨hnz,hcase⟩
       ·have HW:=lh_ hw;clear hw;go_wp2_with fail;go_roundw;case rel=>exact⟨j+1,by omega,by go_num,xz,HFx.out HW.out⟩
        case measure=>simp[intOf];omega
       ·have hnz2:((ik==0)=false)\/(ik=0/\(ifn==0)=false)\/(ik=0/\ifn=0/\(ifp==0)=false):=by
         by_cases e1:ik=0
         ·by_cases e2:ifn=0
          ·have e3:ifp≠0:=by omega
           exact .inr (.inr ⟨e1,e2,by simpa using e3⟩)
          ·exact .inr (.inl ⟨e1,by simpa using e2⟩)
         ·exact .inl (by simpa using e1)
        clear hnz;rcases hcase with hs3|⟨hs3,⟨hp,hk0,hw⟩|hp⟩
        ·rcases hnz2 with hz|⟨rfl,hz⟩|⟨rfl,rfl,hz⟩<;>go_wp2_with fail
         all_goals
          go_ret;exact⟨rfl,xx6.trans xz⟩
        ·have HFD2:=lh_ hp;have HK0:=lh_ hk0;have HW:=lh_ hw;have hz:(ik==0)=false:=by simpa using hk0
         clear hp hk0 hw hnz2
         go_wp2_with (first
          | (refine wp_ld_mac_g (.tmp 1) rfl rfl G m 38 rfl bm7 ?_)
          | (go_at_call 92;refine(HFl.out _ _ _ _ HMq.out HFD2.out HK0.out).mono ?_;rintro e w9 ⟨rfl,x9⟩))
         go_roundw;case rel=>exact⟨j+1,by omega,by go_num,xz.trans x9,HFx.out HW.out⟩
         case measure=>simp[intOf];omega
        ·have HFD2:=lh_ hp;clear hp
         rcases hnz2 with hz|⟨rfl,hz⟩|⟨rfl,rfl,hz⟩<;>go_wp2_with (first
          | (refine wp_ld_mac_g (.tmp 1) rfl rfl G m 38 rfl bm7 ?_)
          | (go_at_call 92;refine(HFn.out _ _ _ _ HMq.out HFD2.out).mono ?_;rintro e w9 ⟨rfl,x9⟩))
         all_goals
          go_ret;exact⟨rfl,(xx6.trans xz).trans x9⟩
      ·have hjn8:¬(j:Int)<8:=by omega
       have HJ8:=lh_ (show j=8 by omega);have HRW2:=lh_ (HRN2.out (by rw[← HJ8.out];exact HFJ.out));clear HRN2 HFJ;go_wp2_with fail;go_roundw;case rel=>exact⟨k+1,by omega,by go_num,by rw[HLN.out],⟨D2,(ownsMap_ext own6 xj).mono (by omega),HMpr.out _ HMT3.out⟩,grown_later HG7.out xj,HRW2.out⟩
       case measure=>simp[intOf];omega
  ·exfalso;obtain rfl:k=d.pr.length:=by omega
   exact HNO.out HRW.out
theorem stprocs_any (m:Mac) (d:MacD) (w:World) (hi:MacIn w m d) (hpi:m.pi.n<=4000) (hfn:m.fr.n<=64) :
  Calls prog 46 #[.agg m.cells] w λe w'=>e=.returned (.int .i64 (prE m d))/\Ext w w':=by
 unfold prE;by_cases h:m.pr.n<=8;case neg =>
  rw[errB_no h,orE_l (by omega)];have x0:=(Ext.refl w).alloc (.cells m.cells 38);have bm:=Box.new w 38 m.cells;clear hi;have f2:decide (8<(m.pr.n:Int))=true:=by simp;omega
  clear h;go_enter func46,ntmps46;go_upto_region 1 with fail;generalize w.alloc (.cells m.cells 38)=w1 at *;have k8:w1.cell? ⟨w.heap.size,5,none⟩=some (.slice m.pr.A m.pr.n m.pr.c):=bm.cell 5;go_wp2_with fail;go_ret;exact⟨rfl,x0⟩
 rw[errB_yes h,orE_r];by_cases hp:ProcsK m d d.pr.length
 ·rw[errB_yes hp];exact procs_ok m d w hi h hpi hp hfn
 ·rw[errB_no hp];exact procs_no m d w hi h hpi hp hfn
end Go.Proofs.YtfaplefkakpgcaaGreatDoor
