import Derived.Test.YtfaplefkakpgcaaGreatDoorQa40
import Derived.LaidMore
import Derived.MakeChecks
import Derived.Stop.Joined
set_option linter.unusedVariables false
set_option linter.unusedSimpArgs false
set_option maxHeartbeats 32000000
set_option maxRecDepth 100000
namespace Go.Proofs.YtfaplefkakpgcaaGreatDoor
open Go.Proofs.Tryz
open Go.ChangeShapes Go.WideShapes Go.ChangeAt Go.RowKit
section
variable {H:Type}{enc:TypeId × Value->H}{P:Program}{w:World}{base:Nat}{spare:Nat->Bool}{held:Bool}
theorem Wt {t e:TypeId}{k:IntKind}{n fuel:Nat}{cs:List Value}{x:DataW H × List MemPlace}(hu:P.underlying t=some (.array n e)) (he:P.underlying e=some (.int k)) (hc:P.cellsOf e=1) (hct:P.cellsOf t=n) (h:DataW.trod enc P w base spare held fuel t cs=some x) (zs:List Int) (hx:x.1=.agg (zs.map λz=>.lit (.int k z))) :
  cs=zs.map (Value.int k):=by
 obtain⟨xs,m,_,hx',hl,Sn,hf⟩:=DataW.trod_array hu h;rw[hx']at hx;injection hx with hz;have vz:zs.length=n:=by have:=congrArg List.length hz;simp at this;omega
 apply go;intro i;by_cases hi:i<n
 ·have h1:=hf i hi;have nH:i<cs.length:=by omega
  rw[hc,Nat.mul_one,JZ (show i<xs.length by omega),List.drop_eq_getElem_cons nH,Yh,Yt]at h1;obtain⟨z,e2,e3,_⟩:=DataW.trod_int he h1;injection e2 with e2 _;have h2:=congrArg (λl=>l[i]?) hz;simp only[LZ]at h2;rw[JZ (show i<xs.length by omega),JZ (show i<zs.length by omega)]at h2;simp only[au,e3]at h2;injection h2 with h2;injection h2 with h2;injection h2 with _ h2;rw[JZ nH,LZ,JZ (show i<zs.length by omega),e2,h2];rfl
 ·rw[Fl (by omega),Fl (by simp;omega)]
end
theorem Ij {α:Type} (z:Nat):∀(n:Nat) (cs:List α),cs.length=n*z->cs=(List.range n).flatMap λi=>(cs.drop (i*z)).take z
 | 0,cs,h=>by rw[Nat.zero_mul]at h;rw[bd h];rfl
 | n+1,cs,h=>by
  rw[SL]at h;have h1:=Ij z n (cs.take (n*z)) (by rw[WV];omega);rw[fL,AY,AV,pm,SO];have h2:(List.range n).flatMap (λi=>(cs.drop (i*z)).take z)=(List.range n).flatMap (λi=>((cs.take (n*z)).drop (i*z)).take z):=by rw[A0,A0,List.map_congr_left λi hi=>?_];have hi:=Pw.1 hi;have h3:(i+1)*z<=n*z:=mJ _ hi;rw[SL]at h3;rw[List.drop_take,hO,gz (by omega)]
  rw[h2,←h1,AX (l:=cs.drop (n*z)) (by rw[WQ];omega),fH]
theorem iV:prog.globalNamed "hibernacle/hash.eight"=some 0:=by kernel_rfl
theorem ms:prog.globalNamed "hibernacle/hash.rows"=some 1:=by kernel_rfl
theorem jh:(prog.globals[0]?).map (·.type)=some 110:=by kernel_rfl
theorem om:(prog.globals[1]?).map (·.type)=some 247:=by kernel_rfl
theorem iJ:prog.cellsOf 110=8:=by kernel_rfl
theorem mj:prog.cellsOf 247=160:=by kernel_rfl
theorem mi:prog.cellsOf 246=16:=by kernel_rfl
theorem rt:prog.cellsOf 45=1:=by kernel_rfl
theorem cU8:prog.cellsOf 5=1:=by kernel_rfl
def oZ (k:Nat):DataW Unit:=.agg (((List.range 16).map λj=>(Qy k j:Int)).map λz=>.lit (.int .u8 z))
theorem BI:(Rows.laid_hibernacle_hash_eight:DataW Unit)=.agg ((M9.map λ(n:Nat)=>(n:Int)).map λz=>.lit (.int .u32 z)):=rfl
theorem I5:(Rows.laid_hibernacle_hash_rows:DataW Unit)=.agg ((List.range 10).map oZ):=rfl
theorem G0 {r:List (String × DataW Unit)}{W:World}(h:laidMet prog (("hibernacle/hash.eight",Rows.laid_hibernacle_hash_eight)::("hibernacle/hash.rows",Rows.laid_hibernacle_hash_rows)::r) W):Yg W:=by
 obtain⟨ps,⟨g0,t0,cs0,f0,p0,q0,hg0,ht0,Sm,hd0,⟨g1,t1,cs1,f1,p1,q1,PC,ht1,Fz,DY,_,_⟩,_⟩,_,_⟩:=h;obtain rfl:=L0 (iV.symm.trans hg0);obtain rfl:=L0 (ms.symm.trans PC);obtain rfl:=L0 (jh.symm.trans ht0);obtain rfl:=L0 (om.symm.trans ht1);refine⟨λj v hj=>?_,λj v hj=>?_⟩
 ·have e:=Wt underlying110 underlying45 rt iJ hd0 (M9.map λ(n:Nat)=>(n:Int)) BI;rw[Ux,World.var?_cell hg0 Sm j,←Array.getElem?_toList,e,←hj];unfold M8;rw[List.map_map];rfl
 ·obtain⟨xs,m,_,hx',hl,Sn,hf⟩:=DataW.trod_array underlying247 DY;rw[mj]at hl;have hz:(List.range 10).map oZ=xs.map (·.1):=by
   have:=congrArg Prod.fst hx';have:=I5.symm.trans this;injection this
  have hc:=Ij 16 10 cs1.toList hl;have e:(List.range 10).flatMap (λi=>(cs1.toList.drop (i*16)).take 16)=WJ:=by unfold WJ;rw[A0,A0,List.map_congr_left λi hi=>?_];have hi:=Pw.1 hi;have h1:=hf i hi;rw[mi,JZ (show i<xs.length by omega)]at h1;have h2:=congrArg (λl=>l[i]?) hz;simp only[LZ]at h2;rw[DA hi,JZ (show i<xs.length by omega)]at h2;simp only[au]at h2;injection h2 with h2;rw[Wt underlying246 underlying5 cU8 mi h1 _ h2.symm];unfold Wq;rw[List.map_map];rfl
  rw[Ux,World.var?_cell PC Fz j,←Array.getElem?_toList,hc,e,←hj]
end Go.Proofs.YtfaplefkakpgcaaGreatDoor
