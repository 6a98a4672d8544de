import Derived.Test.YtfaplefkakpgcaaGreatDoorRows
import Derived.Test.YtfaplefkakpgcaaGreatDoorQa1
import Derived.ProofKit
import Derived.OpenShut
import Derived.WideKeyArgs
import Derived.ChangeSlices
set_option linter.unusedVariables false
set_option linter.unusedSimpArgs false
set_option maxHeartbeats 32000000
set_option maxRecDepth 100000
namespace Go.Proofs.YtfaplefkakpgcaaGreatDoor
open Go.Proofs.Tryz
open Go.ChangeShapes Go.WideShapes Go.ChangeAt Go.RowKit
theorem Gu:ownKnob prog.godebug=none:=by kernel_rfl
theorem En:laidOutB prog=true:=by kernel_rfl
def Dz (t:TypeId):Prop:=prog.readableRec t=true/\t<prog.types.size
section
variable {H:Type}{enc:TypeId × Value->H}
theorem aK {t:TypeId}(ht:Dz t) {W W':World}(hx:Ext W W') {sp:Nat->Bool}{v:Value}{d:DataW H}{ps:List MemPlace}(h:DataW.Trod enc prog W 0 (λ_=>true) true t v d ps) (hl:∀p∈ps,p.block<W.heap.size) (hs:∀p∈ps,sp p.block=true):DataW.Trod enc prog W' 0 sp true t v d ps:=by
 exact WideElems.Trod_stays En ht.1 ht.2 h (λp hp=>Below.same hx (hl p hp)) hs
theorem NT:∀{ts:List TypeId}{vs:List Value}{ds:List (DataW H)}{ps:List MemPlace}{W W':World}{sp:Nat->Bool},(∀t∈ts,Dz t)->Ext W W'->DataW.TrodAll enc prog W 0 (λ_=>true) true ts vs ds ps->(∀p∈ps,p.block<W.heap.size)->(∀p∈ps,sp p.block=true)->DataW.TrodAll enc prog W' 0 sp true ts vs ds ps
 | [],vs,ds,ps,W,W',sp,_,_,h,_,_=>by obtain⟨rfl,rfl,rfl⟩:=trodAll_nil h;exact trodAll_mk0
 | t::ts,vs,ds,ps,W,W',sp,ht,hx,h,hl,hs=>by
  obtain⟨v,vs',d,ds',p,q,rfl,rfl,rfl,h0,r0⟩:=trodAll_cons h
  exact trodAll_cons_mk (aK (ht t (by simp)) hx h0 (λp hp=>hl p (j9 _ hp)) (λp hp=>hs p (j9 _ hp)))
   (NT (λt h=>ht t (by simp[h])) hx r0 (λp hp=>hl p (ph _ hp)) (λp hp=>hs p (ph _ hp)))
theorem I6 {f:Func}{s:ChangeSpec}{apart fresh handsOn again:Bool}{W W':World}{args:Array Value}{ds:List (DataW H)}{before:List MemPlace}(hvs:s.vars=[])
  (hW:DataW.Whole enc prog f.params.toList s.vars apart W args.toList ds [] before) (hft:f.resultTypes=#[4]) (hts:∀t∈f.params.toList,Dz t)
  (hs:s.fn H (ds++[])={ results:=[.lit (.bool true)],args:=ds }) (hx:Ext W W'):s.post enc prog f apart fresh handsOn again W args (.bool true) W':=by
 have Qo:∀p∈before,p.block<W.heap.size:=λp hp=>hW.lt p hp;have hold:∀p∈before,(λb=>decide (b<W.heap.size)) p.block=true:=λp hp=>by simpa using Qo p hp
 have qA:=hW;obtain⟨p,q,hA,hV,rfl,hz,hn⟩:=hW;have hq:q=[]:=by rw[hvs]at hV;exact(trodVars_none hV).2
 subst hq;rw[SO]at Qo hold qA hz hn;have nl:∀(b:Nat) (sp:Nat->Bool) (hd:Bool),DataW.TrodAll enc prog W' b sp hd f.resultTypes.toList ((Value.bool true).resultList f.resultTypes.size) (s.fn H (ds++[])).results []:=λb sp hd=>by rw[hs,hft];exact trodAll_cons_mk (shut_bool underlying4 _) trodAll_mk0
 have II:∀sp:Nat->Bool,(∀x∈p,sp x.block=true)->DataW.TrodAll enc prog W' 0 sp true f.params.toList args.toList (s.fn H (ds++[])).args p:=λsp hsp=>by rw[hs];exact NT hts hx hA Qo hsp
 have fg:∀sp:Nat->Bool,DataW.TrodVars enc prog W' sp s.vars (s.fn H (ds++[])).vars []:=λsp=>by rw[hs,hvs];rfl
 refine⟨ds,[],p,[],p,[],qA,nl _ _ _,II _ hold,fg _,World.keptBut_mono (λx hp=>⟨hp,.inr (.inl hp)⟩) (Below.frame hx (·∈p)),λ_=>⟨?_,_,_,p,⟨p,[],trodAll_append (II _ (λ_ _=>rfl)) (nl _ _ _),fg _,by simp,λb off hp=>?_,λha=>?_⟩,λx hp _=>hp⟩⟩
 ·exact ok_one hft rfl (okWide_bool_mk underlying4 _)
 ·rw[Below.frozen hx (Qo _ hp)];exact hz b off hp
 ·exact hn ha
end
end Go.Proofs.YtfaplefkakpgcaaGreatDoor
