import Derived.Test.YtfaplefkakpgcaaGreatDoorRows
import Derived.Test.YtfaplefkakpgcaaGreatDoorPl1
import Derived.ProofKit
import Derived.OpenShut
import Derived.WideKeyArgs
import Derived.ChangeSlices
set_option linter.unusedVariables false
set_option linter.unusedSimpArgs false
set_option maxHeartbeats 32000000
set_option maxRecDepth 100000
namespace Go.Proofs.YtfaplefkakpgcaaGreatDoor
open Go.Proofs.Tryz
open Go.ChangeShapes Go.WideShapes Go.ChangeAt Go.RowKit
theorem Be:ownKnob prog.godebug=none:=by kernel_rfl
theorem SN:laidOutB prog=true:=by kernel_rfl
def OJ (t:TypeId):Prop:=prog.readableRec t=true/\t<prog.types.size
section
variable {H:Type}{enc:TypeId × Value->H}
theorem lj {t:TypeId}(ht:OJ t) {W W':World}(hx:Ext W W') {sp:Nat->Bool}{v:Value}{d:DataW H}{ps:List MemPlace}(h:DataW.Trod enc prog W 0 (λ_=>true) true t v d ps) (hl:∀p∈ps,p.block<W.heap.size) (hs:∀p∈ps,sp p.block=true):DataW.Trod enc prog W' 0 sp true t v d ps:=by
 exact WideElems.Trod_stays SN ht.1 ht.2 h (λp hp=>Below.same hx (hl p hp)) hs
theorem PM:∀{ts:List TypeId}{vs:List Value}{ds:List (DataW H)}{ps:List MemPlace}{W W':World}{sp:Nat->Bool},(∀t∈ts,OJ t)->Ext W W'->DataW.TrodAll enc prog W 0 (λ_=>true) true ts vs ds ps->(∀p∈ps,p.block<W.heap.size)->(∀p∈ps,sp p.block=true)->DataW.TrodAll enc prog W' 0 sp true ts vs ds ps
 | [],vs,ds,ps,W,W',sp,_,_,h,_,_=>by obtain⟨rfl,rfl,rfl⟩:=trodAll_nil h;exact trodAll_mk0
 | t::ts,vs,ds,ps,W,W',sp,ht,hx,h,hl,hs=>by
  obtain⟨v,vs',d,ds',p,q,rfl,rfl,rfl,h0,r0⟩:=trodAll_cons h
  exact trodAll_cons_mk (lj (ht t (by simp)) hx h0 (λp hp=>hl p (vn _ hp)) (λp hp=>hs p (vn _ hp)))
   (PM (λt h=>ht t (by simp[h])) hx r0 (λp hp=>hl p (Wfd _ hp)) (λp hp=>hs p (Wfd _ hp)))
theorem jy {f:Func}{s:ChangeSpec}{apart fresh handsOn again:Bool}{W W':World}{args:Array Value}{ds:List (DataW H)}{before:List MemPlace}(hvs:s.vars=[])
  (hW:DataW.Whole enc prog f.params.toList s.vars apart W args.toList ds [] before) (hft:f.resultTypes=#[4]) (hts:∀t∈f.params.toList,OJ t)
  (hs:s.fn H (ds++[])={ results:=[.lit (.bool true)],args:=ds }) (hx:Ext W W'):s.post enc prog f apart fresh handsOn again W args (.bool true) W':=by
 have Qn:∀p∈before,p.block<W.heap.size:=λp hp=>hW.lt p hp;have hold:∀p∈before,(λb=>decide (b<W.heap.size)) p.block=true:=λp hp=>by simpa using Qn p hp
 have hW':=hW;obtain⟨p,q,hA,hV,rfl,hz,hn⟩:=hW;have hq:q=[]:=by rw[hvs]at hV;exact(trodVars_none hV).2
 subst hq;rw[iP]at Qn hold hW' hz hn;have Qb5:∀(b:Nat) (sp:Nat->Bool) (hd:Bool),DataW.TrodAll enc prog W' b sp hd f.resultTypes.toList ((Value.bool true).resultList f.resultTypes.size) (s.fn H (ds++[])).results []:=λb sp hd=>by rw[hs,hft];exact trodAll_cons_mk (shut_bool underlying4 _) trodAll_mk0
 have jR:∀sp:Nat->Bool,(∀x∈p,sp x.block=true)->DataW.TrodAll enc prog W' 0 sp true f.params.toList args.toList (s.fn H (ds++[])).args p:=λsp hsp=>by rw[hs];exact PM hts hx hA Qn hsp
 have rT:∀sp:Nat->Bool,DataW.TrodVars enc prog W' sp s.vars (s.fn H (ds++[])).vars []:=λsp=>by rw[hs,hvs];rfl
 refine⟨ds,[],p,[],p,[],hW',Qb5 _ _ _,jR _ hold,rT _,World.keptBut_mono (λx hp=>⟨hp,.inr (.inl hp)⟩) (Below.frame hx (·∈p)),λ_=>⟨?_,_,_,p,⟨p,[],trodAll_append (jR _ (λ_ _=>rfl)) (Qb5 _ _ _),rT _,by simp,λb off hp=>?_,λha=>?_⟩,λx hp _=>hp⟩⟩
 ·exact ok_one hft rfl (okWide_bool_mk underlying4 _)
 ·rw[Below.frozen hx (Qn _ hp)];exact hz b off hp
 ·exact hn ha
end
end Go.Proofs.YtfaplefkakpgcaaGreatDoor
