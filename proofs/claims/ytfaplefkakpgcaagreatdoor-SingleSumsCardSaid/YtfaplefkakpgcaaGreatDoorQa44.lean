/- For every machine the law SingleSums returns true: each file that the catalog tells of a machine's image has, alone, the digest, and as many bytes, as are told there. No condition. -/
import Derived.Test.YtfaplefkakpgcaaGreatDoorQa41
import Derived.Test.YtfaplefkakpgcaaGreatDoorQa42
import Derived.Test.YtfaplefkakpgcaaGreatDoorTie
import Derived.Test.YtfaplefkakpgcaaGreatDoorCards
import Derived.Test.YtfaplefkakpgcaaGreatDoorQa43
set_option linter.unusedVariables false
set_option linter.unusedSimpArgs false
set_option maxHeartbeats 32000000
set_option maxRecDepth 100000
namespace Go.Proofs.YtfaplefkakpgcaaGreatDoor.singleSums
open Go.ChangeShapes Go.WideShapes Go.ChangeAt Go.RowKit
theorem reads:∀t∈Tryz.f8.params.toList,Dz t:=by
 rw[Tryz.params8];intro t ht;obtain rfl:t=38:=by simpa using ht
 exact⟨by kernel_rfl,VY (by kernel_rfl)⟩
def Gi {H:Type}:List (String × DataW H):=[("math/bits.deBruijn32tab",Rows.laid_math_bits_deBruijn32tab),("math/bits.deBruijn64tab",Rows.laid_math_bits_deBruijn64tab),("hibernacle/hash.eight",Rows.laid_hibernacle_hash_eight),("hibernacle/hash.rows",Rows.laid_hibernacle_hash_rows),("internal/strconv.uint64pow10",Rows.laid_internal_strconv_uint64pow10),("strconv.ErrRange",Rows.laid_strconv_ErrRange),("strconv.ErrSyntax",Rows.laid_strconv_ErrSyntax)]
theorem Iq (os:Os) (args:Array Value):laidMetH Tryz.prog Gi ((World.doorLaid Tryz.prog 400 os).forCall (λ_ _=>0) ⟨#[],args,[]⟩).memory :=
 laidMetH_of_parts3 (fuel:=8) (laidMet_of_run' 8 (by kernel_rfl) (by kernel_rfl)) (by kernel_rfl) (by kernel_rfl)
def eZ:Array Value:=#[.int .u64 0,.int .i64 0,.int .i64 0,.int .i64 0,.slice none 0 0,.slice none 0 0,.int .i64 0,.string ⟨#[]⟩,.slice none 0 0,.int .i64 0,.string ⟨#[]⟩,.bool false,.int .u64 0,.slice none 0 0,.slice none 0 0,.int .i64 0,.slice none 0 0]
theorem jE (os:Os) (started:os.Started) (H:Type) (enc:TypeId × Value->H) :
  ReturnsInHanded {} Tryz.checked os 8 .any (λw args=>(Rows.singleSumsSpec.pre enc Tryz.prog Tryz.f8 [] false w args/\laidMetH Tryz.prog Gi w)/\sizedMet enc Tryz.prog Tryz.f8 (OpenSpec.ofChange Rows.singleSumsSpec) false w args)
   (Rows.singleSumsSpec.post enc Tryz.prog Tryz.f8 false true false false):=by
 refine returnsInHanded_of_change_and (C:=Tryz.checked) (X:=λw _=>laidMetH Tryz.prog Gi w) (λ_ _ _ hh h=>h.of_heap hh) Gu started (by kernel_rfl) Tryz.func8
  (ChangeSpec.witness_shaped (enc:=enc) (C:=Tryz.checked) (os:=os) (X:=λw _=>laidMetH Tryz.prog Gi w) false (World.doorLaid Tryz.prog 400 os) #[.agg eZ] 8 rfl (World.shaped_of_RefB (by kernel_rfl) (by kernel_rfl)) (by kernel_rfl) (by kernel_rfl) (by kernel_rfl) (Iq os _)) ?_
 intro W base args ds gs before hval0 hW _ hwts hX _;have nz:∀(j:Nat) t v,Tryz.f8.params[j]? =some t->args[j]? =some v->Value.okWide Tryz.prog W .any base t v:=hval0;have qA:=hW;obtain⟨p,q,hA0,hV,rfl,sZ,hnd⟩:=hW;have hA:DataW.TrodAll enc Tryz.prog W 0 (λ_=>true) true Tryz.f8.params.toList args.toList ds p:=hA0;rw[Tryz.params8]at hA nz;obtain⟨v0,vs0,d0x,ds0,p0,q0,II,rfl,rfl,h0,r0⟩:=trodAll_cons hA;obtain⟨rfl,rfl,rfl⟩:=trodAll_nil r0;obtain rfl:args=#[v0]:=by cases args;simp_all
 obtain⟨rfl,rfl⟩:=trodVars_none hV;obtain⟨cs0,rfl,hcs0⟩:=okWide_struct Tryz.underlying38 (nz 0 38 v0 rfl rfl);obtain⟨fuel0,ht0⟩:=h0;obtain⟨m0,d0',nV,hin0,hfit0⟩:=da (by rw[show(Value.agg cs0).cells=cs0 from rfl,be,hcs0];exact Oc) ht0;have sV:cs0=m0.cells:=mF.1 nV;subst sV;have vX:laidMet Tryz.prog Gi W:=by have h:=hX;rw[MakeChecks.laidMetH_plain _ _ _ (by kernel_rfl)]at h;exact h
 have hC:=RW m0 d0' W hin0 hfit0 (M6 vX.tail.tail.tail.tail) (G0 vX.tail.tail);refine hC.mono λe W' ⟨he,hg⟩=>?_;subst he;exact⟨_,rfl,I6 rfl qA (by kernel_rfl) reads rfl hg⟩
theorem closed:joinedFacts Tryz.prog 8 Tryz.f8 Rows.singleSumsSpec Rows.singleSumsRow=true:=by
 unfold joinedFacts
 repeat' (rw[VB];refine YA ?_ ?_)
 all_goals (as_aux_lemma=>kernel_rfl)
theorem over:Rows.singleSumsRow.holds Tryz.pinned (OpenSpec.ofChange Rows.singleSumsSpec) :=
 OpenClaim.holds_of_wide 8 Tryz.f8 rfl rfl rfl rfl rfl rfl rfl ⟨rfl,rfl,rfl,rfl,rfl⟩ rfl rfl rfl rfl rfl (by kernel_rfl) Tryz.func8 closed
  (VY (by kernel_rfl)) (by unfold Func.isWrapper;first|(rw[Qv (by decide +kernel)];kernel_rfl)|(rw[Qr (by decide +kernel)];exact⟨rfl,rfl⟩))
  (λos started H enc _=>jE os started H enc)
theorem proved:Rows.SingleSumsCardSaid :=
 Claim7.holds_tied_plain_at .later [] [.data,.data,.data,.data,.data,.sentinel,.sentinel] true (true,"b813af415a7ced93fd6036a8cc7a69b6d2396f3cd35a26011d7f7c05126a80ae") true
  over (λ_ h=>by cases h) (by kernel_rfl) (λ_ h=>by cases h) singleSums_row_tie rfl ⟨rfl,rfl⟩ (by kernel_rfl) rfl
  (λf fn hf Eg=>by
   obtain rfl:f=8:=L0 ((show Tryz.prog.funcNamed "hibernacle/hibernaclelaw56.SingleSums"=some 8 by kernel_rfl).symm.trans hf) |>.symm;obtain rfl:fn=Tryz.f8:=(L0 (Tryz.func8.symm.trans Eg)).symm;exact⟨by kernel_rfl,λj t ht=>by
    rw[Tryz.params8]at ht;have hm:t∈[38]:=by simpa using Array.mem_of_getElem? ht
    have UR:([38].all λu=>!Tryz.prog.wantsStandIn u)=true:=by kernel_rfl
    exact(show Tryz.prog.wantsStandIn t=false by simpa using Pv.1 UR t hm)⟩)
  (by kernel_rfl)
#print axioms proved
end Go.Proofs.YtfaplefkakpgcaaGreatDoor.singleSums
