/- For every image, every number and every machine the law SingleProcs returns true: what bringing any process of any image into any machine makes of that, or the error, is the document's. No condition. -/
import Derived.Test.YtfaplefkakpgcaaGreatDoorPl42
import Derived.Test.YtfaplefkakpgcaaGreatDoorPl43
import Derived.Test.YtfaplefkakpgcaaGreatDoorTie
import Derived.Test.YtfaplefkakpgcaaGreatDoorCards
import Derived.Test.YtfaplefkakpgcaaGreatDoorPl44
set_option linter.unusedVariables false
set_option linter.unusedSimpArgs false
set_option maxHeartbeats 32000000
set_option maxRecDepth 100000
namespace Go.Proofs.YtfaplefkakpgcaaGreatDoor.singleProcs
open Go.ChangeShapes Go.WideShapes Go.ChangeAt Go.RowKit
theorem reads:∀t∈Tryz.f4.params.toList,OJ t:=by
 rw[Tryz.params4];intro t ht;have hm:t∈[24,3,38]:=ht;have VC:[24,3,38].all (λu=>decide (u∈[24,3,38]))=true:=by kernel_rfl
 have hu:t∈[24,3,38]:=WO (Rj.1 VC t hm);rcases(by simpa using hu:t=24\/t=3\/t=38) with rfl|rfl|rfl<;>exact⟨by kernel_rfl,WO (by kernel_rfl)⟩
def aL {H:Type}:List (String × DataW H):=[("math/bits.deBruijn32tab",Rows.laid_math_bits_deBruijn32tab),("math/bits.deBruijn64tab",Rows.laid_math_bits_deBruijn64tab),("internal/strconv.uint64pow10",Rows.laid_internal_strconv_uint64pow10),("strconv.ErrRange",Rows.laid_strconv_ErrRange),("strconv.ErrSyntax",Rows.laid_strconv_ErrSyntax)]
theorem iy (os:Os) (args:Array Value):laidMetH Tryz.prog aL ((World.doorLaid Tryz.prog 400 os).forCall (λ_ _=>0) ⟨#[],args,[]⟩).memory :=
 laidMetH_of_parts3 (fuel:=8) (laidMet_of_run' 8 (by kernel_rfl) (by kernel_rfl)) (by kernel_rfl) (by kernel_rfl)
def qP:Array Value:=#[.int .u64 0,.int .i64 0,.int .i64 0,.int .i64 0,.slice none 0 0,.slice none 0 0,.int .i64 0,.string ⟨#[]⟩,.slice none 0 0,.int .i64 0,.string ⟨#[]⟩,.bool false,.int .u64 0,.slice none 0 0,.slice none 0 0,.int .i64 0,.slice none 0 0]
theorem uV (os:Os) (started:os.Started) (H:Type) (enc:TypeId × Value->H) :
  ReturnsInHanded {} Tryz.checked os 4 .any (λw args=>(Rows.singleProcsSpec.pre enc Tryz.prog Tryz.f4 [] false w args/\laidMetH Tryz.prog aL w)/\sizedMet enc Tryz.prog Tryz.f4 (OpenSpec.ofChange Rows.singleProcsSpec) false w args)
   (Rows.singleProcsSpec.post enc Tryz.prog Tryz.f4 false true false false):=by
 refine returnsInHanded_of_change_and (C:=Tryz.checked) (X:=λw _=>laidMetH Tryz.prog aL w) (λ_ _ _ hh h=>h.of_heap hh) Be started (by kernel_rfl) Tryz.func4
  (ChangeSpec.witness_shaped (enc:=enc) (C:=Tryz.checked) (os:=os) (X:=λw _=>laidMetH Tryz.prog aL w) false (World.doorLaid Tryz.prog 400 os) #[.agg #[.slice none 0 0,.slice none 0 0,.string ⟨#[]⟩],.int .i64 0,.agg qP] 8 rfl (World.shaped_of_RefB (by kernel_rfl) (by kernel_rfl)) (by kernel_rfl) (by kernel_rfl) (by kernel_rfl) (iy os _)) ?_
 intro W base args ds gs before hval0 hW _ hwts hX _;have GS:∀(j:Nat) t v,Tryz.f4.params[j]? =some t->args[j]? =some v->Value.okWide Tryz.prog W .any base t v:=hval0;have hW':=hW;obtain⟨p,q,hA0,hV,rfl,hfz,jf⟩:=hW;have hA:DataW.TrodAll enc Tryz.prog W 0 (λ_=>true) true Tryz.f4.params.toList args.toList ds p:=hA0;rw[Tryz.params4]at hA GS;obtain⟨v0,vs0,d0x,ds0,p0,q0,jR,rfl,rfl,h0,r0⟩:=trodAll_cons hA;obtain⟨v1,vs1,d1x,ds1,p1,q1,rfl,rfl,rfl,h1,r1⟩:=trodAll_cons r0;obtain⟨v2,vs2,d2x,ds2,p2,q2,rfl,rfl,rfl,h2,r2⟩:=trodAll_cons r1;obtain⟨rfl,rfl,rfl⟩:=trodAll_nil r2;obtain rfl:args=#[v0,v1,v2]:=by cases args;simp_all
 obtain⟨rfl,rfl⟩:=trodVars_none hV;obtain⟨cs0,rfl,hcs0⟩:=okWide_struct Tryz.underlying24 (GS 0 24 v0 rfl rfl);obtain⟨fuel0,ht0⟩:=h0;obtain⟨fr,bl,FB,BB,s,hm0,hok1,hrF,hok2,hrB,jl⟩:=uS (by rw[show(Value.agg cs0).cells=cs0 from rfl,Weu,hcs0];kernel_rfl) ht0;have Qkc:cs0=#[.slice fr.A fr.n fr.c,.slice bl.A bl.n bl.c,.string (Qb s)]:=tA.1 hm0;subst Qkc;obtain⟨n1,rfl⟩:=okWide_int Tryz.underlying3 (GS 1 3 v1 rfl rfl);obtain⟨cs2,rfl,hcs2⟩:=okWide_struct Tryz.underlying38 (GS 2 38 v2 rfl rfl);obtain⟨fuel2,ht2⟩:=h2;obtain⟨m2,d2,hm2,hin2,hfit2⟩:=pN (by rw[show(Value.agg cs2).cells=cs2 from rfl,Weu,hcs2];exact j8) ht2;have Qkd:cs2=m2.cells:=tA.1 hm2;subst Qkd;have hC:=Md fr bl FB BB s n1 m2 d2 W hrF hok1 hrB hok2 (YQ jl) hin2 hfit2 (GG hX);refine hC.mono λe W' ⟨he,hg⟩=>?_;subst he;exact⟨_,rfl,jy rfl hW' (by kernel_rfl) reads rfl hg⟩
theorem closed:joinedFacts Tryz.prog 4 Tryz.f4 Rows.singleProcsSpec Rows.singleProcsRow=true:=by
 unfold joinedFacts
 repeat' (rw[Vg];refine ZU ?_ ?_)
 all_goals (as_aux_lemma=>kernel_rfl)
theorem over:Rows.singleProcsRow.holds Tryz.pinned (OpenSpec.ofChange Rows.singleProcsSpec) :=
 OpenClaim.holds_of_wide 4 Tryz.f4 rfl rfl rfl rfl rfl rfl rfl ⟨rfl,rfl,rfl,rfl,rfl⟩ rfl rfl rfl rfl rfl (by kernel_rfl) Tryz.func4 closed
  (WO (by kernel_rfl)) (by unfold Func.isWrapper;first|(rw[QN (by decide +kernel)];kernel_rfl)|(rw[QD (by decide +kernel)];exact⟨rfl,rfl⟩))
  (λos started H enc _=>uV os started H enc)
theorem proved:Rows.SingleProcsCardSaid :=
 Claim7.holds_tied_plain_at .later [] [.data,.data,.data,.sentinel,.sentinel] true (true,"b813af415a7ced93fd6036a8cc7a69b6d2396f3cd35a26011d7f7c05126a80ae") true
  over (λ_ h=>by cases h) (by kernel_rfl) (λ_ h=>by cases h) singleProcs_row_tie rfl ⟨rfl,rfl⟩ (by kernel_rfl) rfl
  (λf fn hf Mx=>by
   obtain rfl:f=4:=NU ((show Tryz.prog.funcNamed "hibernacle/hibernaclelaw56.SingleProcs"=some 4 by kernel_rfl).symm.trans hf) |>.symm;obtain rfl:fn=Tryz.f4:=(NU (Tryz.func4.symm.trans Mx)).symm;exact⟨by kernel_rfl,λj t ht=>by
    rw[Tryz.params4]at ht;have hm:t∈[24,3,38]:=by simpa using Array.mem_of_getElem? ht
    have VC:([24,3,38].all λu=>!Tryz.prog.wantsStandIn u)=true:=by kernel_rfl
    exact(show Tryz.prog.wantsStandIn t=false by simpa using Rj.1 VC t hm)⟩)
  (by kernel_rfl)
#print axioms proved
end Go.Proofs.YtfaplefkakpgcaaGreatDoor.singleProcs
