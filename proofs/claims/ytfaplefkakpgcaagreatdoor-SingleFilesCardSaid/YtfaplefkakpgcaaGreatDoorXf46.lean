/- For every image and every path the law SingleFiles returns true: the bytes of the file at any path of any image, or the error, are the document's. No condition. -/
import Derived.Test.YtfaplefkakpgcaaGreatDoorXf44
import Derived.Test.YtfaplefkakpgcaaGreatDoorXf25
import Derived.Test.YtfaplefkakpgcaaGreatDoorXf45
import Derived.Test.YtfaplefkakpgcaaGreatDoorXf18
import Derived.Test.YtfaplefkakpgcaaGreatDoorTie
import Derived.Test.YtfaplefkakpgcaaGreatDoorCards
import Derived.Test.YtfaplefkakpgcaaGreatDoorXf42
import Derived.LaidMore
import Derived.Stop.Joined
set_option linter.unusedVariables false
set_option linter.unusedSimpArgs false
set_option maxHeartbeats 32000000
set_option maxRecDepth 100000
namespace Go.Proofs.YtfaplefkakpgcaaGreatDoor.singleFiles
open Go.ChangeShapes Go.WideShapes Go.ChangeAt Go.RowKit
theorem reads:∀t∈Tryz.f3.params.toList,ReadT t:=by
 rw[Tryz.params3];intro t ht;have hm:t∈[24,9]:=ht;have hall:[24,9].all (λu=>decide (u∈[24,9]))=true:=by kernel_rfl
 have hu:t∈[24,9]:=of_decide_eq_true (List.all_eq_true.1 hall t hm);rcases(by simpa using hu:t=24\/t=9) with rfl|rfl<;>exact⟨by kernel_rfl,of_decide_eq_true (by kernel_rfl)⟩
def laid2 {H:Type}:List (String × DataW H):=[("math/bits.deBruijn32tab",Rows.laid_math_bits_deBruijn32tab),("math/bits.deBruijn64tab",Rows.laid_math_bits_deBruijn64tab),("internal/strconv.uint64pow10",Rows.laid_internal_strconv_uint64pow10),("strconv.ErrRange",Rows.laid_strconv_ErrRange),("strconv.ErrSyntax",Rows.laid_strconv_ErrSyntax)]
theorem door_met (os:Os) (args:Array Value):laidMetH Tryz.prog laid2 ((World.doorLaid Tryz.prog 400 os).forCall (λ_ _=>0) ⟨#[],args,[]⟩).memory :=
 laidMetH_of_parts3 (fuel:=8) (laidMet_of_run' 8 (by kernel_rfl) (by kernel_rfl)) (by kernel_rfl) (by kernel_rfl)
def zeroMac:Array Value:=#[.int .u64 0,.int .i64 0,.int .i64 0,.int .i64 0,.slice none 0 0,.slice none 0 0,.int .i64 0,.string ⟨#[]⟩,.slice none 0 0,.int .i64 0,.string ⟨#[]⟩,.bool false,.int .u64 0,.slice none 0 0,.slice none 0 0,.int .i64 0,.slice none 0 0]
theorem lifted (os:Os) (started:os.Started) (H:Type) (enc:TypeId × Value->H) :
  ReturnsInHanded {} Tryz.checked os 3 .any (λw args=>(Rows.singleFilesSpec.pre enc Tryz.prog Tryz.f3 [] false w args/\laidMetH Tryz.prog laid2 w)/\sizedMet enc Tryz.prog Tryz.f3 (OpenSpec.ofChange Rows.singleFilesSpec) false w args)
   (Rows.singleFilesSpec.post enc Tryz.prog Tryz.f3 false true false false):=by
 refine returnsInHanded_of_change_and (C:=Tryz.checked) (X:=λw _=>laidMetH Tryz.prog laid2 w) (λ_ _ _ hh h=>h.of_heap hh) ownKnobNone started (by kernel_rfl) Tryz.func3
  (ChangeSpec.witness_shaped (enc:=enc) (C:=Tryz.checked) (os:=os) (X:=λw _=>laidMetH Tryz.prog laid2 w) false (World.doorLaid Tryz.prog 400 os) #[.agg #[.slice none 0 0,.slice none 0 0,.string ⟨#[]⟩],.string ⟨#[]⟩] 8 rfl (World.shaped_of_RefB (by kernel_rfl) (by kernel_rfl)) (by kernel_rfl) (by kernel_rfl) (by kernel_rfl) (door_met os _)) ?_
 intro W base args ds gs before hval0 hW _ hwts hX _;have hval:∀(j:Nat) t v,Tryz.f3.params[j]? =some t->args[j]? =some v->Value.okWide Tryz.prog W .any base t v:=hval0;have hW':=hW;obtain⟨p,q,hA0,hV,rfl,hfz,hnd⟩:=hW;have hA:DataW.TrodAll enc Tryz.prog W 0 (λ_=>true) true Tryz.f3.params.toList args.toList ds p:=hA0;rw[Tryz.params3]at hA hval;obtain⟨v0,vs0,d0x,ds0,p0,q0,hargs,rfl,rfl,h0,r0⟩:=trodAll_cons hA;obtain⟨v1,vs1,d1x,ds1,p1,q1,rfl,rfl,rfl,h1,r1⟩:=trodAll_cons r0;obtain⟨rfl,rfl,rfl⟩:=trodAll_nil r1;obtain rfl:args=#[v0,v1]:=by cases args;simp_all
 obtain⟨rfl,rfl⟩:=trodVars_none hV;obtain⟨cs0,rfl,hcs0⟩:=okWide_struct Tryz.underlying24 (hval 0 24 v0 rfl rfl);obtain⟨fuel0,ht0⟩:=h0;obtain⟨fr,bl,FB,BB,s,hm0,hok1,hrF,hok2,hrB,hsl⟩:=img_in (by rw[show(Value.agg cs0).cells=cs0 from rfl,Array.length_toList,hcs0];kernel_rfl) ht0;have hcm0:cs0=#[.slice fr.A fr.n fr.c,.slice bl.A bl.n bl.c,.string (str s)]:=Array.toList_inj.1 hm0;subst hcm0;obtain⟨b1,rfl⟩:=okWide_string Tryz.underlying9 (hval 1 9 v1 rfl rfl);obtain⟨fuel1,ht1⟩:=h1;obtain⟨s1,hm1,hs1⟩:=string_in rfl ht1;have hcm1:b1=str s1:=by have h':[Value.string b1]=[Value.string (str s1)]:=hm1;injection h' with h' _;injection h'
 subst hcm1;have hC:=singleFiles_any fr bl FB BB s s1 W hrF hok1 hrB hok2 hsl hs1 (dec10_of_laid hX);refine hC.mono λe W' ⟨he,hg⟩=>?_;subst he;exact⟨_,rfl,law_post rfl hW' (by kernel_rfl) reads rfl hg⟩
theorem closed:joinedFacts Tryz.prog 3 Tryz.f3 Rows.singleFilesSpec Rows.singleFilesRow=true:=by
 unfold joinedFacts
 repeat' (rw[Bool.and_eq_true];refine And.intro ?_ ?_)
 all_goals (as_aux_lemma=>kernel_rfl)
theorem over:Rows.singleFilesRow.holds Tryz.pinned (OpenSpec.ofChange Rows.singleFilesSpec) :=
 OpenClaim.holds_of_wide 3 Tryz.f3 rfl rfl rfl rfl rfl rfl rfl ⟨rfl,rfl,rfl,rfl,rfl⟩ rfl rfl rfl rfl rfl (by kernel_rfl) Tryz.func3 closed
  (of_decide_eq_true (by kernel_rfl)) (by unfold Func.isWrapper;first|(rw[if_pos (by decide +kernel)];kernel_rfl)|(rw[if_neg (by decide +kernel)];exact⟨rfl,rfl⟩))
  (λos started H enc _=>lifted os started H enc)
theorem proved:Rows.SingleFilesCardSaid :=
 Claim7.holds_tied_plain_at .later [] [.data,.data,.data,.sentinel,.sentinel] true (true,"b813af415a7ced93fd6036a8cc7a69b6d2396f3cd35a26011d7f7c05126a80ae") true
  over (λ_ h=>by cases h) (by kernel_rfl) (λ_ h=>by cases h) singleFiles_row_tie rfl ⟨rfl,rfl⟩ (by kernel_rfl) rfl
  (λf fn hf hfn=>by
   obtain rfl:f=3:=Option.some.inj ((show Tryz.prog.funcNamed "hibernacle/hibernaclelaw56.SingleFiles"=some 3 by kernel_rfl).symm.trans hf) |>.symm;obtain rfl:fn=Tryz.f3:=(Option.some.inj (Tryz.func3.symm.trans hfn)).symm;exact⟨by kernel_rfl,λj t ht=>by
    rw[Tryz.params3]at ht;have hm:t∈[24,9]:=by simpa using Array.mem_of_getElem? ht
    have hall:([24,9].all λu=>!Tryz.prog.wantsStandIn u)=true:=by kernel_rfl
    exact(show Tryz.prog.wantsStandIn t=false by simpa using List.all_eq_true.1 hall t hm)⟩)
  (by kernel_rfl)
#print axioms proved
end Go.Proofs.YtfaplefkakpgcaaGreatDoor.singleFiles
