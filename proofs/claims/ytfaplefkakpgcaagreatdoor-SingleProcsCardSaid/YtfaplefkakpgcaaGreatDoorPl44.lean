import Derived.Test.YtfaplefkakpgcaaGreatDoorPl38
set_option linter.unusedVariables false
set_option linter.unusedSimpArgs false
set_option maxHeartbeats 32000000
set_option maxRecDepth 100000
namespace Go.Proofs.YtfaplefkakpgcaaGreatDoor
open Go.Proofs.Tryz
open Go.RowKit Go.WideShapes Go.ChangeShapes
section
variable {H:Type}{enc:TypeId × Value->H}{w:World}{base:Nat}{spare:Nat->Bool}{held:Bool}
theorem FP {o fuel:Nat}{cs:List Value}{x:DataW H × List MemPlace}(h:(Zl prog 6 24).contains (o,22)=true) (ht:DataW.trod enc prog w base spare held fuel 24 cs=some x) (hl:o<cs.length) :
  ∃fuel' v x',cs[o]? =some v/\DataW.trod enc prog w base spare held fuel' 22 [v]=some x':=by
 obtain⟨f',cs',x',h1,h2⟩:=Xf 6 (nW.1 h) ht (ZX hl);obtain⟨v,rfl⟩:=FZ underlying22 h1;exact⟨f',v,x',(ZX hl).trans h2.symm,h1⟩
theorem uS {fuel:Nat}{cs:List Value}{x:DataW H × List MemPlace}(hl:cs.length=3) (h:DataW.trod enc prog w base spare held fuel 24 cs=some x) :
  ∃(fr bl:Sl) (FB BB:List (List UInt8)) (s:List UInt8),cs=[.slice fr.A fr.n fr.c,.slice bl.A bl.n bl.c,.string (Qb s)]/\fr.ok/\Q6 Nv w fr.A fr.n FB/\bl.ok/\Q6 Nv w bl.A bl.n BB/\s.length<=maxLen:=by
 obtain⟨_,v0,_,e0,h0⟩:=FP (o:=0) (by kernel_rfl) h (by omega);obtain⟨_,v1,_,e1,h1⟩:=FP (o:=1) (by kernel_rfl) h (by omega);obtain⟨s,e2,k2⟩:=Wu (n:=6) (o:=2) underlying9 (by kernel_rfl) h (by omega);obtain⟨s0,l0,rfl,o0,r0⟩:=MK h0;obtain⟨s1,l1,rfl,o1,r1⟩:=MK h1;match cs,hl with
 | [a,b,c],_ => have q0:a=_:=NU e0;have q1:b=_:=NU e1;have q2:c=_:=NU e2;exact⟨s0,s1,l0,l1,_,by rw[q0,q1,q2],o0,r0,o1,r1,k2⟩
end
end Go.Proofs.YtfaplefkakpgcaaGreatDoor
