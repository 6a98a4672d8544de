import Derived.Test.YtfaplefkakpgcaaGreatDoorQa22
import Derived.Lib.Bytealg
import Derived.Lib.LastIndexByte
set_option linter.unusedVariables false
set_option linter.unusedSimpArgs false
set_option maxHeartbeats 32000000
set_option maxRecDepth 100000
namespace Go.Proofs.YtfaplefkakpgcaaGreatDoor
open Go
def Xj (q:List UInt8):List UInt8:=q.takeWhile (λc=>c != 47)
def ZP (q:List UInt8):List UInt8:=q.dropWhile (λc=>c != 47)
theorem WK (q:List UInt8):Xj q++ZP q=q:=List.takeWhile_append_dropWhile
theorem LK (q:List UInt8):(Xj q).length+(ZP q).length=q.length:=by
 have:=congrArg List.length (WK q);rwa [Kh]at this
theorem EM (q:List UInt8):ZP q=[]\/∃r,ZP q=47::r:=by
 induction q with
 | nil=>exact .inl rfl
 | cons c q ih =>
  unfold ZP at *;by_cases h:c=47
  ·subst h;exact .inr ⟨q,by simp⟩
  ·have h1:(c != 47)=true:=by simpa using h
   rw[List.dropWhile_cons,h1];exact ih
theorem BD (q:List UInt8):Lib.indexByte q 47=if ZP q=[] then -1 else ((Xj q).length:Int):=by
 induction q with
 | nil=>rfl
 | cons c q ih =>
  unfold Lib.indexByte Xj ZP;by_cases h:c=47
  ·subst h;simp
  ·have h1:(c != 47)=true:=by simpa using h
   have h2:(c==47)=false:=by simpa using h
   unfold Xj ZP at ih;rw[List.dropWhile_cons,List.takeWhile_cons,h1,h2,ih];by_cases h3:List.dropWhile (λc=>c != 47) q=[]
   ·simp[h3]
   ·simp only[Qr h3,Bool.false_eq_true,if_false,if_true,YV];rw[Qr (by simp only[beq_iff_eq];omega)];omega
def YI:List UInt8->List (List UInt8)
 | []=>[]
 | _::q=>Xj q::YI (ZP q)
termination_by l=>l.length
decreasing_by
 have:=LK q;simp only[YV];omega
theorem Rx:YI []=[]:=by rw[YI]
theorem NM (c:UInt8) (q:List UInt8):YI (c::q)=Xj q::YI (ZP q):=by rw[YI]
theorem Rw:∀(n:Nat) (l:List UInt8),l.length<=n->(YI l).length<=l.length/\∀x∈YI l,x.length<=l.length
 | _,[],_=>by rw[Rx];exact⟨QW _,λx h=>absurd h Td⟩
 | n+1,c::q,h=>by
  rw[NM];have hs:=LK q;have ih:=Rw n (ZP q) (by simp at h;omega);refine⟨by simp only[YV];omega,λx hx=>?_⟩;rcases TA.1 hx with rfl|hx
  ·simp only[YV];omega
  ·have:=ih.2 x hx;simp only[YV];omega
def QQ (p:List UInt8):List (List UInt8):=if p=[47] then [] else YI p
theorem Nm (p:List UInt8):(QQ p).length<=p.length/\∀x∈QQ p,x.length<=p.length:=by
 unfold QQ;split
 ·exact⟨AZ _,λx h=>absurd h Td⟩
 ·exact Rw _ p (QW _)
end Go.Proofs.YtfaplefkakpgcaaGreatDoor
