import Derived.Test.YtfaplefkakpgcaaGreatDoorPl23
import Derived.Lib.Bytealg
import Derived.Lib.LastIndexByte
set_option linter.unusedVariables false
set_option linter.unusedSimpArgs false
set_option maxHeartbeats 32000000
set_option maxRecDepth 100000
namespace Go.Proofs.YtfaplefkakpgcaaGreatDoor
open Go
def Vb (q:List UInt8):List UInt8:=q.takeWhile (λc=>c != 47)
def Ys (q:List UInt8):List UInt8:=q.dropWhile (λc=>c != 47)
theorem Re (q:List UInt8):Vb q++Ys q=q:=List.takeWhile_append_dropWhile
theorem MH (q:List UInt8):(Vb q).length+(Ys q).length=q.length:=by
 have:=congrArg List.length (Re q);rwa [VL]at this
theorem Hb (q:List UInt8):Ys q=[]\/∃r,Ys q=47::r:=by
 induction q with
 | nil=>exact .inl rfl
 | cons c q ih =>
  unfold Ys at *;by_cases h:c=47
  ·subst h;exact .inr ⟨q,by simp⟩
  ·have h1:(c != 47)=true:=by simpa using h
   rw[List.dropWhile_cons,h1];exact ih
theorem dM (q:List UInt8):Lib.indexByte q 47=if Ys q=[] then -1 else ((Vb q).length:Int):=by
 induction q with
 | nil=>rfl
 | cons c q ih =>
  unfold Lib.indexByte Vb Ys;by_cases h:c=47
  ·subst h;simp
  ·have h1:(c != 47)=true:=by simpa using h
   have h2:(c==47)=false:=by simpa using h
   unfold Vb Ys at ih;rw[List.dropWhile_cons,List.takeWhile_cons,h1,h2,ih];by_cases h3:List.dropWhile (λc=>c != 47) q=[]
   ·simp[h3]
   ·simp only[QD h3,Bool.false_eq_true,if_false,if_true,XN];rw[QD (by simp only[ng];omega)];omega
def ZJ:List UInt8->List (List UInt8)
 | []=>[]
 | _::q=>Vb q::ZJ (Ys q)
termination_by l=>l.length
decreasing_by
 have:=MH q;simp only[XN];omega
theorem UN:ZJ []=[]:=by rw[ZJ]
theorem Kx (c:UInt8) (q:List UInt8):ZJ (c::q)=Vb q::ZJ (Ys q):=by rw[ZJ]
theorem UM:∀(n:Nat) (l:List UInt8),l.length<=n->(ZJ l).length<=l.length/\∀x∈ZJ l,x.length<=l.length
 | _,[],_=>by rw[UN];exact⟨Q4 _,λx h=>absurd h Rw⟩
 | n+1,c::q,h=>by
  rw[Kx];have hs:=MH q;have ih:=UM n (Ys q) (by simp at h;omega);refine⟨by simp only[XN];omega,λx hx=>?_⟩;rcases Pm.1 hx with rfl|hx
  ·simp only[XN];omega
  ·have:=ih.2 x hx;simp only[XN];omega
def Q9 (p:List UInt8):List (List UInt8):=if p=[47] then [] else ZJ p
theorem Nc (p:List UInt8):(Q9 p).length<=p.length/\∀x∈Q9 p,x.length<=p.length:=by
 unfold Q9;split
 ·exact⟨WP _,λx h=>absurd h Rw⟩
 ·exact UM _ p (Q4 _)
end Go.Proofs.YtfaplefkakpgcaaGreatDoor
