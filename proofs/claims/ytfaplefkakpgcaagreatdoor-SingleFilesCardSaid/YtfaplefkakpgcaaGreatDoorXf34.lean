/- The names of a path: plain. -/
import Derived.Test.YtfaplefkakpgcaaGreatDoorXf33
import Derived.Lib.Bytealg
import Derived.Lib.LastIndexByte
set_option linter.unusedVariables false
set_option linter.unusedSimpArgs false
set_option maxHeartbeats 32000000
set_option maxRecDepth 100000
namespace Go.Proofs.YtfaplefkakpgcaaGreatDoor
open Go
def segP (q:List UInt8):List UInt8:=q.takeWhile (λc=>c != 47)
def restP (q:List UInt8):List UInt8:=q.dropWhile (λc=>c != 47)
theorem seg_rest (q:List UInt8):segP q++restP q=q:=List.takeWhile_append_dropWhile
theorem seg_len (q:List UInt8):(segP q).length+(restP q).length=q.length:=by
 have:=congrArg List.length (seg_rest q);rwa [List.length_append]at this
theorem restP_head (q:List UInt8):restP q=[]\/∃r,restP q=47::r:=by
 induction q with
 | nil=>exact .inl rfl
 | cons c q ih =>
  unfold restP at *;by_cases h:c=47
  ·subst h;exact .inr ⟨q,by simp⟩
  ·have h1:(c != 47)=true:=by simpa using h
   rw[List.dropWhile_cons,h1];exact ih
theorem index_seg (q:List UInt8):Lib.indexByte q 47=if restP q=[] then -1 else ((segP q).length:Int):=by
 induction q with
 | nil=>rfl
 | cons c q ih =>
  unfold Lib.indexByte segP restP;by_cases h:c=47
  ·subst h;simp
  ·have h1:(c != 47)=true:=by simpa using h
   have h2:(c==47)=false:=by simpa using h
   unfold segP restP at ih;rw[List.dropWhile_cons,List.takeWhile_cons,h1,h2,ih];by_cases h3:List.dropWhile (λc=>c != 47) q=[]
   ·simp[h3]
   ·simp only[if_neg h3,Bool.false_eq_true,if_false,if_true,List.length_cons];rw[if_neg (by simp only[beq_iff_eq];omega)];omega
def partsP:List UInt8->List (List UInt8)
 | []=>[]
 | _::q=>segP q::partsP (restP q)
termination_by l=>l.length
decreasing_by
 have:=seg_len q;simp only[List.length_cons];omega
theorem partsP_nil:partsP []=[]:=by rw[partsP]
theorem partsP_cons (c:UInt8) (q:List UInt8):partsP (c::q)=segP q::partsP (restP q):=by rw[partsP]
theorem partsP_len:∀(n:Nat) (l:List UInt8),l.length<=n->(partsP l).length<=l.length/\∀x∈partsP l,x.length<=l.length
 | _,[],_=>by rw[partsP_nil];exact⟨Nat.le_refl _,λx h=>absurd h List.not_mem_nil⟩
 | n+1,c::q,h=>by
  rw[partsP_cons];have hs:=seg_len q;have ih:=partsP_len n (restP q) (by simp at h;omega);refine⟨by simp only[List.length_cons];omega,λx hx=>?_⟩;rcases List.mem_cons.1 hx with rfl|hx
  ·simp only[List.length_cons];omega
  ·have:=ih.2 x hx;simp only[List.length_cons];omega
def pathP (p:List UInt8):List (List UInt8):=if p=[47] then [] else partsP p
theorem pathP_len (p:List UInt8):(pathP p).length<=p.length/\∀x∈pathP p,x.length<=p.length:=by
 unfold pathP;split
 ·exact⟨Nat.zero_le _,λx h=>absurd h List.not_mem_nil⟩
 ·exact partsP_len _ p (Nat.le_refl _)
end Go.Proofs.YtfaplefkakpgcaaGreatDoor
