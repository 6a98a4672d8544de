import Derived.Lib.ItoaNum
import Derived.Lib.ParseIntB
set_option linter.unusedVariables false
set_option linter.unusedSimpArgs false
set_option maxHeartbeats 32000000
set_option maxRecDepth 100000
namespace Go.Proofs.YtfaplefkakpgcaaGreatDoor
theorem Ub {d:Nat}(h:d<10):(UInt8.ofNat (48+d)).toNat=48+d:=by
 rw[UInt8.toNat_ofNat'];omega
theorem CT {u:Nat}:∀c∈Lib.decDigits u,48<=c.toNat/\c.toNat<=57:=by
 induction u using Nat.strongRecOn with
 | ind u ih =>
  intro c hc;rw[Lib.decDigits]at hc;split at hc
  ·rename_i h;obtain rfl:=List.mem_singleton.1 hc;rw[Ub h];omega
  ·rename_i h;rcases List.mem_append.1 hc with h1|h1
   ·exact ih (u/10) (by omega) c h1
   ·obtain rfl:=List.mem_singleton.1 h1;rw[Ub (Nat.mod_lt _ (by omega))];omega
theorem P0 (u:Nat):Lib.decDigits u≠[]:=by
 rw[Lib.decDigits];split
 ·simp
 ·simp
theorem EC (M:Nat) (a b:List UInt8):∀acc v,Lib.parseUintM M acc a=.ok v->Lib.parseUintM M acc (a++b)=Lib.parseUintM M v b:=by
 induction a with
 | nil => intro acc v h;simp only[Lib.parseUintM]at h;injection h with h;rw[List.nil_append,h]
 | cons c a ih =>
  intro acc v h;simp only[Lib.parseUintM,List.cons_append]at h ⊢;split at h
  ·rename_i h1;rw[if_pos h1];split at h
   ·cases h
   ·rename_i h2;rw[if_neg h2];split at h
    ·cases h
    ·rename_i h3;rw[if_neg h3];exact ih _ _ h
  ·cases h
theorem WE {u:Nat}(h:u<18446744073709551616):Lib.parseUintM 18446744073709551615 0 (Lib.decDigits u)=.ok u:=by
 induction u using Nat.strongRecOn with
 | ind u ih =>
  rw[Lib.decDigits];split
  ·rename_i h1;simp only[Lib.parseUintM,Ub h1];rw[if_pos (by omega),if_neg (by omega),if_neg (by omega)];congr 1;omega
  ·rename_i h1;have h2:=ih (u/10) (by omega) (by omega);rw[EC _ _ _ _ _ h2];have h3:=Nat.mod_lt u (show 10 > 0 by omega);simp only[Lib.parseUintM,Ub h3];rw[if_pos (by omega),if_neg (by omega),if_neg (by omega)];congr 1;omega
theorem EB {n:Int}(h0: -9223372036854775808<=n) (h1:n<=9223372036854775807):Lib.parseIntB 64 (Lib.itoa n)=.ok n:=by
 unfold Lib.itoa;split
 ·rename_i hn;obtain⟨u,hu⟩:∃u,n.natAbs=u:=⟨_,rfl⟩
  rw[hu];unfold Lib.parseIntB;have h45:(45:UInt8).toNat=45:=rfl;simp only[h45,or_true,if_true];unfold Lib.parseUintB;rw[if_neg (P0 u)];have:=WE (u:=u) (by omega);rw[show 2^64-1=18446744073709551615 from rfl,this];simp only[not_true,false_and,if_false,true_and];rw[if_neg (by rw[show 2^(64-1)=9223372036854775808 from rfl];omega)];congr 1;omega
 ·rename_i hn;obtain⟨u,hu⟩:∃u,n.toNat=u:=⟨_,rfl⟩
  rw[hu];have hp:=WE (u:=u) (by omega);have hd:=@CT u;have QY:=P0 u;generalize Lib.decDigits u=l at *;cases l with
  | nil=>exact absurd rfl QY
  | cons c r =>
   have hc:=hd c List.mem_cons_self;unfold Lib.parseIntB;have h2:¬(c.toNat=43\/c.toNat=45):=by omega
   have h3:¬c.toNat=45:=by omega
   simp only[if_neg h2];unfold Lib.parseUintB;rw[if_neg QY,show 2^64-1=18446744073709551615 from rfl,hp];simp only[h3,not_false_eq_true,true_and,false_and,if_false];rw[if_neg (by rw[show 2^(64-1)=9223372036854775808 from rfl];omega)];congr 1;omega
theorem UO:∀(k u:Nat),u<10^(k+1)->(Lib.decDigits u).length<=k+1
 | 0,u,h=>by rw[Lib.decDigits,dif_pos (by simpa using h)];simp
 | k+1,u,h=>by
  rw[Lib.decDigits];split
  ·simp
  ·have:=UO k (u/10) (by rw[Nat.pow_succ]at h;omega);simp;omega
theorem JR {n:Int}(h0: -9223372036854775808<=n) (h1:n<=9223372036854775807):(Lib.itoa n).length<=20:=by
 unfold Lib.itoa;have vK:(10:Nat)^(18+1)=10000000000000000000:=by decide
 split
 ·have:=UO 18 n.natAbs (by rw[vK];omega);simp;omega
 ·have:=UO 18 n.toNat (by rw[vK];omega);omega
def Pu (n:Int):Prop:=-9223372036854775808<=n/\n<=9223372036854775807
def Zd (s:List UInt8):Option Int:=match Lib.parseIntB 64 s with
 | .ok n=>if Lib.itoa n=s then some n else none
 | _=>none
theorem J5 {n:Int}(h:Pu n):Zd (Lib.itoa n)=some n:=by
 unfold Zd;rw[EB h.1 h.2];simp
end Go.Proofs.YtfaplefkakpgcaaGreatDoor
