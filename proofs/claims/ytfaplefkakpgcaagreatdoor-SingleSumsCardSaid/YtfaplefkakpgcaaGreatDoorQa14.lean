import Derived.Test.YtfaplefkakpgcaaGreatDoorProg
set_option linter.unusedVariables false
set_option linter.unusedSimpArgs false
set_option maxHeartbeats 32000000
set_option maxRecDepth 100000
namespace Go.Proofs.YtfaplefkakpgcaaGreatDoor
abbrev N8 (a b:List UInt8):Bool:=Op.bytesLess a b
theorem AG (a b:UInt8):a<b↔a.toNat<b.toNat:=UInt8.lt_iff_toNat_lt
theorem AF (a b:UInt8):a=b↔a.toNat=b.toNat:=⟨λh=>by rw[h],λh=>UInt8.toNat.inj h⟩
theorem I9 (c d:UInt8) (a b:List UInt8):N8 (c::a) (d::b)=true↔c.toNat<d.toNat\/(c.toNat=d.toNat/\N8 a b=true):=by
 simp only[Op.bytesLess,AG,Bool.or_eq_true,decide_eq_true_eq,Bool.and_eq_true,beq_iff_eq,AF]
theorem Nj:∀(a b c:List UInt8),N8 a b=true->N8 b c=true->N8 a c=true
 | _,_,[],_,h=>by simp[Op.bytesLess]at h
 | _,[],_::_,h,_=>by simp[Op.bytesLess]at h
 | [],_::_,_::_,_,_=>rfl
 | x::a,y::b,z::c,h1,h2=>by
  rw[I9]at *;rcases h1 with h1|⟨e1,h1⟩<;>rcases h2 with h2|⟨e2,h2⟩
  ·exact .inl (by omega)
  ·exact .inl (by omega)
  ·exact .inl (by omega)
  ·exact .inr ⟨by omega,Nj a b c h1 h2⟩
end Go.Proofs.YtfaplefkakpgcaaGreatDoor
