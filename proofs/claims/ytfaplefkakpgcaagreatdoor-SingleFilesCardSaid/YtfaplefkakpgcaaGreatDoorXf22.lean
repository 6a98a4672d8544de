/- Plain: the order of texts. -/
import Derived.Test.YtfaplefkakpgcaaGreatDoorProg
set_option linter.unusedVariables false
set_option linter.unusedSimpArgs false
set_option maxHeartbeats 32000000
set_option maxRecDepth 100000
namespace Go.Proofs.YtfaplefkakpgcaaGreatDoor
abbrev ltB (a b:List UInt8):Bool:=Op.bytesLess a b
theorem u8_lt_iff (a b:UInt8):a<b↔a.toNat<b.toNat:=UInt8.lt_iff_toNat_lt
theorem u8_eq_iff (a b:UInt8):a=b↔a.toNat=b.toNat:=⟨λh=>by rw[h],λh=>UInt8.toNat.inj h⟩
theorem ltB_irrefl:∀a:List UInt8,ltB a a=false
 | []=>rfl
 | c::a=>by have:=ltB_irrefl a;simp only[Op.bytesLess,u8_lt_iff,Nat.lt_irrefl,decide_false,Bool.false_or,beq_self_eq_true,Bool.true_and];exact this
theorem ltB_cons (c d:UInt8) (a b:List UInt8):ltB (c::a) (d::b)=true↔c.toNat<d.toNat\/(c.toNat=d.toNat/\ltB a b=true):=by
 simp only[Op.bytesLess,u8_lt_iff,Bool.or_eq_true,decide_eq_true_eq,Bool.and_eq_true,beq_iff_eq,u8_eq_iff]
theorem ltB_trans:∀(a b c:List UInt8),ltB a b=true->ltB b c=true->ltB a c=true
 | _,_,[],_,h=>by simp[Op.bytesLess]at h
 | _,[],_::_,h,_=>by simp[Op.bytesLess]at h
 | [],_::_,_::_,_,_=>rfl
 | x::a,y::b,z::c,h1,h2=>by
  rw[ltB_cons]at *;rcases h1 with h1|⟨e1,h1⟩<;>rcases h2 with h2|⟨e2,h2⟩
  ·exact .inl (by omega)
  ·exact .inl (by omega)
  ·exact .inl (by omega)
  ·exact .inr ⟨by omega,ltB_trans a b c h1 h2⟩
end Go.Proofs.YtfaplefkakpgcaaGreatDoor
