import Derived.Test.YtfaplefkakpgcaaGreatDoorQa4
import Derived.Test.YtfaplefkakpgcaaGreatDoorQa17
import Derived.Test.YtfaplefkakpgcaaGreatDoorQa1
import Derived.Lib.ConvBytes
set_option linter.unusedVariables false
set_option linter.unusedSimpArgs false
set_option maxHeartbeats 32000000
set_option maxRecDepth 100000
namespace Go.Proofs.YtfaplefkakpgcaaGreatDoor
open Go.Proofs.Tryz
open Go.RowKit Go.Shelf Go.Sort
theorem CD {w w':World}{name:String}{cs:Array Value}(x:Ext w w') (h:w.var? prog name=some cs):w'.var? prog name=some cs:=by
 unfold World.var? at h ⊢;cases hg:prog.globalNamed name with
 | none=>rw[hg]at h;cases h
 | some g =>
  rw[hg]at h;simp only[Option.bind_some]at h ⊢;split at h
  ·rename_i cs' t fz hb;have Qo:g<w.heap.size:=(SK.1 hb).1;rw[Below.block x g Qo,hb];exact h
  ·cases h
structure JW (w:World):Prop where
 tab:Lib.TabIs prog w "internal/strconv.uint64pow10" .u64 Lib.pow10Tab
 syn:∀g,prog.globalNamed "strconv.ErrSyntax"=some g->∃te pe,w.cell? ⟨g,0,none⟩=some (.iface te pe)
 rng:∀g,prog.globalNamed "strconv.ErrRange"=some g->∃te pe,w.cell? ⟨g,0,none⟩=some (.iface te pe)
theorem JW.ext {w w':World}(h:JW w) (x:Ext w w'):JW w' :=
 ⟨CD x h.tab,λg hg=>by obtain⟨te,pe,e⟩:=h.syn g hg;exact⟨te,pe,x.keep e⟩,λg hg=>by obtain⟨te,pe,e⟩:=h.rng g hg;exact⟨te,pe,x.keep e⟩⟩
theorem Bh (w:World) (q:Nat) (os:Array Obj):Ext w (grow (w.drewN q) os) :=
 ⟨rfl,rfl,rfl,by simp[grow],λk hk=>by
  show(w.heap++os)[k]? =_;rw[Array.getElem?_append_left hk]⟩
theorem DL (n:Int) (w:World) (h:Pu n) (hD:JW w) :
  Calls prog 174 #[.int .i64 n] w λe w'=>e=.returned (.string (Qb (Lib.itoa n)))/\Ext w w':=by
 have HF:=Qa (Tryz.strconv_FormatInt_10 n h.1 h.2 w hD.tab);clear hD h;go_enter func174,ntmps174;go_wp2_with (go_at_call 211;refine HF.o.mono ?_;rintro e w1 ⟨rfl,q,os,Xo⟩;have x1:Ext w w1:=(by rw[Xo];exact Bh w q os);clear Xo)
 go_ret;exact⟨rfl,x1⟩
theorem CH (w:World) (t:TypeId) (s:ByteArray):Ext w (Lib.bytesWorld w t s):=by
 have h:Ext w (w.drew.alloc (.cells (Lib.bytesCells w t s) t)):=(Qf w).drew.alloc _;refine⟨rfl,rfl,rfl,?_,λk hk=>?_⟩
 ·have h2:=h.size;unfold Lib.bytesWorld World.freeze;rw[Qr (by omega)];show _<=(Array.modify _ _ _).size;rw[Array.size_modify];exact h2
 ·rw[←Below.block h k hk];unfold Lib.bytesWorld World.freeze;rw[Qr (by omega)];show(Array.modify _ _ _)[k]? =_;rw[rU,Qr (Nat.ne_of_gt hk)]
theorem RS {w w1:World}{t:TypeId}(h:w1=w\/∃s,w1=Lib.bytesWorld w t s):Ext w w1:=by
 rcases h with e|⟨s,e⟩
 ·rw[e];exact Qf _
 ·rw[e];exact CH _ _ _
theorem EA {s:List UInt8}{v:Int}(h:Lib.parseIntB 64 s=.ok v):Pu v:=by
 unfold Lib.parseIntB at h;split at h
 ·cases h
 ·rename_i c r;simp only at h;split at h
  ·cases h
  ·cases h
  ·rename_i u hu;split at h
   ·cases h
   ·rename_i h1;split at h
    ·cases h
    ·rename_i h2;injection h with h;have e63:(2:Nat)^(64-1)=9223372036854775808:=by decide
     rw[e63]at h1 h2;by_cases hn:c.toNat=45
     ·rw[Qv hn]at h;have:¬9223372036854775808<u:=λk=>h2 ⟨hn,k⟩;exact⟨by omega,by omega⟩
     ·rw[Qr hn]at h;have:¬9223372036854775808<=u:=λk=>h1 ⟨hn,k⟩;exact⟨by omega,by omega⟩
def Rj (s:List UInt8):Ending:=.returned (.tuple #[.int .i64 ((Zd s).getD 0),.bool (Zd s).isSome])
theorem dQ (s:List UInt8) (w:World) (hs:s.length<=281474976710656) (hD:JW w) :
  Calls prog 191 #[.string (Qb s)] w λe w'=>e=Rj s/\Ext w w':=by
 have q0:∀w:World,(binOp .neq 174 .nilIface .nilIface).run prog w=.ok (.bool false) w:=λ_=>rfl;have q1:∀(w:World) (t:TypeId) (p:Value),(binOp .neq 174 (.iface t p) .nilIface).run prog w=.ok (.bool true) w:=λ_ _ _=>rfl;have hz:(Qb s).size<=281474976710656:=by rw[Qh];exact hs
 rcases hp:Lib.parseIntB 64 s with v|_|_
 ·have hv:=EA hp;have HP:=Qa (Tryz.strconv_ParseInt_10_at64_ok (Qb s) (by omega) v hp w);have HD:=Qa (λw' (x:Ext w w')=>DL v w' hv (hD.ext x));by_cases he:Lib.itoa v=s
  ·have hq:((Qb (Lib.itoa v)).toList==(Qb s).toList)=true:=by rw[Ql,Ql];simpa using he
   have hR:Rj s=.returned (.tuple #[.int .i64 v,.bool true]):=by unfold Rj Zd;rw[hp];simp[he]
   rw[hR];clear hR hp hD hz;go_enter func191,ntmps191
   go_wp2_with (first
    | (go_at_call 221;refine HP.o.mono ?_;rintro e w1 ⟨rfl,Xo⟩;have x1:=RS Xo;clear Xo)
    | (go_at_call 174;refine(HD.o _ x1).mono ?_;rintro e w2 ⟨rfl,x2⟩))
   go_ret2;exact⟨rfl,x1.trans x2⟩
  ·have hq:((Qb (Lib.itoa v)).toList==(Qb s).toList)=false:=by rw[Ql,Ql];simpa using he
   have hR:Rj s=.returned (.tuple #[.int .i64 0,.bool false]):=by unfold Rj Zd;rw[hp];simp[he]
   rw[hR];clear hR hp hD hz he;go_enter func191,ntmps191
   go_wp2_with (first
    | (go_at_call 221;refine HP.o.mono ?_;rintro e w1 ⟨rfl,Xo⟩;have x1:=RS Xo;clear Xo)
    | (go_at_call 174;refine(HD.o _ x1).mono ?_;rintro e w2 ⟨rfl,x2⟩))
   go_ret2;exact⟨rfl,x1.trans x2⟩
 ·obtain⟨te,pe,hev⟩:=hD.syn _ (by kernel_rfl);have HP:=Qa (Tryz.strconv_ParseInt_10_at64_syntax (Qb s) hz hp _ w hev (.inr ⟨te,pe,rfl⟩));have hR:Rj s=.returned (.tuple #[.int .i64 0,.bool false]):=by unfold Rj Zd;rw[hp];rfl
  rw[hR];clear hR hp hD hz hev;go_enter func191,ntmps191;go_wp2_with (go_at_call 221;refine HP.o.mono ?_;rintro e w1 ⟨N,rfl,_,_,hb⟩;have x1:Ext w w1:=hb)
  go_ret2;exact⟨rfl,x1⟩
 ·obtain⟨te,pe,hev⟩:=hD.rng _ (by kernel_rfl);have HP:=Qa (Tryz.strconv_ParseInt_10_at64_range (Qb s) hz hp _ w hev (.inr ⟨te,pe,rfl⟩));have hR:Rj s=.returned (.tuple #[.int .i64 0,.bool false]):=by unfold Rj Zd;rw[hp];rfl
  rw[hR];clear hR hp hD hz hev;go_enter func191,ntmps191;go_wp2_with (go_at_call 221;refine HP.o.mono ?_;rintro e w1 ⟨N,rfl,_,_,hb⟩;have x1:Ext w w1:=hb)
  go_ret2;exact⟨rfl,x1⟩
end Go.Proofs.YtfaplefkakpgcaaGreatDoor
