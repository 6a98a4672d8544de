/- The document's decimal texts: Dec. -/
import Derived.Test.YtfaplefkakpgcaaGreatDoorXf10
import Derived.Test.YtfaplefkakpgcaaGreatDoorXf11
set_option linter.unusedVariables false
set_option linter.unusedSimpArgs false
set_option maxHeartbeats 32000000
set_option maxRecDepth 100000
namespace Go.Proofs.YtfaplefkakpgcaaGreatDoor
open Go.Proofs.Tryz
open Go.RowKit
theorem itoa_small {n:Int}(h0:0<=n) (h:n<10):Lib.itoa n=[b8 (48+n)]:=by
 unfold Lib.itoa;rw[if_neg (by omega),Lib.decDigits_one (by omega),show(48:Int)+n=((48+n.toNat:Nat):Int) by omega,b8_nat]
theorem itoa_neg {n:Int}(h:n<0):Lib.itoa n=45::Lib.itoa (-n):=by
 unfold Lib.itoa;rw[if_pos h,if_neg (by omega),show(-n).toNat=n.natAbs by omega]
theorem digits_step {u:Nat}(h:10<=u):Lib.decDigits u=Lib.decDigits (u/10)++[UInt8.ofNat (48+u%10)]:=by
 rw[Lib.decDigits,dif_neg (by omega)]
theorem itoa_big {n:Int}(h:10<=n):Lib.itoa n=Lib.itoa (n/10)++Lib.itoa (n%10):=by
 obtain⟨u,rfl⟩:∃u:Nat,n=u:=⟨n.toNat,by omega⟩
 rw[itoa_small (n:=(u:Int)%10) (by omega) (by omega)];unfold Lib.itoa;rw[if_neg (by omega),if_neg (by omega),show((u:Int)).toNat=u by omega,show((u:Int)/10).toNat=u/10 by omega,digits_step (by omega),show(48:Int)+(u:Int)%10=((48+u%10:Nat):Int) by omega,b8_nat]
theorem itoa_low {n:Int}(h:n<=-10):Lib.itoa n=Lib.itoa (-(-n/10))++Lib.itoa (-n%10):=by
 rw[itoa_neg (by omega),itoa_big (by omega),itoa_neg (n:=-(-n/10)) (by omega),show - -(-n/10)= -n/10 by omega];rfl
theorem rdec_small (n:Int) (w:World) (h0:0<=n) (h:n<10) :
  Calls prog 157 #[.int .i64 n] w λe w'=>e=.returned (.string (str (Lib.itoa n)))/\Ext w w':=by
 have hc:=conv_one w (48+n) w.heap.size rfl;have hl:=lh_ (itoa_small h0 h);have hw:IntKind.u8.wrap (48+n)=48+n:=by rw[IntKind.wrap_u8'];omega
 go_enter func157,ntmps157;go_wp2_with fail;go_ret;exact⟨by rw[hl.out];rfl,(Ext.refl w).alloc _⟩
theorem rdec_neg (n:Int) (w:World) (h0:n<0) (h: -10<n) :
  Calls prog 157 #[.int .i64 n] w λe w'=>e=.returned (.string (str (Lib.itoa n)))/\Ext w w':=by
 have hl:=lh_ (itoa_neg h0);have HI:=lh_ (λw=>rdec_small (-n) w (by omega) (by omega));have HL:=lh_ (show(Lib.itoa (-n)).length<=20 from itoa_len (by omega) (by omega));have h1:¬0<=n:=by omega
 go_enter func157,ntmps157;have hz:=str_size;have hap:=str_app [45];have hl2:=HL.out;go_wp2_with (go_at_call 157;with_reducible (refine(HI.out _).mono ?_);rintro e w2 ⟨rfl,x2⟩)
 go_ret;exact⟨by rw[hl.out];rfl,x2⟩
theorem rdec_step (n q r:Int) (w:World) (hn:N64 n) (hb:10<=n\/n<=-10) (hq:q=if 0<=n then n/10 else -(-n/10)) (hr:r=if 0<=n then n%10 else -n%10)
  (HQD:Hid (∀w,Calls prog 157 #[.int .i64 q] w λe w'=>e=.returned (.string (str (Lib.itoa q)))/\Ext w w'))
  (HRD:Hid (∀w,Calls prog 157 #[.int .i64 r] w λe w'=>e=.returned (.string (str (Lib.itoa r)))/\Ext w w')) :
  Calls prog 157 #[.int .i64 n] w λe w'=>e=.returned (.string (str (Lib.itoa n)))/\Ext w w':=by
 have hN:=hn;unfold N64 at hN;have HI:=lh_ (show Lib.itoa n=Lib.itoa q++Lib.itoa r by
  rcases hb with h|h
  ·rw[hq,hr,if_pos (by omega),if_pos (by omega)];exact itoa_big h
  ·rw[hq,hr,if_neg (by omega),if_neg (by omega)];exact itoa_low h)
 have HL:=lh_ (show(Lib.itoa q).length<=20/\(Lib.itoa r).length<=20 by
  constructor
  ·refine itoa_len ?_ ?_<;>(rw[hq];split<;>omega)
  ·refine itoa_len ?_ ?_<;>(rw[hr];split<;>omega))
 have HQ:=lh_ (show n.tdiv 10=q by
  rw[hq];split
  ·exact Int.tdiv_eq_ediv_of_nonneg (by omega)
  ·have:=Int.neg_tdiv (-n) 10;rw[Int.neg_neg]at this;rw[this,Int.tdiv_eq_ediv_of_nonneg (by omega)])
 have HR:=lh_ (show n.tmod 10=if 0<=n then r else -r by
  rw[hr];split
  ·exact Int.tmod_eq_emod_of_nonneg (by omega)
  ·have:=Int.neg_tmod (-n) 10;rw[Int.neg_neg]at this;rw[this,Int.tmod_eq_emod_of_nonneg (by omega)])
 have HW:=lh_ (show wrap64 q=q by unfold wrap64;rw[hq];split<;>omega);have HRB:=lh_ (show 0<=r/\r<10 by rw[hr];split<;>omega);clear hq hr hn;rcases hb with h|h
 ·have h1:0<=n:=by omega
  have h2:¬n<10:=by omega
  have h3:¬n<0:=by omega
  have hr:n.tmod 10=r:=by rw[HR.out,if_pos h1]
  have hr0:¬r<0:=by have:=HRB.out;omega
  go_enter func157,ntmps157;go_upto_region 8 with fail;have hap:=str_app;have hz:=str_size;have hl1:=HL.out.1;have hl2:=HL.out.2;have hq:=HQ.out;have hqw:wrap64 q=q:=HW.out
  go_wp2_with (first
   | (go_at_call 157;with_reducible (refine(HQD.out _).mono ?_);rintro e w2 ⟨rfl,x2⟩)
   | (go_at_call 157;with_reducible (refine(HRD.out _).mono ?_);rintro e w3 ⟨rfl,x3⟩))
  go_ret;exact⟨by rw[HI.out];rfl,x2.trans x3⟩
 ·have h1:¬0<=n:=by omega
  have h3:n<0:=by omega
  have h4:¬ -10<n:=by omega
  have hr:n.tmod 10= -r:=by rw[HR.out,if_neg h1]
  have HR2:=HRB.out;go_enter func157,ntmps157;by_cases hr0:r=0
  ·subst hr0;go_upto_region 8 with fail;have hap:=str_app;have hz:=str_size;have hl1:=HL.out.1;have hl2:=HL.out.2;have hq:=HQ.out;have hqw:wrap64 q=q:=HW.out
   go_wp2_with (first
    | (go_at_call 157;with_reducible (refine(HQD.out _).mono ?_);rintro e w2 ⟨rfl,x2⟩)
    | (go_at_call 157;with_reducible (refine(HRD.out _).mono ?_);rintro e w3 ⟨rfl,x3⟩))
   go_ret;exact⟨by rw[HI.out];rfl,x2.trans x3⟩
  ·have hr1: -r<0:=by omega
   go_upto_region 8 with fail;have hap:=str_app;have hz:=str_size;have hl1:=HL.out.1;have hl2:=HL.out.2;have hq:=HQ.out;have hqw:wrap64 q=q:=HW.out
   go_wp2_with (first
    | (go_at_call 157;with_reducible (refine(HQD.out _).mono ?_);rintro e w2 ⟨rfl,x2⟩)
    | (go_at_call 157;with_reducible (refine(HRD.out _).mono ?_);rintro e w3 ⟨rfl,x3⟩))
   go_ret;exact⟨by rw[HI.out];rfl,x2.trans x3⟩
theorem rdec_fuel (f:Nat):∀(n:Int) (w:World),N64 n->n.natAbs<=f->
  Calls prog 157 #[.int .i64 n] w λe w'=>e=.returned (.string (str (Lib.itoa n)))/\Ext w w':=by
 induction f with
 | zero=>intro n w _ hf;exact rdec_small n w (by omega) (by omega)
 | succ f ih =>
  intro n w hn hf;by_cases h:0<=n/\n<10
  ·exact rdec_small n w h.1 h.2
  by_cases h2:n<0/\-10<n
  ·exact rdec_neg n w h2.1 h2.2
  have hN:=hn;unfold N64 at hN;refine rdec_step n _ _ w hn (by omega) rfl rfl (lh_ (λw=>ih _ w ?_ ?_)) (lh_ (λw=>ih _ w ?_ ?_))
  ·unfold N64;split<;>omega
  ·split<;>omega
  ·unfold N64;split<;>omega
  ·split<;>omega
theorem rdec_any (n:Int) (w:World) (hn:N64 n) :
  Calls prog 157 #[.int .i64 n] w λe w'=>e=.returned (.string (str (Lib.itoa n)))/\Ext w w':=rdec_fuel _ n w hn (Nat.le_refl _)
end Go.Proofs.YtfaplefkakpgcaaGreatDoor
