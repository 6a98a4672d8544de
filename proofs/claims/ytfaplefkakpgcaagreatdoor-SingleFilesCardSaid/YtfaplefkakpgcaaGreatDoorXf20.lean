/- The walks of a drive: drive.has, drive.Check, wal.journaled. -/
import Derived.Test.YtfaplefkakpgcaaGreatDoorXf19
import Derived.Test.YtfaplefkakpgcaaGreatDoorXf10
import Derived.Deep.MidRow
import Derived.Test.YtfaplefkakpgcaaGreatDoorXf14
import Derived.Test.YtfaplefkakpgcaaGreatDoorXf15
import Derived.Test.YtfaplefkakpgcaaGreatDoorXf17
import Derived.Test.YtfaplefkakpgcaaGreatDoorXf7
set_option linter.unusedVariables false
set_option linter.unusedSimpArgs false
set_option maxHeartbeats 32000000
set_option maxRecDepth 100000
namespace Go.Proofs.YtfaplefkakpgcaaGreatDoor
open Go.Proofs.Tryz
open Go.RowKit
def Wrs (w:World) (A:Option Addr) (n:Nat) (l:List WrT):Prop :=
 n=l.length/\(0<n->∃b o,A=some ⟨b,o,none⟩/\∀(j:Nat) (h:j<l.length),w.cell? ⟨b,o+j*2,none⟩=some (.int .i64 l[j].1)/\w.cell? ⟨b,o+j*2+1,none⟩=some (.string (str l[j].2)))
theorem Wrs.ext {w w':World}{A:Option Addr}{n:Nat}{l:List WrT}(h:Wrs w A n l) (k:Ext w w'):Wrs w' A n l :=
 ⟨h.1,λhn=>by obtain⟨b,o,e,hc⟩:=h.2 hn;exact⟨b,o,e,λj hj=>⟨k.keep (hc j hj).1,k.keep (hc j hj).2⟩⟩⟩
theorem RowOf.wrs {w:World}{A:Option Addr}{n:Nat}{l:List WrT}(h:RowOf wrL w A n l):Wrs w A n l:=by
 refine⟨h.1,λhn=>?_⟩;obtain⟨b,o,e,hc⟩:=h.2 hn;exact⟨b,o,e,λj hj=>⟨RowOf.cell (n:=n) hc (z:=2) (λx _=>rfl) hj (i:=0) (by omega) rfl,RowOf.cell (n:=n) hc (z:=2) (λx _=>rfl) hj (i:=1) (by omega) rfl⟩⟩
theorem RowOf.strs {w:World}{A:Option Addr}{n:Nat}{l:List (List UInt8)}(h:RowOf stL w A n l):Strs w A n l:=by
 refine⟨h.1,λhn=>?_⟩;obtain⟨b,o,e,hc⟩:=h.2 hn;refine⟨b,o,e,λj hj=>?_⟩;have:=RowOf.cell (n:=n) hc (z:=1) (λx _=>rfl) hj (i:=0) (by omega) rfl;rw[Nat.mul_one,Nat.add_zero]at this;exact this
theorem drvSize:(prog.info? 36).map (·.size)=some 3:=by kernel_rfl
theorem macSize:(prog.info? 38).map (·.size)=some 17:=by kernel_rfl
section
variable {ops:Array Oper}{rest:List Oper}{o:Oper}{a:Act}{w:World}{Q:Exit->Act->World->Prop}
theorem wp_ld_drv (x:Operand) (hgd:o.guard=none) (ho:o.op=.load 36 x) (g:Nat) (l:Array Value) (t:TypeId) (hx:a.eval x=.pointer (some ⟨g,0,none⟩))
  (hb:Box w g t l) (hl:l.size=3) (hK:wpList prog ops Q rest (a.put o.dst (.agg l)) w):wpList prog ops Q (o::rest) a w :=
 wp_ld _ x hgd ho g _ t _ hx hb underlying36 rfl (by rw[hl];exact drvSize) hK
theorem wp_ld_mac (x:Operand) (hgd:o.guard=none) (ho:o.op=.load 38 x) (g:Nat) (l:Array Value) (t:TypeId) (hx:a.eval x=.pointer (some ⟨g,0,none⟩))
  (hb:Box w g t l) (hl:l.size=17) (hK:wpList prog ops Q rest (a.put o.dst (.agg l)) w):wpList prog ops Q (o::rest) a w :=
 wp_ld _ x hgd ho g _ t _ hx hb underlying38 rfl (by rw[hl];exact macSize) hK
end
theorem has_any (bA pA:Option Addr) (bn bc pn pc:Nat) (left i:Int) (w:World) :
  Calls prog 162 #[.agg #[.slice bA bn bc,.slice pA pn pc,.int .i64 left],.int .i64 i] w λe w'=>e=.returned (.bool (decide (0<=i/\i<(bn:Int))))/\Ext w w':=by
 by_cases h0:0<=i
 ·by_cases h1:i<(bn:Int)
  ·go_enter func162,ntmps162;go_wp2_with fail;go_ret;exact⟨ret_bool (by simp[h0,h1]),(Ext.refl w).alloc _⟩
  ·have d1:decide (i<(bn:Int))=false:=by simpa using h1
   go_enter func162,ntmps162;go_wp2_with fail;go_ret;exact⟨ret_bool (by simp[h0,h1]),(Ext.refl w).alloc _⟩
 ·have d1:decide (0<=i)=false:=by simpa using h0
  go_enter func162,ntmps162;go_wp2_with fail;go_ret;exact⟨ret_bool (by simp[h0]),(Ext.refl w).alloc _⟩
theorem formE_take {B:List (List UInt8)}{k:Nat}(hk:k<B.length) (h:formE (B.take k)=0) (hl:B[k].length=128):formE (B.take (k+1))=0:=by
 rw[List.take_succ_eq_append_getElem hk,formE_app,if_neg (by simpa using h)];simp[formE,hl]
theorem formE_bad {B:List (List UInt8)}{k:Nat}(hk:k<B.length) (h:formE (B.take k)=0) (hl:B[k].length≠128):formE B=3:=by
 have e:B=B.take k++(B[k]::B.drop (k+1)):=by rw[List.getElem_cons_drop,List.take_append_drop]
 rw[e,formE_app,if_neg (by simpa using h),formE,if_pos hl]
theorem pendE_take {n:Nat}{p:List WrT}{k:Nat}(hk:k<p.length) (h:pendE n (p.take k)=0) (h0:0<=p[k].1) (h1:p[k].1<n) (hl:p[k].2.length=128):pendE n (p.take (k+1))=0:=by
 rw[List.take_succ_eq_append_getElem hk,pendE_app,if_neg (by simpa using h),pendE,if_neg (by omega),if_neg (by simpa using hl)];rfl
theorem pendE_at {n:Nat}{p:List WrT}{k:Nat}(hk:k<p.length) (h:pendE n (p.take k)=0):pendE n p=pendE n (p[k]::p.drop (k+1)):=by
 have e:p=p.take k++(p[k]::p.drop (k+1)):=by rw[List.getElem_cons_drop,List.take_append_drop]
 conv=>lhs;rw[e]
 rw[pendE_app,if_neg (by simpa using h)]
theorem dcheck_any (bA pA:Option Addr) (bn bc pn pc:Nat) (left:Int) (B:List (List UInt8)) (p:List WrT) (w:World) (hb:Strs w bA bn B) (hp:Wrs w pA pn p) (hpn:pn<=9223372036854775807) :
  Calls prog 93 #[.agg #[.slice bA bn bc,.slice pA pn pc,.int .i64 left]] w λe w'=>e=.returned (.int .i64 (drvE B p))/\Ext w w':=by
 obtain⟨rfl,hb2⟩:=hb;obtain⟨rfl,hp2⟩:=hp;have hz:=str_size;by_cases h256:256<B.length
 ·go_enter func93,ntmps93;go_wp2_with fail;go_ret;exact⟨ret_int (by unfold drvE;rw[if_pos h256]),(Ext.refl w).alloc _⟩
 have HD:=lh_ (show drvE B p=if formE B≠0 then 3 else pendE B.length p by unfold drvE;rw[if_neg h256]);go_enter func93,ntmps93;go_wp2_with fail;generalize hw1:w.alloc _=w1;have x1:Ext w w1:=by rw[← hw1];exact(Ext.refl _).alloc _
 have b1:Box w1 w.heap.size 36 #[.slice bA B.length bc,.slice pA p.length pc,.int .i64 left]:=by rw[← hw1];exact Box.new _ _ _
 clear hw1;have q1:=b1.cell 1;go_loop [4,14] (λ_ i=>∃k:Nat,k<=B.length/\i=.int .i64 k/\formE (B.take k)=0) (λ_ i=>B.length-(intOf i).toNat);case atStart=>exact⟨0,by omega,rfl,rfl⟩
 case round =>
  obtain⟨k,hk,rfl,hf⟩:=hrel;have HF:=lh_ hf;clear hf;by_cases hlt:k<B.length
  ·obtain⟨b,o,rfl,hcell⟩:=hb2 (by omega);have c1:=x1.keep (hcell k hlt);clear hcell;by_cases hl:B[k].length=128
   ·have HN:=lh_ (formE_take hlt HF.out hl);have hl':((B[k].length:Int) != 128)=false:=by rw[hl];rfl
    generalize B[k]=s at *;go_wp2_with fail;go_round;case rel=>exact⟨k+1,by omega,by go_num,HN.out⟩
    case measure=>simp[intOf];omega
   ·have HN:=lh_ (formE_bad hlt HF.out hl);have hl':((B[k].length:Int) != 128)=true:=by simp;omega
    generalize B[k]=s at *;go_wp2_with fail;go_ret;exact⟨ret_int (by rw[HD.out,HN.out];rfl),x1⟩
  ·obtain rfl:k=B.length:=by omega
   have HF2:=lh_ (show drvE B p=pendE B.length p by rw[HD.out];have:=HF.out;rw[List.take_length]at this;rw[if_neg (by simpa using this)]);clear HF HD;go_wp2_with fail;go_loopw [6,25] (λ_ i wx=>∃k:Nat,k<=p.length/\i=.int .i64 k/\pendE B.length (p.take k)=0/\Ext w1 wx) (λ_ i _=>p.length-(intOf i).toNat);case atStart=>exact⟨0,by omega,rfl,rfl,Ext.refl _⟩
   case round =>
    obtain⟨k,hk,rfl,hf,hx⟩:=hrel;have HF:=lh_ hf;clear hf;have bx:=b1.ext hx;by_cases hlt:k<p.length
    ·obtain⟨b,o,rfl,hcell⟩:=hp2 (by omega);have c1:=(x1.trans hx).keep (hcell k hlt).1;have c2:=(x1.trans hx).keep (hcell k hlt).2;clear hcell;have HA:=lh_ (pendE_at (n:=B.length) hlt HF.out);have HT:=lh_ (pendE_take (n:=B.length) hlt HF.out);clear HF;generalize p[k]=s at *;by_cases hin:0<=s.1/\s.1<(B.length:Int)
     ·have din:decide (0<=s.1/\s.1<(B.length:Int))=true:=decide_eq_true hin;by_cases hl:s.2.length=128
      ·have HN:=lh_ (HT.out hin.1 hin.2 hl);have hl':((s.2.length:Int) != 128)=false:=by rw[hl];rfl
       clear hin
       go_wp2_with (first
        | (refine wp_ld_drv (.tmp 1) rfl rfl w.heap.size _ 36 rfl (bx.ext ((Ext.refl _).alloc _)) rfl ?_)
        | (go_at_call 162;refine(has_any _ _ _ _ _ _ _ _ _).mono ?_;rintro e w2 ⟨rfl,x2⟩;rw[din];have y2:=(Box.new wr 92 #[.int .i64 s.1,.string (str s.2)]).ext x2;have y20:=y2.cell 1))
       go_roundw;case rel=>exact⟨k+1,by omega,by go_num,HN.out,hx.trans (((Ext.refl _).alloc _).trans x2)⟩
       case measure=>simp[intOf];omega
      ·have HN:=lh_ (show drvE B p=3 by rw[HF2.out,HA.out,pendE,if_neg (by omega),if_pos hl]);have hl':((s.2.length:Int) != 128)=true:=by simp;omega
       clear hin
       go_wp2_with (first
        | (refine wp_ld_drv (.tmp 1) rfl rfl w.heap.size _ 36 rfl (bx.ext ((Ext.refl _).alloc _)) rfl ?_)
        | (go_at_call 162;refine(has_any _ _ _ _ _ _ _ _ _).mono ?_;rintro e w2 ⟨rfl,x2⟩;rw[din];have y2:=(Box.new wr 92 #[.int .i64 s.1,.string (str s.2)]).ext x2;have y20:=y2.cell 1))
       go_ret;exact⟨ret_int HN.out.symm,x1.trans (hx.trans (((Ext.refl _).alloc _).trans x2))⟩
     ·have din:decide (0<=s.1/\s.1<(B.length:Int))=false:=decide_eq_false hin;have HN:=lh_ (show drvE B p=2 by rw[HF2.out,HA.out,pendE,if_pos (by omega)]);clear hin
      go_wp2_with (first
       | (refine wp_ld_drv (.tmp 1) rfl rfl w.heap.size _ 36 rfl (bx.ext ((Ext.refl _).alloc _)) rfl ?_)
       | (go_at_call 162;refine(has_any _ _ _ _ _ _ _ _ _).mono ?_;rintro e w2 ⟨rfl,x2⟩;rw[din];have y2:=(Box.new wr 92 #[.int .i64 s.1,.string (str s.2)]).ext x2;have y20:=y2.cell 1))
      go_ret;exact⟨ret_int HN.out.symm,x1.trans (hx.trans (((Ext.refl _).alloc _).trans x2))⟩
    ·obtain rfl:k=p.length:=by omega
     have HN:=lh_ (show drvE B p=0 by rw[HF2.out];have:=HF.out;rw[List.take_length]at this;exact this);clear HF;go_wp2_with fail;go_ret;exact⟨ret_int HN.out.symm,x1.trans hx⟩
theorem jrn_any (bA pA:Option Addr) (bn bc pn pc:Nat) (left:Int) (B:List (List UInt8)) (p:List WrT) (w:World) (hb:Strs w bA bn B) (hp:Wrs w pA pn p) (hpn:pn<=9223372036854775807) :
  Calls prog 95 #[.agg #[.slice bA bn bc,.slice pA pn pc,.int .i64 left]] w λe w'=>e=.returned (.int .i64 (jrnE B p))/\Ext w w':=by
 have HC:=lh_ (λw h1 h2=>dcheck_any bA pA bn bc pn pc left B p w h1 h2 hpn);obtain rfl:=hb.1;have xa:=(Ext.refl w).alloc (.cells #[.slice bA B.length bc,.slice pA pn pc,.int .i64 left] 36);have hs:=hb.ext xa;have hw:=hp.ext xa;by_cases hd:drvE B p=0
 ·rw[hd]at HC;by_cases h33:B.length<=33
  ·have HN:=lh_ (show jrnE B p=2 by unfold jrnE;rw[if_neg (by simpa using hd),if_pos h33]);go_enter func95,ntmps95;go_wp2_with (go_at_call 93;refine(HC.out _ hs hw).mono ?_;rintro e w1 ⟨rfl,x1⟩;have q0:=((Box.new w 36 #[.slice bA B.length bc,.slice pA pn pc,.int .i64 left]).ext x1).cell 0)
   go_ret;exact⟨ret_int HN.out.symm,xa.trans x1⟩
  ·have HN:=lh_ (show jrnE B p=0 by unfold jrnE;rw[if_neg (by simpa using hd),if_neg h33]);go_enter func95,ntmps95;go_wp2_with (go_at_call 93;refine(HC.out _ hs hw).mono ?_;rintro e w1 ⟨rfl,x1⟩;have q0:=((Box.new w 36 #[.slice bA B.length bc,.slice pA pn pc,.int .i64 left]).ext x1).cell 0)
   go_ret;exact⟨ret_int HN.out.symm,xa.trans x1⟩
 ·have HN:=lh_ (show jrnE B p=drvE B p by unfold jrnE;rw[if_pos hd]);have d1:(drvE B p != 0)=true:=by simpa using hd
  clear hd;generalize drvE B p=dd at *;go_enter func95,ntmps95;go_wp2_with (go_at_call 93;refine(HC.out _ hs hw).mono ?_;rintro e w1 ⟨rfl,x1⟩)
  go_ret;exact⟨ret_int HN.out.symm,xa.trans x1⟩
theorem rdcheck_any (bA pA:Option Addr) (bn bc pn pc:Nat) (left:Int) (B:List (List UInt8)) (p:List WrT) (w:World) (hb:Strs w bA bn B) (hp:Wrs w pA pn p) (hpn:pn<=9223372036854775807) :
  Calls prog 98 #[.agg #[.slice bA bn bc,.slice pA pn pc,.int .i64 left]] w λe w'=>e=.returned (.int .i64 (drvE B p))/\Ext w w':=by
 obtain⟨rfl,hb2⟩:=hb;obtain⟨rfl,hp2⟩:=hp;have hz:=str_size;by_cases h256:256<B.length
 ·go_enter func98,ntmps98;go_wp2_with fail;go_ret;exact⟨ret_int (by unfold drvE;rw[if_pos h256]),(Ext.refl w).alloc _⟩
 have HD:=lh_ (show drvE B p=if formE B≠0 then 3 else pendE B.length p by unfold drvE;rw[if_neg h256]);go_enter func98,ntmps98;go_wp2_with fail;generalize hw1:w.alloc _=w1;have x1:Ext w w1:=by rw[← hw1];exact(Ext.refl _).alloc _
 have b1:Box w1 w.heap.size 36 #[.slice bA B.length bc,.slice pA p.length pc,.int .i64 left]:=by rw[← hw1];exact Box.new _ _ _
 clear hw1;go_loop [3] (λi=>∃k:Nat,k<=B.length/\i=.int .i64 k/\formE (B.take k)=0) (λi=>B.length-(intOf i).toNat);case atStart=>exact⟨0,by omega,rfl,rfl⟩
 case round =>
  obtain⟨k,hk,rfl,hf⟩:=hrel;have HF:=lh_ hf;clear hf;have q0:=b1.cell 0;have q1:=b1.cell 1;by_cases hlt:k<B.length
  ·obtain⟨b,o,rfl,hcell⟩:=hb2 (by omega);have c1:=x1.keep (hcell k hlt);clear hcell;by_cases hl:B[k].length=128
   ·have HN:=lh_ (formE_take hlt HF.out hl);have hl':((B[k].length:Int) != 128)=false:=by rw[hl];rfl
    generalize B[k]=s at *;go_wp2_with fail;go_round;case rel=>exact⟨k+1,by omega,by go_num,HN.out⟩
    case measure=>simp[intOf];omega
   ·have HN:=lh_ (formE_bad hlt HF.out hl);have hl':((B[k].length:Int) != 128)=true:=by simp;omega
    generalize B[k]=s at *;go_wp2_with fail;go_ret;exact⟨ret_int (by rw[HD.out,HN.out];rfl),x1⟩
  ·obtain rfl:k=B.length:=by omega
   have HF2:=lh_ (show drvE B p=pendE B.length p by rw[HD.out];have:=HF.out;rw[List.take_length]at this;rw[if_neg (by simpa using this)]);clear HF HD;go_wp2_with fail;go_loopw [4] (λi wx=>∃k:Nat,k<=p.length/\i=.int .i64 k/\pendE B.length (p.take k)=0/\Ext w1 wx) (λi _=>p.length-(intOf i).toNat);case atStart=>exact⟨0,by omega,rfl,rfl,Ext.refl _⟩
   case round =>
    obtain⟨k,hk,rfl,hf,hx⟩:=hrel;have HF:=lh_ hf;clear hf;have bx:=b1.ext hx;have r0:=bx.cell 0;have r1:=bx.cell 1;clear q0 q1 bx;by_cases hlt:k<p.length
    ·obtain⟨b,o,rfl,hcell⟩:=hp2 (by omega);have c1:=(x1.trans hx).keep (hcell k hlt).1;have c2:=(x1.trans hx).keep (hcell k hlt).2;clear hcell;have HA:=lh_ (pendE_at (n:=B.length) hlt HF.out);have HT:=lh_ (pendE_take (n:=B.length) hlt HF.out);clear HF;have hki:(k:Int)<(p.length:Int):=by omega
     generalize p[k]=s at *;by_cases h0:s.1<0
     ·have d0:decide (s.1<0)=true:=decide_eq_true h0;have HN:=lh_ (show drvE B p=2 by rw[HF2.out,HA.out,pendE,if_pos (by omega)]);go_wp2_with fail;go_quiet (fail);go_wp2_with fail;go_ret;exact⟨ret_int HN.out.symm,x1.trans (hx.drewN _)⟩
     ·have d0:decide (s.1<0)=false:=decide_eq_false h0;by_cases h1:(B.length:Int)<=s.1
      ·have d1:decide ((B.length:Int)<=s.1)=true:=decide_eq_true h1;have HN:=lh_ (show drvE B p=2 by rw[HF2.out,HA.out,pendE,if_pos (by omega)]);go_wp2_with fail;go_quiet (fail);go_wp2_with fail;go_ret;exact⟨ret_int HN.out.symm,x1.trans (hx.drewN _)⟩
      ·have d1:decide ((B.length:Int)<=s.1)=false:=decide_eq_false h1;by_cases hl:s.2.length=128
       ·have HN:=lh_ (HT.out (by omega) (by omega) hl);have hl':((s.2.length:Int) != 128)=false:=by rw[hl];rfl
        go_wp2_with fail;go_quiet (fail);go_wp2_with fail;go_roundw;case rel=>exact⟨k+1,by omega,by go_num,HN.out,hx.drewN _⟩
        case measure=>simp[intOf];omega
       ·have HN:=lh_ (show drvE B p=3 by rw[HF2.out,HA.out,pendE,if_neg (by omega),if_pos hl]);have hl':((s.2.length:Int) != 128)=true:=by simp;omega
        go_wp2_with fail;go_quiet (fail);go_wp2_with fail;go_ret;exact⟨ret_int HN.out.symm,x1.trans (hx.drewN _)⟩
    ·obtain rfl:k=p.length:=by omega
     have HN:=lh_ (show drvE B p=0 by rw[HF2.out];have:=HF.out;rw[List.take_length]at this;exact this);clear HF;go_wp2_with fail;go_ret;exact⟨ret_int HN.out.symm,x1.trans hx⟩
theorem rbad_any (bA pA:Option Addr) (bn bc pn pc:Nat) (left:Int) (B:List (List UInt8)) (p:List WrT) (w:World) (hb:Strs w bA bn B) (hp:Wrs w pA pn p) (hpn:pn<=9223372036854775807) :
  Calls prog 143 #[.agg #[.slice bA bn bc,.slice pA pn pc,.int .i64 left]] w λe w'=>e=.returned (.int .i64 (jrnE B p))/\Ext w w':=by
 have HC:=lh_ (λw h1 h2=>rdcheck_any bA pA bn bc pn pc left B p w h1 h2 hpn);obtain rfl:=hb.1;have xa:=(Ext.refl w).alloc (.cells #[.slice bA B.length bc,.slice pA pn pc,.int .i64 left] 36);have hs:=hb.ext xa;have hw:=hp.ext xa;by_cases hd:drvE B p=0
 ·rw[hd]at HC;by_cases h33:B.length<=33
  ·have HN:=lh_ (show jrnE B p=2 by unfold jrnE;rw[if_neg (by simpa using hd),if_pos h33]);go_enter func143,ntmps143;go_wp2_with (go_at_call 98;refine(HC.out _ hs hw).mono ?_;rintro e w1 ⟨rfl,x1⟩;have q0:=((Box.new w 36 #[.slice bA B.length bc,.slice pA pn pc,.int .i64 left]).ext x1).cell 0)
   go_ret;exact⟨ret_int HN.out.symm,xa.trans x1⟩
  ·have HN:=lh_ (show jrnE B p=0 by unfold jrnE;rw[if_neg (by simpa using hd),if_neg h33]);go_enter func143,ntmps143;go_wp2_with (go_at_call 98;refine(HC.out _ hs hw).mono ?_;rintro e w1 ⟨rfl,x1⟩;have q0:=((Box.new w 36 #[.slice bA B.length bc,.slice pA pn pc,.int .i64 left]).ext x1).cell 0)
   go_ret;exact⟨ret_int HN.out.symm,xa.trans x1⟩
 ·have HN:=lh_ (show jrnE B p=drvE B p by unfold jrnE;rw[if_pos hd]);have d1:(drvE B p != 0)=true:=by simpa using hd
  clear hd;generalize drvE B p=dd at *;go_enter func143,ntmps143;go_wp2_with (go_at_call 98;refine(HC.out _ hs hw).mono ?_;rintro e w1 ⟨rfl,x1⟩)
  go_ret;exact⟨ret_int HN.out.symm,xa.trans x1⟩
theorem getP_take {p:List WrT}{k:Nat}(hk:k<p.length) (i:Int) (s:List UInt8):getP (p.take (k+1)) i s=if p[k].1=i then p[k].2 else getP (p.take k) i s:=by
 unfold getP;rw[List.take_succ_eq_append_getElem hk,List.foldl_append];rfl
theorem rget15_any (bA pA:Option Addr) (bn bc pn pc j:Nat) (left:Int) (B:List (List UInt8)) (p:List WrT) (w:World) (hb:Strs w bA bn B) (hp:Wrs w pA pn p) (hpn:pn<=9223372036854775807) (hj:j<B.length) :
  Calls prog 144 #[.agg #[.slice bA bn bc,.slice pA pn pc,.int .i64 left],.int .i64 (j:Int)] w λe w'=>e=.returned (.tuple #[.string (str (getP p j (B.getD j []))),.int .i64 0])/\Ext w w':=by
 obtain⟨rfl,hb2⟩:=hb;obtain⟨rfl,hp2⟩:=hp;obtain⟨b,o,rfl,hcell⟩:=hb2 (by omega);have c1:=((Ext.refl w).alloc (.cells #[.slice (some ⟨b,o,none⟩) B.length bc,.slice pA p.length pc,.int .i64 left] 36)).keep (hcell j hj);rw[show B[j]=B.getD j [] by rw[List.getD_eq_getElem?_getD,List.getElem?_eq_getElem hj];rfl]at c1;clear hcell hb2;have hji:(j:Int)<(B.length:Int):=by omega
 have d1:decide ((j:Int)<0)=false:=by simp
 have d2:decide ((B.length:Int)<=(j:Int))=false:=by simp;omega
 generalize B.getD j []=s at *;go_enter func144,ntmps144;go_wp2_with fail;generalize hw1:w.alloc _=w1 at *;have x1:Ext w w1:=by rw[← hw1];exact(Ext.refl _).alloc _
 have b1:Box w1 w.heap.size 36 #[.slice (some ⟨b,o,none⟩) B.length bc,.slice pA p.length pc,.int .i64 left]:=by rw[← hw1];exact Box.new _ _ _
 clear hw1 c1;go_loop [6,7] (λt i=>∃k:Nat,k<=p.length/\i=.int .i64 k/\t=.string (str (getP (p.take k) j s))) (λ_ i=>p.length-(intOf i).toNat);case atStart=>exact⟨0,by omega,rfl,rfl⟩
 case round =>
  obtain⟨k,hk,rfl,rfl⟩:=hrel;have q1:=b1.cell 1;by_cases hlt:k<p.length
  ·obtain⟨b,o,rfl,hcell⟩:=hp2 (by omega);have c1:=x1.keep (hcell k hlt).1;have c2:=x1.keep (hcell k hlt).2;have HT:=lh_ (getP_take hlt (j:Int) s);clear hcell;have hki:(k:Int)<(p.length:Int):=by omega
   generalize p[k]=y at *;generalize getP (p.take k) (↑j) s=s1 at *;by_cases he:y.1=(j:Int)
   ·have de:(y.1==(j:Int))=true:=by simpa using he
    have HN:=lh_ (HT.out.trans (if_pos he));clear HT he;go_wp2_with fail;go_round;case rel=>exact⟨k+1,by omega,by go_num,by rw[HN.out]⟩
    case measure=>simp[intOf];omega
   ·have de:(y.1==(j:Int))=false:=by simpa using he
    have HN:=lh_ (HT.out.trans (if_neg he));clear HT he;go_wp2_with fail;go_round;case rel=>exact⟨k+1,by omega,by go_num,by rw[HN.out]⟩
    case measure=>simp[intOf];omega
  ·obtain rfl:k=p.length:=by omega
   rw[List.take_length];obtain⟨s1,hs1⟩:∃s1,s1=getP p (↑j) s:=⟨_,rfl⟩
   rw[← hs1];have HS:=lh_ hs1;clear hs1;go_wp2_with fail;go_ret2;rw[HS.out];exact⟨rfl,x1⟩
theorem homeP_at {B:List (List UInt8)}{p:List WrT}(h:jrnE B p=0) {k:Nat}(hk:k<B.length-33):(homeP B p).take (k+1)=(homeP B p).take k++[getP p (33+k:Nat) (B.getD (33+k) [])]:=by
 have hl:=homeP_len h;rw[List.take_succ_eq_append_getElem (by omega)];congr 2;have:(homeP B p)[k]? =some (getP p (33+k:Nat) (B.getD (33+k) [])):=by rw[homeP_get h,List.getElem?_map,List.getElem?_range hk];rfl
 rw[List.getElem?_eq_getElem (by omega)]at this;exact Option.some.inj this
theorem strs_one (w:World) (s:List UInt8):Strs (w.alloc (.cells #[.string (str s)] 9)) (some ⟨w.heap.size,0,none⟩) 1 [s]:=by
 refine⟨rfl,λ_=>⟨_,_,rfl,λj hj=>?_⟩⟩;have hj':j<1:=hj;obtain rfl:j=0:=by omega
 exact(Box.new w 9 #[.string (str s)]).cell 0
theorem rhome_any (bA pA:Option Addr) (bn bc pn pc:Nat) (left:Int) (B:List (List UInt8)) (p:List WrT) (w:World) (hb:Strs w bA bn B) (hp:Wrs w pA pn p) (hpn:pn<=9223372036854775807) :
  Calls prog 72 #[.agg #[.slice bA bn bc,.slice pA pn pc,.int .i64 left]] w λe w'=>∃A c,e=.returned (.slice A (homeP B p).length c)/\Ext w w'/\w'.ownsRow w.heap.size 9 1 (.slice A (homeP B p).length c) (homeP B p).length (strL (homeP B p)):=by
 have HC:=lh_ (λw h1 h2=>rbad_any bA pA bn bc pn pc left B p w h1 h2 hpn);have HG:=lh_ (λw j h1 h2 h3=>rget15_any bA pA bn bc pn pc j left B p w h1 h2 hpn h3);obtain rfl:=hb.1;have xa:=((Ext.refl w).alloc (.cells #[.slice bA B.length bc,.slice pA pn pc,.int .i64 left] 36)).alloc (.cells #[] 9);have oa:((w.alloc (.cells #[.slice bA B.length bc,.slice pA pn pc,.int .i64 left] 36)).alloc (.cells #[] 9)).ownsRow w.heap.size 9 1 (.slice (some ⟨w.heap.size+1,0,none⟩) 0 0) 0 (strL []):=by have:=World.ownsRow_lit (base:=w.heap.size) (e:=9) (size:=1) (w.alloc (.cells #[.slice bA B.length bc,.slice pA pn pc,.int .i64 left] 36)) #[] 0 (by simp) (by decide) rfl;rw[World.size_alloc]at this;exact this
 have ba:=(Box.new w 36 #[.slice bA B.length bc,.slice pA pn pc,.int .i64 left]).ext ((Ext.refl _).alloc (.cells #[] 9));have hs:=hb.ext xa;have hw:=hp.ext xa;by_cases hd:jrnE B p=0
 ·rw[hd]at HC;have hl:=lh_ (homeP_len hd);have hok:=drvOk_of hd;have HT:=lh_ (λk hk=>homeP_at hd (k:=k) hk);have h33:=hok.least;have h256:=hok.most;clear hok hd;go_enter func72,ntmps72;go_wp2_with (go_at_call 143;refine(HC.out _ hs hw).mono ?_;rintro e w1 ⟨rfl,x1⟩)
  have o1:=own_ext oa x1;have b1:=ba.ext x1;have xw1:=xa.trans x1;clear oa ba hs hw xa x1;go_loopw [3,4,5,6] (λu i _ _ wx=>∃k:Nat,k<=B.length-33/\i=.int .i64 ((33+k:Nat):Int)/\Ext w wx/\wx.ownsRow w.heap.size 9 1 u k (strL ((homeP B p).take k))/\Box wx w.heap.size 36 #[.slice bA B.length bc,.slice pA pn pc,.int .i64 left]) (λ_ i _ _ _=>B.length-(intOf i).toNat);case atStart=>exact⟨0,by omega,rfl,xw1,o1,b1⟩
  case round =>
   obtain⟨k,hk,rfl,xk,ok,bk⟩:=hrel;have q0:=bk.cell 0;have hxs:=xk.size;by_cases hlt:k<B.length-33
   ·have hlt2:((33+k:Nat):Int)<(B.length:Int):=by omega
    have HN:=lh_ (HT.out k hlt);have nk:=own_ne ok bk (by decide)
    go_wp2_with (first
     | (refine wp_ld_drv (.tmp 1) rfl rfl w.heap.size _ 36 rfl bk rfl ?_)
     | (go_at_call 144;refine(HG.out _ (33+k) (hb.ext xk) (hp.ext xk) (by omega)).mono ?_;rintro e w2 ⟨rfl,x2⟩;generalize getP p (((33+k:Nat)):Int) (B.getD (33+k) [])=s at *;have hok:=own_ext (own_ext ok x2) ((Ext.refl w2).alloc (.cells #[.string (str s)] 9));have hst:=strs_one w2 s;have hsz:w.heap.size<=(w2.alloc (.cells #[.string (str s)] 9)).heap.size:=by(have:=x2.size;simp;omega))
     | (at_builtin;refine wp_app_strs w.heap.size rfl _ _ rfl rfl rfl hok hst (by omega) hsz (by omega) ?_;intro u' w4 own4 g4))
    have x4:Ext w w4:=((xk.trans x2).alloc _).grown g4 (λj e=>own_low ok e);go_roundw;case rel=>exact⟨k+1,by omega,by go_num,x4,by rw[HN.out];exact own4,((bk.ext x2).ext ((Ext.refl w2).alloc _)).grown g4 nk⟩
    case measure=>simp[intOf];omega
   ·obtain rfl:k=B.length-33:=by omega
    obtain⟨g,cap,rfl,hgW,_⟩:=Strs.own' ok (by omega);rw[← hl.out,List.take_length]at ok;have hl2:¬(((33+(B.length-33):Nat):Int)<(B.length:Int)):=by omega
    rw[← hl.out];rw[← hl.out]at hl2;obtain⟨h,hh⟩:∃h,h=homeP B p:=⟨_,rfl⟩
    rw[← hh]at hl2 ok ⊢;have HH:=lh_ hh;clear hh;have hl2':decide ((((33+h.length:Nat)):Int)<(B.length:Int))=false:=by simpa using hl2
    go_wp2_with fail;go_ret;rw[← HH.out];exact⟨_,_,rfl,xk,ok⟩
 ·have HE:=lh_ (show homeP B p=[] by unfold homeP;rw[if_pos hd]);have d1:(jrnE B p != 0)=true:=by simpa using hd
  clear hd;generalize jrnE B p=dd at *;go_enter func72,ntmps72;go_wp2_with (go_at_call 143;refine(HC.out _ hs hw).mono ?_;rintro e w1 ⟨rfl,x1⟩)
  go_ret;rw[HE.out];exact⟨_,_,rfl,xa.trans x1,own_ext oa x1⟩
theorem strs_drop {w:World}{b o n m:Nat}{B:List (List UInt8)}(h:Strs w (some ⟨b,o,none⟩) n B) (hm:m<n):Strs w (some ⟨b,o+m,none⟩) (n-m) (B.drop m):=by
 obtain⟨rfl,h2⟩:=h;obtain⟨b',o',e,hc⟩:=h2 (by omega);injection e with e;injection e with e1 e2;subst e1;subst e2;refine⟨by simp,λ_=>⟨_,_,rfl,λj hj=>?_⟩⟩;rw[List.length_drop]at hj;rw[List.getElem_drop,Nat.add_assoc];exact hc (m+j) (by omega)
theorem own_set {w:World}{base n g cap i:Nat}{v:List (List UInt8)}(h:w.ownsRow base 9 1 (.slice (some ⟨g,0,none⟩) n cap) n (strL v)) (r:List UInt8):(w.setCell ⟨g,i,none⟩ (.string (str r))).ownsRow base 9 1 (.slice (some ⟨g,0,none⟩) n cap) n (strL (v.set i r)):=by
 rw[show strL (v.set i r)=(strL v).set i (.string (str r)) by simp[strL,List.map_set]];exact(h.stored i (.string (str r))).1
theorem home_any (bA pA:Option Addr) (bn bc pn pc:Nat) (left:Int) (B:List (List UInt8)) (p:List WrT) (w:World) (hb:Strs w bA bn B) (hp:Wrs w pA pn p) (hpn:pn<=9223372036854775807) (hbc:bn<=bc) :
  Calls prog 50 #[.agg #[.slice bA bn bc,.slice pA pn pc,.int .i64 left]] w λe w'=>∃A c,e=.returned (.slice A (homeP B p).length c)/\Ext w w'/\w'.ownsRow w.heap.size 9 1 (.slice A (homeP B p).length c) (homeP B p).length (strL (homeP B p)):=by
 have HC:=lh_ (λw h1 h2=>jrn_any bA pA bn bc pn pc left B p w h1 h2 hpn);obtain rfl:=hb.1;have xa:=(Ext.refl w).alloc (.cells #[.slice bA B.length bc,.slice pA pn pc,.int .i64 left] 36);have ba:=Box.new w 36 #[.slice bA B.length bc,.slice pA pn pc,.int .i64 left];have hs:=hb.ext xa;have hw:=hp.ext xa;by_cases hd:jrnE B p=0
 ·rw[hd]at HC;have hl:=homeP_len hd;have hok:=drvOk_of hd;have HE:=lh_ (show homeP B p=p.foldl putP (B.drop 33) by unfold homeP;rw[if_neg (by simpa using hd)]);have h33:=hok.least;have h256:=hok.most;have HP:=lh_ hok.pend;clear hok hd;obtain⟨b,o,rfl,_⟩:=hb.2 (by omega);have hd33:=strs_drop (m:=33) hs (by omega);obtain⟨rfl,hp2⟩:=hp;go_enter func50,ntmps50
  go_wp2_with (first
   | (go_at_call 95;refine(HC.out _ hs hw).mono ?_;rintro e w1 ⟨rfl,x1⟩;have b1:=ba.ext x1;have q0:=b1.cell 0;have q1:=b1.cell 1;have s1:=hd33.ext x1;have hsz:w.heap.size<=w1.heap.size:=(xa.trans x1).size)
   | (at_builtin;refine wp_app_nil w.heap.size rfl _ _ rfl rfl rfl s1 (by omega) hsz (by omega) ?_;intro u' w2 own2 x2;have q2:=(b1.ext x2).cell 1;obtain⟨g,cap,rfl,hg,_⟩:=Strs.own' own2 (by omega)))
  have xw2:=xa.trans (x1.trans x2);clear q0 q1 q2 s1 hd33 hs hw x1 x2 b1 ba xa;rw[← hl];rw[← hl]at own2;have hb':0<(homeP B p).length:=by omega
  have hL:=lh_ hl;generalize hN:(homeP B p).length=N at *;have HNN:=lh_ hN;clear hl hN;go_loopw [5,16] (λ_ i wx=>∃k:Nat,k<=p.length/\i=.int .i64 k/\Ext w wx/\wx.ownsRow w.heap.size 9 1 (.slice (some ⟨g,0,none⟩) N cap) N (strL ((p.take k).foldl putP (B.drop 33)))) (λ_ i _=>p.length-(intOf i).toNat);case atStart=>exact⟨0,by omega,rfl,xw2,own2⟩
  case round =>
   obtain⟨k,hk,rfl,xk,ok⟩:=hrel;by_cases hlt:k<p.length
   ·obtain⟨b2,o2,rfl,hcell⟩:=hp2 (by omega);have c1:=xk.keep (hcell k hlt).1;have c2:=xk.keep (hcell k hlt).2;have HT:=lh_ (show(p.take (k+1)).foldl putP (B.drop 33)=putP ((p.take k).foldl putP (B.drop 33)) p[k] by rw[List.take_succ_eq_append_getElem hlt,List.foldl_append];rfl);have hy:=HP.out p[k] (List.getElem_mem _);clear hcell;have hki:(k:Int)<(p.length:Int):=by omega
    generalize p[k]=y at *;generalize (p.take k).foldl putP (B.drop 33)=V at *;have okA:=own_ext ok ((Ext.refl wr).alloc (.cells #[.int .i64 y.1,.string (str y.2)] 92));have hV:V.length=N:=by have:=ok.1;simpa[strL]using this
    by_cases h3:33<=y.1
    ·obtain⟨q,hq⟩:∃q:Nat,y.1-33=q:=⟨(y.1-33).toNat,by omega⟩
     have hL2:=hL.out;have HY:=lh_ (show putP V y=V.set q y.2 by unfold putP;rw[if_pos h3,hq];rfl);have hqN:q<N:=by omega
     have kc:(wr.alloc (.cells #[.int .i64 y.1,.string (str y.2)] 92)).cell? ⟨g,q,none⟩=some (.string (str (V.getD q []))):=(okA.cellAt q (by omega)).trans (by simp[strL,hV,hqN,List.getD_eq_getElem?_getD]);have kf:=okA.frozenAt q;have wq:IntKind.i64.wrap (y.1-33)=(q:Int):=by rw[IntKind.wrap_i64];omega
     have d3:decide (33<=y.1)=true:=decide_eq_true h3;have hqi:(q:Int)<(N:Int):=by omega
     clear hq hL2 h3 hy;go_wp2_with fail;go_roundw;case rel=>exact⟨k+1,by omega,by go_num,(xk.alloc _).setCell hg _,by rw[HT.out,HY.out];exact own_set okA _⟩
     case measure=>simp[intOf];omega
    ·have HY:=lh_ (show putP V y=V by unfold putP;rw[if_neg h3]);have d3:decide (33<=y.1)=false:=decide_eq_false h3;go_wp2_with fail;go_roundw;case rel=>exact⟨k+1,by omega,by go_num,xk.alloc _,by rw[HT.out,HY.out];exact okA⟩
     case measure=>simp[intOf];omega
   ·obtain rfl:k=p.length:=by omega
    rw[List.take_length,← HE.out]at ok;go_wp2_with fail;go_ret;rw[HNN.out];exact⟨_,_,rfl,xk,ok⟩
 ·have HE:=lh_ (show homeP B p=[] by unfold homeP;rw[if_pos hd]);have d1:(jrnE B p != 0)=true:=by simpa using hd
  clear hd;generalize jrnE B p=dd at *;go_enter func50,ntmps50;go_wp2_with (go_at_call 95;refine(HC.out _ hs hw).mono ?_;rintro e w1 ⟨rfl,x1⟩)
  go_ret;rw[HE.out];exact⟨_,_,rfl,xa.trans x1,World.ownsRow_nil _ _ _ _⟩
theorem foldl_lay_take {p:List WrT}{k:Nat}(hk:k<p.length) (v:List (List UInt8)):(p.take (k+1)).foldl layP v=layP ((p.take k).foldl layP v) p[k]:=by
 rw[List.take_succ_eq_append_getElem hk,List.foldl_append];rfl
theorem maxLen_le {n:Nat}(h:n<=maxLen):n<=9223372036854775807:=by unfold maxLen at h;omega
theorem MacIn.drv {w:World}{m:Mac}{d:MacD}(h:MacIn w m d):Strs w m.bl.A m.bl.n d.bl/\Wrs w m.pe.A m.pe.n d.pe/\Wrs w m.di.A m.di.n d.di/\m.pe.n<=9223372036854775807/\m.di.n<=9223372036854775807/\m.bl.n<=m.bl.c :=
 ⟨h.bl.strs,h.pe.wrs,h.di.wrs,maxLen_le h.pek.2.1,maxLen_le h.dik.2.1,h.blk.2.2⟩
theorem view_any (m:Mac) (d:MacD) (w:World) (h:MacIn w m d) :
  Calls prog 18 #[.agg m.cells] w λe w'=>∃A c,e=.returned (.slice A (viewP d.bl d.pe d.di).length c)/\Ext w w'/\w'.ownsRow w.heap.size 9 1 (.slice A (viewP d.bl d.pe d.di).length c) (viewP d.bl d.pe d.di).length (strL (viewP d.bl d.pe d.di)):=by
 obtain⟨hb,hp,hd,hpn,hdn,hbc⟩:=h.drv;clear h;obtain⟨clock,quantum,cur,left,⟨fA,fn,fc⟩,⟨rA,rn,rc⟩,next,init,⟨iA,inn,ic⟩,newPipe,inp,fin,told,⟨bA,bn,bc⟩,⟨pA,pn,pc⟩,dleft,⟨dA,dn,dc⟩⟩:=m;obtain⟨dfr,dpr,dpi,B,p,l⟩:=d;unfold Mac.cells;simp only at hb hp hd hpn hdn hbc ⊢;have HH:=lh_ (λw h1 h2=>home_any bA pA bn bc pn pc dleft B p w h1 h2 hpn hbc);obtain⟨rfl,hd2⟩:=hd;obtain⟨wb,hwb⟩:∃wb,wb=w.alloc (.cells #[.int .u64 clock,.int .i64 quantum,.int .i64 cur,.int .i64 left,.slice fA fn fc,.slice rA rn rc,.int .i64 next,.string (str init),.slice iA inn ic,.int .i64 newPipe,.string (str inp),.bool fin,.int .u64 told,.slice bA bn bc,.slice pA pn pc,.int .i64 dleft,.slice dA l.length dc] 38):=⟨_,rfl⟩
 have xa:Ext w wb:=by rw[hwb];exact(Ext.refl _).alloc _
 have ba:Box wb w.heap.size 38 #[.int .u64 clock,.int .i64 quantum,.int .i64 cur,.int .i64 left,.slice fA fn fc,.slice rA rn rc,.int .i64 next,.string (str init),.slice iA inn ic,.int .i64 newPipe,.string (str inp),.bool fin,.int .u64 told,.slice bA bn bc,.slice pA pn pc,.int .i64 dleft,.slice dA l.length dc]:=by rw[hwb];exact Box.new _ _ _
 have hs:=hb.ext xa;have hw:=hp.ext xa;have HB:=lh_ hwb;have q13:wb.cell? ⟨w.heap.size,13,none⟩=some (.slice bA bn bc):=ba.cell 13;have q14:wb.cell? ⟨w.heap.size,14,none⟩=some (.slice pA pn pc):=ba.cell 14;have q15:wb.cell? ⟨w.heap.size,15,none⟩=some (.int .i64 dleft):=ba.cell 15;clear hwb;go_enter func18,ntmps18;go_upto_region 1 with fail;rw[← HB.out];go_wp2_with (go_at_call 50;refine(HH.out _ hs hw).mono ?_;rintro e w1 ⟨A1,c1,rfl,x1,own1⟩;have q16:=(ba.ext x1).cell 16)
 have xw1:=xa.trans x1;have own1:=own_base own1 xa.size;clear q13 q14 q15 q16 hs hw ba xa x1 HH HB;have HV:=lh_ (show viewP B p l=l.foldl layP (homeP B p) from rfl);have HL:=lh_ (show(viewP B p l).length=(homeP B p).length by unfold viewP;exact foldl_lay_len _ _);obtain⟨h,hh⟩:∃h,h=homeP B p:=⟨_,rfl⟩
 rw[← hh]at own1 ⊢;have HHH:=lh_ hh;clear hh;go_loopw [5,12] (λ_ i wx=>∃k:Nat,k<=l.length/\i=.int .i64 k/\Ext w wx/\wx.ownsRow w.heap.size 9 1 (.slice A1 h.length c1) h.length (strL ((l.take k).foldl layP h))) (λ_ i _=>l.length-(intOf i).toNat);case atStart=>exact⟨0,by omega,rfl,xw1,own1⟩
 case round =>
  obtain⟨k,hk,rfl,xk,ok⟩:=hrel;by_cases hlt:k<l.length
  ·obtain⟨b2,o2,rfl,hcell⟩:=hd2 (by omega);have e1:=xk.keep (hcell k hlt).1;have e2:=xk.keep (hcell k hlt).2;have HT:=lh_ (foldl_lay_take hlt h);have HVl:=lh_ (foldl_lay_len (l.take k) h);clear hcell;have hki:(k:Int)<(l.length:Int):=by omega
   generalize l[k]=y at *;generalize (l.take k).foldl layP h=V at *;have okA:=own_ext ok ((Ext.refl wr).alloc (.cells #[.int .i64 y.1,.string (str y.2)] 92));by_cases h0:0<=y.1
   ·have d0:decide (0<=y.1)=true:=decide_eq_true h0;by_cases h1:y.1<(h.length:Int)
    ·have d1:decide (y.1<(h.length:Int))=true:=decide_eq_true h1;obtain⟨y1,y2⟩:=y;simp only at h0 h1 d0 d1 e1 e2 okA;obtain⟨q,rfl⟩:∃q:Nat,y1=q:=⟨y1.toNat,by omega⟩
     have hqN:q<h.length:=by omega
     have HY:=lh_ (show layP V ((q:Int),y2)=V.set q y2 by unfold layP;simp only;rw[if_pos (by have:=HVl.out;omega)];rfl);obtain⟨g,cap,hgc,hg,_⟩:=Strs.own' ok (by omega);injection hgc with hgA _ hgc;subst hgA;subst hgc;have kc:(wr.alloc (.cells #[.int .i64 (q:Int),.string (str y2)] 92)).cell? ⟨g,q,none⟩=some (.string (str (V.getD q []))):=(okA.cellAt q (by omega)).trans (by have:=HVl.out;simp[strL,this,hqN,List.getD_eq_getElem?_getD]);have kf:=okA.frozenAt q;go_wp2_with fail;go_roundw;case rel=>exact⟨k+1,by omega,by go_num,(xk.alloc _).setCell hg _,by rw[HT.out,HY.out];exact own_set okA _⟩
     case measure=>simp[intOf];omega
    ·have d1:decide (y.1<(h.length:Int))=false:=decide_eq_false h1;have HY:=lh_ (show layP V y=V by unfold layP;rw[if_neg (by have:=HVl.out;omega)]);go_wp2_with fail;go_roundw;case rel=>exact⟨k+1,by omega,by go_num,xk.alloc _,by rw[HT.out,HY.out];exact okA⟩
     case measure=>simp[intOf];omega
   ·have d0:decide (0<=y.1)=false:=decide_eq_false h0;have HY:=lh_ (show layP V y=V by unfold layP;rw[if_neg (by omega)]);go_wp2_with fail;go_roundw;case rel=>exact⟨k+1,by omega,by go_num,xk.alloc _,by rw[HT.out,HY.out];exact okA⟩
    case measure=>simp[intOf];omega
  ·obtain rfl:k=l.length:=by omega
   rw[List.take_length]at ok;go_wp2_with fail;go_ret;rw[HL.out,HV.out,← HHH.out];exact⟨_,_,rfl,xk,ok⟩
theorem Box.setOther {w:World}{g g' i:Nat}{t:TypeId}{cs:Array Value}(h:Box w g t cs) (hne:g≠g') (u:Value):Box (w.setCell ⟨g',i,none⟩ u) g t cs:=by
 have k:w.heap[g]? =some (.cells cs t (0,0)):=h;show(w.setCell ⟨g',i,none⟩ u).heap[g]? =_;simp[World.setCell,Array.getElem?_modify,k,Ne.symm hne]
theorem Mac.size (m:Mac):m.cells.size=17:=rfl
theorem own_empty (w:World) (t:TypeId) (cs:Array Value):((w.alloc (.cells cs t)).alloc (.cells #[] 9)).ownsRow w.heap.size 9 1 (.slice (some ⟨w.heap.size+1,0,none⟩) 0 0) 0 (strL []):=by
 have:=World.ownsRow_lit (base:=w.heap.size) (e:=9) (size:=1) (w.alloc (.cells cs t)) #[] 0 (by simp) (by decide) rfl;rw[World.size_alloc]at this;exact this
theorem rvolume_any (m:Mac) (d:MacD) (w:World) (h:MacIn w m d) (hj:jrnE d.bl d.pe=0) :
  Calls prog 100 #[.agg m.cells] w λe w'=>∃A c,e=.returned (.slice A (viewP d.bl d.pe d.di).length c)/\Ext w w'/\w'.ownsRow w.heap.size 9 1 (.slice A (viewP d.bl d.pe d.di).length c) (viewP d.bl d.pe d.di).length (strL (viewP d.bl d.pe d.di)):=by
 obtain⟨hb,hp,hd,hpn,hdn,hbc⟩:=h.drv;clear h;have HH:=lh_ (λw h1 h2=>rhome_any m.bl.A m.pe.A m.bl.n m.bl.c m.pe.n m.pe.c m.dleft d.bl d.pe w h1 h2 hpn);have xa:Ext w (w.alloc (.cells m.cells 38)):=(Ext.refl _).alloc _;have xa2:=xa.alloc (.cells #[] 9);have ba:=Box.new w 38 m.cells;have oa:=own_empty w 38 m.cells;have hs:=hb.ext xa2;have hw:=hp.ext xa2;have ba2:=ba.ext ((Ext.refl _).alloc (.cells #[] 9));have q13:((w.alloc (.cells m.cells 38)).alloc (.cells #[] 9)).cell? ⟨w.heap.size,13,none⟩=some (.slice m.bl.A m.bl.n m.bl.c):=ba2.cell 13;have q14:((w.alloc (.cells m.cells 38)).alloc (.cells #[] 9)).cell? ⟨w.heap.size,14,none⟩=some (.slice m.pe.A m.pe.n m.pe.c):=ba2.cell 14;have q15:((w.alloc (.cells m.cells 38)).alloc (.cells #[] 9)).cell? ⟨w.heap.size,15,none⟩=some (.int .i64 m.dleft):=ba2.cell 15;have hlen:=homeP_len hj;have hlst:=(drvOk_of hj).least;have hmost:=(drvOk_of hj).most;have hN:0<(homeP d.bl d.pe).length:=by omega
 have hN2:(homeP d.bl d.pe).length<=1000000:=by omega
 have HN0:=lh_ hN;have HN2:=lh_ hN2;clear hlen hlst hmost hN hN2;go_enter func100,ntmps100
 go_wp2_with (first
  | (go_at_call 72;refine(HH.out _ hs hw).mono ?_;rintro e w1 ⟨A1,c1,rfl,x1,own1⟩;have s1:=Strs.own own1;have o1:=own_ext oa x1;have b1:=ba2.ext x1;have hN:=HN0.out;have hN2:=HN2.out;have hsz:w.heap.size<=w1.heap.size:=(xa2.trans x1).size)
  | (at_builtin;refine wp_app_strs w.heap.size rfl _ _ rfl rfl rfl o1 s1 (by omega) hsz (by omega) ?_;intro u' w2 own2 g2;rw[Nat.zero_add,List.nil_append]at own2;obtain⟨g,cap,rfl,hg,_⟩:=Strs.own' own2 (by omega);have b2:=b1.grown g2 (own_ne o1 b1 (by decide));have q16:w2.cell? ⟨w.heap.size,16,none⟩=some (.slice m.di.A m.di.n m.di.c):=b2.cell 16;have x2:Ext w w2:=(xa2.trans x1).grown g2 (λj e=>own_low o1 e)))
 clear q13 q14 q15 hs hw ba ba2 xa xa2 x1 HH oa o1 s1 own1 b1 g2 hsz;have HV:=lh_ (show viewP d.bl d.pe d.di=d.di.foldl layP (homeP d.bl d.pe) from rfl);have HL:=lh_ (show(viewP d.bl d.pe d.di).length=(homeP d.bl d.pe).length by unfold viewP;exact foldl_lay_len _ _);obtain⟨h,hh⟩:∃h,h=homeP d.bl d.pe:=⟨_,rfl⟩
 rw[← hh]at own2 hN hN2 ⊢;have HHH:=lh_ hh;clear hh;obtain⟨hd1,hd2⟩:=hd;rw[hd1];rw[hd1]at q16 hdn;have HD1:=lh_ hd1;have HD2:=lh_ hd2;clear hd1 hd2;generalize hdi:d.di=l at *;have HDI:=lh_ hdi;clear hdi;go_loopw [5,14] (λ_ i wx=>∃k:Nat,k<=l.length/\i=.int .i64 k/\Ext w wx/\wx.ownsRow w.heap.size 9 1 (.slice (some ⟨g,0,none⟩) h.length cap) h.length (strL ((l.take k).foldl layP h))) (λ_ i _=>l.length-(intOf i).toNat);case atStart=>exact⟨0,by omega,rfl,x2,own2⟩
 case round =>
  obtain⟨k,hk,rfl,xk,ok⟩:=hrel;by_cases hlt:k<l.length
  ·obtain⟨b2,o2,hA,hcell⟩:=HD2.out (by rw[HD1.out];omega);have e1:=xk.keep (hcell k hlt).1;have e2:=xk.keep (hcell k hlt).2;have HT:=lh_ (foldl_lay_take hlt h);have HVl:=lh_ (foldl_lay_len (l.take k) h);clear hcell;have hki:(k:Int)<(l.length:Int):=by omega
   generalize l[k]=y at *;generalize (l.take k).foldl layP h=V at *;have okA:=own_ext ok ((Ext.refl wr).alloc (.cells #[.int .i64 y.1,.string (str y.2)] 92));by_cases h0:0<=y.1
   ·have d0:decide (0<=y.1)=true:=decide_eq_true h0;by_cases h1:y.1<(h.length:Int)
    ·have d1:decide (y.1<(h.length:Int))=true:=decide_eq_true h1;obtain⟨y1,y2⟩:=y;simp only at h0 h1 d0 d1 e1 e2 okA;obtain⟨q,rfl⟩:∃q:Nat,y1=q:=⟨y1.toNat,by omega⟩
     have hqN:q<h.length:=by omega
     have HY:=lh_ (show layP V ((q:Int),y2)=V.set q y2 by unfold layP;simp only;rw[if_pos (by have:=HVl.out;omega)];rfl);have kc:(wr.alloc (.cells #[.int .i64 (q:Int),.string (str y2)] 92)).cell? ⟨g,q,none⟩=some (.string (str (V.getD q []))):=(okA.cellAt q (by omega)).trans (by have:=HVl.out;simp[strL,this,hqN,List.getD_eq_getElem?_getD]);have kf:=okA.frozenAt q;go_wp2_with fail;go_roundw;case rel=>exact⟨k+1,by omega,by go_num,(xk.alloc _).setCell hg _,by rw[HT.out,HY.out];exact own_set okA _⟩
     case measure=>simp[intOf];omega
    ·have d1:decide (y.1<(h.length:Int))=false:=decide_eq_false h1;have HY:=lh_ (show layP V y=V by unfold layP;rw[if_neg (by have:=HVl.out;omega)]);go_wp2_with fail;go_roundw;case rel=>exact⟨k+1,by omega,by go_num,xk.alloc _,by rw[HT.out,HY.out];exact okA⟩
     case measure=>simp[intOf];omega
   ·have d0:decide (0<=y.1)=false:=decide_eq_false h0;have HY:=lh_ (show layP V y=V by unfold layP;rw[if_neg (by omega)]);go_wp2_with fail;go_roundw;case rel=>exact⟨k+1,by omega,by go_num,xk.alloc _,by rw[HT.out,HY.out];exact okA⟩
    case measure=>simp[intOf];omega
  ·obtain rfl:k=l.length:=by omega
   rw[List.take_length]at ok;go_wp2_with fail;go_ret;rw[HDI.out,HL.out,HV.out,← HHH.out];exact⟨_,_,rfl,xk,ok⟩
theorem rview_any (m:Mac) (d:MacD) (w:World) (h:MacIn w m d) (hj:jrnE d.bl d.pe=0) :
  Calls prog 30 #[.agg m.cells] w λe w'=>∃A c,e=.returned (.slice A (viewP d.bl d.pe d.di).length c)/\Ext w w'/\w'.ownsRow w.heap.size 9 1 (.slice A (viewP d.bl d.pe d.di).length c) (viewP d.bl d.pe d.di).length (strL (viewP d.bl d.pe d.di)):=by
 obtain⟨hb,hp,hd,hpn,hdn,hbc⟩:=h.drv;clear h;have HH:=lh_ (λw h1 h2=>rhome_any m.bl.A m.pe.A m.bl.n m.bl.c m.pe.n m.pe.c m.dleft d.bl d.pe w h1 h2 hpn);have xa:Ext w (w.alloc (.cells m.cells 38)):=(Ext.refl _).alloc _;have xa2:=xa.alloc (.cells #[] 9);have ba:=Box.new w 38 m.cells;have oa:=own_empty w 38 m.cells;have hs:=hb.ext xa2;have hw:=hp.ext xa2;have ba2:=ba.ext ((Ext.refl _).alloc (.cells #[] 9));have q13:((w.alloc (.cells m.cells 38)).alloc (.cells #[] 9)).cell? ⟨w.heap.size,13,none⟩=some (.slice m.bl.A m.bl.n m.bl.c):=ba2.cell 13;have q14:((w.alloc (.cells m.cells 38)).alloc (.cells #[] 9)).cell? ⟨w.heap.size,14,none⟩=some (.slice m.pe.A m.pe.n m.pe.c):=ba2.cell 14;have q15:((w.alloc (.cells m.cells 38)).alloc (.cells #[] 9)).cell? ⟨w.heap.size,15,none⟩=some (.int .i64 m.dleft):=ba2.cell 15;have hlen:=homeP_len hj;have hlst:=(drvOk_of hj).least;have hmost:=(drvOk_of hj).most;have hN:0<(homeP d.bl d.pe).length:=by omega
 have hN2:(homeP d.bl d.pe).length<=1000000:=by omega
 have HN0:=lh_ hN;have HN2:=lh_ hN2;clear hlen hlst hmost hN hN2;go_enter func30,ntmps30
 go_wp2_with (first
  | (go_at_call 72;refine(HH.out _ hs hw).mono ?_;rintro e w1 ⟨A1,c1,rfl,x1,own1⟩;have s1:=Strs.own own1;have o1:=own_ext oa x1;have b1:=ba2.ext x1;have hN:=HN0.out;have hN2:=HN2.out;have hsz:w.heap.size<=w1.heap.size:=(xa2.trans x1).size)
  | (at_builtin;refine wp_app_strs w.heap.size rfl _ _ rfl rfl rfl o1 s1 (by omega) hsz (by omega) ?_;intro u' w2 own2 g2;rw[Nat.zero_add,List.nil_append]at own2;obtain⟨g,cap,rfl,hg,_⟩:=Strs.own' own2 (by omega);have b2:=b1.grown g2 (own_ne o1 b1 (by decide));have q16:w2.cell? ⟨w.heap.size,16,none⟩=some (.slice m.di.A m.di.n m.di.c):=b2.cell 16;have x2:Ext w w2:=(xa2.trans x1).grown g2 (λj e=>own_low o1 e)))
 clear q13 q14 q15 hs hw ba ba2 xa xa2 x1 HH oa o1 s1 own1 b1 g2 hsz;have HV:=lh_ (show viewP d.bl d.pe d.di=d.di.foldl layP (homeP d.bl d.pe) from rfl);have HL:=lh_ (show(viewP d.bl d.pe d.di).length=(homeP d.bl d.pe).length by unfold viewP;exact foldl_lay_len _ _);obtain⟨h,hh⟩:∃h,h=homeP d.bl d.pe:=⟨_,rfl⟩
 rw[← hh]at own2 hN hN2 ⊢;have HHH:=lh_ hh;clear hh;obtain⟨hd1,hd2⟩:=hd;rw[hd1];rw[hd1]at q16 hdn;have HD1:=lh_ hd1;have HD2:=lh_ hd2;clear hd1 hd2;generalize hdi:d.di=l at *;have HDI:=lh_ hdi;clear hdi;go_loopw [4,5,14] (λ_ _ i wx=>∃k:Nat,k<=l.length/\i=.int .i64 k/\Ext w wx/\wx.ownsRow w.heap.size 9 1 (.slice (some ⟨g,0,none⟩) h.length cap) h.length (strL ((l.take k).foldl layP h))/\Box wx w.heap.size 38 m.cells) (λ_ _ i _=>l.length-(intOf i).toNat);case atStart=>exact⟨0,by omega,rfl,x2,own2,b2⟩
 case round =>
  obtain⟨k,hk,rfl,xk,ok,bk⟩:=hrel;have r16:wr.cell? ⟨w.heap.size,16,none⟩=some (.slice m.di.A m.di.n m.di.c):=bk.cell 16;rw[HD1.out]at r16;by_cases hlt:k<l.length
  ·obtain⟨b2,o2,hA,hcell⟩:=HD2.out (by rw[HD1.out];omega);have e1:=xk.keep (hcell k hlt).1;have e2:=xk.keep (hcell k hlt).2;have HT:=lh_ (foldl_lay_take hlt h);have HVl:=lh_ (foldl_lay_len (l.take k) h);clear hcell;have hki:(k:Int)<(l.length:Int):=by omega
   generalize l[k]=y at *;generalize (l.take k).foldl layP h=V at *;have okA:=ok;by_cases h0:0<=y.1
   ·have d0:decide (0<=y.1)=true:=decide_eq_true h0;by_cases h1:y.1<(h.length:Int)
    ·have d1:decide (y.1<(h.length:Int))=true:=decide_eq_true h1;obtain⟨y1,y2⟩:=y;simp only at h0 h1 d0 d1 e1 e2 okA;obtain⟨q,rfl⟩:∃q:Nat,y1=q:=⟨y1.toNat,by omega⟩
     have hqN:q<h.length:=by omega
     have HY:=lh_ (show layP V ((q:Int),y2)=V.set q y2 by unfold layP;simp only;rw[if_pos (by have:=HVl.out;omega)];rfl);have kc:wr.cell? ⟨g,q,none⟩=some (.string (str (V.getD q []))):=(okA.cellAt q (by omega)).trans (by have:=HVl.out;simp[strL,this,hqN,List.getD_eq_getElem?_getD]);have kf:=okA.frozenAt q;go_wp2_with fail;go_roundw;case rel=>exact⟨k+1,by omega,by go_num,xk.setCell hg _,by rw[HT.out,HY.out];exact own_set okA _,bk.setOther (λe=>own_ne ok bk (by decide) (by rw[e];rfl)) _⟩
     case measure=>simp[intOf];omega
    ·have d1:decide (y.1<(h.length:Int))=false:=decide_eq_false h1;have HY:=lh_ (show layP V y=V by unfold layP;rw[if_neg (by have:=HVl.out;omega)]);go_wp2_with fail;go_roundw;case rel=>exact⟨k+1,by omega,by go_num,xk,by rw[HT.out,HY.out];exact okA,bk⟩
     case measure=>simp[intOf];omega
   ·have d0:decide (0<=y.1)=false:=decide_eq_false h0;have HY:=lh_ (show layP V y=V by unfold layP;rw[if_neg (by omega)]);go_wp2_with fail;go_roundw;case rel=>exact⟨k+1,by omega,by go_num,xk,by rw[HT.out,HY.out];exact okA,bk⟩
    case measure=>simp[intOf];omega
  ·obtain rfl:k=l.length:=by omega
   rw[List.take_length]at ok;go_wp2_with fail;go_ret;rw[HDI.out,HL.out,HV.out,← HHH.out];exact⟨_,_,rfl,xk,ok⟩
theorem pr_range {w:World}{b o:Nat}{l:List PrT}(hc:∀j v,(l.flatMap prL)[j]? =some v->w.cell? ⟨b,o+j,none⟩=some v) {k:Nat}(hk:k<l.length):w.rangeAt b (o+k*96) (prL l[k]):=λj v hv=>by
 have hj:j<96:=by have:=(List.getElem?_eq_some_iff.1 hv).1;rw[prL_len]at this;exact this
 have:=hc (k*96+j) v ((flat_at prL 96 l (λx _=>prL_len x) k hk j hj).trans hv);rw[Nat.add_assoc];exact this
theorem range_ext {w w':World}{b o:Nat}{cs:List Value}(h:w.rangeAt b o cs) (k:Ext w w'):w'.rangeAt b o cs:=λj v hv=>k.keep (h j v hv)
theorem box_range {w:World}{g:Nat}{t:TypeId}{cs:Array Value}(h:Box w g t cs) {o:Nat}{l:List Value}(hl:∀j v,l[j]? =some v->cs[o+j]? =some v):w.rangeAt g o l:=λj v hv=>(h.cell (o+j)).trans (hl j v hv)
theorem pr_all (p:PrT):(prL p).toArray.all (·.oneCell')=true:=all_oneCell_toArray (prL_one p)
section
variable {ops:Array Oper}{rest:List Oper}{o:Oper}{a:Act}{w:World}{Q:Exit->Act->World->Prop}
theorem wp_ld_pr (x:Operand) (hgd:o.guard=none) (ho:o.op=.load 57 x) (g i:Nat) (p:PrT) (hx:a.eval x=.pointer (some ⟨g,i,none⟩))
  (hb:w.rangeAt g i (prL p)) (hK:wpList prog ops Q rest (a.put o.dst (.agg (prL p).toArray)) w):wpList prog ops Q (o::rest) a w :=
 wpList_load_mid hgd _ x ho g i hx _ _ hb underlying57 rfl (by rw[prL_len];exact prSize) hK
theorem wp_st_pr (x y:Operand) (hgd:o.guard=none) (ho:o.op=.store 57 x y) (g:Nat) (p:PrT) (old:Array Value) (t:TypeId) (hx:a.eval x=.pointer (some ⟨g,0,none⟩)) (hy:a.eval y=.agg (prL p).toArray)
  (hb:Box w g t old) (hold:old.size=96) (hK:∀w',Box w' g t (prL p).toArray->w.grownBy w' (some g)->wpList prog ops Q rest (a.put o.dst undef) w'):wpList prog ops Q (o::rest) a w :=
 wp_st _ x y hgd ho g _ _ t hx hy hb (by rw[List.size_toArray,prL_len];exact prSize) (hold.trans (by rw[List.size_toArray,prL_len])) (pr_all p) hK
end
theorem mac_cells {w:World}{g:Nat}{t:TypeId}{m:Mac}(h:Box w g t m.cells):w.cell? ⟨g,0,none⟩=some (.int .u64 m.clock)/\w.cell? ⟨g,1,none⟩=some (.int .i64 m.quantum)/\w.cell? ⟨g,2,none⟩=some (.int .i64 m.cur)/\w.cell? ⟨g,3,none⟩=some (.int .i64 m.left)/\w.cell? ⟨g,4,none⟩=some (.slice m.fr.A m.fr.n m.fr.c)/\w.cell? ⟨g,5,none⟩=some (.slice m.pr.A m.pr.n m.pr.c)/\w.cell? ⟨g,6,none⟩=some (.int .i64 m.next)/\w.cell? ⟨g,7,none⟩=some (.string (str m.init))/\w.cell? ⟨g,8,none⟩=some (.slice m.pi.A m.pi.n m.pi.c)/\w.cell? ⟨g,9,none⟩=some (.int .i64 m.newPipe)/\w.cell? ⟨g,10,none⟩=some (.string (str m.inn))/\w.cell? ⟨g,11,none⟩=some (.bool m.fin)/\w.cell? ⟨g,12,none⟩=some (.int .u64 m.told)/\w.cell? ⟨g,13,none⟩=some (.slice m.bl.A m.bl.n m.bl.c)/\w.cell? ⟨g,14,none⟩=some (.slice m.pe.A m.pe.n m.pe.c)/\w.cell? ⟨g,15,none⟩=some (.int .i64 m.dleft)/\w.cell? ⟨g,16,none⟩=some (.slice m.di.A m.di.n m.di.c) :=
 ⟨h.cell 0,h.cell 1,h.cell 2,h.cell 3,h.cell 4,h.cell 5,h.cell 6,h.cell 7,h.cell 8,h.cell 9,h.cell 10,h.cell 11,h.cell 12,h.cell 13,h.cell 14,h.cell 15,h.cell 16⟩
def spaceL (p:PrT):List Value:=(List.range 16).flatMap (pteL p)
def fdsL (p:PrT):List Value:=(List.range 8).flatMap (fdL p)
theorem pr_space (p:PrT):∀j v,(spaceL p)[j]? =some v->(prL p).toArray[20+j]? =some v:=λj v hv=>by
 have hj:j<48:=by have:=(List.getElem?_eq_some_iff.1 hv).1;exact this
 rw[List.getElem?_toArray];have e:(prL p).drop 20=spaceL p++(fdsL p++[.bool p.mask,.int .u32 p.code,.int .i64 p.why,.int .u64 p.num]):=rfl;rw[← List.getElem?_drop,e,List.getElem?_append_left (by exact hj)];exact hv
theorem pr_fds (p:PrT):∀j v,(fdsL p)[j]? =some v->(prL p).toArray[68+j]? =some v:=λj v hv=>by
 have hj:j<24:=by have:=(List.getElem?_eq_some_iff.1 hv).1;exact this
 rw[List.getElem?_toArray];have e:(prL p).drop 68=fdsL p++[.bool p.mask,.int .u32 p.code,.int .i64 p.why,.int .u64 p.num]:=rfl;rw[← List.getElem?_drop,e,List.getElem?_append_left (by exact hj)];exact hv
theorem part_of (f:Nat->List Value) (n z i:Nat) (hz:∀j,(f j).length=z) (hi:i<n):((List.range n).flatMap f).toArray.extract (i*z) (i*z+z)=(f i).toArray:=by
 apply Array.toList_inj.1;apply List.ext_getElem?;intro j;rw[Array.toList_extract];simp only[List.extract_eq_take_drop,List.getElem?_take,List.getElem?_drop];have hr:(List.range n).length=n:=List.length_range;by_cases hj:j<z
 ·rw[if_pos (by omega)];have:=flat_at f z (List.range n) (λx _=>hz x) i (by omega) j hj;rw[List.getElem_range]at this;exact this
 ·rw[if_neg (by omega),List.getElem?_eq_none (by have:=hz i;simp;omega)]
theorem run_index_row {P:Program}{t e n z:Nat}{cs:Array Value}{i:Nat}{d:TypeDesc}(w:World) (hu:P.underlying t=some (.array n e)) (he:P.underlying e=some d) (hd:d.isRow=true) (hs:(P.info? e).map (·.size)=some z) (hin:i<n) :
  (Instr.index t (.agg cs) (.int .i64 (i:Int))).run P w=.ok (.agg (cs.extract (i*z) (i*z+z))) w:=by
 cases hq:P.info? e with
 | none=>simp[hq]at hs
 | some j =>
  have hz:j.size=z:=by simpa[hq]using hs
  have hagg:(isAgg e).run P w=.ok true w:=by unfold isAgg;rw[Sem.run_bind,run_underlying he w];cases d<;>simp_all
  have h1:(i:Int)<(n:Int):=by omega
  simp[Instr.index,asIntOf,run_underlying hu,h1,sizeOf,typeInfo,hq,part,Sem.run_bind,hagg,hz];intro hc;exact absurd hc (by omega)
theorem pteSize:(prog.info? 50).map (·.size)=some 3:=by kernel_rfl
theorem fdSize:(prog.info? 54).map (·.size)=some 3:=by kernel_rfl
theorem pipeSize:(prog.info? 95).map (·.size)=some 2:=by kernel_rfl
theorem spaceSize:(prog.info? 52).map (·.size)=some 48:=by kernel_rfl
theorem fdsSize:(prog.info? 55).map (·.size)=some 24:=by kernel_rfl
section
variable {ops:Array Oper}{rest:List Oper}{o:Oper}{a:Act}{w:World}{Q:Exit->Act->World->Prop}
theorem wp_st_pipe (x y:Operand) (hgd:o.guard=none) (ho:o.op=.store 95 x y) (g:Nat) (i:Int) (s:ByteArray) (old:Array Value) (t:TypeId) (hx:a.eval x=.pointer (some ⟨g,0,none⟩)) (hy:a.eval y=.agg #[.int .i64 i,.string s])
  (hb:Box w g t old) (hold:old.size=2) (hK:∀w',Box w' g t #[.int .i64 i,.string s]->w.grownBy w' (some g)->wpList prog ops Q rest (a.put o.dst undef) w'):wpList prog ops Q (o::rest) a w :=
 wp_st _ x y hgd ho g _ _ t hx hy hb pipeSize hold (all_oneCell_toArray (cs:=[.int .i64 i,.string s]) (λv hv=>by simp only[List.mem_cons,List.not_mem_nil,or_false]at hv;rcases hv with rfl|rfl<;>rfl)) hK
theorem wp_ld_space (x:Operand) (hgd:o.guard=none) (ho:o.op=.load 52 x) (g:Nat) (t:TypeId) (p:PrT) (hx:a.eval x=.pointer (some ⟨g,20,none⟩))
  (hb:Box w g t (prL p).toArray) (hK:wpList prog ops Q rest (a.put o.dst (.agg (spaceL p).toArray)) w):wpList prog ops Q (o::rest) a w :=
 wpList_load_mid hgd _ x ho g 20 hx _ _ (box_range hb (pr_space p)) underlying52 rfl (by exact spaceSize) hK
theorem wp_ld_fds (x:Operand) (hgd:o.guard=none) (ho:o.op=.load 55 x) (g:Nat) (t:TypeId) (p:PrT) (hx:a.eval x=.pointer (some ⟨g,68,none⟩))
  (hb:Box w g t (prL p).toArray) (hK:wpList prog ops Q rest (a.put o.dst (.agg (fdsL p).toArray)) w):wpList prog ops Q (o::rest) a w :=
 wpList_load_mid hgd _ x ho g 68 hx _ _ (box_range hb (pr_fds p)) underlying55 rfl (by exact fdsSize) hK
theorem wp_idx_pte (x y:Operand) (hgd:o.guard=none) (ho:o.op=.index 52 x y) (p:PrT) (i:Nat) (hx:a.eval x=.agg (spaceL p).toArray) (hy:a.eval y=.int .i64 (i:Int)) (hi:i<16)
  (hK:wpList prog ops Q rest (a.put o.dst (.agg #[.bool (p.pis i),.bool (p.pwr i),.int .i64 (p.pfr i)])) w):wpList prog ops Q (o::rest) a w:=by
 refine wpList_plain hgd λK hK'=>?_;unfold Oper.wp execOp;have:=run_index_row (P:=prog) (cs:=(spaceL p).toArray) (i:=i) w underlying52 underlying50 rfl pteSize hi;rw[show(spaceL p).toArray.extract (i*3) (i*3+3)=_ from part_of (pteL p) 16 3 i (λ_=>rfl) hi]at this;simp only[ho,hx,hy,this,Sem.run_bind,Sem.run_pure,Result.andThen_ok];exact hK' _ _ hK
theorem wp_idx_fd (x y:Operand) (hgd:o.guard=none) (ho:o.op=.index 55 x y) (p:PrT) (i:Nat) (hx:a.eval x=.agg (fdsL p).toArray) (hy:a.eval y=.int .i64 (i:Int)) (hi:i<8)
  (hK:wpList prog ops Q rest (a.put o.dst (.agg #[.int .i64 (p.fk i),.int .i64 (p.fn i),.int .i64 (p.fp i)])) w):wpList prog ops Q (o::rest) a w:=by
 refine wpList_plain hgd λK hK'=>?_;unfold Oper.wp execOp;have:=run_index_row (P:=prog) (cs:=(fdsL p).toArray) (i:=i) w underlying55 underlying54 rfl fdSize hi;rw[show(fdsL p).toArray.extract (i*3) (i*3+3)=_ from part_of (fdL p) 8 3 i (λ_=>rfl) hi]at this;simp only[ho,hx,hy,this,Sem.run_bind,Sem.run_pure,Result.andThen_ok];exact hK' _ _ hK
end
theorem own_row {α:Type} {f:α->List Value}{w:World}{base z n:Nat}{e:TypeId}{s:Sl}{l:List α}(h:w.ownsRow base e z (.slice s.A s.n s.c) n (l.flatMap f)) (hz:∀x∈l,(f x).length=z) (hn:n=l.length) (hs:s.n=n):RowOf f w s.A s.n l:=by
 refine⟨hs.trans hn,λhp=>?_⟩;have h':=h;rcases h.2 with⟨e1,h0⟩|⟨g,cap,cur,e1,_⟩
 ·omega
 ·injection e1 with e1 e2 e3;refine⟨g,0,e1,λj v hj=>?_⟩;rw[e1,hs]at h';rw[Nat.zero_add,h'.cellAt j (by have:=(List.getElem?_eq_some_iff.1 hj).1;rw[flat_len f z l hz]at this;rw[hn];exact this)];exact hj
def zeroPr:PrT:=⟨0,0,0,λ_=>0,0,λ_=>false,λ_=>false,λ_=>0,λ_=>0,λ_=>0,λ_=>0,false,0,0,0⟩
theorem prInfo:(prog.info? 57).map (λi=>(i.zero,i.size,i.bytes))=some (some (.agg (prL zeroPr).toArray),96,568):=by kernel_rfl
theorem wrInfo:(prog.info? 92).map (λi=>(i.zero,i.size,i.bytes))=some (some (.agg #[.int .i64 0,.string ⟨#[]⟩]),2,24):=by kernel_rfl
theorem piInfo:(prog.info? 95).map (λi=>(i.zero,i.size,i.bytes))=some (some (.agg #[.int .i64 0,.string ⟨#[]⟩]),2,24):=by kernel_rfl
theorem wrL_one (x:WrT):∀v∈wrL x,v.oneCell'=true:=λv hv=>by
 simp only[wrL,List.mem_cons,List.not_mem_nil,or_false]at hv;rcases hv with rfl|rfl<;>rfl
theorem macC_one (m:Mac):m.cells.all (·.oneCell')=true:=all_oneCell_toArray (cs:=m.cells.toList) (λv hv=>by
 simp only[Mac.cells,List.mem_cons,List.not_mem_nil,or_false]at hv;rcases hv with rfl|rfl|rfl|rfl|rfl|rfl|rfl|rfl|rfl|rfl|rfl|rfl|rfl|rfl|rfl|rfl|rfl<;>rfl)
section
variable {ops:Array Oper}{rest:List Oper}{o:Oper}{a:Act}{w:World}{Q:Exit->Act->World->Prop}
theorem wp_st_mac (x y:Operand) (hgd:o.guard=none) (ho:o.op=.store 38 x y) (g:Nat) (m:Mac) (old:Array Value) (t:TypeId) (hx:a.eval x=.pointer (some ⟨g,0,none⟩)) (hy:a.eval y=.agg m.cells)
  (hb:Box w g t old) (hold:old.size=17) (hK:∀w',Box w' g t m.cells->w.grownBy w' (some g)->wpList prog ops Q rest (a.put o.dst undef) w'):wpList prog ops Q (o::rest) a w :=
 wp_st _ x y hgd ho g m.cells old t hx hy hb macSize hold (macC_one m) hK
end
theorem own_setBox {w:World}{base n g i size:Nat}{e t:TypeId}{v:Value}{xs:List Value}{cs:Array Value}(h:w.ownsRow base e size v n xs) (hb:Box w g t cs) (hne:e≠t) (u:Value):(w.setCell ⟨g,i,none⟩ u).ownsRow base e size v n xs:=by
 have hn:=own_ne h hb hne;refine⟨h.1,?_⟩;rcases h.2 with c|⟨g1,cap1,cur,e1,hbb,hh,r⟩
 ·exact Or.inl c
 ·have:g1≠g:=λe2=>hn (by rw[e1,e2];rfl);exact Or.inr ⟨g1,cap1,cur,e1,hbb,Box.setOther (show Box w g1 e cur from hh) this u,r⟩
theorem results_cell1 {fn:Func}{p:Tmp}{ty:TypeId}(h:fn.results=#[.cell p ty]) (tmps:Array Value) (w:World) (g:Nat) (t:TypeId) (cs:Array Value) (d:TypeDesc)
  (hp:tmps.getD p undef=.pointer (some ⟨g,0,none⟩)) (hg:Box w g t cs)
  (hu:prog.underlying ty=some d) (hd:isAggD d=true) (hi:(prog.info? ty).map (·.size)=some cs.size) :
  (results fn tmps).run prog w=.ok (.agg cs) w:=by
 have hp':tmps[p]?.getD undef=.pointer (some ⟨g,0,none⟩):=by simpa using hp
 simp[results,h,hp',asAddr,run_loadVar_row w g t ty cs (0,0) d hg hu (by cases d<;>first|rfl|cases hd) hi]
abbrev tC (A:Option Addr) (n c:Nat) (b:Bool):Array Value:=#[.slice A n c,.bool b]
theorem tSz {A:Option Addr}{n c:Nat}{b:Bool}:(prog.info? 193).map (·.size)=some (tC A n c b).size:=by kernel_rfl
theorem tOne (A:Option Addr) (n c:Nat) (b:Bool):(tC A n c b).all (·.oneCell')=true:=by kernel_rfl
def IsT (w:World) (L:List (List UInt8)) (b:Bool) (v:Value):Prop:=∃A n c,v=.agg (tC A n c b)/\TRow w A n L/\n<=c
theorem IsT.ext {w w':World}{L:List (List UInt8)}{b:Bool}{v:Value}(h:IsT w L b v) (x:Ext w w'):IsT w' L b v:=by
 obtain⟨A,n,c,h1,h2,h3⟩:=h;exact⟨A,n,c,h1,h2.ext x,h3⟩
theorem but_grown2 {w w':World}{g:Nat}(h:w.grownBy w' (some g)):But g w w':=⟨h.os,h.tape,h.output,h.size,λk hk hne=>h.block k hk (λe=>hne (by injection e))⟩
theorem made_zs1 (m:Nat):madeCells #[.int .u8 0] m=byteVals (zs m):=by
 apply Array.toList_inj.1;rw[toList_madeCells_one];simp[byteVals,zs]
theorem make_zs1 (m:Nat) (hm:m<=1000) (w:World):(Instr.makeSlice 167 (.int .i64 (m:Int)) (.int .i64 (m:Int))).run prog w=.ok (.slice (some ⟨w.heap.size,0,none⟩) m m) (w.alloc (.cells (byteVals (zs m)) 5)):=by
 rw[← made_zs1];exact run_make_row' 167 5 (.int .u8 0) 1 underlying167 byteInfo rfl .i64 .i64 m (by omega) (by omega) w
def longV (z:Nat) (s:List UInt8):List UInt8:=if s.length=z then s else zs z
def TakeR (w0 w:World) (L:List (List UInt8)) (b:Bool) (u:Value) (e:Ending) (w':World):Prop:=(∃v,e=.returned (.tuple #[v,u])/\IsT w0 L b v)/\Ext w w'
theorem TRow.tailS {w:World}{g o n:Nat}{s:List UInt8}{L:List (List UInt8)}(h:TRow w (some ⟨g,o,none⟩) n (s::L)):TRow w (some ⟨g,o+1,none⟩) (n-1) L:=by
 obtain⟨h1,h2⟩:=h;refine⟨by rw[h1];rfl,λhn=>?_⟩;obtain⟨b,o2,cur,fz,e,hb,hc⟩:=h2 (by omega);injection e with e;injection e with e1 e2;subst e1 e2;refine⟨g,o+1,cur,fz,rfl,hb,λk hk=>?_⟩;have:=hc (k+1) (by simpa using hk);rw[show o+(k+1)=o+1+k by omega]at this;simpa using this
theorem rtext_any (L:List (List UInt8)) (b:Bool) (v:Value) (w0 w:World) (h:IsT w0 L b v) (x:Ext w0 w) :
  Calls prog 136 #[v] w (TakeR w0 w L.tail (b||L.isEmpty) (.string (str (L.headD [])))):=by
 obtain⟨A,n,c,rfl,h1,h2⟩:=h;have x0:=((Ext.refl w).alloc (.cells (tC A n c b) 193)).alloc (.cells (tC none 0 0 false) 193);have b0:=(Box.new w 193 (tC A n c b)).ext ((Ext.refl _).alloc (.cells (tC none 0 0 false) 193));have b1:=Box.new (w.alloc (.cells (tC A n c b) 193)) 193 (tC none 0 0 false);rw[World.size_alloc]at b1;have h3:=h1.strs.ext (x.trans x0);have H1:=lh_ h1;clear h1 x;go_enter func136,ntmps136;go_upto_region 1 with fail;generalize (w.alloc (.cells (tC A n c b) 193)).alloc (.cells (tC none 0 0 false) 193)=w1 at *;obtain⟨G,hG⟩:∃G,G=w.heap.size:=⟨_,rfl⟩
 rw[← hG]at b0 b1 ⊢;have HG:=lh_ hG;clear hG;have c0:w1.cell? ⟨G,0,none⟩=some (.slice A n c):=b0.cell 0;have q1:w1.cell? ⟨G,1,none⟩=some (.bool b):=b0.cell 1;have f0:w1.frozen? ⟨G,0,none⟩=false:=b0.frozen 0;have f1:w1.frozen? ⟨G,1,none⟩=false:=b0.frozen 1;cases L with
 | nil =>
  obtain rfl:n=0:=h3.1;go_upto_region 3 with fail;have d0:Box (w1.setCell ⟨G,1,none⟩ (.bool true)) G 193 (tC A 0 c true):=b0.set 1 (.bool true);have hk:But G w1 (w1.setCell ⟨G,1,none⟩ (.bool true)):=(But.refl G w1).setCell 1 _;have d1:=hk.box b1 (by omega);have x2:=hk.past x0 (by rw[HG.out];exact Nat.le_refl _);generalize w1.setCell ⟨G,1,none⟩ (.bool true)=w2 at *;clear c0 q1 f0 f1 hk b0 b1 x0 h3
  go_wp2_with (first
   | (refine wp_ld _ _ rfl rfl G (tC A 0 c true) _ _ rfl d0 underlying193 rfl tSz ?_)
   | (refine wp_st _ _ _ rfl rfl (G+1) (tC A 0 c true) _ _ rfl rfl d1 tSz rfl (tOne _ _ _ _) ?_;intro w3 b3 g3))
  refine bodyPost_ret (results_cell2 rfl _ _ (G+1) _ _ _ _ rfl rfl b3 underlying193 rfl tSz) rfl ⟨⟨_,by rw[List.isEmpty_nil,Bool.or_true];rfl,A,0,c,rfl,⟨rfl,λh=>absurd h (by decide)⟩,Nat.zero_le _⟩,x2.grown g3 (λj e=>by cases e;rw[← HG.out];exact Nat.le_succ _)⟩
 | cons s L =>
  obtain⟨g,o,rfl,h5⟩:=h3.2 (by rw[h3.1];simp);have c1:w1.cell? ⟨g,o,none⟩=some (.string (str s)):=by have:=h5 0 (by simp);simpa using this
  have HT:=lh_ H1.out.tailS;have hn:n=L.length+1:=h3.1;subst hn;have HK:Hid (∀A' n' c',Box (w1.setCell ⟨G,0,none⟩ (.slice A' n' c')) G 193 (tC A' n' c' b)/\But G w1 (w1.setCell ⟨G,0,none⟩ (.slice A' n' c'))):=lh_ (λA' n' c'=>⟨b0.set 0 _,(But.refl G w1).setCell 0 _⟩);have HB1:=lh_ b1;have HB0:=lh_ b0;clear h5 b0 b1 f1 q1 h3;by_cases hc:c=1
  ·subst hc;have hL:L=[]:=List.eq_nil_of_length_eq_zero (by omega);subst hL;go_upto_region 6 with fail;obtain⟨d0,hk⟩:=HK.out (some ⟨g,o,none⟩) 0 0;have d1:=hk.box HB1.out (by omega);have x2:=hk.past x0 (by rw[HG.out];exact Nat.le_refl _);generalize w1.setCell ⟨G,0,none⟩ (.slice (some ⟨g,o,none⟩) 0 0)=w2 at *;clear c0 c1 f0 hk x0 HK HB0 HB1
   go_wp2_with (first
    | (refine wp_ld _ _ rfl rfl G (tC (some ⟨g,o,none⟩) 0 0 b) _ _ rfl d0 underlying193 rfl tSz ?_)
    | (refine wp_st _ _ _ rfl rfl (G+1) (tC (some ⟨g,o,none⟩) 0 0 b) _ _ rfl rfl d1 tSz rfl (tOne _ _ _ _) ?_;intro w3 b3 g3))
   have x3:=x2.grown g3 (λj e=>by cases e;rw[← HG.out];exact Nat.le_succ _);refine bodyPost_ret (results_cell2 rfl _ _ (G+1) _ _ _ _ rfl rfl b3 underlying193 rfl tSz) rfl ⟨⟨_,by rw[List.isEmpty_cons,Bool.or_false];rfl,_,_,_,rfl,⟨rfl,λh=>absurd h (by simp)⟩,Nat.le_refl _⟩,x3⟩
  ·have hc1:¬(c:Int)-1=0:=by omega
   have hc2:¬c-1=0:=by omega
   go_upto_region 6 with fail;obtain⟨d0,hk⟩:=HK.out (some ⟨g,o+1,none⟩) L.length (c-1);have d1:=hk.box HB1.out (by omega);have x2:=hk.past x0 (by rw[HG.out];exact Nat.le_refl _);generalize w1.setCell ⟨G,0,none⟩ (.slice (some ⟨g,o+1,none⟩) L.length (c-1))=w2 at *;clear c0 c1 f0 hk x0 HK HB0 HB1
   go_wp2_with (first
    | (refine wp_ld _ _ rfl rfl G (tC (some ⟨g,o+1,none⟩) L.length (c-1) b) _ _ rfl d0 underlying193 rfl tSz ?_)
    | (refine wp_st _ _ _ rfl rfl (G+1) (tC (some ⟨g,o+1,none⟩) L.length (c-1) b) _ _ rfl rfl d1 tSz rfl (tOne _ _ _ _) ?_;intro w3 b3 g3))
   have x3:=x2.grown g3 (λj e=>by cases e;rw[← HG.out];exact Nat.le_succ _);refine bodyPost_ret (results_cell2 rfl _ _ (G+1) _ _ _ _ rfl rfl b3 underlying193 rfl tSz) rfl ⟨⟨_,by rw[List.isEmpty_cons,Bool.or_false];rfl,_,_,_,rfl,HT.out,by omega⟩,x3⟩
theorem rof32_any (s:List UInt8) (z:Option Nat) (w:World) (hs:s.length<=1000000000) (hz:∀n,z=some n->n<=1000) :
  Calls prog 135 #[.string (str s),.int .i64 (zI z)] w λe w'=>(∃v,e=.returned v/\IsT w' ((openT z s).getD []) (openT z s).isNone v)/\Ext w w':=by
 have HT:=lh_ (λw=>(rtexts_any s w hs).mono (λe w' ⟨u,h1,h2,h3⟩=>by
  obtain⟨A,c,rfl,ht,hc⟩:=own_trow h3;exact(⟨A,c,h1,h2,ht,hc⟩:∃A c,e=.returned (.tuple #[.slice A (textsP s).1.length c,.int .i64 (textsP s).2])/\Ext w w'/\TRow w' A (textsP s).1.length (textsP s).1/\(textsP s).1.length<=c)))
 have hl:=(textsP_len s).1;have x0:=(Ext.refl w).alloc (.cells (tC none 0 0 false) 193);have b0:=Box.new w 193 (tC none 0 0 false);go_enter func135,ntmps135;go_upto_region 1 with fail;generalize w.alloc (.cells (tC none 0 0 false) 193)=w1 at *;obtain⟨G,hG⟩:∃G,G=w.heap.size:=⟨_,rfl⟩
 rw[← hG]at b0 ⊢;have HG:=lh_ hG;clear hG;have hGl:=b0.lt;by_cases he:(textsP s).2=0
 ·have hb:((textsP s).2 != 0)=false:=by simp[he]
  rw[he]at HT;cases z with
  | none =>
   have HOP:=lh_ (show openT none s=some (textsP s).1 from if_pos ⟨he,λn h=>by cases h⟩);clear he hz hb;unfold zI;generalize (textsP s).1=T at *
   go_wp2_with (first
    | (go_at_call 195;refine(HT.out _).mono ?_;rintro e w2 ⟨A,c,rfl,x2,s2,k2⟩)
    | (refine wp_st _ _ _ rfl rfl G (tC A T.length c false) _ _ rfl rfl (b0.ext x2) tSz rfl (tOne _ _ _ _) ?_;intro w3 b3 g3))
   have x3:=(x0.trans x2).grown g3 (λj e=>by cases e;rw[← HG.out];exact Nat.le_refl _);have s3:=(s2.but (but_grown2 g3) (b0.ext x2) (by decide))
   refine bodyPost_ret (results_cell1 rfl _ _ G _ _ _ rfl b3 underlying193 rfl tSz) rfl ⟨⟨_,rfl,?_⟩,x3⟩;rw[HOP.out];exact⟨A,T.length,c,rfl,s3,k2⟩
  | some k =>
   have hk:=hz k rfl;have hz1:(0:Int)<=k:=by omega
   unfold zI;by_cases hln:(textsP s).1.length=k
   ·have HOP:=lh_ (show openT (some k) s=some (textsP s).1 from if_pos ⟨he,λn h=>by cases h;exact hln⟩);have hq:(((textsP s).1.length:Int) != (k:Int))=false:=by rw[hln];simp
    clear he hz hb hln;generalize (textsP s).1=T at *
    go_wp2_with (first
     | (go_at_call 195;refine(HT.out _).mono ?_;rintro e w2 ⟨A,c,rfl,x2,s2,k2⟩)
     | (refine wp_st _ _ _ rfl rfl G (tC A T.length c false) _ _ rfl rfl (b0.ext x2) tSz rfl (tOne _ _ _ _) ?_;intro w3 b3 g3))
    have x3:=(x0.trans x2).grown g3 (λj e=>by cases e;rw[← HG.out];exact Nat.le_refl _);have s3:=(s2.but (but_grown2 g3) (b0.ext x2) (by decide))
    refine bodyPost_ret (results_cell1 rfl _ _ G _ _ _ rfl b3 underlying193 rfl tSz) rfl ⟨⟨_,rfl,?_⟩,x3⟩;rw[HOP.out];exact⟨A,T.length,c,rfl,s3,k2⟩
   ·have HOP:=lh_ (show openT (some k) s=none from if_neg (λh=>hln (h.2 k rfl)));have hq:(((textsP s).1.length:Int) != (k:Int))=true:=by simp;omega
    clear he hz hb hln;generalize (textsP s).1=T at *
    go_wp2_with (first
     | (go_at_call 195;refine(HT.out _).mono ?_;rintro e w2 ⟨A,c,rfl,x2,s2,k2⟩)
     | (refine wp_st _ _ _ rfl rfl G (tC none 0 0 true) _ _ rfl rfl (b0.ext x2) tSz rfl (tOne _ _ _ _) ?_;intro w3 b3 g3))
    have x3:=(x0.trans x2).grown g3 (λj e=>by cases e;rw[← HG.out];exact Nat.le_refl _);refine bodyPost_ret (results_cell1 rfl _ _ G _ _ _ rfl b3 underlying193 rfl tSz) rfl ⟨⟨_,rfl,?_⟩,x3⟩;rw[HOP.out];exact⟨none,0,0,rfl,⟨rfl,λh=>absurd h (by simp)⟩,Nat.le_refl _⟩
 ·have HOP:=lh_ (show openT z s=none from if_neg (λh=>he h.1));have hb:((textsP s).2 != 0)=true:=by simpa using he
  clear he hz;generalize (textsP s).2=er at *;generalize (textsP s).1=T at *
  go_wp2_with (first
   | (go_at_call 195;refine(HT.out _).mono ?_;rintro e w2 ⟨A,c,rfl,x2,s2,k2⟩)
   | (refine wp_st _ _ _ rfl rfl G (tC none 0 0 true) _ _ rfl rfl (b0.ext x2) tSz rfl (tOne _ _ _ _) ?_;intro w3 b3 g3))
  have x3:=(x0.trans x2).grown g3 (λj e=>by cases e;rw[← HG.out];exact Nat.le_refl _);refine bodyPost_ret (results_cell1 rfl _ _ G _ _ _ rfl b3 underlying193 rfl tSz) rfl ⟨⟨_,rfl,?_⟩,x3⟩;rw[HOP.out];exact⟨none,0,0,rfl,⟨rfl,λh=>absurd h (by simp)⟩,Nat.le_refl _⟩
theorem rnumber_any (L:List (List UInt8)) (b:Bool) (v:Value) (w0 w:World) (h:IsT w0 L b v) (x:Ext w0 w) (hL:∀s∈L,s.length<=1000000000) :
  Calls prog 138 #[v] w (TakeR w0 w L.tail (b||(intP (L.headD [])).isNone) (.int .i64 ((intP (L.headD [])).getD 0))):=by
 have HTx:=lh_ (λw h=>rtext_any L b v w0 w h);have HH:=lh_ h;obtain⟨hd,hhd⟩:∃hd,hd=L.headD []:=⟨_,rfl⟩
 obtain⟨be,hbe⟩:∃be,be=(b||L.isEmpty):=⟨_,rfl⟩
 have hLh:hd.length<=1000000000:=by
  rw[hhd];cases L with
  | nil=>simp
  | cons s L=>exact hL s List.mem_cons_self
 have HI:=lh_ (λw=>rint_any hd w hLh);have HE:=lh_ (show be=true->(b||(intP hd).isNone)=true fromλh=>by
  rw[hbe]at h;cases b with
  | true=>rfl
  | false =>
   cases L with
   | nil=>rw[hhd];decide +kernel
   | cons s L=>simp at h)
 have HF:=lh_ (show be=false->b=false fromλh=>by rw[hbe]at h;cases b<;>simp_all);clear hL hLh;rw[← hhd,← hbe]at HTx;rw[← hhd];have HHD:=lh_ hhd;have HBE:=lh_ hbe;clear hhd hbe;obtain⟨A,n,c,rfl,h1,h2⟩:=h;have x0:=((Ext.refl w).alloc (.cells (tC A n c b) 193)).alloc (.cells (tC none 0 0 false) 193);have b0:=(Box.new w 193 (tC A n c b)).ext ((Ext.refl _).alloc (.cells (tC none 0 0 false) 193));have b1:=Box.new (w.alloc (.cells (tC A n c b) 193)) 193 (tC none 0 0 false);rw[World.size_alloc]at b1;clear h1 h2;go_enter func138,ntmps138;go_upto_region 1 with fail;generalize (w.alloc (.cells (tC A n c b) 193)).alloc (.cells (tC none 0 0 false) 193)=w1 at *;obtain⟨G,hG⟩:∃G,G=w.heap.size:=⟨_,rfl⟩
 rw[← hG]at b0 b1 ⊢;have HG:=lh_ hG;clear hG;have hGl:=b1.lt
 go_upto_region 2 with(first
  | (refine wp_ld _ _ rfl rfl G (tC A n c b) _ _ rfl b0 underlying193 rfl tSz ?_)
  | (go_at_call 136;refine(HTx.out _ HH.out (x.trans x0)).mono ?_;rintro e w2 ⟨⟨v2,rfl,A2,n2,c2,rfl,s2,k2⟩,x2⟩)
  | (refine wp_st _ _ _ rfl rfl G (tC A2 n2 c2 be) _ _ rfl rfl (b0.ext x2) tSz rfl (tOne _ _ _ _) ?_;intro w3 b3 g3))
 have hk:=but_grown2 g3;have d1:=hk.box (b1.ext x2) (by omega);have x3:=hk.past (x0.trans x2) (by rw[HG.out];exact Nat.le_refl _);have HS2:=lh_ s2;have HK2:=lh_ k2;clear HTx HH b0 b1 x0 x2 g3 hk s2 k2 x hGl;cases hp:intP hd with
 | none =>
  have HI2:=lh_ (λw=>(HI.out w).mono (λe w' h=>(⟨h.1.trans (by unfold intR;rw[hp];rfl),h.2⟩:e=.returned (.tuple #[.int .i64 0,.bool false])/\Ext w w')));have HP:=lh_ hp;clear hp HI HE HF;go_upto_region 3 with(go_at_call 196;refine(HI2.out _).mono ?_;rintro e w5 ⟨rfl,x5⟩)
  replace b3:=b3.ext x5;replace d1:=d1.ext x5;replace x3:=x3.trans x5;have q1:w5.cell? ⟨G,1,none⟩=some (.bool be):=b3.cell 1;have f1:w5.frozen? ⟨G,1,none⟩=false:=b3.frozen 1;go_upto_region 5 with fail;have b4:Box (w5.setCell ⟨G,1,none⟩ (.bool true)) G 193 (tC A2 n2 c2 true):=b3.set 1 (.bool true);have hk4:But G w5 (w5.setCell ⟨G,1,none⟩ (.bool true)):=(But.refl G w5).setCell 1 _;have d4:=hk4.box d1 (by omega);have x4:=hk4.past x3 (by rw[HG.out];exact Nat.le_refl _);generalize w5.setCell ⟨G,1,none⟩ (.bool true)=w4 at *;clear q1 f1 hk4 b3 d1 x3
  go_wp2_with (first
   | (refine wp_ld _ _ rfl rfl G (tC A2 n2 c2 true) _ _ rfl b4 underlying193 rfl tSz ?_)
   | (refine wp_st _ _ _ rfl rfl (G+1) (tC A2 n2 c2 true) _ _ rfl rfl d4 tSz rfl (tOne _ _ _ _) ?_;intro w9 b9 g9))
  refine bodyPost_ret (results_cell2 rfl _ _ (G+1) _ _ _ _ rfl rfl b9 underlying193 rfl tSz) rfl ⟨⟨_,?_,A2,n2,c2,rfl,HS2.out,HK2.out⟩,x4.grown g9 (λj e=>by cases e;rw[← HG.out];exact Nat.le_succ _)⟩;rw[show(b||(intP hd).isNone)=true by rw[HP.out,Option.isNone_none,Bool.or_true],HP.out];rfl
 | some k =>
  have HI2:=lh_ (λw=>(HI.out w).mono (λe w' h=>(⟨h.1.trans (by unfold intR;rw[hp];rfl),h.2⟩:e=.returned (.tuple #[.int .i64 k,.bool true])/\Ext w w')));have hbb:(b||(intP hd).isNone)=be:=by
   rw[hp];cases he:be with
   | false=>rw[HF.out he];rfl
   | true=>have:=HE.out he;rw[hp]at this;exact this
  have HBB:=lh_ hbb;have HP:=lh_ hp;clear hp HI HE HF hbb;go_upto_region 3 with(go_at_call 196;refine(HI2.out _).mono ?_;rintro e w5 ⟨rfl,x5⟩)
  have b4:=b3.ext x5;have d4:=d1.ext x5;have x4:=x3.trans x5;clear b3 d1 x3
  go_wp2_with (first
   | (refine wp_ld _ _ rfl rfl G (tC A2 n2 c2 be) _ _ rfl b4 underlying193 rfl tSz ?_)
   | (refine wp_st _ _ _ rfl rfl (G+1) (tC A2 n2 c2 be) _ _ rfl rfl d4 tSz rfl (tOne _ _ _ _) ?_;intro w9 b9 g9))
  refine bodyPost_ret (results_cell2 rfl _ _ (G+1) _ _ _ _ rfl rfl b9 underlying193 rfl tSz) rfl ⟨⟨_,?_,A2,n2,c2,rfl,HS2.out,HK2.out⟩,x4.grown g9 (λj e=>by cases e;rw[← HG.out];exact Nat.le_succ _)⟩;rw[HBB.out,HP.out];rfl
theorem rflag_any (L:List (List UInt8)) (b:Bool) (v:Value) (w0 w:World) (h:IsT w0 L b v) (x:Ext w0 w) :
  Calls prog 139 #[v] w (TakeR w0 w L.tail (b||(flagP (L.headD [])).isNone) (.bool ((flagP (L.headD [])).getD false))):=by
 have HTx:=lh_ (λw h=>rtext_any L b v w0 w h);have HH:=lh_ h;obtain⟨hd,hhd⟩:∃hd,hd=L.headD []:=⟨_,rfl⟩
 obtain⟨be,hbe⟩:∃be,be=(b||L.isEmpty):=⟨_,rfl⟩
 have HE:=lh_ (show be=true->(b||(flagP hd).isNone)=true fromλh=>by
  rw[hbe]at h;cases b with
  | true=>rfl
  | false =>
   cases L with
   | nil=>rw[hhd];decide +kernel
   | cons s L=>simp at h)
 have HF:=lh_ (show be=false->b=false fromλh=>by rw[hbe]at h;cases b<;>simp_all);rw[← hhd,← hbe]at HTx;rw[← hhd];have HHD:=lh_ hhd;have HBE:=lh_ hbe;clear hhd hbe;obtain⟨A,n,c,rfl,h1,h2⟩:=h;have x0:=((Ext.refl w).alloc (.cells (tC A n c b) 193)).alloc (.cells (tC none 0 0 false) 193);have b0:=(Box.new w 193 (tC A n c b)).ext ((Ext.refl _).alloc (.cells (tC none 0 0 false) 193));have b1:=Box.new (w.alloc (.cells (tC A n c b) 193)) 193 (tC none 0 0 false);rw[World.size_alloc]at b1;clear h1 h2;go_enter func139,ntmps139;go_upto_region 1 with fail;generalize (w.alloc (.cells (tC A n c b) 193)).alloc (.cells (tC none 0 0 false) 193)=w1 at *;obtain⟨G,hG⟩:∃G,G=w.heap.size:=⟨_,rfl⟩
 rw[← hG]at b0 b1 ⊢;have HG:=lh_ hG;clear hG;have hGl:=b1.lt
 go_upto_region 2 with(first
  | (refine wp_ld _ _ rfl rfl G (tC A n c b) _ _ rfl b0 underlying193 rfl tSz ?_)
  | (go_at_call 136;refine(HTx.out _ HH.out (x.trans x0)).mono ?_;rintro e w2 ⟨⟨v2,rfl,A2,n2,c2,rfl,s2,k2⟩,x2⟩)
  | (refine wp_st _ _ _ rfl rfl G (tC A2 n2 c2 be) _ _ rfl rfl (b0.ext x2) tSz rfl (tOne _ _ _ _) ?_;intro w3 b3 g3))
 have hk:=but_grown2 g3;have d1:=hk.box (b1.ext x2) (by omega);have x3:=hk.past (x0.trans x2) (by rw[HG.out];exact Nat.le_refl _);have HS2:=lh_ s2;have HK2:=lh_ k2;clear HTx HH b0 b1 x0 x2 g3 hk s2 k2 x hGl;by_cases h48:hd=[48]
 ·have hP:flagP hd=some false:=by rw[h48];rfl
  have e1:((str hd).toList==[48])=true:=by rw[str_toList,h48];rfl
  have e2:((str hd).toList==[49])=false:=by rw[str_toList,h48];rfl
  have HP:=lh_ hP;have hbb:(b||(flagP hd).isNone)=be:=by
   rw[hP];cases he:be with
   | false=>rw[HF.out he];rfl
   | true=>have:=HE.out he;rw[hP]at this;exact this
  have HBB:=lh_ hbb;have b4:=b3;have d4:=d1;have x4:=x3;clear h48 hP HE HF hbb b3 d1 x3
  go_wp2_with (first
   | (refine wp_ld _ _ rfl rfl G (tC A2 n2 c2 be) _ _ rfl b4 underlying193 rfl tSz ?_)
   | (refine wp_st _ _ _ rfl rfl (G+1) (tC A2 n2 c2 be) _ _ rfl rfl d4 tSz rfl (tOne _ _ _ _) ?_;intro w9 b9 g9))
  refine bodyPost_ret (results_cell2 rfl _ _ (G+1) _ _ _ _ rfl rfl b9 underlying193 rfl tSz) rfl ⟨⟨_,?_,A2,n2,c2,rfl,HS2.out,HK2.out⟩,x4.grown g9 (λj e=>by cases e;rw[← HG.out];exact Nat.le_succ _)⟩;rw[HBB.out,HP.out];rfl
 by_cases h49:hd=[49]
 ·have hP:flagP hd=some true:=by rw[h49];rfl
  have e1:((str hd).toList==[48])=false:=by rw[str_toList,h49];rfl
  have e2:((str hd).toList==[49])=true:=by rw[str_toList,h49];rfl
  have HP:=lh_ hP;have hbb:(b||(flagP hd).isNone)=be:=by
   rw[hP];cases he:be with
   | false=>rw[HF.out he];rfl
   | true=>have:=HE.out he;rw[hP]at this;exact this
  have HBB:=lh_ hbb;have b4:=b3;have d4:=d1;have x4:=x3;clear h48 h49 hP HE HF hbb b3 d1 x3
  go_wp2_with (first
   | (refine wp_ld _ _ rfl rfl G (tC A2 n2 c2 be) _ _ rfl b4 underlying193 rfl tSz ?_)
   | (refine wp_st _ _ _ rfl rfl (G+1) (tC A2 n2 c2 be) _ _ rfl rfl d4 tSz rfl (tOne _ _ _ _) ?_;intro w9 b9 g9))
  refine bodyPost_ret (results_cell2 rfl _ _ (G+1) _ _ _ _ rfl rfl b9 underlying193 rfl tSz) rfl ⟨⟨_,?_,A2,n2,c2,rfl,HS2.out,HK2.out⟩,x4.grown g9 (λj e=>by cases e;rw[← HG.out];exact Nat.le_succ _)⟩;rw[HBB.out,HP.out];rfl
 ·have hP:flagP hd=none:=by unfold flagP;rw[if_neg h49,if_neg h48]
  have e1:((str hd).toList==[48])=false:=by rw[str_toList];simpa using h48
  have e2:((str hd).toList==[49])=false:=by rw[str_toList];simpa using h49
  have HP:=lh_ hP;clear h48 h49 hP HE HF;have q1:w3.cell? ⟨G,1,none⟩=some (.bool be):=b3.cell 1;have f1:w3.frozen? ⟨G,1,none⟩=false:=b3.frozen 1;go_upto_region 4 with fail;have b4:Box (w3.setCell ⟨G,1,none⟩ (.bool true)) G 193 (tC A2 n2 c2 true):=b3.set 1 (.bool true);have hk4:But G w3 (w3.setCell ⟨G,1,none⟩ (.bool true)):=(But.refl G w3).setCell 1 _;have d4:=hk4.box d1 (by omega);have x4:=hk4.past x3 (by rw[HG.out];exact Nat.le_refl _);generalize w3.setCell ⟨G,1,none⟩ (.bool true)=w4 at *;clear q1 f1 hk4 b3 d1 x3
  go_wp2_with (first
   | (refine wp_ld _ _ rfl rfl G (tC A2 n2 c2 true) _ _ rfl b4 underlying193 rfl tSz ?_)
   | (refine wp_st _ _ _ rfl rfl (G+1) (tC A2 n2 c2 true) _ _ rfl rfl d4 tSz rfl (tOne _ _ _ _) ?_;intro w9 b9 g9))
  refine bodyPost_ret (results_cell2 rfl _ _ (G+1) _ _ _ _ rfl rfl b9 underlying193 rfl tSz) rfl ⟨⟨_,?_,A2,n2,c2,rfl,HS2.out,HK2.out⟩,x4.grown g9 (λj e=>by cases e;rw[← HG.out];exact Nat.le_succ _)⟩;rw[show(b||(flagP hd).isNone)=true by rw[HP.out,Option.isNone_none,Bool.or_true],HP.out];rfl
theorem rbytes_any (L:List (List UInt8)) (b:Bool) (v:Value) (z:Nat) (w0 w:World) (h:IsT w0 L b v) (x:Ext w0 w) (hz:z<=8) (hz0:0<z) :
  Calls prog 137 #[v,.int .i64 z] w (TakeR w0 w L.tail (b||(numP z (L.headD [])).isNone) (.int .u64 ((numP z (L.headD [])).getD 0))):=by
 have HTx:=lh_ (λw h=>rtext_any L b v w0 w h);have HH:=lh_ h;obtain⟨hd,hhd⟩:∃hd,hd=L.headD []:=⟨_,rfl⟩
 obtain⟨be,hbe⟩:∃be,be=(b||L.isEmpty):=⟨_,rfl⟩
 have HE:=lh_ (show be=true->(b||(numP z hd).isNone)=true fromλh=>by
  rw[hbe]at h;cases b with
  | true=>rfl
  | false =>
   cases L with
   | nil=>rw[hhd];unfold numP;rw[if_neg (by show¬(([]:List UInt8).length=z);simp;omega)];rfl
   | cons s L=>simp at h)
 have HF:=lh_ (show be=false->b=false fromλh=>by rw[hbe]at h;cases b<;>simp_all);have hsz:=str_size hd;rw[← hhd,← hbe]at HTx;rw[← hhd];have HHD:=lh_ hhd;have HBE:=lh_ hbe;clear hhd hbe;obtain⟨A,n,c,rfl,h1,h2⟩:=h;have x0:=((Ext.refl w).alloc (.cells (tC A n c b) 193)).alloc (.cells (tC none 0 0 false) 193);have b0:=(Box.new w 193 (tC A n c b)).ext ((Ext.refl _).alloc (.cells (tC none 0 0 false) 193));have b1:=Box.new (w.alloc (.cells (tC A n c b) 193)) 193 (tC none 0 0 false);rw[World.size_alloc]at b1;clear h1 h2;go_enter func137,ntmps137;go_upto_region 1 with fail;generalize (w.alloc (.cells (tC A n c b) 193)).alloc (.cells (tC none 0 0 false) 193)=w1 at *;obtain⟨G,hG⟩:∃G,G=w.heap.size:=⟨_,rfl⟩
 rw[← hG]at b0 b1 ⊢;have HG:=lh_ hG;clear hG;have hGl:=b1.lt
 go_upto_region 2 with(first
  | (refine wp_ld _ _ rfl rfl G (tC A n c b) _ _ rfl b0 underlying193 rfl tSz ?_)
  | (go_at_call 136;refine(HTx.out _ HH.out (x.trans x0)).mono ?_;rintro e w2 ⟨⟨v2,rfl,A2,n2,c2,rfl,s2,k2⟩,x2⟩)
  | (refine wp_st _ _ _ rfl rfl G (tC A2 n2 c2 be) _ _ rfl rfl (b0.ext x2) tSz rfl (tOne _ _ _ _) ?_;intro w3 b3 g3))
 have hk:=but_grown2 g3;have d1:=hk.box (b1.ext x2) (by omega);have x3:=hk.past (x0.trans x2) (by rw[HG.out];exact Nat.le_refl _);have HS2:=lh_ s2;have HK2:=lh_ k2;clear HTx HH b0 b1 x0 x2 g3 hk s2 k2 x hGl;by_cases hl:hd.length=z
 ·have hP:numP z hd=some (numL hd:Int):=if_pos hl;have HG2:=lh_ (λw=>rget_any hd w (by omega));have hq:((hd.length:Int) != (z:Int))=false:=by rw[hl];simp
  have HP:=lh_ hP;have hbb:(b||(numP z hd).isNone)=be:=by
   rw[hP];cases he:be with
   | false=>rw[HF.out he];rfl
   | true=>have:=HE.out he;rw[hP]at this;exact this
  have HBB:=lh_ hbb;clear hP HE HF hbb hl hz hz0;have x3d:=x3.trans (Ext.refl w3).drew;have b3d:=b3.ext (Ext.refl w3).drew;have d1d:=d1.ext (Ext.refl w3).drew






  go_upto_region 5 with fail;refine wp_region_any (by kernel_rfl) ?_;change wpAny _ _ _ _ _ _ _ (World.drew _)

  refine wpAny_take (i:=1) (v:=.string (str hd)) rfl (by kernel_rfl) (by kernel_rfl) (by kernel_rfl) (λ_ _ _ h=>h) (Or.inl ⟨by rfl,?_⟩) ?_
  ·intro w;go_simp
  refine wpAny_ready (rs:=[0,2]) (by kernel_rfl) (by simp) ?_;refine AllReady.cons rfl (λK hK=>?_) (AllReady.cons rfl (λK hK=>?_) AllReady.nil)
  ·refine wp_load_row 193 (.tmp 2) rfl G rfl 193 (tC A2 n2 c2 be) (0,0) _ b3d underlying193 rfl tSz (hK _ _ ?_);clear hK K;refine wpAny_ready (rs:=[2]) (by kernel_rfl) (by simp) ?_;refine AllReady.cons rfl (λK hK=>?_) AllReady.nil;go_simp;go_wp2_with (go_at_call 169;refine(HG2.out _).mono ?_;rintro e w5 ⟨rfl,rfl⟩)
   refine wpAny_ready (rs:=[3]) (by kernel_rfl) (by simp) ?_;refine AllReady.cons rfl (λK hK=>?_) AllReady.nil;refine wp_store_row 193 (.tmp 4) (.tmp 18) rfl (G+1) (tC A2 n2 c2 be) rfl rfl 193 _ d1d tSz rfl (tOne _ _ _ _) (hK _ _ ?_);clear hK K;refine wpAny_ready (rs:=[4]) (by kernel_rfl) (by simp) ?_;refine AllReady.cons rfl (λK hK=>?_) AllReady.nil;go_simp;refine hK _ _ ?_;clear hK K;refine wpAny_done (by kernel_rfl) ?_ _;go_wp2_with fail;refine bodyPost_ret (results_cell2 rfl _ _ (G+1) _ _ _ _ rfl rfl (setRow_box d1d) underlying193 rfl tSz) rfl ⟨⟨_,?_,A2,n2,c2,rfl,HS2.out,HK2.out⟩,x3d.grown (setRow_grown _ (G+1) _) (λj e=>by cases e;rw[← HG.out];exact Nat.le_succ _)⟩;rw[HBB.out,HP.out];rfl
  ·go_simp;go_wp2_with (go_at_call 169;refine(HG2.out _).mono ?_;rintro e w5 ⟨rfl,rfl⟩)
   refine wpAny_ready (rs:=[0]) (by kernel_rfl) (by simp) ?_;refine AllReady.cons rfl (λK hK=>?_) AllReady.nil;refine wp_load_row 193 (.tmp 2) rfl G rfl 193 (tC A2 n2 c2 be) (0,0) _ b3d underlying193 rfl tSz (hK _ _ ?_);clear hK K;refine wpAny_ready (rs:=[3]) (by kernel_rfl) (by simp) ?_;refine AllReady.cons rfl (λK hK=>?_) AllReady.nil;refine wp_store_row 193 (.tmp 4) (.tmp 18) rfl (G+1) (tC A2 n2 c2 be) rfl rfl 193 _ d1d tSz rfl (tOne _ _ _ _) (hK _ _ ?_);clear hK K;refine wpAny_ready (rs:=[4]) (by kernel_rfl) (by simp) ?_;refine AllReady.cons rfl (λK hK=>?_) AllReady.nil;go_simp;refine hK _ _ ?_;clear hK K;refine wpAny_done (by kernel_rfl) ?_ _;go_wp2_with fail;refine bodyPost_ret (results_cell2 rfl _ _ (G+1) _ _ _ _ rfl rfl (setRow_box d1d) underlying193 rfl tSz) rfl ⟨⟨_,?_,A2,n2,c2,rfl,HS2.out,HK2.out⟩,x3d.grown (setRow_grown _ (G+1) _) (λj e=>by cases e;rw[← HG.out];exact Nat.le_succ _)⟩;rw[HBB.out,HP.out];rfl
 ·have hP:numP z hd=none:=if_neg hl;have hq:((hd.length:Int) != (z:Int))=true:=by simp;omega
  have HP:=lh_ hP;clear hP HE HF hl hz hz0;have q1:w3.cell? ⟨G,1,none⟩=some (.bool be):=b3.cell 1;have f1:w3.frozen? ⟨G,1,none⟩=false:=b3.frozen 1;go_upto_region 4 with fail;have b4:Box (w3.setCell ⟨G,1,none⟩ (.bool true)) G 193 (tC A2 n2 c2 true):=b3.set 1 (.bool true);have hk4:But G w3 (w3.setCell ⟨G,1,none⟩ (.bool true)):=(But.refl G w3).setCell 1 _;have d4:=hk4.box d1 (by omega);have x4:=hk4.past x3 (by rw[HG.out];exact Nat.le_refl _);generalize w3.setCell ⟨G,1,none⟩ (.bool true)=w4 at *;clear q1 f1 hk4 b3 d1 x3
  go_wp2_with (first
   | (refine wp_ld _ _ rfl rfl G (tC A2 n2 c2 true) _ _ rfl b4 underlying193 rfl tSz ?_)
   | (refine wp_st _ _ _ rfl rfl (G+1) (tC A2 n2 c2 true) _ _ rfl rfl d4 tSz rfl (tOne _ _ _ _) ?_;intro w9 b9 g9))
  refine bodyPost_ret (results_cell2 rfl _ _ (G+1) _ _ _ _ rfl rfl b9 underlying193 rfl tSz) rfl ⟨⟨_,?_,A2,n2,c2,rfl,HS2.out,HK2.out⟩,x4.grown g9 (λj e=>by cases e;rw[← HG.out];exact Nat.le_succ _)⟩;rw[show(b||(numP z hd).isNone)=true by rw[HP.out,Option.isNone_none,Bool.or_true],HP.out];rfl
theorem rlong_any (L:List (List UInt8)) (b:Bool) (v:Value) (z:Nat) (w0 w:World) (h:IsT w0 L b v) (x:Ext w0 w) (hz:z<=1000) (hz0:0<z) :
  Calls prog 197 #[v,.int .i64 z] w (TakeR w0 w L.tail (b||!decide ((L.headD []).length=z)) (.string (str (longV z (L.headD []))))):=by
 have HTx:=lh_ (λw h=>rtext_any L b v w0 w h);have HH:=lh_ h;obtain⟨hd,hhd⟩:∃hd,hd=L.headD []:=⟨_,rfl⟩
 obtain⟨be,hbe⟩:∃be,be=(b||L.isEmpty):=⟨_,rfl⟩
 have HE:=lh_ (show be=true->(b||!decide (hd.length=z))=true fromλh=>by
  rw[hbe]at h;cases b with
  | true=>rfl
  | false =>
   cases L with
   | nil=>rw[hhd];simp;omega
   | cons s L=>simp at h)
 have HF:=lh_ (show be=false->b=false fromλh=>by rw[hbe]at h;cases b<;>simp_all);have hsz:=str_size hd;rw[← hhd,← hbe]at HTx;rw[← hhd];have HHD:=lh_ hhd;have HBE:=lh_ hbe;clear hhd hbe;obtain⟨A,n,c,rfl,h1,h2⟩:=h;have x0:=((Ext.refl w).alloc (.cells (tC A n c b) 193)).alloc (.cells (tC none 0 0 false) 193);have b0:=(Box.new w 193 (tC A n c b)).ext ((Ext.refl _).alloc (.cells (tC none 0 0 false) 193));have b1:=Box.new (w.alloc (.cells (tC A n c b) 193)) 193 (tC none 0 0 false);rw[World.size_alloc]at b1;clear h1 h2;go_enter func197,ntmps197;go_upto_region 1 with fail;generalize (w.alloc (.cells (tC A n c b) 193)).alloc (.cells (tC none 0 0 false) 193)=w1 at *;obtain⟨G,hG⟩:∃G,G=w.heap.size:=⟨_,rfl⟩
 rw[← hG]at b0 b1 ⊢;have HG:=lh_ hG;clear hG;have hGl:=b1.lt
 go_upto_region 2 with(first
  | (refine wp_ld _ _ rfl rfl G (tC A n c b) _ _ rfl b0 underlying193 rfl tSz ?_)
  | (go_at_call 136;refine(HTx.out _ HH.out (x.trans x0)).mono ?_;rintro e w2 ⟨⟨v2,rfl,A2,n2,c2,rfl,s2,k2⟩,x2⟩)
  | (refine wp_st _ _ _ rfl rfl G (tC A2 n2 c2 be) _ _ rfl rfl (b0.ext x2) tSz rfl (tOne _ _ _ _) ?_;intro w3 b3 g3))
 have hk:=but_grown2 g3;have d1:=hk.box (b1.ext x2) (by omega);have x3:=hk.past (x0.trans x2) (by rw[HG.out];exact Nat.le_refl _);have HS2:=lh_ s2;have HK2:=lh_ k2;clear HTx HH b0 b1 x0 x2 g3 hk s2 k2 x hGl;by_cases hl:hd.length=z
 ·have hq:((hd.length:Int) != (z:Int))=false:=by rw[hl];simp
  have hP:(!decide (hd.length=z))=false:=by simp[hl]
  have HV:=lh_ (show longV z hd=hd from if_pos hl);have hbb:(b||!decide (hd.length=z))=be:=by
   rw[hP];cases he:be with
   | false=>rw[HF.out he];rfl
   | true=>have:=HE.out he;rw[hP]at this;exact this
  have HBB:=lh_ hbb;have b4:=b3;have d4:=d1;have x4:=x3;clear hP HE HF hbb hl hz hz0 b3 d1 x3
  go_wp2_with (first
   | (refine wp_ld _ _ rfl rfl G (tC A2 n2 c2 be) _ _ rfl b4 underlying193 rfl tSz ?_)
   | (refine wp_st _ _ _ rfl rfl (G+1) (tC A2 n2 c2 be) _ _ rfl rfl d4 tSz rfl (tOne _ _ _ _) ?_;intro w9 b9 g9))
  refine bodyPost_ret (results_cell2 rfl _ _ (G+1) _ _ _ _ rfl rfl b9 underlying193 rfl tSz) rfl ⟨⟨_,?_,A2,n2,c2,rfl,HS2.out,HK2.out⟩,x4.grown g9 (λj e=>by cases e;rw[← HG.out];exact Nat.le_succ _)⟩;rw[HBB.out,HV.out];rfl
 ·have hq:((hd.length:Int) != (z:Int))=true:=by simp;omega
  have hP:(!decide (hd.length=z))=true:=by simp[hl]
  have HP:=lh_ hP;have HV:=lh_ (show longV z hd=zs z from if_neg hl);have hmk:=make_zs1 z hz;have HZL:=lh_ (show(zs z).length=z from by simp[zs]);clear hP HE HF hl hz hz0;have q1:w3.cell? ⟨G,1,none⟩=some (.bool be):=b3.cell 1;have f1:w3.frozen? ⟨G,1,none⟩=false:=b3.frozen 1;go_upto_region 4 with fail;have b4:Box (w3.setCell ⟨G,1,none⟩ (.bool true)) G 193 (tC A2 n2 c2 true):=b3.set 1 (.bool true);have hk4:But G w3 (w3.setCell ⟨G,1,none⟩ (.bool true)):=(But.refl G w3).setCell 1 _;have d4:=hk4.box d1 (by omega);have x4:=hk4.past x3 (by rw[HG.out];exact Nat.le_refl _);generalize w3.setCell ⟨G,1,none⟩ (.bool true)=w4 at *;clear q1 f1 hk4 b3 d1 x3;have x5:=x4.trans (Ext.refl w4).drew;have b5:=b4.ext (Ext.refl w4).drew;have d5:=d4.ext (Ext.refl w4).drew;have x6:=((Ext.refl w4).alloc (.cells (byteVals (zs z)) 5)).drew;have b6:=b4.ext x6;have d6:=d4.ext x6;have hcv:=conv_box (c:=z) ((Box.new w4 5 (byteVals (zs z))).ext (Ext.refl _).drew) HZL.out;have x7:=x4.trans x6;have hGl:G+1<w4.heap.size:=d4.lt;generalize zs z=ZS at *;refine wp_region_any (by kernel_rfl) ?_;change wpAny _ _ _ _ _ _ _ (World.drew _);clear b4 d4 x4;refine wpAny_take (i:=1) (v:=.int .i64 z) rfl (by kernel_rfl) (by kernel_rfl) (by kernel_rfl) (λ_ _ _ h=>h) (Or.inl ⟨by rfl,?_⟩) ?_
  ·intro w;go_simp
  refine wpAny_ready (rs:=[0,2]) (by kernel_rfl) (by simp) ?_;refine AllReady.cons rfl (λK hK=>?_) (AllReady.cons rfl (λK hK=>?_) AllReady.nil)
  ·refine wp_load_row 193 (.tmp 2) rfl G rfl 193 (tC A2 n2 c2 true) (0,0) _ b5 underlying193 rfl tSz (hK _ _ ?_);clear hK K;refine wpAny_ready (rs:=[2,4]) (by kernel_rfl) (by simp) ?_;refine AllReady.cons rfl (λK hK=>?_) (AllReady.cons rfl (λK hK=>?_) AllReady.nil)
   ·go_simp;refine hK _ _ ?_;clear hK K;refine wpAny_ready (rs:=[3,4]) (by kernel_rfl) (by simp) ?_;refine AllReady.cons rfl (λK hK=>?_) (AllReady.cons rfl (λK hK=>?_) AllReady.nil)
    ·go_simp;refine hK _ _ ?_;clear hK K;refine wpAny_ready (rs:=[4]) (by kernel_rfl) (by simp) ?_;refine AllReady.cons rfl (λK hK=>?_) AllReady.nil;refine wp_store_row 193 (.tmp 4) (.tmp 17) rfl (G+1) (tC A2 n2 c2 true) rfl rfl 193 _ d6 tSz rfl (tOne _ _ _ _) (hK _ _ ?_);clear hK K;have dz:=setRow_box (ds:=tC A2 n2 c2 true) d6;have xz:=x7.grown (setRow_grown _ (G+1) (tC A2 n2 c2 true)) (λj e=>by cases e;rw[← HG.out];exact Nat.le_succ _);generalize (w4.alloc (.cells (byteVals ZS) 5)).drew.setRow (G+1) (tC A2 n2 c2 true)=wz at *;refine wpAny_ready (rs:=[5]) (by kernel_rfl) (by simp) ?_;refine AllReady.cons rfl (λK hK=>?_) AllReady.nil;go_simp;refine hK _ _ ?_;clear hK K;refine wpAny_done (by kernel_rfl) ?_ _;go_wp2_with fail;refine bodyPost_ret (results_cell2 rfl _ _ (G+1) _ _ _ _ rfl rfl dz underlying193 rfl tSz) rfl ⟨⟨_,?_,A2,n2,c2,rfl,HS2.out,HK2.out⟩,xz⟩;rw[show(b||!decide (hd.length=z))=true by rw[HP.out,Bool.or_true],HV.out];rfl
    ·refine wp_store_row 193 (.tmp 4) (.tmp 17) rfl (G+1) (tC A2 n2 c2 true) rfl rfl 193 _ d6 tSz rfl (tOne _ _ _ _) (hK _ _ ?_);clear hK K;have bz:=(((Box.new w4 5 (byteVals ZS)).ext (Ext.refl _).drew).grown (setRow_grown _ (G+1) (tC A2 n2 c2 true)) (λe=>by injection e with e;omega))
     have dz:=setRow_box (ds:=tC A2 n2 c2 true) d6;have xz:=x7.grown (setRow_grown _ (G+1) (tC A2 n2 c2 true)) (λj e=>by cases e;rw[← HG.out];exact Nat.le_succ _);generalize (w4.alloc (.cells (byteVals ZS) 5)).drew.setRow (G+1) (tC A2 n2 c2 true)=wz at *;replace hcv:=conv_box (c:=z) bz HZL.out;refine wpAny_ready (rs:=[3]) (by kernel_rfl) (by simp) ?_;refine AllReady.cons rfl (λK hK=>?_) AllReady.nil;go_simp;refine hK _ _ ?_;clear hK K;refine wpAny_ready (rs:=[5]) (by kernel_rfl) (by simp) ?_;refine AllReady.cons rfl (λK hK=>?_) AllReady.nil;go_simp;refine hK _ _ ?_;clear hK K;refine wpAny_done (by kernel_rfl) ?_ _;go_wp2_with fail;refine bodyPost_ret (results_cell2 rfl _ _ (G+1) _ _ _ _ rfl rfl dz underlying193 rfl tSz) rfl ⟨⟨_,?_,A2,n2,c2,rfl,HS2.out,HK2.out⟩,xz⟩;rw[show(b||!decide (hd.length=z))=true by rw[HP.out,Bool.or_true],HV.out];rfl
   ·refine wp_store_row 193 (.tmp 4) (.tmp 17) rfl (G+1) (tC A2 n2 c2 true) rfl rfl 193 _ d5 tSz rfl (tOne _ _ _ _) (hK _ _ ?_);clear hK K;have dz:=setRow_box (ds:=tC A2 n2 c2 true) d5;have xz:=x5.grown (setRow_grown _ (G+1) (tC A2 n2 c2 true)) (λj e=>by cases e;rw[← HG.out];exact Nat.le_succ _);generalize w4.drew.setRow (G+1) (tC A2 n2 c2 true)=wz at *;refine wpAny_ready (rs:=[2]) (by kernel_rfl) (by simp) ?_;refine AllReady.cons rfl (λK hK=>?_) AllReady.nil;go_simp;refine hK _ _ ?_;clear hK K;have x8:=(Ext.refl wz).alloc (.cells (byteVals ZS) 5);have hcv2:=conv_box (c:=z) (Box.new wz 5 (byteVals ZS)) HZL.out;replace dz:=dz.ext x8;replace xz:=xz.trans x8;refine wpAny_ready (rs:=[3]) (by kernel_rfl) (by simp) ?_;refine AllReady.cons rfl (λK hK=>?_) AllReady.nil;go_simp;refine hK _ _ ?_;clear hK K;refine wpAny_ready (rs:=[5]) (by kernel_rfl) (by simp) ?_;refine AllReady.cons rfl (λK hK=>?_) AllReady.nil;go_simp;refine hK _ _ ?_;clear hK K;refine wpAny_done (by kernel_rfl) ?_ _;go_wp2_with fail;refine bodyPost_ret (results_cell2 rfl _ _ (G+1) _ _ _ _ rfl rfl dz underlying193 rfl tSz) rfl ⟨⟨_,?_,A2,n2,c2,rfl,HS2.out,HK2.out⟩,xz⟩;rw[show(b||!decide (hd.length=z))=true by rw[HP.out,Bool.or_true],HV.out];rfl
  ·go_simp;refine hK _ _ ?_;clear hK K;refine wpAny_ready (rs:=[0,3]) (by kernel_rfl) (by simp) ?_;refine AllReady.cons rfl (λK hK=>?_) (AllReady.cons rfl (λK hK=>?_) AllReady.nil)
   ·refine wp_load_row 193 (.tmp 2) rfl G rfl 193 (tC A2 n2 c2 true) (0,0) _ b6 underlying193 rfl tSz (hK _ _ ?_);clear hK K;refine wpAny_ready (rs:=[3,4]) (by kernel_rfl) (by simp) ?_;refine AllReady.cons rfl (λK hK=>?_) (AllReady.cons rfl (λK hK=>?_) AllReady.nil)
    ·go_simp;refine hK _ _ ?_;clear hK K;refine wpAny_ready (rs:=[4]) (by kernel_rfl) (by simp) ?_;refine AllReady.cons rfl (λK hK=>?_) AllReady.nil;refine wp_store_row 193 (.tmp 4) (.tmp 17) rfl (G+1) (tC A2 n2 c2 true) rfl rfl 193 _ d6 tSz rfl (tOne _ _ _ _) (hK _ _ ?_);clear hK K;have dz:=setRow_box (ds:=tC A2 n2 c2 true) d6;have xz:=x7.grown (setRow_grown _ (G+1) (tC A2 n2 c2 true)) (λj e=>by cases e;rw[← HG.out];exact Nat.le_succ _);generalize (w4.alloc (.cells (byteVals ZS) 5)).drew.setRow (G+1) (tC A2 n2 c2 true)=wz at *;refine wpAny_ready (rs:=[5]) (by kernel_rfl) (by simp) ?_;refine AllReady.cons rfl (λK hK=>?_) AllReady.nil;go_simp;refine hK _ _ ?_;clear hK K;refine wpAny_done (by kernel_rfl) ?_ _;go_wp2_with fail;refine bodyPost_ret (results_cell2 rfl _ _ (G+1) _ _ _ _ rfl rfl dz underlying193 rfl tSz) rfl ⟨⟨_,?_,A2,n2,c2,rfl,HS2.out,HK2.out⟩,xz⟩;rw[show(b||!decide (hd.length=z))=true by rw[HP.out,Bool.or_true],HV.out];rfl
    ·refine wp_store_row 193 (.tmp 4) (.tmp 17) rfl (G+1) (tC A2 n2 c2 true) rfl rfl 193 _ d6 tSz rfl (tOne _ _ _ _) (hK _ _ ?_);clear hK K;have bz:=(((Box.new w4 5 (byteVals ZS)).ext (Ext.refl _).drew).grown (setRow_grown _ (G+1) (tC A2 n2 c2 true)) (λe=>by injection e with e;omega))
     have dz:=setRow_box (ds:=tC A2 n2 c2 true) d6;have xz:=x7.grown (setRow_grown _ (G+1) (tC A2 n2 c2 true)) (λj e=>by cases e;rw[← HG.out];exact Nat.le_succ _);generalize (w4.alloc (.cells (byteVals ZS) 5)).drew.setRow (G+1) (tC A2 n2 c2 true)=wz at *;replace hcv:=conv_box (c:=z) bz HZL.out;refine wpAny_ready (rs:=[3]) (by kernel_rfl) (by simp) ?_;refine AllReady.cons rfl (λK hK=>?_) AllReady.nil;go_simp;refine hK _ _ ?_;clear hK K;refine wpAny_ready (rs:=[5]) (by kernel_rfl) (by simp) ?_;refine AllReady.cons rfl (λK hK=>?_) AllReady.nil;go_simp;refine hK _ _ ?_;clear hK K;refine wpAny_done (by kernel_rfl) ?_ _;go_wp2_with fail;refine bodyPost_ret (results_cell2 rfl _ _ (G+1) _ _ _ _ rfl rfl dz underlying193 rfl tSz) rfl ⟨⟨_,?_,A2,n2,c2,rfl,HS2.out,HK2.out⟩,xz⟩;rw[show(b||!decide (hd.length=z))=true by rw[HP.out,Bool.or_true],HV.out];rfl
   ·go_simp;refine hK _ _ ?_;clear hK K;refine wpAny_ready (rs:=[0]) (by kernel_rfl) (by simp) ?_;refine AllReady.cons rfl (λK hK=>?_) AllReady.nil;refine wp_load_row 193 (.tmp 2) rfl G rfl 193 (tC A2 n2 c2 true) (0,0) _ b6 underlying193 rfl tSz (hK _ _ ?_);clear hK K;refine wpAny_ready (rs:=[4]) (by kernel_rfl) (by simp) ?_;refine AllReady.cons rfl (λK hK=>?_) AllReady.nil;refine wp_store_row 193 (.tmp 4) (.tmp 17) rfl (G+1) (tC A2 n2 c2 true) rfl rfl 193 _ d6 tSz rfl (tOne _ _ _ _) (hK _ _ ?_);clear hK K;have dz:=setRow_box (ds:=tC A2 n2 c2 true) d6;have xz:=x7.grown (setRow_grown _ (G+1) (tC A2 n2 c2 true)) (λj e=>by cases e;rw[← HG.out];exact Nat.le_succ _);generalize (w4.alloc (.cells (byteVals ZS) 5)).drew.setRow (G+1) (tC A2 n2 c2 true)=wz at *;refine wpAny_ready (rs:=[5]) (by kernel_rfl) (by simp) ?_;refine AllReady.cons rfl (λK hK=>?_) AllReady.nil;go_simp;refine hK _ _ ?_;clear hK K;refine wpAny_done (by kernel_rfl) ?_ _;go_wp2_with fail;refine bodyPost_ret (results_cell2 rfl _ _ (G+1) _ _ _ _ rfl rfl dz underlying193 rfl tSz) rfl ⟨⟨_,?_,A2,n2,c2,rfl,HS2.out,HK2.out⟩,xz⟩;rw[show(b||!decide (hd.length=z))=true by rw[HP.out,Bool.or_true],HV.out];rfl
structure RowK {α:Type} (f:α->List Value) (w:World) (s:Sl) (l:List α):Prop where
 row:RowOf f w s.A s.n l
 ok:s.ok
 small:s.n<=100000
theorem RowK.ext {α:Type} {f:α->List Value}{w w':World}{s:Sl}{l:List α}(h:RowK f w s l) (x:Ext w w'):RowK f w' s l:=⟨h.row.ext x,h.ok,h.small⟩
structure RowF {α:Type} (B0:Nat) (f:α->List Value) (T:TypeId) (w:World) (s:Sl) (l:List α):Prop where
 k:RowK f w s l
 inb:0<s.n->∀b o,s.A=some ⟨b,o,none⟩->b<B0\/∃cs,Box w b T cs
theorem RowF.ext {α:Type} {B0:Nat}{f:α->List Value}{T:TypeId}{w w':World}{s:Sl}{l:List α}(h:RowF B0 f T w s l) (x:Ext w w'):RowF B0 f T w' s l :=
 ⟨h.k.ext x,λhp b o e=>(h.inb hp b o e).imp id λ⟨cs,hb⟩=>⟨cs,hb.ext x⟩⟩
theorem RowF.keepsB {α:Type} {B0:Nat}{f:α->List Value}{T:TypeId}{w w':World}{s:Sl}{l:List α}{row:Option Nat}(h:RowF B0 f T w s l) (hk:∀b cs,Box w b T cs->some b≠row) (hB:∀k,row=some k->B0<=k) (hg:w.grownBy w' row):RowF B0 f T w' s l:=by
 have hne:0<s.n->∀b o,s.A=some ⟨b,o,none⟩->some b≠row:=λhp b o e=>by
  rcases h.inb hp b o e with hb|⟨cs,hb⟩
  ·intro e2;have:=hB b e2.symm;omega
  ·exact hk b cs hb
 refine⟨⟨⟨h.k.row.1,λhp=>?_⟩,h.k.ok,h.k.small⟩,λhp b o e=>(h.inb hp b o e).imp id λ⟨cs,hb⟩=>⟨cs,hb.grown hg (hk b cs hb)⟩⟩;obtain⟨b,o,e,hc⟩:=h.k.row.2 hp;refine⟨b,o,e,λj v hj=>?_⟩;have hcj:=hc j v hj;rw[World.cell?_of_block (w:=w) (hg.block b (World.block_lt_of_cell? w _ hcj) (hne hp b o e))];exact hcj
theorem RowF.grown {α:Type} {B0:Nat}{f:α->List Value}{T t:TypeId}{w w':World}{s:Sl}{l:List α}{g:Nat}{cs:Array Value}(h:RowF B0 f T w s l) (hne:T≠t) (hb:Box w g t cs) (hg:w.grownBy w' (some g)) (hB:B0<=g:=by omega):RowF B0 f T w' s l :=
 h.keepsB (λb cs hb1 e=>hb1.ne hb hne (by injection e)) (λk e=>by injection e with e;omega) hg
theorem RowF.own {α:Type} {B0:Nat}{f:α->List Value}{T:TypeId}{w:World}{s:Sl}{l:List α}{base z:Nat}(hr:RowOf f w s.A s.n l) (hk:s.ok) (hs:s.n<=100000) (h:w.ownsRow base T z (.slice s.A s.n s.c) s.n (l.flatMap f)):RowF B0 f T w s l :=
 ⟨⟨hr,hk,hs⟩,λ_ b o e=>by
   rcases h.2 with⟨e1,_⟩|⟨g,cap,cur,e1,_,hh,_⟩
   ·injection e1 with e1;rw[e]at e1;cases e1
   ·injection e1 with e1;rw[e]at e1;injection e1 with e1;injection e1 with e1;subst e1;exact .inr ⟨cur,hh⟩⟩
theorem RowF.old {α:Type} {f:α->List Value}{T:TypeId}{w:World}{s:Sl}{l:List α}(h:RowK f w s l) (hz:∀x∈l,0<(f x).length):RowF w.heap.size f T w s l:=⟨h,λhp b o e=>.inl (by
 obtain⟨b',o',e',hc⟩:=h.row.2 hp;rw[e]at e';injection e' with e';injection e' with e1 e2;subst e1;subst e2;have hl:0<l.length:=by have:=h.row.1;omega
 obtain⟨x,l',rfl⟩:∃x l',l=x::l':=by
  cases l with
  | nil=>cases hl
  | cons x l'=>exact⟨x,l',rfl⟩
 have h0:=hz x List.mem_cons_self;obtain⟨v,vs,ev⟩:∃v vs,f x=v::vs:=by
  cases hf:f x with
  | nil=>rw[hf]at h0;cases h0
  | cons v vs=>exact⟨v,vs,rfl⟩
 have:=hc 0 v (by rw[List.flatMap_cons,ev];rfl);exact World.block_lt_of_cell? w _ this)⟩
theorem RowF.nil {α:Type} {B0:Nat}{f:α->List Value}{T:TypeId}{w:World}:RowF B0 f T w ⟨none,0,0⟩ ([]:List α):=⟨⟨⟨rfl,λh=>absurd h (Nat.lt_irrefl 0)⟩,⟨λ_=>⟨rfl,rfl⟩,Nat.zero_le _,Nat.le_refl _⟩,Nat.zero_le _⟩,λh=>absurd h (Nat.lt_irrefl 0)⟩
end Go.Proofs.YtfaplefkakpgcaaGreatDoor
