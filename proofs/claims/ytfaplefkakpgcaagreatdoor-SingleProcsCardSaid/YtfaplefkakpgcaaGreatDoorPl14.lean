import Derived.Test.YtfaplefkakpgcaaGreatDoorPl3
import Derived.Test.YtfaplefkakpgcaaGreatDoorPl13
import Derived.Deep.MidRow
import Derived.Maps.Own
import Derived.Maps.OwnSet
import Derived.Maps.OwnOps
import Derived.Maps.Views
set_option linter.unusedVariables false
set_option linter.unusedSimpArgs false
set_option maxHeartbeats 32000000
set_option maxRecDepth 100000
namespace Go.Proofs.YtfaplefkakpgcaaGreatDoor
open Go.Proofs.Tryz
open Go.RowKit
def Cd (w:World) (A:Option Addr) (n:Nat) (l:List ZY):Prop :=
 n=l.length/\(0<n->∃b o,A=some ⟨b,o,none⟩/\∀(j:Nat) (h:j<l.length),w.cell? ⟨b,o+j*2,none⟩=some (.int .i64 l[j].1)/\w.cell? ⟨b,o+j*2+1,none⟩=some (.string (Qb l[j].2)))
theorem Cd.ext {w w':World}{A:Option Addr}{n:Nat}{l:List ZY}(h:Cd w A n l) (k:Ext w w'):Cd w' A n l :=
 ⟨h.1,λhn=>by obtain⟨b,o,e,hc⟩:=h.2 hn;exact⟨b,o,e,λj hj=>⟨k.keep (hc j hj).1,k.keep (hc j hj).2⟩⟩⟩
theorem Q6.wrs {w:World}{A:Option Addr}{n:Nat}{l:List ZY}(h:Q6 Zn w A n l):Cd w A n l:=by
 refine⟨h.1,λhn=>?_⟩;obtain⟨b,o,e,hc⟩:=h.2 hn;exact⟨b,o,e,λj hj=>⟨Q6.cell (n:=n) hc (z:=2) (λx _=>rfl) hj (i:=0) (by omega) rfl,Q6.cell (n:=n) hc (z:=2) (λx _=>rfl) hj (i:=1) (by omega) rfl⟩⟩
theorem Q6.strs {w:World}{A:Option Addr}{n:Nat}{l:List (List UInt8)}(h:Q6 Nv w A n l):Strs w A n l:=by
 refine⟨h.1,λhn=>?_⟩;obtain⟨b,o,e,hc⟩:=h.2 hn;refine⟨b,o,e,λj hj=>?_⟩;have:=Q6.cell (n:=n) hc (z:=1) (λx _=>rfl) hj (i:=0) (by omega) rfl;rw[Nat.mul_one,nb]at this;exact this
theorem OX:(prog.info? 36).map (·.size)=some 3:=by kernel_rfl
theorem Vi:(prog.info? 38).map (·.size)=some 17:=by kernel_rfl
section
variable {ops:Array Oper}{rest:List Oper}{o:Oper}{a:Act}{w:World}{Q:Exit->Act->World->Prop}
theorem Nm (x:Operand) (J7:o.guard=none) (ho:o.op=.load 36 x) (g:Nat) (l:Array Value) (t:TypeId) (hx:a.eval x=.pointer (some ⟨g,0,none⟩))
  (hb:Box w g t l) (hl:l.size=3) (hK:wpList prog ops Q rest (a.put o.dst (.agg l)) w):wpList prog ops Q (o::rest) a w :=
 J2 _ x J7 ho g _ t _ hx hb underlying36 rfl (by rw[hl];exact OX) hK
theorem Qo (x:Operand) (J7:o.guard=none) (ho:o.op=.load 38 x) (g:Nat) (l:Array Value) (t:TypeId) (hx:a.eval x=.pointer (some ⟨g,0,none⟩))
  (hb:Box w g t l) (hl:l.size=17) (hK:wpList prog ops Q rest (a.put o.dst (.agg l)) w):wpList prog ops Q (o::rest) a w :=
 J2 _ x J7 ho g _ t _ hx hb underlying38 rfl (by rw[hl];exact Vi) hK
end
theorem E4 (bA pA:Option Addr) (bn bc pn pc:Nat) (left i:Int) (w:World) :
  Calls prog 162 #[.agg #[.slice bA bn bc,.slice pA pn pc,.int .i64 left],.int .i64 i] w λe w'=>e=.returned (.bool (decide (0<=i/\i<(bn:Int))))/\Ext w w':=by
 by_cases h0:0<=i
 ·by_cases h1:i<(bn:Int)
  ·go_enter func162,ntmps162;go_wp2_with fail;go_ret;exact⟨WE (by simp[h0,h1]),(Qg w).alloc _⟩
  ·have d1:decide (i<(bn:Int))=false:=by simpa using h1
   go_enter func162,ntmps162;go_wp2_with fail;go_ret;exact⟨WE (by simp[h0,h1]),(Qg w).alloc _⟩
 ·have d1:decide (0<=i)=false:=by simpa using h0
  go_enter func162,ntmps162;go_wp2_with fail;go_ret;exact⟨WE (by simp[h0]),(Qg w).alloc _⟩
theorem Ld {B:List (List UInt8)}{k:Nat}(hk:k<B.length) (h:Y0 (B.take k)=0) (hl:B[k].length=128):Y0 (B.take (k+1))=0:=by
 rw[Gp hk,FD,QD (by simpa using h)];simp[Y0,hl]
theorem FE {B:List (List UInt8)}{k:Nat}(hk:k<B.length) (h:Y0 (B.take k)=0) (hl:B[k].length≠128):Y0 B=3:=by
 have e:B=B.take k++(B[k]::B.drop (k+1)):=by rw[List.getElem_cons_drop,vk]
 rw[e,FD,QD (by simpa using h),Y0,QN hl]
theorem LR {n:Nat}{p:List ZY}{k:Nat}(hk:k<p.length) (h:ZZ n (p.take k)=0) (h0:0<=p[k].1) (h1:p[k].1<n) (hl:p[k].2.length=128):ZZ n (p.take (k+1))=0:=by
 rw[Gp hk,F9,QD (by simpa using h),ZZ,QD (by omega),QD (by simpa using hl)];rfl
theorem Bk {n:Nat}{p:List ZY}{k:Nat}(hk:k<p.length) (h:ZZ n (p.take k)=0):ZZ n p=ZZ n (p[k]::p.drop (k+1)):=by
 have e:p=p.take k++(p[k]::p.drop (k+1)):=by rw[List.getElem_cons_drop,vk]
 conv=>lhs;rw[e]
 rw[F9,QD (by simpa using h)]
theorem M6 (bA pA:Option Addr) (bn bc pn pc:Nat) (left:Int) (B:List (List UInt8)) (p:List ZY) (w:World) (hb:Strs w bA bn B) (hp:Cd w pA pn p) (K8:pn<=9223372036854775807) :
  Calls prog 93 #[.agg #[.slice bA bn bc,.slice pA pn pc,.int .i64 left]] w λe w'=>e=.returned (.int .i64 (ZN B p))/\Ext w w':=by
 obtain⟨rfl,Pt⟩:=hb;obtain⟨rfl,N1⟩:=hp;have hz:=Qh;by_cases Sx:256<B.length
 ·go_enter func93,ntmps93;go_wp2_with fail;go_ret;exact⟨JX (by unfold ZN;rw[QN Sx]),(Qg w).alloc _⟩
 have HD:=Qa (show ZN B p=if Y0 B≠0 then 3 else ZZ B.length p by unfold ZN;rw[QD Sx]);go_enter func93,ntmps93;go_wp2_with fail;generalize VA:w.alloc _=w1;have x1:Ext w w1:=by rw[←VA];exact(Qg _).alloc _
 have b1:Box w1 w.heap.size 36 #[.slice bA B.length bc,.slice pA p.length pc,.int .i64 left]:=by rw[←VA];exact Qs _ _ _
 clear VA;have q1:=b1.cell 1;go_loop [4,14] (λ_ i=>∃k:Nat,k<=B.length/\i=.int .i64 k/\Y0 (B.take k)=0) (λ_ i=>B.length-(intOf i).toNat);case atStart=>exact⟨0,by omega,rfl,rfl⟩
 case round =>
  obtain⟨k,hk,rfl,hf⟩:=hrel;have HF:=Qa hf;clear hf;by_cases Qn:k<B.length
  ·obtain⟨b,o,rfl,Qf⟩:=Pt (by omega);have c1:=x1.keep (Qf k Qn);clear Qf;by_cases hl:B[k].length=128
   ·have HN:=Qa (Ld Qn HF.o hl);have P8:((B[k].length:Int) != 128)=false:=by rw[hl];rfl
    generalize B[k]=s at *;go_wp2_with fail;go_round;case rel=>exact⟨k+1,by omega,by go_num,HN.o⟩
    case measure=>simp[intOf];omega
   ·have HN:=Qa (FE Qn HF.o hl);have P8:((B[k].length:Int) != 128)=true:=by simp;omega
    generalize B[k]=s at *;go_wp2_with fail;go_ret;exact⟨JX (by rw[HD.o,HN.o];rfl),x1⟩
  ·obtain rfl:k=B.length:=by omega
   have Mj:=Qa (show ZN B p=ZZ B.length p by rw[HD.o];have:=HF.o;rw[Ri]at this;rw[QD (by simpa using this)]);clear HF HD;go_wp2_with fail;go_loopw [6,25] (λ_ i wx=>∃k:Nat,k<=p.length/\i=.int .i64 k/\ZZ B.length (p.take k)=0/\Ext w1 wx) (λ_ i _=>p.length-(intOf i).toNat);case atStart=>exact⟨0,by omega,rfl,rfl,Qg _⟩
   case round =>
    obtain⟨k,hk,rfl,hf,hx⟩:=hrel;have HF:=Qa hf;clear hf;have bx:=b1.ext hx;by_cases Qn:k<p.length
    ·obtain⟨b,o,rfl,Qf⟩:=N1 (by omega);have c1:=(x1.trans hx).keep (Qf k Qn).1;have c2:=(x1.trans hx).keep (Qf k Qn).2;clear Qf;have HA:=Qa (Bk (n:=B.length) Qn HF.o);have HT:=Qa (LR (n:=B.length) Qn HF.o);clear HF;generalize p[k]=s at *;by_cases U7:0<=s.1/\s.1<(B.length:Int)
     ·have din:decide (0<=s.1/\s.1<(B.length:Int))=true:=Xd U7;by_cases hl:s.2.length=128
      ·have HN:=Qa (HT.o U7.1 U7.2 hl);have P8:((s.2.length:Int) != 128)=false:=by rw[hl];rfl
       clear U7
       go_wp2_with (first
        | (refine Nm (.tmp 1) rfl rfl w.heap.size _ 36 rfl (bx.ext ((Qg _).alloc _)) rfl ?_)
        | (go_at_call 162;refine(E4 _ _ _ _ _ _ _ _ _).mono ?_;rintro e w2 ⟨rfl,x2⟩;rw[din];have y2:=(Qs wr 92 #[.int .i64 s.1,.string (Qb s.2)]).ext x2;have y20:=y2.cell 1))
       go_roundw;case rel=>exact⟨k+1,by omega,by go_num,HN.o,hx.trans (((Qg _).alloc _).trans x2)⟩
       case measure=>simp[intOf];omega
      ·have HN:=Qa (show ZN B p=3 by rw[Mj.o,HA.o,ZZ,QD (by omega),QN hl]);have P8:((s.2.length:Int) != 128)=true:=by simp;omega
       clear U7
       go_wp2_with (first
        | (refine Nm (.tmp 1) rfl rfl w.heap.size _ 36 rfl (bx.ext ((Qg _).alloc _)) rfl ?_)
        | (go_at_call 162;refine(E4 _ _ _ _ _ _ _ _ _).mono ?_;rintro e w2 ⟨rfl,x2⟩;rw[din];have y2:=(Qs wr 92 #[.int .i64 s.1,.string (Qb s.2)]).ext x2;have y20:=y2.cell 1))
       go_ret;exact⟨JX HN.o.symm,x1.trans (hx.trans (((Qg _).alloc _).trans x2))⟩
     ·have din:decide (0<=s.1/\s.1<(B.length:Int))=false:=XI U7;have HN:=Qa (show ZN B p=2 by rw[Mj.o,HA.o,ZZ,QN (by omega)]);clear U7
      go_wp2_with (first
       | (refine Nm (.tmp 1) rfl rfl w.heap.size _ 36 rfl (bx.ext ((Qg _).alloc _)) rfl ?_)
       | (go_at_call 162;refine(E4 _ _ _ _ _ _ _ _ _).mono ?_;rintro e w2 ⟨rfl,x2⟩;rw[din];have y2:=(Qs wr 92 #[.int .i64 s.1,.string (Qb s.2)]).ext x2;have y20:=y2.cell 1))
      go_ret;exact⟨JX HN.o.symm,x1.trans (hx.trans (((Qg _).alloc _).trans x2))⟩
    ·obtain rfl:k=p.length:=by omega
     have HN:=Qa (show ZN B p=0 by rw[Mj.o];have:=HF.o;rw[Ri]at this;exact this);clear HF;go_wp2_with fail;go_ret;exact⟨JX HN.o.symm,x1.trans hx⟩
theorem pI (bA pA:Option Addr) (bn bc pn pc:Nat) (left:Int) (B:List (List UInt8)) (p:List ZY) (w:World) (hb:Strs w bA bn B) (hp:Cd w pA pn p) (K8:pn<=9223372036854775807) :
  Calls prog 95 #[.agg #[.slice bA bn bc,.slice pA pn pc,.int .i64 left]] w λe w'=>e=.returned (.int .i64 (ZR B p))/\Ext w w':=by
 have HC:=Qa (λw h1 h2=>M6 bA pA bn bc pn pc left B p w h1 h2 K8);obtain rfl:=hb.1;have xa:=(Qg w).alloc (.cells #[.slice bA B.length bc,.slice pA pn pc,.int .i64 left] 36);have hs:=hb.ext xa;have hw:=hp.ext xa;by_cases hd:ZN B p=0
 ·rw[hd]at HC;by_cases tu:B.length<=33
  ·have HN:=Qa (show ZR B p=2 by unfold ZR;rw[QD (by simpa using hd),QN tu]);go_enter func95,ntmps95;go_wp2_with (go_at_call 93;refine(HC.o _ hs hw).mono ?_;rintro e w1 ⟨rfl,x1⟩;have q0:=((Qs w 36 #[.slice bA B.length bc,.slice pA pn pc,.int .i64 left]).ext x1).cell 0)
   go_ret;exact⟨JX HN.o.symm,xa.trans x1⟩
  ·have HN:=Qa (show ZR B p=0 by unfold ZR;rw[QD (by simpa using hd),QD tu]);go_enter func95,ntmps95;go_wp2_with (go_at_call 93;refine(HC.o _ hs hw).mono ?_;rintro e w1 ⟨rfl,x1⟩;have q0:=((Qs w 36 #[.slice bA B.length bc,.slice pA pn pc,.int .i64 left]).ext x1).cell 0)
   go_ret;exact⟨JX HN.o.symm,xa.trans x1⟩
 ·have HN:=Qa (show ZR B p=ZN B p by unfold ZR;rw[QN hd]);have d1:(ZN B p != 0)=true:=by simpa using hd
  clear hd;generalize ZN B p=dd at *;go_enter func95,ntmps95;go_wp2_with (go_at_call 93;refine(HC.o _ hs hw).mono ?_;rintro e w1 ⟨rfl,x1⟩)
  go_ret;exact⟨JX HN.o.symm,xa.trans x1⟩
theorem PD (bA pA:Option Addr) (bn bc pn pc:Nat) (left:Int) (B:List (List UInt8)) (p:List ZY) (w:World) (hb:Strs w bA bn B) (hp:Cd w pA pn p) (K8:pn<=9223372036854775807) :
  Calls prog 98 #[.agg #[.slice bA bn bc,.slice pA pn pc,.int .i64 left]] w λe w'=>e=.returned (.int .i64 (ZN B p))/\Ext w w':=by
 obtain⟨rfl,Pt⟩:=hb;obtain⟨rfl,N1⟩:=hp;have hz:=Qh;by_cases Sx:256<B.length
 ·go_enter func98,ntmps98;go_wp2_with fail;go_ret;exact⟨JX (by unfold ZN;rw[QN Sx]),(Qg w).alloc _⟩
 have HD:=Qa (show ZN B p=if Y0 B≠0 then 3 else ZZ B.length p by unfold ZN;rw[QD Sx]);go_enter func98,ntmps98;go_wp2_with fail;generalize VA:w.alloc _=w1;have x1:Ext w w1:=by rw[←VA];exact(Qg _).alloc _
 have b1:Box w1 w.heap.size 36 #[.slice bA B.length bc,.slice pA p.length pc,.int .i64 left]:=by rw[←VA];exact Qs _ _ _
 clear VA;go_loop [3] (λi=>∃k:Nat,k<=B.length/\i=.int .i64 k/\Y0 (B.take k)=0) (λi=>B.length-(intOf i).toNat);case atStart=>exact⟨0,by omega,rfl,rfl⟩
 case round =>
  obtain⟨k,hk,rfl,hf⟩:=hrel;have HF:=Qa hf;clear hf;have q0:=b1.cell 0;have q1:=b1.cell 1;by_cases Qn:k<B.length
  ·obtain⟨b,o,rfl,Qf⟩:=Pt (by omega);have c1:=x1.keep (Qf k Qn);clear Qf;by_cases hl:B[k].length=128
   ·have HN:=Qa (Ld Qn HF.o hl);have P8:((B[k].length:Int) != 128)=false:=by rw[hl];rfl
    generalize B[k]=s at *;go_wp2_with fail;go_round;case rel=>exact⟨k+1,by omega,by go_num,HN.o⟩
    case measure=>simp[intOf];omega
   ·have HN:=Qa (FE Qn HF.o hl);have P8:((B[k].length:Int) != 128)=true:=by simp;omega
    generalize B[k]=s at *;go_wp2_with fail;go_ret;exact⟨JX (by rw[HD.o,HN.o];rfl),x1⟩
  ·obtain rfl:k=B.length:=by omega
   have Mj:=Qa (show ZN B p=ZZ B.length p by rw[HD.o];have:=HF.o;rw[Ri]at this;rw[QD (by simpa using this)]);clear HF HD;go_wp2_with fail;go_loopw [4] (λi wx=>∃k:Nat,k<=p.length/\i=.int .i64 k/\ZZ B.length (p.take k)=0/\Ext w1 wx) (λi _=>p.length-(intOf i).toNat);case atStart=>exact⟨0,by omega,rfl,rfl,Qg _⟩
   case round =>
    obtain⟨k,hk,rfl,hf,hx⟩:=hrel;have HF:=Qa hf;clear hf;have bx:=b1.ext hx;have r0:=bx.cell 0;have r1:=bx.cell 1;clear q0 q1 bx;by_cases Qn:k<p.length
    ·obtain⟨b,o,rfl,Qf⟩:=N1 (by omega);have c1:=(x1.trans hx).keep (Qf k Qn).1;have c2:=(x1.trans hx).keep (Qf k Qn).2;clear Qf;have HA:=Qa (Bk (n:=B.length) Qn HF.o);have HT:=Qa (LR (n:=B.length) Qn HF.o);clear HF;have Y6:(k:Int)<(p.length:Int):=by omega
     generalize p[k]=s at *;by_cases h0:s.1<0
     ·have d0:decide (s.1<0)=true:=Xd h0;have HN:=Qa (show ZN B p=2 by rw[Mj.o,HA.o,ZZ,QN (by omega)]);go_wp2_with fail;go_quiet (fail);go_wp2_with fail;go_ret;exact⟨JX HN.o.symm,x1.trans (hx.drewN _)⟩
     ·have d0:decide (s.1<0)=false:=XI h0;by_cases h1:(B.length:Int)<=s.1
      ·have d1:decide ((B.length:Int)<=s.1)=true:=Xd h1;have HN:=Qa (show ZN B p=2 by rw[Mj.o,HA.o,ZZ,QN (by omega)]);go_wp2_with fail;go_quiet (fail);go_wp2_with fail;go_ret;exact⟨JX HN.o.symm,x1.trans (hx.drewN _)⟩
      ·have d1:decide ((B.length:Int)<=s.1)=false:=XI h1;by_cases hl:s.2.length=128
       ·have HN:=Qa (HT.o (by omega) (by omega) hl);have P8:((s.2.length:Int) != 128)=false:=by rw[hl];rfl
        go_wp2_with fail;go_quiet (fail);go_wp2_with fail;go_roundw;case rel=>exact⟨k+1,by omega,by go_num,HN.o,hx.drewN _⟩
        case measure=>simp[intOf];omega
       ·have HN:=Qa (show ZN B p=3 by rw[Mj.o,HA.o,ZZ,QD (by omega),QN hl]);have P8:((s.2.length:Int) != 128)=true:=by simp;omega
        go_wp2_with fail;go_quiet (fail);go_wp2_with fail;go_ret;exact⟨JX HN.o.symm,x1.trans (hx.drewN _)⟩
    ·obtain rfl:k=p.length:=by omega
     have HN:=Qa (show ZN B p=0 by rw[Mj.o];have:=HF.o;rw[Ri]at this;exact this);clear HF;go_wp2_with fail;go_ret;exact⟨JX HN.o.symm,x1.trans hx⟩
theorem lA (bA pA:Option Addr) (bn bc pn pc:Nat) (left:Int) (B:List (List UInt8)) (p:List ZY) (w:World) (hb:Strs w bA bn B) (hp:Cd w pA pn p) (K8:pn<=9223372036854775807) :
  Calls prog 143 #[.agg #[.slice bA bn bc,.slice pA pn pc,.int .i64 left]] w λe w'=>e=.returned (.int .i64 (ZR B p))/\Ext w w':=by
 have HC:=Qa (λw h1 h2=>PD bA pA bn bc pn pc left B p w h1 h2 K8);obtain rfl:=hb.1;have xa:=(Qg w).alloc (.cells #[.slice bA B.length bc,.slice pA pn pc,.int .i64 left] 36);have hs:=hb.ext xa;have hw:=hp.ext xa;by_cases hd:ZN B p=0
 ·rw[hd]at HC;by_cases tu:B.length<=33
  ·have HN:=Qa (show ZR B p=2 by unfold ZR;rw[QD (by simpa using hd),QN tu]);go_enter func143,ntmps143;go_wp2_with (go_at_call 98;refine(HC.o _ hs hw).mono ?_;rintro e w1 ⟨rfl,x1⟩;have q0:=((Qs w 36 #[.slice bA B.length bc,.slice pA pn pc,.int .i64 left]).ext x1).cell 0)
   go_ret;exact⟨JX HN.o.symm,xa.trans x1⟩
  ·have HN:=Qa (show ZR B p=0 by unfold ZR;rw[QD (by simpa using hd),QD tu]);go_enter func143,ntmps143;go_wp2_with (go_at_call 98;refine(HC.o _ hs hw).mono ?_;rintro e w1 ⟨rfl,x1⟩;have q0:=((Qs w 36 #[.slice bA B.length bc,.slice pA pn pc,.int .i64 left]).ext x1).cell 0)
   go_ret;exact⟨JX HN.o.symm,xa.trans x1⟩
 ·have HN:=Qa (show ZR B p=ZN B p by unfold ZR;rw[QN hd]);have d1:(ZN B p != 0)=true:=by simpa using hd
  clear hd;generalize ZN B p=dd at *;go_enter func143,ntmps143;go_wp2_with (go_at_call 98;refine(HC.o _ hs hw).mono ?_;rintro e w1 ⟨rfl,x1⟩)
  go_ret;exact⟨JX HN.o.symm,xa.trans x1⟩
theorem cp {p:List ZY}{k:Nat}(hk:k<p.length) (i:Int) (s:List UInt8):RI (p.take (k+1)) i s=if p[k].1=i then p[k].2 else RI (p.take k) i s:=by
 unfold RI;rw[Gp hk,zW];rfl
theorem IG (bA pA:Option Addr) (bn bc pn pc j:Nat) (left:Int) (B:List (List UInt8)) (p:List ZY) (w:World) (hb:Strs w bA bn B) (hp:Cd w pA pn p) (K8:pn<=9223372036854775807) (hj:j<B.length) :
  Calls prog 144 #[.agg #[.slice bA bn bc,.slice pA pn pc,.int .i64 left],.int .i64 (j:Int)] w λe w'=>e=.returned (.tuple #[.string (Qb (RI p j (B.getD j []))),.int .i64 0])/\Ext w w':=by
 obtain⟨rfl,Pt⟩:=hb;obtain⟨rfl,N1⟩:=hp;obtain⟨b,o,rfl,Qf⟩:=Pt (by omega);have c1:=((Qg w).alloc (.cells #[.slice (some ⟨b,o,none⟩) B.length bc,.slice pA p.length pc,.int .i64 left] 36)).keep (Qf j hj);rw[show B[j]=B.getD j [] by rw[Yb,ZX hj];rfl]at c1;clear Qf Pt;have Kp:(j:Int)<(B.length:Int):=by omega
 have d1:decide ((j:Int)<0)=false:=by simp
 have d2:decide ((B.length:Int)<=(j:Int))=false:=by simp;omega
 generalize B.getD j []=s at *;go_enter func144,ntmps144;go_wp2_with fail;generalize VA:w.alloc _=w1 at *;have x1:Ext w w1:=by rw[←VA];exact(Qg _).alloc _
 have b1:Box w1 w.heap.size 36 #[.slice (some ⟨b,o,none⟩) B.length bc,.slice pA p.length pc,.int .i64 left]:=by rw[←VA];exact Qs _ _ _
 clear VA c1;go_loop [6,7] (λt i=>∃k:Nat,k<=p.length/\i=.int .i64 k/\t=.string (Qb (RI (p.take k) j s))) (λ_ i=>p.length-(intOf i).toNat);case atStart=>exact⟨0,by omega,rfl,rfl⟩
 case round =>
  obtain⟨k,hk,rfl,rfl⟩:=hrel;have q1:=b1.cell 1;by_cases Qn:k<p.length
  ·obtain⟨b,o,rfl,Qf⟩:=N1 (by omega);have c1:=x1.keep (Qf k Qn).1;have c2:=x1.keep (Qf k Qn).2;have HT:=Qa (cp Qn (j:Int) s);clear Qf;have Y6:(k:Int)<(p.length:Int):=by omega
   generalize p[k]=y at *;generalize RI (p.take k) (↑j) s=s1 at *;by_cases he:y.1=(j:Int)
   ·have de:(y.1==(j:Int))=true:=by simpa using he
    have HN:=Qa (HT.o.trans (QN he));clear HT he;go_wp2_with fail;go_round;case rel=>exact⟨k+1,by omega,by go_num,by rw[HN.o]⟩
    case measure=>simp[intOf];omega
   ·have de:(y.1==(j:Int))=false:=by simpa using he
    have HN:=Qa (HT.o.trans (QD he));clear HT he;go_wp2_with fail;go_round;case rel=>exact⟨k+1,by omega,by go_num,by rw[HN.o]⟩
    case measure=>simp[intOf];omega
  ·obtain rfl:k=p.length:=by omega
   rw[Ri];obtain⟨s1,hs1⟩:∃s1,s1=RI p (↑j) s:=⟨_,rfl⟩
   rw[←hs1];have HS:=Qa hs1;clear hs1;go_wp2_with fail;go_ret2;rw[HS.o];exact⟨rfl,x1⟩
theorem jh {B:List (List UInt8)}{p:List ZY}(h:ZR B p=0) {k:Nat}(hk:k<B.length-33):(Jl B p).take (k+1)=(Jl B p).take k++[RI p (33+k:Nat) (B.getD (33+k) [])]:=by
 have hl:=YO h;rw[Gp (by omega)];congr 2;have:(Jl B p)[k]? =some (RI p (33+k:Nat) (B.getD (33+k) [])):=by rw[dH h,fo,mS hk];rfl
 rw[ZX (by omega)]at this;exact NU this
theorem lf (w:World) (s:List UInt8):Strs (w.alloc (.cells #[.string (Qb s)] 9)) (some ⟨w.heap.size,0,none⟩) 1 [s]:=by
 refine⟨rfl,λ_=>⟨_,_,rfl,λj hj=>?_⟩⟩;have aE:j<1:=hj;obtain rfl:j=0:=by omega
 exact(Qs w 9 #[.string (Qb s)]).cell 0
theorem R9 (bA pA:Option Addr) (bn bc pn pc:Nat) (left:Int) (B:List (List UInt8)) (p:List ZY) (w:World) (hb:Strs w bA bn B) (hp:Cd w pA pn p) (K8:pn<=9223372036854775807) :
  Calls prog 72 #[.agg #[.slice bA bn bc,.slice pA pn pc,.int .i64 left]] w λe w'=>∃A c,e=.returned (.slice A (Jl B p).length c)/\Ext w w'/\w'.ownsRow w.heap.size 9 1 (.slice A (Jl B p).length c) (Jl B p).length (Q5 (Jl B p)):=by
 have HC:=Qa (λw h1 h2=>lA bA pA bn bc pn pc left B p w h1 h2 K8);have HG:=Qa (λw j h1 h2 h3=>IG bA pA bn bc pn pc j left B p w h1 h2 K8 h3);obtain rfl:=hb.1;have xa:=((Qg w).alloc (.cells #[.slice bA B.length bc,.slice pA pn pc,.int .i64 left] 36)).alloc (.cells #[] 9);have oa:((w.alloc (.cells #[.slice bA B.length bc,.slice pA pn pc,.int .i64 left] 36)).alloc (.cells #[] 9)).ownsRow w.heap.size 9 1 (.slice (some ⟨w.heap.size+1,0,none⟩) 0 0) 0 (Q5 []):=by have:=zU (base:=w.heap.size) (e:=9) (size:=1) (w.alloc (.cells #[.slice bA B.length bc,.slice pA pn pc,.int .i64 left] 36)) #[] 0 (by simp) (by decide) rfl;rw[YB]at this;exact this
 have ba:=(Qs w 36 #[.slice bA B.length bc,.slice pA pn pc,.int .i64 left]).ext ((Qg _).alloc (.cells #[] 9));have hs:=hb.ext xa;have hw:=hp.ext xa;by_cases hd:ZR B p=0
 ·rw[hd]at HC;have hl:=Qa (YO hd);have Yj:=Yn hd;have HT:=Qa (λk hk=>jh hd (k:=k) hk);have tu:=Yj.least;have Sx:=Yj.most;clear Yj hd;go_enter func72,ntmps72;go_wp2_with (go_at_call 143;refine(HC.o _ hs hw).mono ?_;rintro e w1 ⟨rfl,x1⟩)
  have o1:=Qc oa x1;have b1:=ba.ext x1;have wi:=xa.trans x1;clear oa ba hs hw xa x1;go_loopw [3,4,5,6] (λu i _ _ wx=>∃k:Nat,k<=B.length-33/\i=.int .i64 ((33+k:Nat):Int)/\Ext w wx/\wx.ownsRow w.heap.size 9 1 u k (Q5 ((Jl B p).take k))/\Box wx w.heap.size 36 #[.slice bA B.length bc,.slice pA pn pc,.int .i64 left]) (λ_ i _ _ _=>B.length-(intOf i).toNat);case atStart=>exact⟨0,by omega,rfl,wi,o1,b1⟩
  case round =>
   obtain⟨k,hk,rfl,xk,ok,bk⟩:=hrel;have q0:=bk.cell 0;have uP:=xk.size;by_cases Qn:k<B.length-33
   ·have Vq:((33+k:Nat):Int)<(B.length:Int):=by omega
    have HN:=Qa (HT.o k Qn);have nk:=QX ok bk (by decide)
    go_wp2_with (first
     | (refine Nm (.tmp 1) rfl rfl w.heap.size _ 36 rfl bk rfl ?_)
     | (go_at_call 144;refine(HG.o _ (33+k) (hb.ext xk) (hp.ext xk) (by omega)).mono ?_;rintro e w2 ⟨rfl,x2⟩;generalize RI p (((33+k:Nat)):Int) (B.getD (33+k) [])=s at *;have Yj:=Qc (Qc ok x2) ((Qg w2).alloc (.cells #[.string (Qb s)] 9));have Kq:=lf w2 s;have VD:w.heap.size<=(w2.alloc (.cells #[.string (Qb s)] 9)).heap.size:=by(have:=x2.size;simp;omega))
     | (at_builtin;refine Jy w.heap.size rfl _ _ rfl rfl rfl Yj Kq (by omega) VD (by omega) ?_;intro u' w4 Yr g4))
    have x4:Ext w w4:=((xk.trans x2).alloc _).grown g4 (λj e=>QU ok e);go_roundw;case rel=>exact⟨k+1,by omega,by go_num,x4,by rw[HN.o];exact Yr,((bk.ext x2).ext ((Qg w2).alloc _)).grown g4 nk⟩
    case measure=>simp[intOf];omega
   ·obtain rfl:k=B.length-33:=by omega
    obtain⟨g,cap,rfl,hgW,_⟩:=Strs.own' ok (by omega);rw[←hl.o,Ri]at ok;have Rm:¬(((33+(B.length-33):Nat):Int)<(B.length:Int)):=by omega
    rw[←hl.o];rw[←hl.o]at Rm;obtain⟨h,hh⟩:∃h,h=Jl B p:=⟨_,rfl⟩
    rw[←hh]at Rm ok ⊢;have HH:=Qa hh;clear hh;have hl2':decide ((((33+h.length:Nat)):Int)<(B.length:Int))=false:=by simpa using Rm
    go_wp2_with fail;go_ret;rw[←HH.o];exact⟨_,_,rfl,xk,ok⟩
 ·have HE:=Qa (show Jl B p=[] by unfold Jl;rw[QN hd]);have d1:(ZR B p != 0)=true:=by simpa using hd
  clear hd;generalize ZR B p=dd at *;go_enter func72,ntmps72;go_wp2_with (go_at_call 143;refine(HC.o _ hs hw).mono ?_;rintro e w1 ⟨rfl,x1⟩)
  go_ret;rw[HE.o];exact⟨_,_,rfl,xa.trans x1,Qc oa x1⟩
theorem fJ {w:World}{b o n m:Nat}{B:List (List UInt8)}(h:Strs w (some ⟨b,o,none⟩) n B) (hm:m<n):Strs w (some ⟨b,o+m,none⟩) (n-m) (B.drop m):=by
 obtain⟨rfl,h2⟩:=h;obtain⟨b',o',e,hc⟩:=h2 (by omega);injection e with e;injection e with e1 e2;subst e1;subst e2;refine⟨by simp,λ_=>⟨_,_,rfl,λj hj=>?_⟩⟩;rw[Nx]at hj;rw[List.getElem_drop,vo];exact hc (m+j) (by omega)
theorem UL {w:World}{base n g cap i:Nat}{v:List (List UInt8)}(h:w.ownsRow base 9 1 (.slice (some ⟨g,0,none⟩) n cap) n (Q5 v)) (r:List UInt8):(w.setCell ⟨g,i,none⟩ (.string (Qb r))).ownsRow base 9 1 (.slice (some ⟨g,0,none⟩) n cap) n (Q5 (v.set i r)):=by
 rw[show Q5 (v.set i r)=(Q5 v).set i (.string (Qb r)) by simp[Q5,List.map_set]];exact(h.stored i (.string (Qb r))).1
theorem RX {w:World}{base n:Nat}{t:TypeId}{u:Value}{ss:List (List UInt8)}(h:w.ownsRow base t 1 u n (Q5 ss)):∃A cap,u=.slice A n cap/\n=ss.length:=by
 have hl:n=ss.length:=by have:=h.1;simpa[Q5]using this.symm
 rcases h.2 with⟨rfl,h0⟩|⟨g,cap,cur,rfl,hb,_⟩
 ·exact⟨none,0,by rw[h0],hl⟩
 ·exact⟨_,_,rfl,hl⟩
theorem CO (bA pA:Option Addr) (bn bc pn pc:Nat) (left:Int) (B:List (List UInt8)) (p:List ZY) (w:World) (hb:Strs w bA bn B) (hp:Cd w pA pn p) (K8:pn<=9223372036854775807) (hbc:bn<=bc) :
  Calls prog 50 #[.agg #[.slice bA bn bc,.slice pA pn pc,.int .i64 left]] w λe w'=>∃A c,e=.returned (.slice A (Jl B p).length c)/\Ext w w'/\w'.ownsRow w.heap.size 9 1 (.slice A (Jl B p).length c) (Jl B p).length (Q5 (Jl B p)):=by
 have HC:=Qa (λw h1 h2=>pI bA pA bn bc pn pc left B p w h1 h2 K8);obtain rfl:=hb.1;have xa:=(Qg w).alloc (.cells #[.slice bA B.length bc,.slice pA pn pc,.int .i64 left] 36);have ba:=Qs w 36 #[.slice bA B.length bc,.slice pA pn pc,.int .i64 left];have hs:=hb.ext xa;have hw:=hp.ext xa;by_cases hd:ZR B p=0
 ·rw[hd]at HC;have hl:=YO hd;have Yj:=Yn hd;have HE:=Qa (show Jl B p=p.foldl N8 (B.drop 33) by unfold Jl;rw[QD (by simpa using hd)]);have tu:=Yj.least;have Sx:=Yj.most;have HP:=Qa Yj.pend;clear Yj hd;obtain⟨b,o,rfl,_⟩:=hb.2 (by omega);have Qaw:=fJ (m:=33) hs (by omega);obtain⟨rfl,N1⟩:=hp;go_enter func50,ntmps50
  go_wp2_with (first
   | (go_at_call 95;refine(HC.o _ hs hw).mono ?_;rintro e w1 ⟨rfl,x1⟩;have b1:=ba.ext x1;have q0:=b1.cell 0;have q1:=b1.cell 1;have s1:=Qaw.ext x1;have VD:w.heap.size<=w1.heap.size:=(xa.trans x1).size)
   | (at_builtin;refine Gf w.heap.size rfl _ _ rfl rfl rfl s1 (by omega) VD (by omega) ?_;intro u' w2 JP x2;have q2:=(b1.ext x2).cell 1;obtain⟨g,cap,rfl,hg,_⟩:=Strs.own' JP (by omega)))
  have xw2:=xa.trans (x1.trans x2);clear q0 q1 q2 s1 Qaw hs hw x1 x2 b1 ba xa;rw[←hl];rw[←hl]at JP;have rK:0<(Jl B p).length:=by omega
  have hL:=Qa hl;generalize hN:(Jl B p).length=N at *;have Mk:=Qa hN;clear hl hN;go_loopw [5,16] (λ_ i wx=>∃k:Nat,k<=p.length/\i=.int .i64 k/\Ext w wx/\wx.ownsRow w.heap.size 9 1 (.slice (some ⟨g,0,none⟩) N cap) N (Q5 ((p.take k).foldl N8 (B.drop 33)))) (λ_ i _=>p.length-(intOf i).toNat);case atStart=>exact⟨0,by omega,rfl,xw2,JP⟩
  case round =>
   obtain⟨k,hk,rfl,xk,ok⟩:=hrel;by_cases Qn:k<p.length
   ·obtain⟨b2,o2,rfl,Qf⟩:=N1 (by omega);have c1:=xk.keep (Qf k Qn).1;have c2:=xk.keep (Qf k Qn).2;have HT:=Qa (show(p.take (k+1)).foldl N8 (B.drop 33)=N8 ((p.take k).foldl N8 (B.drop 33)) p[k] by rw[Gp Qn,zW];rfl);have hy:=HP.o p[k] (NT _);clear Qf;have Y6:(k:Int)<(p.length:Int):=by omega
    generalize p[k]=y at *;generalize (p.take k).foldl N8 (B.drop 33)=V at *;have TZ:=Qc ok ((Qg wr).alloc (.cells #[.int .i64 y.1,.string (Qb y.2)] 92));have hV:V.length=N:=by have:=ok.1;simpa[Q5]using this
    by_cases h3:33<=y.1
    ·obtain⟨q,hq⟩:∃q:Nat,y.1-33=q:=⟨(y.1-33).toNat,by omega⟩
     have hL2:=hL.o;have HY:=Qa (show N8 V y=V.set q y.2 by unfold N8;rw[QN h3,hq];rfl);have pC:q<N:=by omega
     have kc:(wr.alloc (.cells #[.int .i64 y.1,.string (Qb y.2)] 92)).cell? ⟨g,q,none⟩=some (.string (Qb (V.getD q []))):=(TZ.cellAt q (by omega)).trans (by simp[Q5,hV,pC,Yb]);have kf:=TZ.frozenAt q;have wq:IntKind.i64.wrap (y.1-33)=(q:Int):=by rw[Wb];omega
     have d3:decide (33<=y.1)=true:=Xd h3;have hqi:(q:Int)<(N:Int):=by omega
     clear hq hL2 h3 hy;go_wp2_with fail;go_roundw;case rel=>exact⟨k+1,by omega,by go_num,(xk.alloc _).setCell hg _,by rw[HT.o,HY.o];exact UL TZ _⟩
     case measure=>simp[intOf];omega
    ·have HY:=Qa (show N8 V y=V by unfold N8;rw[QD h3]);have d3:decide (33<=y.1)=false:=XI h3;go_wp2_with fail;go_roundw;case rel=>exact⟨k+1,by omega,by go_num,xk.alloc _,by rw[HT.o,HY.o];exact TZ⟩
     case measure=>simp[intOf];omega
   ·obtain rfl:k=p.length:=by omega
    rw[Ri,←HE.o]at ok;go_wp2_with fail;go_ret;rw[Mk.o];exact⟨_,_,rfl,xk,ok⟩
 ·have HE:=Qa (show Jl B p=[] by unfold Jl;rw[QN hd]);have d1:(ZR B p != 0)=true:=by simpa using hd
  clear hd;generalize ZR B p=dd at *;go_enter func50,ntmps50;go_wp2_with (go_at_call 95;refine(HC.o _ hs hw).mono ?_;rintro e w1 ⟨rfl,x1⟩)
  go_ret;rw[HE.o];exact⟨_,_,rfl,xa.trans x1,EN _ _ _ _⟩
theorem Xp {p:List ZY}{k:Nat}(hk:k<p.length) (v:List (List UInt8)):(p.take (k+1)).foldl Z5 v=Z5 ((p.take k).foldl Z5 v) p[k]:=by
 rw[Gp hk,zW];rfl
theorem YQ {n:Nat}(h:n<=maxLen):n<=9223372036854775807:=by unfold maxLen at h;omega
theorem Q0.drv {w:World}{m:QO}{d:Qz}(h:Q0 w m d):Strs w m.bl.A m.bl.n d.bl/\Cd w m.pe.A m.pe.n d.pe/\Cd w m.di.A m.di.n d.di/\m.pe.n<=9223372036854775807/\m.di.n<=9223372036854775807/\m.bl.n<=m.bl.c :=
 ⟨h.bl.strs,h.pe.wrs,h.di.wrs,YQ h.pek.2.1,YQ h.dik.2.1,h.blk.2.2⟩
theorem Ah (m:QO) (d:Qz) (w:World) (h:Q0 w m d) :
  Calls prog 18 #[.agg m.cells] w λe w'=>∃A c,e=.returned (.slice A (QS d.bl d.pe d.di).length c)/\Ext w w'/\w'.ownsRow w.heap.size 9 1 (.slice A (QS d.bl d.pe d.di).length c) (QS d.bl d.pe d.di).length (Q5 (QS d.bl d.pe d.di)):=by
 obtain⟨hb,hp,hd,K8,cy,hbc⟩:=h.drv;clear h;obtain⟨clock,quantum,cur,left,⟨fA,fn,fc⟩,⟨rA,rn,rc⟩,next,init,⟨iA,inn,ic⟩,newPipe,inp,fin,told,⟨bA,bn,bc⟩,⟨pA,pn,pc⟩,dleft,⟨dA,dn,dc⟩⟩:=m;obtain⟨dfr,dpr,dpi,B,p,l⟩:=d;unfold QO.cells;simp only at hb hp hd K8 cy hbc ⊢;have HH:=Qa (λw h1 h2=>CO bA pA bn bc pn pc dleft B p w h1 h2 K8 hbc);obtain⟨rfl,hd2⟩:=hd;obtain⟨wb,hwb⟩:∃wb,wb=w.alloc (.cells #[.int .u64 clock,.int .i64 quantum,.int .i64 cur,.int .i64 left,.slice fA fn fc,.slice rA rn rc,.int .i64 next,.string (Qb init),.slice iA inn ic,.int .i64 newPipe,.string (Qb inp),.bool fin,.int .u64 told,.slice bA bn bc,.slice pA pn pc,.int .i64 dleft,.slice dA l.length dc] 38):=⟨_,rfl⟩
 have xa:Ext w wb:=by rw[hwb];exact(Qg _).alloc _
 have ba:Box wb w.heap.size 38 #[.int .u64 clock,.int .i64 quantum,.int .i64 cur,.int .i64 left,.slice fA fn fc,.slice rA rn rc,.int .i64 next,.string (Qb init),.slice iA inn ic,.int .i64 newPipe,.string (Qb inp),.bool fin,.int .u64 told,.slice bA bn bc,.slice pA pn pc,.int .i64 dleft,.slice dA l.length dc]:=by rw[hwb];exact Qs _ _ _
 have hs:=hb.ext xa;have hw:=hp.ext xa;have HB:=Qa hwb;have IC:wb.cell? ⟨w.heap.size,13,none⟩=some (.slice bA bn bc):=ba.cell 13;have ID:wb.cell? ⟨w.heap.size,14,none⟩=some (.slice pA pn pc):=ba.cell 14;have kt:wb.cell? ⟨w.heap.size,15,none⟩=some (.int .i64 dleft):=ba.cell 15;clear hwb;go_enter func18,ntmps18;go_upto_region 1 with fail;rw[←HB.o];go_wp2_with (go_at_call 50;refine(HH.o _ hs hw).mono ?_;rintro e w1 ⟨A1,c1,rfl,x1,Z2⟩;have eU:=(ba.ext x1).cell 16)
 have wi:=xa.trans x1;have Z2:=Q8 Z2 xa.size;clear IC ID kt eU hs hw ba xa x1 HH HB;have HV:=Qa (show QS B p l=l.foldl Z5 (Jl B p) from rfl);have HL:=Qa (show(QS B p l).length=(Jl B p).length by unfold QS;exact JM _ _);obtain⟨h,hh⟩:∃h,h=Jl B p:=⟨_,rfl⟩
 rw[←hh]at Z2 ⊢;have nG:=Qa hh;clear hh;go_loopw [5,12] (λ_ i wx=>∃k:Nat,k<=l.length/\i=.int .i64 k/\Ext w wx/\wx.ownsRow w.heap.size 9 1 (.slice A1 h.length c1) h.length (Q5 ((l.take k).foldl Z5 h))) (λ_ i _=>l.length-(intOf i).toNat);case atStart=>exact⟨0,by omega,rfl,wi,Z2⟩
 case round =>
  obtain⟨k,hk,rfl,xk,ok⟩:=hrel;by_cases Qn:k<l.length
  ·obtain⟨b2,o2,rfl,Qf⟩:=hd2 (by omega);have e1:=xk.keep (Qf k Qn).1;have e2:=xk.keep (Qf k Qn).2;have HT:=Qa (Xp Qn h);have OE:=Qa (JM (l.take k) h);clear Qf;have Y6:(k:Int)<(l.length:Int):=by omega
   generalize l[k]=y at *;generalize (l.take k).foldl Z5 h=V at *;have TZ:=Qc ok ((Qg wr).alloc (.cells #[.int .i64 y.1,.string (Qb y.2)] 92));by_cases h0:0<=y.1
   ·have d0:decide (0<=y.1)=true:=Xd h0;by_cases h1:y.1<(h.length:Int)
    ·have d1:decide (y.1<(h.length:Int))=true:=Xd h1;obtain⟨y1,y2⟩:=y;simp only at h0 h1 d0 d1 e1 e2 TZ;obtain⟨q,rfl⟩:∃q:Nat,y1=q:=⟨y1.toNat,by omega⟩
     have pC:q<h.length:=by omega
     have HY:=Qa (show Z5 V ((q:Int),y2)=V.set q y2 by unfold Z5;simp only;rw[QN (by have:=OE.o;omega)];rfl);obtain⟨g,cap,hgc,hg,_⟩:=Strs.own' ok (by omega);injection hgc with rP _ hgc;subst rP;subst hgc;have kc:(wr.alloc (.cells #[.int .i64 (q:Int),.string (Qb y2)] 92)).cell? ⟨g,q,none⟩=some (.string (Qb (V.getD q []))):=(TZ.cellAt q (by omega)).trans (by have:=OE.o;simp[Q5,this,pC,Yb]);have kf:=TZ.frozenAt q;go_wp2_with fail;go_roundw;case rel=>exact⟨k+1,by omega,by go_num,(xk.alloc _).setCell hg _,by rw[HT.o,HY.o];exact UL TZ _⟩
     case measure=>simp[intOf];omega
    ·have d1:decide (y.1<(h.length:Int))=false:=XI h1;have HY:=Qa (show Z5 V y=V by unfold Z5;rw[QD (by have:=OE.o;omega)]);go_wp2_with fail;go_roundw;case rel=>exact⟨k+1,by omega,by go_num,xk.alloc _,by rw[HT.o,HY.o];exact TZ⟩
     case measure=>simp[intOf];omega
   ·have d0:decide (0<=y.1)=false:=XI h0;have HY:=Qa (show Z5 V y=V by unfold Z5;rw[QD (by omega)]);go_wp2_with fail;go_roundw;case rel=>exact⟨k+1,by omega,by go_num,xk.alloc _,by rw[HT.o,HY.o];exact TZ⟩
    case measure=>simp[intOf];omega
  ·obtain rfl:k=l.length:=by omega
   rw[Ri]at ok;go_wp2_with fail;go_ret;rw[HL.o,HV.o,←nG.o];exact⟨_,_,rfl,xk,ok⟩
theorem Box.setOther {w:World}{g g' i:Nat}{t:TypeId}{cs:Array Value}(h:Box w g t cs) (Jt:g≠g') (u:Value):Box (w.setCell ⟨g',i,none⟩ u) g t cs:=by
 have k:w.heap[g]? =some (.cells cs t (0,0)):=h;show(w.setCell ⟨g',i,none⟩ u).heap[g]? =_;simp[World.setCell,Wfh,k,AX Jt]
theorem QO.size (m:QO):m.cells.size=17:=rfl
theorem F4 (w:World) (t:TypeId) (cs:Array Value):((w.alloc (.cells cs t)).alloc (.cells #[] 9)).ownsRow w.heap.size 9 1 (.slice (some ⟨w.heap.size+1,0,none⟩) 0 0) 0 (Q5 []):=by
 have:=zU (base:=w.heap.size) (e:=9) (size:=1) (w.alloc (.cells cs t)) #[] 0 (by simp) (by decide) rfl;rw[YB]at this;exact this
theorem BW (m:QO) (d:Qz) (w:World) (h:Q0 w m d) (hj:ZR d.bl d.pe=0) :
  Calls prog 100 #[.agg m.cells] w λe w'=>∃A c,e=.returned (.slice A (QS d.bl d.pe d.di).length c)/\Ext w w'/\w'.ownsRow w.heap.size 9 1 (.slice A (QS d.bl d.pe d.di).length c) (QS d.bl d.pe d.di).length (Q5 (QS d.bl d.pe d.di)):=by
 obtain⟨hb,hp,hd,K8,cy,hbc⟩:=h.drv;clear h;have HH:=Qa (λw h1 h2=>R9 m.bl.A m.pe.A m.bl.n m.bl.c m.pe.n m.pe.c m.dleft d.bl d.pe w h1 h2 K8);have xa:Ext w (w.alloc (.cells m.cells 38)):=(Qg _).alloc _;have fY:=xa.alloc (.cells #[] 9);have ba:=Qs w 38 m.cells;have oa:=F4 w 38 m.cells;have hs:=hb.ext fY;have hw:=hp.ext fY;have bY:=ba.ext ((Qg _).alloc (.cells #[] 9));have IC:((w.alloc (.cells m.cells 38)).alloc (.cells #[] 9)).cell? ⟨w.heap.size,13,none⟩=some (.slice m.bl.A m.bl.n m.bl.c):=bY.cell 13;have ID:((w.alloc (.cells m.cells 38)).alloc (.cells #[] 9)).cell? ⟨w.heap.size,14,none⟩=some (.slice m.pe.A m.pe.n m.pe.c):=bY.cell 14;have kt:((w.alloc (.cells m.cells 38)).alloc (.cells #[] 9)).cell? ⟨w.heap.size,15,none⟩=some (.int .i64 m.dleft):=bY.cell 15;have YW:=YO hj;have ja:=(Yn hj).least;have aG:=(Yn hj).most;have hN:0<(Jl d.bl d.pe).length:=by omega
 have Ay:(Jl d.bl d.pe).length<=1000000:=by omega
 have mN:=Qa hN;have Rs:=Qa Ay;clear YW ja aG hN Ay;go_enter func100,ntmps100
 go_wp2_with (first
  | (go_at_call 72;refine(HH.o _ hs hw).mono ?_;rintro e w1 ⟨A1,c1,rfl,x1,Z2⟩;have s1:=GA Z2;have o1:=Qc oa x1;have b1:=bY.ext x1;have hN:=mN.o;have Ay:=Rs.o;have VD:w.heap.size<=w1.heap.size:=(fY.trans x1).size)
  | (at_builtin;refine Jy w.heap.size rfl _ _ rfl rfl rfl o1 s1 (by omega) VD (by omega) ?_;intro u' w2 JP g2;rw[Nz,bQ]at JP;obtain⟨g,cap,rfl,hg,_⟩:=Strs.own' JP (by omega);have b2:=b1.grown g2 (QX o1 b1 (by decide));have eU:w2.cell? ⟨w.heap.size,16,none⟩=some (.slice m.di.A m.di.n m.di.c):=b2.cell 16;have x2:Ext w w2:=(fY.trans x1).grown g2 (λj e=>QU o1 e)))
 clear IC ID kt hs hw ba bY xa fY x1 HH oa o1 s1 Z2 b1 g2 VD;have HV:=Qa (show QS d.bl d.pe d.di=d.di.foldl Z5 (Jl d.bl d.pe) from rfl);have HL:=Qa (show(QS d.bl d.pe d.di).length=(Jl d.bl d.pe).length by unfold QS;exact JM _ _);obtain⟨h,hh⟩:∃h,h=Jl d.bl d.pe:=⟨_,rfl⟩
 rw[←hh]at JP hN Ay ⊢;have nG:=Qa hh;clear hh;obtain⟨hd1,hd2⟩:=hd;rw[hd1];rw[hd1]at eU cy;have av:=Qa hd1;have HD2:=Qa hd2;clear hd1 hd2;generalize FJ:d.di=l at *;have xL:=Qa FJ;clear FJ;go_loopw [5,14] (λ_ i wx=>∃k:Nat,k<=l.length/\i=.int .i64 k/\Ext w wx/\wx.ownsRow w.heap.size 9 1 (.slice (some ⟨g,0,none⟩) h.length cap) h.length (Q5 ((l.take k).foldl Z5 h))) (λ_ i _=>l.length-(intOf i).toNat);case atStart=>exact⟨0,by omega,rfl,x2,JP⟩
 case round =>
  obtain⟨k,hk,rfl,xk,ok⟩:=hrel;by_cases Qn:k<l.length
  ·obtain⟨b2,o2,hA,Qf⟩:=HD2.o (by rw[av.o];omega);have e1:=xk.keep (Qf k Qn).1;have e2:=xk.keep (Qf k Qn).2;have HT:=Qa (Xp Qn h);have OE:=Qa (JM (l.take k) h);clear Qf;have Y6:(k:Int)<(l.length:Int):=by omega
   generalize l[k]=y at *;generalize (l.take k).foldl Z5 h=V at *;have TZ:=Qc ok ((Qg wr).alloc (.cells #[.int .i64 y.1,.string (Qb y.2)] 92));by_cases h0:0<=y.1
   ·have d0:decide (0<=y.1)=true:=Xd h0;by_cases h1:y.1<(h.length:Int)
    ·have d1:decide (y.1<(h.length:Int))=true:=Xd h1;obtain⟨y1,y2⟩:=y;simp only at h0 h1 d0 d1 e1 e2 TZ;obtain⟨q,rfl⟩:∃q:Nat,y1=q:=⟨y1.toNat,by omega⟩
     have pC:q<h.length:=by omega
     have HY:=Qa (show Z5 V ((q:Int),y2)=V.set q y2 by unfold Z5;simp only;rw[QN (by have:=OE.o;omega)];rfl);have kc:(wr.alloc (.cells #[.int .i64 (q:Int),.string (Qb y2)] 92)).cell? ⟨g,q,none⟩=some (.string (Qb (V.getD q []))):=(TZ.cellAt q (by omega)).trans (by have:=OE.o;simp[Q5,this,pC,Yb]);have kf:=TZ.frozenAt q;go_wp2_with fail;go_roundw;case rel=>exact⟨k+1,by omega,by go_num,(xk.alloc _).setCell hg _,by rw[HT.o,HY.o];exact UL TZ _⟩
     case measure=>simp[intOf];omega
    ·have d1:decide (y.1<(h.length:Int))=false:=XI h1;have HY:=Qa (show Z5 V y=V by unfold Z5;rw[QD (by have:=OE.o;omega)]);go_wp2_with fail;go_roundw;case rel=>exact⟨k+1,by omega,by go_num,xk.alloc _,by rw[HT.o,HY.o];exact TZ⟩
     case measure=>simp[intOf];omega
   ·have d0:decide (0<=y.1)=false:=XI h0;have HY:=Qa (show Z5 V y=V by unfold Z5;rw[QD (by omega)]);go_wp2_with fail;go_roundw;case rel=>exact⟨k+1,by omega,by go_num,xk.alloc _,by rw[HT.o,HY.o];exact TZ⟩
    case measure=>simp[intOf];omega
  ·obtain rfl:k=l.length:=by omega
   rw[Ri]at ok;go_wp2_with fail;go_ret;rw[xL.o,HL.o,HV.o,←nG.o];exact⟨_,_,rfl,xk,ok⟩
theorem Er (m:QO) (d:Qz) (w:World) (h:Q0 w m d) (hj:ZR d.bl d.pe=0) :
  Calls prog 30 #[.agg m.cells] w λe w'=>∃A c,e=.returned (.slice A (QS d.bl d.pe d.di).length c)/\Ext w w'/\w'.ownsRow w.heap.size 9 1 (.slice A (QS d.bl d.pe d.di).length c) (QS d.bl d.pe d.di).length (Q5 (QS d.bl d.pe d.di)):=by
 obtain⟨hb,hp,hd,K8,cy,hbc⟩:=h.drv;clear h;have HH:=Qa (λw h1 h2=>R9 m.bl.A m.pe.A m.bl.n m.bl.c m.pe.n m.pe.c m.dleft d.bl d.pe w h1 h2 K8);have xa:Ext w (w.alloc (.cells m.cells 38)):=(Qg _).alloc _;have fY:=xa.alloc (.cells #[] 9);have ba:=Qs w 38 m.cells;have oa:=F4 w 38 m.cells;have hs:=hb.ext fY;have hw:=hp.ext fY;have bY:=ba.ext ((Qg _).alloc (.cells #[] 9));have IC:((w.alloc (.cells m.cells 38)).alloc (.cells #[] 9)).cell? ⟨w.heap.size,13,none⟩=some (.slice m.bl.A m.bl.n m.bl.c):=bY.cell 13;have ID:((w.alloc (.cells m.cells 38)).alloc (.cells #[] 9)).cell? ⟨w.heap.size,14,none⟩=some (.slice m.pe.A m.pe.n m.pe.c):=bY.cell 14;have kt:((w.alloc (.cells m.cells 38)).alloc (.cells #[] 9)).cell? ⟨w.heap.size,15,none⟩=some (.int .i64 m.dleft):=bY.cell 15;have YW:=YO hj;have ja:=(Yn hj).least;have aG:=(Yn hj).most;have hN:0<(Jl d.bl d.pe).length:=by omega
 have Ay:(Jl d.bl d.pe).length<=1000000:=by omega
 have mN:=Qa hN;have Rs:=Qa Ay;clear YW ja aG hN Ay;go_enter func30,ntmps30
 go_wp2_with (first
  | (go_at_call 72;refine(HH.o _ hs hw).mono ?_;rintro e w1 ⟨A1,c1,rfl,x1,Z2⟩;have s1:=GA Z2;have o1:=Qc oa x1;have b1:=bY.ext x1;have hN:=mN.o;have Ay:=Rs.o;have VD:w.heap.size<=w1.heap.size:=(fY.trans x1).size)
  | (at_builtin;refine Jy w.heap.size rfl _ _ rfl rfl rfl o1 s1 (by omega) VD (by omega) ?_;intro u' w2 JP g2;rw[Nz,bQ]at JP;obtain⟨g,cap,rfl,hg,_⟩:=Strs.own' JP (by omega);have b2:=b1.grown g2 (QX o1 b1 (by decide));have eU:w2.cell? ⟨w.heap.size,16,none⟩=some (.slice m.di.A m.di.n m.di.c):=b2.cell 16;have x2:Ext w w2:=(fY.trans x1).grown g2 (λj e=>QU o1 e)))
 clear IC ID kt hs hw ba bY xa fY x1 HH oa o1 s1 Z2 b1 g2 VD;have HV:=Qa (show QS d.bl d.pe d.di=d.di.foldl Z5 (Jl d.bl d.pe) from rfl);have HL:=Qa (show(QS d.bl d.pe d.di).length=(Jl d.bl d.pe).length by unfold QS;exact JM _ _);obtain⟨h,hh⟩:∃h,h=Jl d.bl d.pe:=⟨_,rfl⟩
 rw[←hh]at JP hN Ay ⊢;have nG:=Qa hh;clear hh;obtain⟨hd1,hd2⟩:=hd;rw[hd1];rw[hd1]at eU cy;have av:=Qa hd1;have HD2:=Qa hd2;clear hd1 hd2;generalize FJ:d.di=l at *;have xL:=Qa FJ;clear FJ;go_loopw [4,5,14] (λ_ _ i wx=>∃k:Nat,k<=l.length/\i=.int .i64 k/\Ext w wx/\wx.ownsRow w.heap.size 9 1 (.slice (some ⟨g,0,none⟩) h.length cap) h.length (Q5 ((l.take k).foldl Z5 h))/\Box wx w.heap.size 38 m.cells) (λ_ _ i _=>l.length-(intOf i).toNat);case atStart=>exact⟨0,by omega,rfl,x2,JP,b2⟩
 case round =>
  obtain⟨k,hk,rfl,xk,ok,bk⟩:=hrel;have ky:wr.cell? ⟨w.heap.size,16,none⟩=some (.slice m.di.A m.di.n m.di.c):=bk.cell 16;rw[av.o]at ky;by_cases Qn:k<l.length
  ·obtain⟨b2,o2,hA,Qf⟩:=HD2.o (by rw[av.o];omega);have e1:=xk.keep (Qf k Qn).1;have e2:=xk.keep (Qf k Qn).2;have HT:=Qa (Xp Qn h);have OE:=Qa (JM (l.take k) h);clear Qf;have Y6:(k:Int)<(l.length:Int):=by omega
   generalize l[k]=y at *;generalize (l.take k).foldl Z5 h=V at *;have TZ:=ok;by_cases h0:0<=y.1
   ·have d0:decide (0<=y.1)=true:=Xd h0;by_cases h1:y.1<(h.length:Int)
    ·have d1:decide (y.1<(h.length:Int))=true:=Xd h1;obtain⟨y1,y2⟩:=y;simp only at h0 h1 d0 d1 e1 e2 TZ;obtain⟨q,rfl⟩:∃q:Nat,y1=q:=⟨y1.toNat,by omega⟩
     have pC:q<h.length:=by omega
     have HY:=Qa (show Z5 V ((q:Int),y2)=V.set q y2 by unfold Z5;simp only;rw[QN (by have:=OE.o;omega)];rfl);have kc:wr.cell? ⟨g,q,none⟩=some (.string (Qb (V.getD q []))):=(TZ.cellAt q (by omega)).trans (by have:=OE.o;simp[Q5,this,pC,Yb]);have kf:=TZ.frozenAt q;go_wp2_with fail;go_roundw;case rel=>exact⟨k+1,by omega,by go_num,xk.setCell hg _,by rw[HT.o,HY.o];exact UL TZ _,bk.setOther (λe=>QX ok bk (by decide) (by rw[e];rfl)) _⟩
     case measure=>simp[intOf];omega
    ·have d1:decide (y.1<(h.length:Int))=false:=XI h1;have HY:=Qa (show Z5 V y=V by unfold Z5;rw[QD (by have:=OE.o;omega)]);go_wp2_with fail;go_roundw;case rel=>exact⟨k+1,by omega,by go_num,xk,by rw[HT.o,HY.o];exact TZ,bk⟩
     case measure=>simp[intOf];omega
   ·have d0:decide (0<=y.1)=false:=XI h0;have HY:=Qa (show Z5 V y=V by unfold Z5;rw[QD (by omega)]);go_wp2_with fail;go_roundw;case rel=>exact⟨k+1,by omega,by go_num,xk,by rw[HT.o,HY.o];exact TZ,bk⟩
    case measure=>simp[intOf];omega
  ·obtain rfl:k=l.length:=by omega
   rw[Ri]at ok;go_wp2_with fail;go_ret;rw[xL.o,HL.o,HV.o,←nG.o];exact⟨_,_,rfl,xk,ok⟩
theorem Z6 {w:World}{b o:Nat}{l:List QF}(hc:∀j v,(l.flatMap Qq)[j]? =some v->w.cell? ⟨b,o+j,none⟩=some v) {k:Nat}(hk:k<l.length):w.rangeAt b (o+k*96) (Qq l[k]):=λj v hv=>by
 have hj:j<96:=by have:=(Ax.1 hv).1;rw[Q2]at this;exact this
 have:=hc (k*96+j) v ((VN Qq 96 l (λx _=>Q2 x) k hk j hj).trans hv);rw[vo];exact this
theorem Ze {w w':World}{b o:Nat}{cs:List Value}(h:w.rangeAt b o cs) (k:Ext w w'):w'.rangeAt b o cs:=λj v hv=>k.keep (h j v hv)
theorem Xe {w:World}{g:Nat}{t:TypeId}{cs:Array Value}(h:Box w g t cs) {o:Nat}{l:List Value}(hl:∀j v,l[j]? =some v->cs[o+j]? =some v):w.rangeAt g o l:=λj v hv=>(h.cell (o+j)).trans (hl j v hv)
theorem ul (p:QF):(Qq p).toArray.all (·.oneCell')=true:=all_oneCell_toArray (Ky p)
section
variable {ops:Array Oper}{rest:List Oper}{o:Oper}{a:Act}{w:World}{Q:Exit->Act->World->Prop}
theorem QT (x:Operand) (J7:o.guard=none) (ho:o.op=.load 57 x) (g i:Nat) (p:QF) (hx:a.eval x=.pointer (some ⟨g,i,none⟩))
  (hb:w.rangeAt g i (Qq p)) (hK:wpList prog ops Q rest (a.put o.dst (.agg (Qq p).toArray)) w):wpList prog ops Q (o::rest) a w :=
 wpList_load_mid J7 _ x ho g i hx _ _ hb underlying57 rfl (by rw[Q2];exact R0) hK
theorem J0 (x y:Operand) (J7:o.guard=none) (ho:o.op=.store 57 x y) (g:Nat) (p:QF) (old:Array Value) (t:TypeId) (hx:a.eval x=.pointer (some ⟨g,0,none⟩)) (hy:a.eval y=.agg (Qq p).toArray)
  (hb:Box w g t old) (hold:old.size=96) (hK:∀w',Box w' g t (Qq p).toArray->w.grownBy w' (some g)->wpList prog ops Q rest (a.put o.dst undef) w'):wpList prog ops Q (o::rest) a w :=
 JU _ x y J7 ho g _ _ t hx hy hb (by rw[NS,Q2];exact R0) (hold.trans (by rw[NS,Q2])) (ul p) hK
end
theorem XX {w:World}{g:Nat}{t:TypeId}{m:QO}(h:Box w g t m.cells):w.cell? ⟨g,0,none⟩=some (.int .u64 m.clock)/\w.cell? ⟨g,1,none⟩=some (.int .i64 m.quantum)/\w.cell? ⟨g,2,none⟩=some (.int .i64 m.cur)/\w.cell? ⟨g,3,none⟩=some (.int .i64 m.left)/\w.cell? ⟨g,4,none⟩=some (.slice m.fr.A m.fr.n m.fr.c)/\w.cell? ⟨g,5,none⟩=some (.slice m.pr.A m.pr.n m.pr.c)/\w.cell? ⟨g,6,none⟩=some (.int .i64 m.next)/\w.cell? ⟨g,7,none⟩=some (.string (Qb m.init))/\w.cell? ⟨g,8,none⟩=some (.slice m.pi.A m.pi.n m.pi.c)/\w.cell? ⟨g,9,none⟩=some (.int .i64 m.newPipe)/\w.cell? ⟨g,10,none⟩=some (.string (Qb m.inn))/\w.cell? ⟨g,11,none⟩=some (.bool m.fin)/\w.cell? ⟨g,12,none⟩=some (.int .u64 m.told)/\w.cell? ⟨g,13,none⟩=some (.slice m.bl.A m.bl.n m.bl.c)/\w.cell? ⟨g,14,none⟩=some (.slice m.pe.A m.pe.n m.pe.c)/\w.cell? ⟨g,15,none⟩=some (.int .i64 m.dleft)/\w.cell? ⟨g,16,none⟩=some (.slice m.di.A m.di.n m.di.c) :=
 ⟨h.cell 0,h.cell 1,h.cell 2,h.cell 3,h.cell 4,h.cell 5,h.cell 6,h.cell 7,h.cell 8,h.cell 9,h.cell 10,h.cell 11,h.cell 12,h.cell 13,h.cell 14,h.cell 15,h.cell 16⟩
def Jw (p:QF):List Value:=(List.range 16).flatMap (Kf p)
def Jf (p:QF):List Value:=(List.range 8).flatMap (GH p)
theorem Bv (p:QF):∀j v,(Jw p)[j]? =some v->(Qq p).toArray[20+j]? =some v:=λj v hv=>by
 have hj:j<48:=by have:=(Ax.1 hv).1;exact this
 rw[MR];have e:(Qq p).drop 20=Jw p++(Jf p++[.bool p.mask,.int .u32 p.code,.int .i64 p.why,.int .u64 p.num]):=rfl;rw[←EM,e,iM (by exact hj)];exact hv
theorem kX (p:QF):∀j v,(Jf p)[j]? =some v->(Qq p).toArray[68+j]? =some v:=λj v hv=>by
 have hj:j<24:=by have:=(Ax.1 hv).1;exact this
 rw[MR];have e:(Qq p).drop 68=Jf p++[.bool p.mask,.int .u32 p.code,.int .i64 p.why,.int .u64 p.num]:=rfl;rw[←EM,e,iM (by exact hj)];exact hv
theorem aT (f:Nat->List Value) (n z i:Nat) (hz:∀j,(f j).length=z) (hi:i<n):((List.range n).flatMap f).toArray.extract (i*z) (i*z+z)=(f i).toArray:=by
 apply tA.1;apply zX;intro j;rw[Array.toList_extract];simp only[List.extract_eq_take_drop,Cb,EM];have hr:(List.range n).length=n:=mT;by_cases hj:j<z
 ·rw[QN (by omega)];have:=VN f z (List.range n) (λx _=>hz x) i (by omega) j hj;rw[vh]at this;exact this
 ·rw[QD (by omega),mQ (by have:=hz i;simp;omega)]
theorem NN {P:Program}{t e n z:Nat}{cs:Array Value}{i:Nat}{d:TypeDesc}(w:World) (hu:P.underlying t=some (.array n e)) (he:P.underlying e=some d) (hd:d.isRow=true) (hs:(P.info? e).map (·.size)=some z) (U7:i<n) :
  (Instr.index t (.agg cs) (.int .i64 (i:Int))).run P w=.ok (.agg (cs.extract (i*z) (i*z+z))) w:=by
 cases hq:P.info? e with
 | none=>simp[hq]at hs
 | some j =>
  have hz:j.size=z:=by simpa[hq]using hs
  have Sy:(isAgg e).run P w=.ok true w:=by unfold isAgg;rw[Ny,nd he w];cases d<;>simp_all
  have h1:(i:Int)<(n:Int):=by omega
  simp[Instr.index,asIntOf,nd hu,h1,sizeOf,typeInfo,hq,part,Ny,Sy,hz];intro hc;exact absurd hc (by omega)
theorem Kz:(prog.info? 50).map (·.size)=some 3:=by kernel_rfl
theorem KL:(prog.info? 54).map (·.size)=some 3:=by kernel_rfl
theorem LS:(prog.info? 95).map (·.size)=some 2:=by kernel_rfl
theorem Ni:(prog.info? 52).map (·.size)=some 48:=by kernel_rfl
theorem Mt:(prog.info? 55).map (·.size)=some 24:=by kernel_rfl
section
variable {ops:Array Oper}{rest:List Oper}{o:Oper}{a:Act}{w:World}{Q:Exit->Act->World->Prop}
theorem Gk (x y:Operand) (J7:o.guard=none) (ho:o.op=.store 95 x y) (g:Nat) (i:Int) (s:ByteArray) (old:Array Value) (t:TypeId) (hx:a.eval x=.pointer (some ⟨g,0,none⟩)) (hy:a.eval y=.agg #[.int .i64 i,.string s])
  (hb:Box w g t old) (hold:old.size=2) (hK:∀w',Box w' g t #[.int .i64 i,.string s]->w.grownBy w' (some g)->wpList prog ops Q rest (a.put o.dst undef) w'):wpList prog ops Q (o::rest) a w :=
 JU _ x y J7 ho g _ _ t hx hy hb LS hold (all_oneCell_toArray (cs:=[.int .i64 i,.string s]) (λv hv=>by simp only[Pm,Rw,Fe]at hv;rcases hv with rfl|rfl<;>rfl)) hK
theorem Zs (x:Operand) (J7:o.guard=none) (ho:o.op=.load 52 x) (g:Nat) (t:TypeId) (p:QF) (hx:a.eval x=.pointer (some ⟨g,20,none⟩))
  (hb:Box w g t (Qq p).toArray) (hK:wpList prog ops Q rest (a.put o.dst (.agg (Jw p).toArray)) w):wpList prog ops Q (o::rest) a w :=
 wpList_load_mid J7 _ x ho g 20 hx _ _ (Xe hb (Bv p)) underlying52 rfl (by exact Ni) hK
theorem V3 (x:Operand) (J7:o.guard=none) (ho:o.op=.load 55 x) (g:Nat) (t:TypeId) (p:QF) (hx:a.eval x=.pointer (some ⟨g,68,none⟩))
  (hb:Box w g t (Qq p).toArray) (hK:wpList prog ops Q rest (a.put o.dst (.agg (Jf p).toArray)) w):wpList prog ops Q (o::rest) a w :=
 wpList_load_mid J7 _ x ho g 68 hx _ _ (Xe hb (kX p)) underlying55 rfl (by exact Mt) hK
theorem ZV (x y:Operand) (J7:o.guard=none) (ho:o.op=.index 52 x y) (p:QF) (i:Nat) (hx:a.eval x=.agg (Jw p).toArray) (hy:a.eval y=.int .i64 (i:Int)) (hi:i<16)
  (hK:wpList prog ops Q rest (a.put o.dst (.agg #[.bool (p.pis i),.bool (p.pwr i),.int .i64 (p.pfr i)])) w):wpList prog ops Q (o::rest) a w:=by
 refine DU J7 λK KM=>?_;unfold Oper.wp execOp;have:=NN (P:=prog) (cs:=(Jw p).toArray) (i:=i) w underlying52 underlying50 rfl Kz hi;rw[show(Jw p).toArray.extract (i*3) (i*3+3)=_ from aT (Kf p) 16 3 i (λ_=>rfl) hi]at this;simp only[ho,hx,hy,this,Ny,Fb,Mm];exact KM _ _ hK
theorem Uo (x y:Operand) (J7:o.guard=none) (ho:o.op=.index 55 x y) (p:QF) (i:Nat) (hx:a.eval x=.agg (Jf p).toArray) (hy:a.eval y=.int .i64 (i:Int)) (hi:i<8)
  (hK:wpList prog ops Q rest (a.put o.dst (.agg #[.int .i64 (p.fk i),.int .i64 (p.fn i),.int .i64 (p.fp i)])) w):wpList prog ops Q (o::rest) a w:=by
 refine DU J7 λK KM=>?_;unfold Oper.wp execOp;have:=NN (P:=prog) (cs:=(Jf p).toArray) (i:=i) w underlying55 underlying54 rfl KL hi;rw[show(Jf p).toArray.extract (i*3) (i*3+3)=_ from aT (GH p) 8 3 i (λ_=>rfl) hi]at this;simp only[ho,hx,hy,this,Ny,Fb,Mm];exact KM _ _ hK
end
theorem Dn {w:World}{base size n:Nat}{e:TypeId}{v:Value}{xs:List Value}(h:w.ownsRow base e size v n xs):∃s:Sl,v=.slice s.A s.n s.c/\s.n=n/\s.ok:=by
 rcases h.2 with⟨rfl,h0⟩|⟨g,cap,cur,rfl,_,_,hc,hm,_⟩
 ·exact⟨⟨none,0,0⟩,rfl,h0.symm,λ_=>⟨rfl,rfl⟩,WP _,Q4 _⟩
 ·exact⟨⟨some ⟨g,0,none⟩,n,cap⟩,rfl,rfl,λh=>(by cases h),YR hc hm,hc⟩
theorem J5 {α:Type} {f:α->List Value}{w:World}{base z n:Nat}{e:TypeId}{s:Sl}{l:List α}(h:w.ownsRow base e z (.slice s.A s.n s.c) n (l.flatMap f)) (hz:∀x∈l,(f x).length=z) (hn:n=l.length) (hs:s.n=n):Q6 f w s.A s.n l:=by
 refine⟨hs.trans hn,λhp=>?_⟩;have h':=h;rcases h.2 with⟨e1,h0⟩|⟨g,cap,cur,e1,_⟩
 ·omega
 ·injection e1 with e1 e2 e3;refine⟨g,0,e1,λj v hj=>?_⟩;rw[e1,hs]at h';rw[Nz,h'.cellAt j (by have:=(Ax.1 hj).1;rw[TE f z l hz]at this;rw[hn];exact this)];exact hj
def JK:QF:=⟨0,0,0,λ_=>0,0,λ_=>false,λ_=>false,λ_=>0,λ_=>0,λ_=>0,λ_=>0,false,0,0,0⟩
theorem N7:(prog.info? 57).map (λi=>(i.zero,i.size,i.bytes))=some (some (.agg (Qq JK).toArray),96,568):=by kernel_rfl
theorem lz:(prog.info? 92).map (λi=>(i.zero,i.size,i.bytes))=some (some (.agg #[.int .i64 0,.string ⟨#[]⟩]),2,24):=by kernel_rfl
theorem Dp:(prog.info? 95).map (λi=>(i.zero,i.size,i.bytes))=some (some (.agg #[.int .i64 0,.string ⟨#[]⟩]),2,24):=by kernel_rfl
theorem Nn (x:ZY):∀v∈Zn x,v.oneCell'=true:=λv hv=>by
 simp only[Zn,Pm,Rw,Fe]at hv;rcases hv with rfl|rfl<;>rfl
theorem TU (m:QO):m.cells.all (·.oneCell')=true:=all_oneCell_toArray (cs:=m.cells.toList) (λv hv=>by
 simp only[QO.cells,Pm,Rw,Fe]at hv;rcases hv with rfl|rfl|rfl|rfl|rfl|rfl|rfl|rfl|rfl|rfl|rfl|rfl|rfl|rfl|rfl|rfl|rfl<;>rfl)
section
variable {ops:Array Oper}{rest:List Oper}{o:Oper}{a:Act}{w:World}{Q:Exit->Act->World->Prop}
theorem Qr (x y:Operand) (J7:o.guard=none) (ho:o.op=.store 38 x y) (g:Nat) (m:QO) (old:Array Value) (t:TypeId) (hx:a.eval x=.pointer (some ⟨g,0,none⟩)) (hy:a.eval y=.agg m.cells)
  (hb:Box w g t old) (hold:old.size=17) (hK:∀w',Box w' g t m.cells->w.grownBy w' (some g)->wpList prog ops Q rest (a.put o.dst undef) w'):wpList prog ops Q (o::rest) a w :=
 JU _ x y J7 ho g m.cells old t hx hy hb Vi hold (TU m) hK
end
theorem YJ {w:World}{base n g i size:Nat}{e t:TypeId}{v:Value}{xs:List Value}{cs:Array Value}(h:w.ownsRow base e size v n xs) (hb:Box w g t cs) (Jt:e≠t) (u:Value):(w.setCell ⟨g,i,none⟩ u).ownsRow base e size v n xs:=by
 have hn:=QX h hb Jt;refine⟨h.1,?_⟩;rcases h.2 with c|⟨g1,cap1,cur,e1,E6,hh,r⟩
 ·exact MU c
 ·have:g1≠g:=λe2=>hn (by rw[e1,e2];rfl);exact Mp ⟨g1,cap1,cur,e1,E6,Box.setOther (show Box w g1 e cur from hh) this u,r⟩
theorem QQ {fn:Func}{p:Tmp}{ty:TypeId}(h:fn.results=#[.cell p ty]) (tmps:Array Value) (w:World) (g:Nat) (t:TypeId) (cs:Array Value) (d:TypeDesc)
  (hp:tmps.getD p undef=.pointer (some ⟨g,0,none⟩)) (hg:Box w g t cs)
  (hu:prog.underlying ty=some d) (hd:RQ d=true) (hi:(prog.info? ty).map (·.size)=some cs.size) :
  (results fn tmps).run prog w=.ok (.agg cs) w:=by
 have pB:tmps[p]?.getD undef=.pointer (some ⟨g,0,none⟩):=by simpa using hp
 simp[results,h,pB,asAddr,su w g t ty cs (0,0) d hg hu (by cases d<;>first|rfl|cases hd) hi]
structure iJ {α:Type} (f:α->List Value) (w:World) (s:Sl) (l:List α):Prop where
 row:Q6 f w s.A s.n l
 ok:s.ok
 small:s.n<=100000
theorem iJ.ext {α:Type} {f:α->List Value}{w w':World}{s:Sl}{l:List α}(h:iJ f w s l) (x:Ext w w'):iJ f w' s l:=⟨h.row.ext x,h.ok,h.small⟩
structure Xi {α:Type} (B0:Nat) (f:α->List Value) (T:TypeId) (w:World) (s:Sl) (l:List α):Prop where
 k:iJ f w s l
 inb:0<s.n->∀b o,s.A=some ⟨b,o,none⟩->b<B0\/∃cs,Box w b T cs
theorem Xi.ext {α:Type} {B0:Nat}{f:α->List Value}{T:TypeId}{w w':World}{s:Sl}{l:List α}(h:Xi B0 f T w s l) (x:Ext w w'):Xi B0 f T w' s l :=
 ⟨h.k.ext x,λhp b o e=>(h.inb hp b o e).imp id λ⟨cs,hb⟩=>⟨cs,hb.ext x⟩⟩
theorem Xi.keepsB {α:Type} {B0:Nat}{f:α->List Value}{T:TypeId}{w w':World}{s:Sl}{l:List α}{row:Option Nat}(h:Xi B0 f T w s l) (hk:∀b cs,Box w b T cs->some b≠row) (hB:∀k,row=some k->B0<=k) (hg:w.grownBy w' row):Xi B0 f T w' s l:=by
 have Jt:0<s.n->∀b o,s.A=some ⟨b,o,none⟩->some b≠row:=λhp b o e=>by
  rcases h.inb hp b o e with hb|⟨cs,hb⟩
  ·intro e2;have:=hB b e2.symm;omega
  ·exact hk b cs hb
 refine⟨⟨⟨h.k.row.1,λhp=>?_⟩,h.k.ok,h.k.small⟩,λhp b o e=>(h.inb hp b o e).imp id λ⟨cs,hb⟩=>⟨cs,hb.grown hg (hk b cs hb)⟩⟩;obtain⟨b,o,e,hc⟩:=h.k.row.2 hp;refine⟨b,o,e,λj v hj=>?_⟩;have hcj:=hc j v hj;rw[Wfk (w:=w) (hg.block b (zR w _ hcj) (Jt hp b o e))];exact hcj
theorem Xi.grown {α:Type} {B0:Nat}{f:α->List Value}{T t:TypeId}{w w':World}{s:Sl}{l:List α}{g:Nat}{cs:Array Value}(h:Xi B0 f T w s l) (Jt:T≠t) (hb:Box w g t cs) (hg:w.grownBy w' (some g)) (hB:B0<=g:=by omega):Xi B0 f T w' s l :=
 h.keepsB (λb cs Vy e=>Vy.ne hb Jt (by injection e)) (λk e=>by injection e with e;omega) hg
theorem Xi.own {α:Type} {B0:Nat}{f:α->List Value}{T:TypeId}{w:World}{s:Sl}{l:List α}{base z:Nat}(hr:Q6 f w s.A s.n l) (hk:s.ok) (hs:s.n<=100000) (h:w.ownsRow base T z (.slice s.A s.n s.c) s.n (l.flatMap f)):Xi B0 f T w s l :=
 ⟨⟨hr,hk,hs⟩,λ_ b o e=>by
   rcases h.2 with⟨e1,_⟩|⟨g,cap,cur,e1,_,hh,_⟩
   ·injection e1 with e1;rw[e]at e1;cases e1
   ·injection e1 with e1;rw[e]at e1;injection e1 with e1;injection e1 with e1;subst e1;exact .inr ⟨cur,hh⟩⟩
theorem Xi.old {α:Type} {f:α->List Value}{T:TypeId}{w:World}{s:Sl}{l:List α}(h:iJ f w s l) (hz:∀x∈l,0<(f x).length):Xi w.heap.size f T w s l:=⟨h,λhp b o e=>.inl (by
 obtain⟨b',o',e',hc⟩:=h.row.2 hp;rw[e]at e';injection e' with e';injection e' with e1 e2;subst e1;subst e2;have hl:0<l.length:=by have:=h.row.1;omega
 obtain⟨x,l',rfl⟩:∃x l',l=x::l':=by
  cases l with
  | nil=>cases hl
  | cons x l'=>exact⟨x,l',rfl⟩
 have h0:=hz x Gq;obtain⟨v,vs,ev⟩:∃v vs,f x=v::vs:=by
  cases hf:f x with
  | nil=>rw[hf]at h0;cases h0
  | cons v vs=>exact⟨v,vs,rfl⟩
 have:=hc 0 v (by rw[bL,ev];rfl);exact zR w _ this)⟩
theorem Xi.nil {α:Type} {B0:Nat}{f:α->List Value}{T:TypeId}{w:World}:Xi B0 f T w ⟨none,0,0⟩ ([]:List α):=⟨⟨⟨rfl,λh=>absurd h (zc 0)⟩,⟨λ_=>⟨rfl,rfl⟩,WP _,Q4 _⟩,WP _⟩,λh=>absurd h (zc 0)⟩
theorem pM {w:World}{g:Nat}{t:TypeId}{m:QO}(h:Box w g t m.cells):w.rangeAt g 13 [.slice m.bl.A m.bl.n m.bl.c,.slice m.pe.A m.pe.n m.pe.c,.int .i64 m.dleft]:=Xe h (λj v hj=>by
 match j with
 | 0=>exact hj
 | 1=>exact hj
 | 2=>exact hj
 | j+3=>cases hj)
theorem Ps {g:Nat}:∀(vs:List Value) (o:Nat) (w:World),w.grownBy (w.setCells g o vs) (some g)
 | [],_,w=>⟨rfl,rfl,rfl,Q4 _,λ_ _ _=>rfl⟩
 | v::r,o,w=>by
  have h:=Ps (g:=g) r (o+1) (w.setCell ⟨g,o,none⟩ v);have h1:(w.setCell ⟨g,o,none⟩ v).heap.size=w.heap.size:=by simp[World.setCell]
  exact⟨h.os,h.tape,h.output,by have:=h.size;rw[h1]at this;exact this,λk hk Jt=>(h.block k (by omega) Jt).trans (vi w ⟨g,o,none⟩ v k (λe=>Jt (by rw[e])))⟩
section
variable {ops:Array Oper}{rest:List Oper}{o:Oper}{a:Act}{w:World}{Q:Exit->Act->World->Prop}
theorem Tk (x:Operand) (J7:o.guard=none) (ho:o.op=.load 36 x) (g:Nat) (m:QO) (t:TypeId) (hx:a.eval x=.pointer (some ⟨g,13,none⟩)) (hb:Box w g t m.cells)
  (hK:wpList prog ops Q rest (a.put o.dst (.agg #[.slice m.bl.A m.bl.n m.bl.c,.slice m.pe.A m.pe.n m.pe.c,.int .i64 m.dleft])) w):wpList prog ops Q (o::rest) a w :=
 wpList_load_mid J7 _ x ho g 13 hx _ _ (pM hb) underlying36 rfl OX hK
end
structure YY (m:QO):Prop where
 fr:m.fr.n<=100000
 pr:m.pr.n<=100000
 pi:m.pi.n<=100000
 bl:m.bl.n<=100000
 pe:m.pe.n<=100000
 di:m.di.n<=100000
def Ns (w:World) (s:Sl):Prop:=∀b o,s.A=some ⟨b,o,none⟩->∃cs t,t≠38/\Box w b t cs
structure Tt (w:World) (m:QO):Prop where
 fr:Ns w m.fr
 pr:Ns w m.pr
 pi:Ns w m.pi
 bl:Ns w m.bl
 pe:Ns w m.pe
 di:Ns w m.di
theorem Ns.ext {w w':World}{s:Sl}(h:Ns w s) (x:Ext w w'):Ns w' s:=λb o e=>by
 obtain⟨cs,t,ht,hb⟩:=h b o e;exact⟨cs,t,ht,hb.ext x⟩
theorem Ns.nil (w:World):Ns w ⟨none,0,0⟩:=λb o e=>by cases e
theorem Tt.ext {w w':World}{m:QO}(h:Tt w m) (x:Ext w w'):Tt w' m:=⟨h.fr.ext x,h.pr.ext x,h.pi.ext x,h.bl.ext x,h.pe.ext x,h.di.ext x⟩
theorem V0 {w:World}{base size n:Nat}{e:TypeId}{s:Sl}{xs:List Value}(h:w.ownsRow base e size (.slice s.A s.n s.c) n xs) (he:e≠38):Ns w s:=λb o hs=>by
 rcases h.2 with⟨e1,_⟩|⟨g,cap,cur,e1,_,hh,_⟩
 ·injection e1 with e1;rw[hs]at e1;cases e1
 ·injection e1 with e1;rw[hs]at e1;injection e1 with e1;injection e1 with e1;subst e1;exact⟨cur,e,he,hh⟩
theorem Ns.grown {w w':World}{s:Sl}{g:Nat}{cs:Array Value}(h:Ns w s) (hb:Box w g 38 cs) (hg:w.grownBy w' (some g)):Ns w' s:=λb o e=>by
 obtain⟨cs1,t,ht,Vy⟩:=h b o e;exact⟨cs1,t,ht,Vy.grown hg (λe=>Vy.ne hb ht (by injection e))⟩
theorem Q6.grown {α:Type} {f:α->List Value}{w w':World}{s:Sl}{g:Nat}{cs:Array Value}{l:List α}(h:Q6 f w s.A s.n l) (ht:Ns w s) (hb:Box w g 38 cs) (hg:w.grownBy w' (some g)):Q6 f w' s.A s.n l :=
 ⟨h.1,λhp=>by
  obtain⟨b,o,e,hc⟩:=h.2 hp;refine⟨b,o,e,λj v hj=>?_⟩;have hcj:=hc j v hj;obtain⟨cs1,t,ht1,Vy⟩:=ht b o e;rw[Wfk (w:=w) (hg.block b Vy.lt (λe=>Vy.ne hb ht1 (by injection e)))];exact hcj⟩
theorem Q0.grown {w w':World}{m:QO}{d:Qz}{g:Nat}{cs:Array Value}(h:Q0 w m d) (hn:Tt w m) (hb:Box w g 38 cs) (hg:w.grownBy w' (some g)):Q0 w' m d :=
 ⟨h.fr.grown hn.fr hb hg,h.pr.grown hn.pr hb hg,h.pi.grown hn.pi hb hg,h.bl.grown hn.bl hb hg,h.pe.grown hn.pe hb hg,h.di.grown hn.di hb hg,h.frk,h.prk,h.pik,h.blk,h.pek,h.dik,h.initk,h.innk,h.leftk⟩
theorem Tt.grown {w w':World}{m:QO}{g:Nat}{cs:Array Value}(h:Tt w m) (hb:Box w g 38 cs) (hg:w.grownBy w' (some g)):Tt w' m :=
 ⟨h.fr.grown hb hg,h.pr.grown hb hg,h.pi.grown hb hg,h.bl.grown hb hg,h.pe.grown hb hg,h.di.grown hb hg⟩
structure Gy (B0:Nat) (w:World) (m:QO) (d:Qz):Prop where
 fr:Xi B0 Nv 9 w m.fr d.fr
 pr:Xi B0 Qq 57 w m.pr d.pr
 pi:Xi B0 Zn 95 w m.pi d.pi
 bl:Xi B0 Nv 9 w m.bl d.bl
 pe:Xi B0 Zn 92 w m.pe d.pe
 di:Xi B0 Zn 92 w m.di d.di
 initk:m.init.length<=maxLen
 innk:m.inn.length<=maxLen
 leftk:(Lit.int .i64 m.dleft).wf=true
theorem Gy.toIn {B0:Nat}{w:World}{m:QO}{d:Qz}(h:Gy B0 w m d):Q0 w m d:=⟨h.fr.k.row,h.pr.k.row,h.pi.k.row,h.bl.k.row,h.pe.k.row,h.di.k.row,h.fr.k.ok,h.pr.k.ok,h.pi.k.ok,h.bl.k.ok,h.pe.k.ok,h.di.k.ok,h.initk,h.innk,h.leftk⟩
theorem Gy.ext {B0:Nat}{w w':World}{m:QO}{d:Qz}(h:Gy B0 w m d) (x:Ext w w'):Gy B0 w' m d:=⟨h.fr.ext x,h.pr.ext x,h.pi.ext x,h.bl.ext x,h.pe.ext x,h.di.ext x,h.initk,h.innk,h.leftk⟩
theorem Gy.grown {B0:Nat}{w w':World}{m:QO}{d:Qz}{g:Nat}{t:TypeId}{cs:Array Value}(h:Gy B0 w m d) (ht:∀T∈[9,57,95,92],T≠t) (hb:Box w g t cs) (hg:w.grownBy w' (some g)) (hB:B0<=g:=by omega):Gy B0 w' m d :=
 ⟨h.fr.grown (ht _ (by simp)) hb hg hB,h.pr.grown (ht _ (by simp)) hb hg hB,h.pi.grown (ht _ (by simp)) hb hg hB,h.bl.grown (ht _ (by simp)) hb hg hB,h.pe.grown (ht _ (by simp)) hb hg hB,h.di.grown (ht _ (by simp)) hb hg hB,h.initk,h.innk,h.leftk⟩
theorem Gy.old {w:World}{m:QO}{d:Qz}(h:Q0 w m d) (hs:YY m):Gy w.heap.size w m d :=
 ⟨Xi.old ⟨h.fr,h.frk,hs.fr⟩ (λ_ _=>Nat.one_pos),Xi.old ⟨h.pr,h.prk,hs.pr⟩ (λ_ _=>by rw[Q2];omega),Xi.old ⟨h.pi,h.pik,hs.pi⟩ (λ_ _=>Nat.succ_pos _),Xi.old ⟨h.bl,h.blk,hs.bl⟩ (λ_ _=>Nat.one_pos),Xi.old ⟨h.pe,h.pek,hs.pe⟩ (λ_ _=>Nat.succ_pos _),Xi.old ⟨h.di,h.dik,hs.di⟩ (λ_ _=>Nat.succ_pos _),h.initk,h.innk,h.leftk⟩
def QO.with (m:QO) (fr pr pi bl pe di:Sl):QO:={ m with fr:=fr,pr:=pr,pi:=pi,bl:=bl,pe:=pe,di:=di }
theorem KB {α:Type} {B0:Nat}(f:α->List Value) (T E:TypeId) (z bytes:Nat) (zv:Value) (base:Nat) {ops:Array Oper}{rest:List Oper}{o:Oper}{a:Act}{Q:Exit->Act->World->Prop}{w:World}{l0 l:List α}(s0 s:Sl)
  (hT:prog.underlying T=some (.slice E)) (hi:(prog.info? E).map (λi=>(i.zero,i.size,i.bytes))=some (some zv,z,bytes)) (hz0:0<z) (hzc:zv.cells.size=z) (J7:o.guard=none) (sl x:Operand)
  (ho:o.op=.call { callee:=.builtin .append,args:=#[sl,x],argTypes:=#[T,T] }) (hs:a.eval sl=.slice s0.A s0.n s0.c) (hx:a.eval x=.slice s.A s.n s.c) (h0:w.ownsRow base E z (.slice s0.A s0.n s0.c) s0.n (l0.flatMap f)) (SD:s0.n=l0.length)
  (h:Q6 f w s.A s.n l) (hk:s.ok) (YW:∀x,(f x).length=z) (oy:∀x,∀v∈f x,v.oneCell'=true) (E8:s0.n+s.n<=100000) (hby:(s0.n+s.n)*bytes<=140737488355328) (hb:base<=w.heap.size)
  (hK:∀(s':Sl) (w':World),s'.n=s0.n+s.n->Xi B0 f E w' s' (l0++l)->w'.ownsRow base E z (.slice s'.A s'.n s'.c) s'.n ((l0++l).flatMap f)->w.grownBy w' (Value.slice s0.A s0.n s0.c).ownBlock->wpList prog ops Q rest (a.put o.dst (.slice s'.A s'.n s'.c)) w'):wpList prog ops Q (o::rest) a w:=by
 obtain⟨i,hi,hz,h1,h2⟩:=AW hi;obtain⟨A,n,c⟩:=s;simp only at hx h hk hby hK E8;cases A with
 | none =>
  obtain⟨rfl,rfl⟩:=hk.1 rfl;have hl:l=[]:=bM h.1.symm;subst hl;refine DU J7 λK KM=>?_;have hr:=run_append_owned_none (P:=prog) (w:=w) base T o.type E i z hT hi (.slice s0.A s0.n s0.c) s0.n (l0.flatMap f) h0;have hK2:=hK s0 w rfl (by
   rw[iP];refine Xi.own (J5 h0 (λx _=>YW x) SD rfl) ?_ (by omega) h0;obtain⟨s',e,_,hk'⟩:=Dn h0;injection e with e1 e2 e3;have:s0=s':=by cases s0;cases s';simp_all
   rw[this];exact hk') (by rw[iP];exact h0) ⟨rfl,rfl,rfl,Q4 _,λ_ _ _=>rfl⟩
  unfold Oper.wp execOp;simp only[ho,resolve,invoke,builtin,Ny,Fb,Mm,bO,P4,Gz,hs,hx,hr];exact KM _ _ hK2
 | some p =>
  have hp:∀j u,(l.flatMap f)[j]? =some u->w.cell? (p.add j)=some u:=λj u hj=>by
   have hn:0<n:=by
    rw[h.1];cases l with
    | nil=>cases hj
    | cons x l=>simp
   obtain⟨b,o,e,hc⟩:=h.2 hn;have ep:p=⟨b,o,none⟩:=NU e;have ha:(⟨b,o,none⟩:Addr).add j=⟨b,o+j,none⟩:=by unfold Addr.add;split<;>simp_all
   rw[ep,ha];exact hc j u hj
  refine DU J7 λK KM=>?_;obtain⟨v',w',hr,ho',hg,_⟩:=nU (P:=prog) w base T o.type E i zv z bytes hT hi hz h1 h2 hzc hz0 (.slice s0.A s0.n s0.c) s0.n (l0.flatMap f) h0 p n c (l.flatMap f) (by rw[TE f z l (λx _=>YW x),h.1]) hp (λu hu=>by
   obtain⟨x,hx,hu⟩:=nc.1 hu;exact oy x u hu) (by unfold maxLen;omega) hby hb
  rw[←AU]at ho';obtain⟨s',rfl,AC,hk'⟩:=Dn ho';have hR:=J5 ho' (λx _=>YW x) (by rw[VL,SD,h.1]) AC;rw[←AC]at ho';unfold Oper.wp execOp;simp only[ho,resolve,invoke,builtin,Ny,Fb,Mm,bO,P4,Gz,hs,hx,hr];exact KM _ _ (hK s' w' AC (Xi.own hR hk' (by omega) ho') ho' hg)
def Mc:Array Value->Nat->List Value->Array Value
 | cs,_,[]=>cs
 | cs,o,v::l=>Mc (cs.setIfInBounds o v) (o+1) l
theorem LX {g:Nat}{t:TypeId}:∀(vs:List Value) (o:Nat) (w:World) (cs:Array Value),Box w g t cs->Box (w.setCells g o vs) g t (Mc cs o vs)
 | [],_,_,_,h=>h
 | v::l,o,w,cs,h=>LX l (o+1) (w.setCell ⟨g,o,none⟩ v) _ (h.set o v)
theorem LY {g:Nat}:∀(vs:List Value) (o:Nat) (w:World),But g w (w.setCells g o vs)
 | [],_,w=>But.refl g w
 | v::l,o,w=>((But.refl g w).setCell o v).trans (LY l (o+1) _)
section
variable {ops:Array Oper}{rest:List Oper}{o:Oper}{a:Act}{w:World}{Q:Exit->Act->World->Prop}
theorem QJ (T:TypeId) (x y:Operand) (J7:o.guard=none) (ho:o.op=.store T x y) (g i:Nat) (v:Value) (cs ds:Array Value) (t:TypeId) (hx:a.eval x=.pointer (some ⟨g,i,none⟩)) (hy:a.eval y=v) (hv:v.oneCell'=true)
  (hi:(prog.info? T).map (·.size)=some 1) (hb:Box w g t cs) (Qn:i<cs.size) (SB:cs.setIfInBounds i v=ds)
  (hK:∀w',Box w' g t ds->But g w w'->wpList prog ops Q rest (a.put o.dst undef) w'):wpList prog ops Q (o::rest) a w:=by
 have hr:=run_storeCells_cells (P:=prog) g i [v] 0 w (λj hj=>by
   have h0:j=0:=by simpa using hj
   subst h0;rw[show i+(0+0)=i from rfl,hb.cell i,Wd4 Qn];rfl) (λj hj=>hb.frozen _) (λu hu=>by
   rw[bK.1 hu];exact hv)
 have hc:v.cells=#[v]:=by cases v<;>first|rfl|cases hv
 refine DU J7 λK KM=>?_;unfold Oper.wp execOp;cases hq:prog.info? T with
 | none=>simp[hq]at hi
 | some j =>
  have hs:j.size=1:=by simpa[hq]using hi
  have Kq:(storeVar T ⟨g,i,none⟩ v).run prog w=.ok () (w.setCells g i [v]):=by simp only[nb]at hr;simp[storeVar,sizeOf,typeInfo,hq,hc,hs,hr]
  simp only[ho,hx,hy,Instr.storeAt,Instr.sureAddr,Ny,Fb,Mm,Kq];exact KM _ _ (hK _ (by rw[←SB];exact LX [v] i w cs hb) (LY [v] i w))
theorem Yg (T:TypeId) (x y:Operand) (J7:o.guard=none) (ho:o.op=.store T x y) (g i:Nat) (vs:List Value) (cs ds:Array Value) (t:TypeId) (hx:a.eval x=.pointer (some ⟨g,i,none⟩)) (hy:a.eval y=.agg vs.toArray) (hv:∀v∈vs,v.oneCell'=true)
  (hi:(prog.info? T).map (·.size)=some vs.length) (hb:Box w g t cs) (Qn:i+vs.length<=cs.size) (SB:Mc cs i vs=ds)
  (hK:∀w',Box w' g t ds->But g w w'->wpList prog ops Q rest (a.put o.dst undef) w'):wpList prog ops Q (o::rest) a w:=by
 refine wpList_store_mid J7 _ x y ho g i vs.toArray hx hy (λj hj=>?_) (by rw[NS];exact hi) (all_oneCell_toArray hv) (hK _ ?_ ?_)
 ·have hj3:j<vs.length:=by simpa using hj
  refine⟨?_,hb.frozen (i+j)⟩;rw[hb.cell (i+j),Wd4 (by omega)];rfl
 ·rw[←SB];exact LX vs i w cs hb
 ·exact LY vs i w
end
theorem YT:(prog.info? 3).map (·.size)=some 1:=by kernel_rfl
theorem Ew:(prog.info? 45).map (·.size)=some 1:=by kernel_rfl
theorem Ex:(prog.info? 31).map (·.size)=some 1:=by kernel_rfl
theorem Pe:(prog.info? 4).map (·.size)=some 1:=by kernel_rfl
theorem af:(prog.info? 9).map (·.size)=some 1:=by kernel_rfl
theorem B9:(prog.info? 32).map (·.size)=some 1:=by kernel_rfl
theorem lg:(prog.info? 33).map (·.size)=some 1:=by kernel_rfl
theorem Ey:(prog.info? 34).map (·.size)=some 1:=by kernel_rfl
theorem IB (y q:QF):Mc (Qq y).toArray 20 (Jw q)=(Qq { y with pis:=q.pis,pwr:=q.pwr,pfr:=q.pfr }).toArray:=by kernel_rfl
theorem Hs (q:QF):(Jw q).length=48:=rfl
theorem I7 (p:QF):∀v∈Jw p,v.oneCell'=true:=λv hv=>by
 simp only[Jw,Kf,nc,Pm,Rw,Fe]at hv;obtain⟨i,_,h|h|h⟩:=hv<;>(subst h;rfl)
def QF.pages (y q:QF):QF:={ y with pis:=q.pis,pwr:=q.pwr,pfr:=q.pfr }
theorem PU {ops:Array Oper}{rest:List Oper}{o:Oper}{a:Act}{w:World}{Q:Exit->Act->World->Prop}(x z:Operand) (J7:o.guard=none) (ho:o.op=.store 52 x z) (g:Nat) (y q:QF) (t:TypeId) (hx:a.eval x=.pointer (some ⟨g,20,none⟩)) (hy:a.eval z=.agg (Jw q).toArray)
  (hb:Box w g t (Qq y).toArray) (hK:∀w',Box w' g t (Qq (y.pages q)).toArray->But g w w'->wpList prog ops Q rest (a.put o.dst undef) w'):wpList prog ops Q (o::rest) a w :=
 Yg _ x z J7 ho g 20 (Jw q) _ _ t hx hy (I7 q) (by rw[Hs];exact Ni) hb (by rw[Hs,NS,Q2];decide) (IB y q) hK
theorem SY {w:World}{g:Nat}{t:TypeId}{m:QO}(h:Box w g t m.cells):w.rangeAt g 0 m.cells.toList:=λj v hj=>by
 rw[Nz];exact(h.cell j).trans (by rw[←hj];simp)
theorem Jz {ops:Array Oper}{rest:List Oper}{o:Oper}{a:Act}{w:World}{Q:Exit->Act->World->Prop}(x:Operand) (hw:Region.wanted o (yielded ops a.tmps)=true) (ho:o.op=.load 38 x) (g:Nat) (m:QO) (t:TypeId) (hx:a.eval x=.pointer (some ⟨g,0,none⟩))
  (hb:Box w g t m.cells) (hK:wpList prog ops Q rest (a.put o.dst (.agg m.cells)) w):wpList prog ops Q (o::rest) a w:=by
 unfold wpList;rw[QN hw];exact .inl (wp_load_mid _ x ho g 0 hx _ _ (SY hb) underlying38 rfl Vi hK)
theorem XR {w a b:World}{g r:Option Nat}(h:w.grownBy a g) (k:a.grownBy b r) (hr:∀j,r=some j->w.heap.size<=j\/g=some j):w.grownBy b g :=
 ⟨k.os.trans h.os,k.tape.trans h.tape,k.output.trans h.output,YR h.size k.size,λi hi Jt=>(k.block i (Ca hi h.size) (λe=>by
  rcases hr i e.symm with h1|h1
  ·omega
  ·exact Jt h1.symm)).trans (h.block i hi Jt)⟩
theorem Yd {H:Type}{P:Program}{k:TypeId}{R:Value->Option (DataW H × List MemPlace)}{w w':World}{b n:Nat}{D:DataW H}(h:w.ownsMap P k R b n D) (x:Ext w w'):w'.ownsMap P k R b n D:=by
 obtain⟨es,cl,hb,r⟩:=h;exact⟨es,cl,(x.block b (Fa.1 hb).1).trans hb,r⟩
theorem V8:Maps.Keyed prog 3:=Maps.int_keyed underlying3
theorem UF (k:Nat) (hk:k<=100000):keyOf prog 3 (.int .i64 (k:Int))=some (.int .i64 (k:Int)):=by
 have hw:(Lit.int .i64 (k:Int)).wf=true:=(by unfold Lit.wf;simp only[Vg,MS,show IntKind.i64.min= -9223372036854775808 from rfl,show IntKind.i64.max=9223372036854775807 from rfl];omega)
 simp[keyOf,underlying3,mapKey,hw]
def Vr (l:List Int):List Value:=l.map λz=>Value.int .i64 z
theorem jr:(prog.info? 3).map (λi=>(i.zero,i.size,i.bytes))=some (some (.int .i64 0),1,8):=by kernel_rfl
theorem UV {ops:Array Oper}{rest:List Oper}{o:Oper}{a:Act}{w:World}{Q:Exit->Act->World->Prop}{B g n:Nat}{u:Value}{l:List Int}{y:Int}(J7:o.guard=none) (sl x:Operand)
  (ho:o.op=.call { callee:=.builtin .append,args:=#[sl,x],argTypes:=#[80,80] }) (hs:a.eval sl=u) (hx:a.eval x=.slice (some ⟨g,0,none⟩) 1 1)
  (h0:w.ownsRow B 3 1 u n (Vr l)) (hb:Box w g 3 #[.int .i64 y]) (hn:n<=1000000) (hB:B<=w.heap.size)
  (hK:∀u' w',w'.ownsRow B 3 1 u' (n+1) (Vr (l++[y]))->w.grownBy w' u.ownBlock->wpList prog ops Q rest (a.put o.dst u') w'):wpList prog ops Q (o::rest) a w:=by
 refine DU J7 λK KM=>?_;obtain⟨i,hi,hz,h1,h2⟩:=AW jr;obtain⟨v',w',hr,ho2,hg,_,_⟩:=nU (P:=prog) w B 80 o.type 3 i _ 1 8 underlying80 hi hz h1 h2 rfl (by decide) u n (Vr l) h0 ⟨g,0,none⟩ 1 1 [.int .i64 y] rfl (λj u hj=>by
  have ha:(⟨g,0,none⟩:Addr).add j=⟨g,j,none⟩:=by unfold Addr.add;split<;>simp_all
  rw[ha,hb.cell j];simpa using hj) (λu hu=>by rcases(by simpa using hu:u=.int .i64 y) with rfl;rfl) (by unfold maxLen;omega) (by omega) hB
 unfold Oper.wp execOp;simp only[ho,resolve,invoke,builtin,Ny,Fb,Mm,bO,P4,Gz,hs,hx,hr];refine KM _ _ (hK v' w' ?_ hg);rw[show Vr (l++[y])=Vr l++[.int .i64 y] by simp[Vr]];exact ho2
structure QH where
 v:List (List UInt8)
 I:Int
 n:Int
 x:List Int
def jF (F:QH):List Value:=[.int .i64 (F.v.length:Int),.int .i64 F.I,.int .i64 1,.int .i64 2,.int .i64 3,.int .i64 (3+(F.I+1)/2),.int .i64 F.n,.int .i64 (F.x.getD 0 0),.int .i64 (F.x.getD 1 0),.int .i64 (F.x.getD 2 0),.int .i64 (F.x.getD 3 0),.int .i64 (F.x.getD 4 0),.int .i64 (F.x.getD 5 0),.int .i64 (F.x.getD 6 0),.int .i64 (F.x.getD 7 0),.int .i64 (F.x.getD 8 0),.int .i64 (F.x.getD 9 0),.int .i64 (F.x.getD 10 0),.int .i64 (F.x.getD 11 0)]
def YS (s:Sl) (F:QH):Array Value:=(Value.slice s.A s.n s.c::jF F).toArray
def Lu (v:List (List UInt8)) (I b:Int):Bool:=decide (3+(I+1)/2<=b)&&decide (b<(v.length:Int))
def Uf (v:List (List UInt8)) (I:Int) (x:List Int) (k:Nat):Int :=
 if k<6 then x.getD (4+k) 0 else if Lu v I (x.getD 10 0) then QW (v.getD (x.getD 10 0).toNat []) (2*(k-6)) 2 else 0
def VT (v:List (List UInt8)) (I:Int) (x:List Int) (k:Nat):Int:=if Lu v I (Uf v I x k) then Uf v I x k else -1
def JL (x:List Int):Int:=min (x.getD 3 0) 8960
theorem oX (g:Nat) (s:Sl) (F:QH) (b:Int) (w:World) (h:Box w g 162 (YS s F)) :
  Calls prog 228 #[.pointer (some ⟨g,0,none⟩),.int .i64 b] w λe w'=>e=.returned (.bool (Lu F.v F.I b))/\w=w':=by
 have c6:w.cell? ⟨g,6,none⟩=some (.int .i64 (3+(F.I+1)/2)):=h.cell 6;have c1:w.cell? ⟨g,1,none⟩=some (.int .i64 (F.v.length:Int)):=h.cell 1;clear h;unfold Lu;generalize 3+(F.I+1)/2=dt at *;go_enter func228,ntmps228;rcases VS (decide (dt<=b)) with d1|d1
 ·go_wp2_with fail;go_ret;exact⟨by rw[d1];rfl,rfl⟩
 ·go_wp2_with fail;go_ret;exact⟨by rw[d1];rfl,rfl⟩
theorem FH (g:Nat) (s:Sl) (F:QH) (w:World) (h:Box w g 162 (YS s F)) :
  Calls prog 116 #[.pointer (some ⟨g,0,none⟩)] w λe w'=>e=.returned (.int .i64 (JL F.x))/\w=w':=by
 have c6:w.cell? ⟨g,11,none⟩=some (.int .i64 (F.x.getD 3 0)):=h.cell 11;clear h;unfold JL;generalize F.x.getD 3 0=z at *;go_enter func116,ntmps116;go_wp2_with fail;go_ret;exact⟨rfl,rfl⟩
structure JB (F:QH):Prop where
 good:Ji F.v F.I
 n1:1<=F.n
 n2:F.n<=F.I
 len:F.x.length=12
 fits:Fw F.x=true
theorem oR {w:World}{g:Nat}{s:Sl}{F:QH}(h:Box w g 162 (YS s F)) {k:Nat}(hk:k<6):w.cell? ⟨g,12+k,none⟩=some (.int .i64 (F.x.getD (4+k) 0)):=by
 rcases(by omega:k=0\/k=1\/k=2\/k=3\/k=4\/k=5) with rfl|rfl|rfl|rfl|rfl|rfl
 ·exact h.cell 12
 ·exact h.cell 13
 ·exact h.cell 14
 ·exact h.cell 15
 ·exact h.cell 16
 ·exact h.cell 17
theorem Ws {v:List (List UInt8)}{I b:Int}(h:Lu v I b=true):3+(I+1)/2<=b/\b<(v.length:Int):=by
 unfold Lu at h;simpa using h
theorem OP {v:List (List UInt8)}{I b:Int}{x:List Int}{k:Nat}(h:Uf v I x k=b) (hb:Lu v I b=true):VT v I x k=b:=by unfold VT;rw[h,QN hb]
theorem AY {v:List (List UInt8)}{I b:Int}{x:List Int}{k:Nat}(h:Uf v I x k=b) (hb:Lu v I b=false):VT v I x k= -1:=by unfold VT;rw[h,QD (by rw[hb];simp)]
theorem WT {w:World}{b o:Nat}{v:List (List UInt8)}(h:∀(j:Nat) (h:j<v.length),w.cell? ⟨b,o+j,none⟩=some (.string (Qb v[j]))) {k:Nat}(hk:k<v.length):w.cell? ⟨b,o+k,none⟩=some (.string (Qb (v.getD k []))):=by
 rw[h k hk,Yb,ZX hk];rfl
theorem oM (g:Nat) (s:Sl) (F:QH) (k:Nat) (w:World) (h:Box w g 162 (YS s F)) (hr:Strs w s.A s.n F.v) (hF:JB F) (hk:k<70) :
  Calls prog 214 #[.pointer (some ⟨g,0,none⟩),.int .i64 (k:Int)] w λe w'=>e=.returned (.int .i64 (VT F.v F.I F.x k))/\Ext w w':=by
 have sD:=Qa (λb w h=>oX g s F b w h);have XS:=Jg hF.good.plan;obtain⟨hl,Y7⟩:=hr;by_cases h6:k<6
 ·have hn:Uf F.v F.I F.x k=F.x.getD (4+k) 0:=by unfold Uf;rw[QN h6]
  have HY:=Qa (λh=>OP hn h);have Us:=Qa (λh=>AY hn h);have cd:=oR h h6;have Y6:(k:Int)<6:=by omega
  have Mz:decide ((k:Int)<6)=true:=Xd Y6;clear Y7 hn;generalize F.x.getD (4+k) 0=b at *;go_enter func214,ntmps214;cases hb:Lu F.v F.I b with
  | true =>
   have HB:=Qa hb;have HA:=Qa (HY.o hb);clear hb HY Us;go_wp2_with (go_at_call 228;refine(sD.o b _ h).mono ?_;rintro e w2 ⟨rfl,rfl⟩;rw[HB.o])
   go_ret;exact⟨by rw[HA.o];rfl,Qg _⟩
  | false =>
   have HB:=Qa hb;have HA:=Qa (Us.o hb);clear hb HY Us;go_wp2_with (go_at_call 228;refine(sD.o b _ h).mono ?_;rintro e w2 ⟨rfl,rfl⟩;rw[HB.o])
   go_ret;exact⟨by rw[HA.o];rfl,Qg _⟩
 ·have Mz:decide ((k:Int)<6)=false:=XI (by omega);have ci:w.cell? ⟨g,18,none⟩=some (.int .i64 (F.x.getD 10 0)):=h.cell 18;have cv:w.cell? ⟨g,0,none⟩=some (.slice s.A s.n s.c):=h.cell 0;cases hi:Lu F.v F.I (F.x.getD 10 0) with
  | false =>
   have hn:Uf F.v F.I F.x k=0:=by unfold Uf;rw[QD h6,hi];rfl
   have h0:Lu F.v F.I 0=false:=by unfold Lu;rw[show decide (3+(F.I+1)/2<=0)=false from XI (by omega)];rfl
   have HA:=Qa (AY hn h0);have HB:=Qa hi;have H0:=Qa h0;clear hi hn h0 Y7;generalize F.x.getD 10 0=ind at *;go_enter func214,ntmps214
   go_wp2_with (first
    | (go_at_call 228;(have hq:=sD.o ind _ h;rw[HB.o]at hq;with_reducible (refine hq.mono ?_));clear hq;rintro e w2 ⟨rfl,rfl⟩)
    | (go_at_call 228;(have hq:=sD.o 0 _ h;rw[H0.o]at hq;with_reducible (refine hq.mono ?_));clear hq;rintro e w2 ⟨rfl,rfl⟩))
   go_ret;exact⟨by rw[HA.o];rfl,Qg _⟩
  | true =>
   have hn:Uf F.v F.I F.x k=QW (F.v.getD (F.x.getD 10 0).toNat []) (2*(k-6)) 2:=by unfold Uf;rw[QD h6,QN hi]
   have HY:=Qa (λh=>OP hn h);have Us:=Qa (λh=>AY hn h);have hib:=Ws hi;obtain⟨b,o,hsA,Qf⟩:=Y7 (by omega);rw[hsA]at cv;have ot:(F.v.getD (F.x.getD 10 0).toNat []).length=128:=Yo hF.good (by omega);have cb:w.cell? ⟨b,o+(F.x.getD 10 0).toNat,none⟩=some (.string (Qb (F.v.getD (F.x.getD 10 0).toNat []))):=WT Qf (by omega);have HB:=Qa hi;clear hi hn Qf Y7;generalize F.x.getD 10 0=ind at *;obtain⟨q,rfl⟩:∃q:Nat,ind=(q:Int):=⟨ind.toNat,by omega⟩
   rw[mU]at cb ot HY Us;generalize F.v.getD q []=blk at *;have hqs:(q:Int)<(s.n:Int):=by omega
   obtain⟨z,hz⟩:∃z,k-6=z:=⟨_,rfl⟩
   have hkz:(k:Int)=(z:Int)+6:=by omega
   rw[hz]at HY Us;rw[hkz];rw[hkz]at Mz;have hzk:z<64:=by omega
   have HG:=Qa (λw=>O7 blk (2*z) (2*z+2) 2 w rfl (.inr (.inl rfl)) (by omega));have f7:=O5 blk (2*z) 2 (by omega);have VD:(Qb blk).size=128:=by rw[Qh,ot]
   have w1:IntKind.i64.wrap ((z:Int)+6-6)=(z:Int):=by rw[Wb];omega
   have w2:IntKind.i64.wrap (2*(z:Int))=((2*z:Nat):Int):=by rw[Wb];omega
   have w3:IntKind.i64.wrap (((2*z:Nat):Int)+2)=((2*z+2:Nat):Int):=by rw[Wb];omega
   have w4:IntKind.i64.wrap (QW blk (2*z) 2)=QW blk (2*z) 2:=by rw[Wb];omega
   generalize QW blk (2*z) 2=num at *;clear h6 hk hkz hz hF XS hl hib;go_enter func214,ntmps214
   go_wp2_with (first
    | (go_at_call 228;(have hq:=sD.o (q:Int) _ h;rw[HB.o]at hq;with_reducible (refine hq.mono ?_));clear hq;rintro e w2 ⟨rfl,rfl⟩))
   have ci':∀y:Qt w,y.now.cell? ⟨g,18,none⟩=some (.int .i64 (q:Int)):=λy=>y.ext.keep ci;have cv':∀y:Qt w,y.now.cell? ⟨g,0,none⟩=some (.slice (some ⟨b,o,none⟩) s.n s.c):=λy=>y.ext.keep cv;have cb':∀y:Qt w,y.now.cell? ⟨b,o+q,none⟩=some (.string (Qb blk)):=λy=>y.ext.keep cb;have t1:((2*z:Nat):Int).toNat=2*z:=by omega
   refine Qk (by kernel_rfl) (by kernel_rfl) ?_;repeat (go_big_quiet_step ((exact Jb (HG.o _))))
   refine VI ?_;rintro w5 ⟨x5,rfl⟩;have h5:=h.ext x5.ext;clear ci' cv' cb';cases hb:Lu F.v F.I num with
   | true =>
    have ar:=Qa hb;have HA:=Qa (HY.o hb);clear hb HY Us;go_wp2_with (go_at_call 228;refine(sD.o num _ h5).mono ?_;rintro e w2 ⟨rfl,rfl⟩;rw[ar.o])
    go_ret;exact⟨by rw[HA.o];rfl,x5.ext⟩
   | false =>
    have ar:=Qa hb;have HA:=Qa (Us.o hb);clear hb HY Us;go_wp2_with (go_at_call 228;refine(sD.o num _ h5).mono ?_;rintro e w2 ⟨rfl,rfl⟩;rw[ar.o])
    go_ret;exact⟨by rw[HA.o];rfl,x5.ext⟩
theorem Cy:(prog.info? 162).map (·.size)=some 20:=by kernel_rfl
def Pr:Array Value:=#[.slice none 0 0,.int .i64 0,.int .i64 0,.int .i64 0,.int .i64 0,.int .i64 0,.int .i64 0,.int .i64 0,.int .i64 0,.int .i64 0,.int .i64 0,.int .i64 0,.int .i64 0,.int .i64 0,.int .i64 0,.int .i64 0,.int .i64 0,.int .i64 0,.int .i64 0,.int .i64 0]
theorem cR (s:Sl) (F:QH):(YS s F).all (·.oneCell')=true:=all_oneCell_toArray (λv hv=>by
 simp only[jF,Pm,Rw,Fe]at hv;rcases hv with h|h|h|h|h|h|h|h|h|h|h|h|h|h|h|h|h|h|h|h<;>(subst h;rfl))
section
variable {ops:Array Oper}{rest:List Oper}{o:Oper}{a:Act}{w:World}{Q:Exit->Act->World->Prop}
theorem Tl (x y:Operand) (J7:o.guard=none) (ho:o.op=.store 162 x y) (g:Nat) (s:Sl) (F:QH) (old:Array Value) (t:TypeId) (hx:a.eval x=.pointer (some ⟨g,0,none⟩)) (hy:a.eval y=.agg (YS s F))
  (hb:Box w g t old) (hold:old.size=20) (hK:∀w',Box w' g t (YS s F)->w.grownBy w' (some g)->wpList prog ops Q rest (a.put o.dst undef) w'):wpList prog ops Q (o::rest) a w :=
 JU _ x y J7 ho g _ _ t hx hy hb Cy hold (cR s F) hK
end
def ofV (B:Nat) (A:Option Addr) (n c:Nat) (v:List (List UInt8)) (I k:Int) (x:List Int):Nat->World->Value->Prop
 | 0,_,u=>u=.slice A n c
 | 1,w,u=>w.ownsRow B 9 1 u n (Q5 v)
 | 2,_,u=>u=.agg (Qj [(v.length:Int),I,1,2,3,3+(I+1)/2])
 | 3,_,u=>u=.int .i64 k
 | 4,_,u=>u=.agg (Qj x)
 | 5,w,u=>∃s:Sl,u=.agg (YS s ⟨v,I,k,x⟩)/\s.n=n/\w.ownsRow B 9 1 (.slice s.A s.n s.c) n (Q5 v)
 | _,_,_=>True
theorem pU {B:Nat}{A:Option Addr}{n c:Nat}{v:List (List UInt8)}{I k:Int}{x:List Int}(j:Nat) (w w':World) (u:Value) (hx:Ext w w') (h:ofV B A n c v I k x j w u):ofV B A n c v I k x j w' u:=by
 match j,h with
 | 0,h=>exact h
 | 1,h=>exact Qc h hx
 | 2,h=>exact h
 | 3,h=>exact h
 | 4,h=>exact h
 | 5,⟨s,e,hn,hb⟩=>exact⟨s,e,hn,Qc hb hx⟩
 | _+6,_=>trivial
def OH (B:Nat) (v:List (List UInt8)) (I k:Int) (e:Ending) (w':World):Prop :=
 ∃s:Sl,e=.returned (.tuple #[.agg (YS s ⟨v,I,k,QI v k⟩),.int .i64 0])/\s.n=v.length/\w'.ownsRow B 9 1 (.slice s.A s.n s.c) v.length (Q5 v)
theorem LL (A:Option Addr) (n c:Nat) (v:List (List UInt8)) (I k:Int) (w:World) (hv:Strs w A n v) (hg:Ji v I) (Vz:1<=k) (KN:k<=I) :
  Calls prog 115 #[.slice A n c,.int .i64 k] w λe w'=>OH w.heap.size v I k e w'/\Ext w w':=by
 have XS:=Jg hg.plan;have hnv:=hv.1;have HGt:=Qa (λw h=>TJ A n c v I k w h hg Vz KN);have HO:=Qa (λw h=>Dl A n c v I w h hg);have x0:=(Qg w).alloc (.cells Pr 162);have b0:=Qs w 162 Pr;have HV:=Qa (hv.ext x0);have nH:=Qa (XU v k);subst hnv;clear hv hg Vz KN;unfold OH;go_enter func115,ntmps115;go_upto_region 1 with fail;change Code.wp _ _ _ _ (w.alloc (.cells Pr 162));generalize w.alloc (.cells Pr 162)=w1 at *;generalize hG:w.heap.size=G at *;obtain⟨x,hxi⟩:∃x,x=QI v k:=⟨_,rfl⟩
 rw[←hxi]at HGt nH;have HXI:=Qa hxi;clear hxi
 go_upto_region 2 with(first
  | (go_at_call 69;refine(HGt.o _ HV.o).mono ?_;rintro e w2 ⟨rfl,x2⟩)
  | (refine QR (.tmp 6) (.tmp 13) rfl rfl w2.heap.size x Qy 121 rfl rfl (Qs _ _ _) nH.o rfl ?_;intro w3 b3 g3))
 have G6:Ext w2 w3:=((Qg w2).alloc _).grown g3 (λj e=>by cases e;exact Q4 _);have x13:=x2.trans G6;have b03:=b0.ext x13;have yr:=Qa (HV.o.ext x13);have xw3:=x0.trans x13;clear g3 G6 x2 b0 x13 x0 HV;generalize w2.heap.size=g3 at *
 go_upto_region 5 with(first
  | (go_at_call 94;refine(HO.o _ yr.o).mono ?_;rintro e w4 ⟨rfl,x4⟩)
  | (rw[Xr];refine QC (.tmp 8) (.tmp 22) rfl rfl w4.heap.size _ [0,0,0,0,0,0] 144 rfl rfl (Qs _ _ _) rfl rfl ?_;intro w5 b5 g5))
 have gQ:Ext w4 w5:=((Qg w4).alloc _).grown g5 (λj e=>by cases e;exact Q4 _);have x35:=x4.trans gQ;have b05:=b03.ext x35;have wF:=b3.ext x35;have HV5:=Qa (yr.o.ext x35);have PX:=xw3.trans x35;clear g5 gQ x4 b03 b3 x35 xw3 yr HGt HO;generalize w4.heap.size=g5 at *;have VD:=PX.size;rw[hG]at VD;go_wp2_with fail;refine Ya 6 [[],[0],[],[],[],[1,2,3,4]] (ofV G A v.length c v I k x) (by kernel_rfl) (by kernel_rfl) pU (λus=>?_);simp only[KG,KI,UY,KJ];refine⟨λw' hx hd=>?_,λw' hx hd=>?_,λw' hx hd=>?_,λw' hx hd=>?_,λw' hx hd=>?_,λw' hx hd=>?_,λw' hx hv=>?_⟩
 ·refine Qp 28 rfl (by simp[Act.put]) rfl ?_;go_wp2_with fail;exact⟨Qg _,rfl⟩
 ·have h0:=hd 0 (by simp);clear hd;generalize us 0=u0 at *;obtain rfl:u0=.slice A v.length c:=h0;have dJ:=HV5.o.ext hx;refine Qp 29 rfl (by simp[Act.put]) rfl ?_;go_wp2_with (refine Gf G rfl _ _ rfl rfl rfl dJ (by omega) (by have:=hx.size;omega) (by omega) ?_;intro u' w2 JP xx)
  exact JP
 ·refine Qp 30 rfl (by simp[Act.put]) rfl ?_;go_wp2_with (refine Vd (.tmp 8) rfl rfl g5 _ 144 rfl (b5.ext hx) rfl ?_)
  exact⟨Qg _,rfl⟩
 ·refine Qp 31 rfl (by simp[Act.put]) rfl ?_;go_wp2_with fail;exact⟨Qg _,rfl⟩
 ·refine Qp 32 rfl (by simp[Act.put]) rfl ?_;go_wp2_with (refine Xh (.tmp 6) rfl rfl g3 x 121 rfl (wF.ext hx) nH.o ?_)
  exact⟨Qg _,rfl⟩
 ·have h1:=hd 1 (by simp);have h2:=hd 2 (by simp);have h3:=hd 3 (by simp);have h4:=hd 4 (by simp);clear hd;generalize us 1=u1 at *;generalize us 2=u2 at *;generalize us 3=u3 at *;generalize us 4=u4 at *;have Z2:w'.ownsRow G 9 1 u1 v.length (Q5 v):=h1;obtain rfl:u2=.agg (Qj [(v.length:Int),I,1,2,3,3+(I+1)/2]):=h2;obtain rfl:u3=.int .i64 k:=h3;obtain rfl:u4=.agg (Qj x):=h4;clear h1;obtain⟨g,cap,rfl,hgb,_⟩:=Strs.own' Z2 (by omega);obtain⟨y0,y1,y2,y3,y4,y5,y6,y7,y8,y9,y10,wj,rfl⟩:=Dh nH.o;have OW:=Qa Z2;refine Qp 33 rfl (by simp[Act.put]) rfl ?_;simp only[Qj,P4,Gz];go_wp2_with fail;exact⟨Qg _,⟨some ⟨g,0,none⟩,v.length,cap⟩,rfl,rfl,OW.o⟩
 ·have h5:=hv 5 (by omega);clear hv;generalize us 5=u5 at *;obtain⟨s,rfl,AD,XD⟩:∃s:Sl,u5=.agg (YS s ⟨v,I,k,x⟩)/\s.n=v.length/\w'.ownsRow G 9 1 (.slice s.A s.n s.c) v.length (Q5 v):=h5;have ni:=b05.ext hx;have OW:=Qa XD;have HSN:=Qa AD;have Jt:=Qa (QX XD ni (by decide));clear XD AD;go_wp2_with (refine Tl (.tmp 4) (.tmp 33) rfl rfl G s ⟨v,I,k,x⟩ _ 162 rfl rfl ni rfl ?_;intro w8 b8 g8)
  refine Jv (Qd rfl _ _ G _ _ _ (.int .i64 0) rfl rfl b8 underlying162 rfl Cy) rfl ?_;exact⟨⟨s,by rw[←HXI.o],HSN.o,by rw[hG];exact OW.o.kept g8 (.inr Jt.o.symm)⟩,(PX.trans hx).grown g8 (λj e=>by cases e;rw[hG];exact Q4 _)⟩
end Go.Proofs.YtfaplefkakpgcaaGreatDoor
