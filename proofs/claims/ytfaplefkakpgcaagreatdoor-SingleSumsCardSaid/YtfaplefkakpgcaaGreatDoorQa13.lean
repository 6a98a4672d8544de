import Derived.Test.YtfaplefkakpgcaaGreatDoorQa10
import Derived.Test.YtfaplefkakpgcaaGreatDoorQa12
import Derived.Deep.MidRow
import Derived.Maps.Own
import Derived.Maps.OwnSet
import Derived.Maps.OwnOps
import Derived.Maps.Views
set_option linter.unusedVariables false
set_option linter.unusedSimpArgs false
set_option maxHeartbeats 32000000
set_option maxRecDepth 100000
namespace Go.Proofs.YtfaplefkakpgcaaGreatDoor
open Go.Proofs.Tryz
open Go.RowKit
def Fr (w:World) (A:Option Addr) (n:Nat) (l:List Zs):Prop :=
 n=l.length/\(0<n->∃b o,A=some ⟨b,o,none⟩/\∀(j:Nat) (h:j<l.length),w.cell? ⟨b,o+j*2,none⟩=some (.int .i64 l[j].1)/\w.cell? ⟨b,o+j*2+1,none⟩=some (.string (Qb l[j].2)))
theorem Fr.ext {w w':World}{A:Option Addr}{n:Nat}{l:List Zs}(h:Fr w A n l) (k:Ext w w'):Fr w' A n l :=
 ⟨h.1,λhn=>by obtain⟨b,o,e,hc⟩:=h.2 hn;exact⟨b,o,e,λj hj=>⟨k.keep (hc j hj).1,k.keep (hc j hj).2⟩⟩⟩
theorem Q8.wrs {w:World}{A:Option Addr}{n:Nat}{l:List Zs}(h:Q8 Yd w A n l):Fr w A n l:=by
 refine⟨h.1,λhn=>?_⟩;obtain⟨b,o,e,hc⟩:=h.2 hn;exact⟨b,o,e,λj hj=>⟨Q8.cell (n:=n) hc (z:=2) (λx _=>rfl) hj (i:=0) (by omega) rfl,Q8.cell (n:=n) hc (z:=2) (λx _=>rfl) hj (i:=1) (by omega) rfl⟩⟩
theorem Q8.strs {w:World}{A:Option Addr}{n:Nat}{l:List (List UInt8)}(h:Q8 FE w A n l):Strs w A n l:=by
 refine⟨h.1,λhn=>?_⟩;obtain⟨b,o,e,hc⟩:=h.2 hn;refine⟨b,o,e,λj hj=>?_⟩;have:=Q8.cell (n:=n) hc (z:=1) (λx _=>rfl) hj (i:=0) (by omega) rfl;rw[Nat.mul_one,fO]at this;exact this
theorem DM:(prog.info? 36).map (·.size)=some 3:=by kernel_rfl
theorem Tn:(prog.info? 38).map (·.size)=some 17:=by kernel_rfl
section
variable {ops:Array Oper}{rest:List Oper}{o:Oper}{a:Act}{w:World}{Q:Exit->Act->World->Prop}
theorem Uq (x:Operand) (Q7:o.guard=none) (ho:o.op=.load 36 x) (g:Nat) (l:Array Value) (t:TypeId) (hx:a.eval x=.pointer (some ⟨g,0,none⟩))
  (hb:Box w g t l) (hl:l.size=3) (hK:wpList prog ops Q rest (a.put o.dst (.agg l)) w):wpList prog ops Q (o::rest) a w :=
 XZ _ x Q7 ho g _ t _ hx hb underlying36 rfl (by rw[hl];exact DM) hK
theorem QI (x:Operand) (Q7:o.guard=none) (ho:o.op=.load 38 x) (g:Nat) (l:Array Value) (t:TypeId) (hx:a.eval x=.pointer (some ⟨g,0,none⟩))
  (hb:Box w g t l) (hl:l.size=17) (hK:wpList prog ops Q rest (a.put o.dst (.agg l)) w):wpList prog ops Q (o::rest) a w :=
 XZ _ x Q7 ho g _ t _ hx hb underlying38 rfl (by rw[hl];exact Tn) hK
end
theorem Lj (bA pA:Option Addr) (bn bc pn pc:Nat) (left i:Int) (w:World) :
  Calls prog 162 #[.agg #[.slice bA bn bc,.slice pA pn pc,.int .i64 left],.int .i64 i] w λe w'=>e=.returned (.bool (decide (0<=i/\i<(bn:Int))))/\Ext w w':=by
 by_cases h0:0<=i
 ·by_cases h1:i<(bn:Int)
  ·go_enter func162,ntmps162;go_wp2_with fail;go_ret;exact⟨KO (by simp[h0,h1]),(Qf w).alloc _⟩
  ·have d1:decide (i<(bn:Int))=false:=by simpa using h1
   go_enter func162,ntmps162;go_wp2_with fail;go_ret;exact⟨KO (by simp[h0,h1]),(Qf w).alloc _⟩
 ·have d1:decide (0<=i)=false:=by simpa using h0
  go_enter func162,ntmps162;go_wp2_with fail;go_ret;exact⟨KO (by simp[h0]),(Qf w).alloc _⟩
theorem TV {B:List (List UInt8)}{k:Nat}(hk:k<B.length) (h:ZV (B.take k)=0) (hl:B[k].length=128):ZV (B.take (k+1))=0:=by
 rw[FL hk,Mb,Qr (by simpa using h)];simp[ZV,hl]
theorem Mc {B:List (List UInt8)}{k:Nat}(hk:k<B.length) (h:ZV (B.take k)=0) (hl:B[k].length≠128):ZV B=3:=by
 have e:B=B.take k++(B[k]::B.drop (k+1)):=by rw[List.getElem_cons_drop,fH]
 rw[e,Mb,Qr (by simpa using h),ZV,Qv hl]
theorem Ry {n:Nat}{p:List Zs}{k:Nat}(hk:k<p.length) (h:JX n (p.take k)=0) (h0:0<=p[k].1) (h1:p[k].1<n) (hl:p[k].2.length=128):JX n (p.take (k+1))=0:=by
 rw[FL hk,Mv,Qr (by simpa using h),JX,Qr (by omega),Qr (by simpa using hl)];rfl
theorem Gy {n:Nat}{p:List Zs}{k:Nat}(hk:k<p.length) (h:JX n (p.take k)=0):JX n p=JX n (p[k]::p.drop (k+1)):=by
 have e:p=p.take k++(p[k]::p.drop (k+1)):=by rw[List.getElem_cons_drop,fH]
 conv=>lhs;rw[e]
 rw[Mv,Qr (by simpa using h)]
theorem TM (bA pA:Option Addr) (bn bc pn pc:Nat) (left:Int) (B:List (List UInt8)) (p:List Zs) (w:World) (hb:Strs w bA bn B) (hp:Fr w pA pn p) (Kz:pn<=9223372036854775807) :
  Calls prog 93 #[.agg #[.slice bA bn bc,.slice pA pn pc,.int .i64 left]] w λe w'=>e=.returned (.int .i64 (J4 B p))/\Ext w w':=by
 obtain⟨rfl,Kj⟩:=hb;obtain⟨rfl,hp2⟩:=hp;have hz:=Qh;by_cases F9:256<B.length
 ·go_enter func93,ntmps93;go_wp2_with fail;go_ret;exact⟨Jk (by unfold J4;rw[Qv F9]),(Qf w).alloc _⟩
 have HD:=Qa (show J4 B p=if ZV B≠0 then 3 else JX B.length p by unfold J4;rw[Qr F9]);go_enter func93,ntmps93;go_wp2_with fail;generalize Xo:w.alloc _=w1;have x1:Ext w w1:=by rw[←Xo];exact(Qf _).alloc _
 have b1:Box w1 w.heap.size 36 #[.slice bA B.length bc,.slice pA p.length pc,.int .i64 left]:=by rw[←Xo];exact QA _ _ _
 clear Xo;have q1:=b1.cell 1;go_loop [4,14] (λ_ i=>∃k:Nat,k<=B.length/\i=.int .i64 k/\ZV (B.take k)=0) (λ_ i=>B.length-(intOf i).toNat);case atStart=>exact⟨0,by omega,rfl,rfl⟩
 case round =>
  obtain⟨k,hk,rfl,hf⟩:=hrel;have HF:=Qa hf;clear hf;by_cases Qo:k<B.length
  ·obtain⟨b,o,rfl,Qd⟩:=Kj (by omega);have c1:=x1.keep (Qd k Qo);clear Qd;by_cases hl:B[k].length=128
   ·have HN:=Qa (TV Qo HF.o hl);have Fw:((B[k].length:Int) != 128)=false:=by rw[hl];rfl
    generalize B[k]=s at *;go_wp2_with fail;go_round;case rel=>exact⟨k+1,by omega,by go_num,HN.o⟩
    case measure=>simp[intOf];omega
   ·have HN:=Qa (Mc Qo HF.o hl);have Fw:((B[k].length:Int) != 128)=true:=by simp;omega
    generalize B[k]=s at *;go_wp2_with fail;go_ret;exact⟨Jk (by rw[HD.o,HN.o];rfl),x1⟩
  ·obtain rfl:k=B.length:=by omega
   have AQ:=Qa (show J4 B p=JX B.length p by rw[HD.o];have:=HF.o;rw[L9]at this;rw[Qr (by simpa using this)]);clear HF HD;go_wp2_with fail;go_loopw [6,25] (λ_ i wx=>∃k:Nat,k<=p.length/\i=.int .i64 k/\JX B.length (p.take k)=0/\Ext w1 wx) (λ_ i _=>p.length-(intOf i).toNat);case atStart=>exact⟨0,by omega,rfl,rfl,Qf _⟩
   case round =>
    obtain⟨k,hk,rfl,hf,hx⟩:=hrel;have HF:=Qa hf;clear hf;have bx:=b1.ext hx;by_cases Qo:k<p.length
    ·obtain⟨b,o,rfl,Qd⟩:=hp2 (by omega);have c1:=(x1.trans hx).keep (Qd k Qo).1;have c2:=(x1.trans hx).keep (Qd k Qo).2;clear Qd;have HA:=Qa (Gy (n:=B.length) Qo HF.o);have HT:=Qa (Ry (n:=B.length) Qo HF.o);clear HF;generalize p[k]=s at *;by_cases UT:0<=s.1/\s.1<(B.length:Int)
     ·have pv:decide (0<=s.1/\s.1<(B.length:Int))=true:=Ve UT;by_cases hl:s.2.length=128
      ·have HN:=Qa (HT.o UT.1 UT.2 hl);have Fw:((s.2.length:Int) != 128)=false:=by rw[hl];rfl
       clear UT
       go_wp2_with (first
        | (refine Uq (.tmp 1) rfl rfl w.heap.size _ 36 rfl (bx.ext ((Qf _).alloc _)) rfl ?_)
        | (go_at_call 162;refine(Lj _ _ _ _ _ _ _ _ _).mono ?_;rintro e w2 ⟨rfl,x2⟩;rw[pv];have y2:=(QA wr 92 #[.int .i64 s.1,.string (Qb s.2)]).ext x2;have wO:=y2.cell 1))
       go_roundw;case rel=>exact⟨k+1,by omega,by go_num,HN.o,hx.trans (((Qf _).alloc _).trans x2)⟩
       case measure=>simp[intOf];omega
      ·have HN:=Qa (show J4 B p=3 by rw[AQ.o,HA.o,JX,Qr (by omega),Qv hl]);have Fw:((s.2.length:Int) != 128)=true:=by simp;omega
       clear UT
       go_wp2_with (first
        | (refine Uq (.tmp 1) rfl rfl w.heap.size _ 36 rfl (bx.ext ((Qf _).alloc _)) rfl ?_)
        | (go_at_call 162;refine(Lj _ _ _ _ _ _ _ _ _).mono ?_;rintro e w2 ⟨rfl,x2⟩;rw[pv];have y2:=(QA wr 92 #[.int .i64 s.1,.string (Qb s.2)]).ext x2;have wO:=y2.cell 1))
       go_ret;exact⟨Jk HN.o.symm,x1.trans (hx.trans (((Qf _).alloc _).trans x2))⟩
     ·have pv:decide (0<=s.1/\s.1<(B.length:Int))=false:=XI UT;have HN:=Qa (show J4 B p=2 by rw[AQ.o,HA.o,JX,Qv (by omega)]);clear UT
      go_wp2_with (first
       | (refine Uq (.tmp 1) rfl rfl w.heap.size _ 36 rfl (bx.ext ((Qf _).alloc _)) rfl ?_)
       | (go_at_call 162;refine(Lj _ _ _ _ _ _ _ _ _).mono ?_;rintro e w2 ⟨rfl,x2⟩;rw[pv];have y2:=(QA wr 92 #[.int .i64 s.1,.string (Qb s.2)]).ext x2;have wO:=y2.cell 1))
      go_ret;exact⟨Jk HN.o.symm,x1.trans (hx.trans (((Qf _).alloc _).trans x2))⟩
    ·obtain rfl:k=p.length:=by omega
     have HN:=Qa (show J4 B p=0 by rw[AQ.o];have:=HF.o;rw[L9]at this;exact this);clear HF;go_wp2_with fail;go_ret;exact⟨Jk HN.o.symm,x1.trans hx⟩
theorem dU (bA pA:Option Addr) (bn bc pn pc:Nat) (left:Int) (B:List (List UInt8)) (p:List Zs) (w:World) (hb:Strs w bA bn B) (hp:Fr w pA pn p) (Kz:pn<=9223372036854775807) :
  Calls prog 95 #[.agg #[.slice bA bn bc,.slice pA pn pc,.int .i64 left]] w λe w'=>e=.returned (.int .i64 (Za B p))/\Ext w w':=by
 have HC:=Qa (λw h1 h2=>TM bA pA bn bc pn pc left B p w h1 h2 Kz);obtain rfl:=hb.1;have xa:=(Qf w).alloc (.cells #[.slice bA B.length bc,.slice pA pn pc,.int .i64 left] 36);have hs:=hb.ext xa;have hw:=hp.ext xa;by_cases hd:J4 B p=0
 ·rw[hd]at HC;by_cases iW:B.length<=33
  ·have HN:=Qa (show Za B p=2 by unfold Za;rw[Qr (by simpa using hd),Qv iW]);go_enter func95,ntmps95;go_wp2_with (go_at_call 93;refine(HC.o _ hs hw).mono ?_;rintro e w1 ⟨rfl,x1⟩;have q0:=((QA w 36 #[.slice bA B.length bc,.slice pA pn pc,.int .i64 left]).ext x1).cell 0)
   go_ret;exact⟨Jk HN.o.symm,xa.trans x1⟩
  ·have HN:=Qa (show Za B p=0 by unfold Za;rw[Qr (by simpa using hd),Qr iW]);go_enter func95,ntmps95;go_wp2_with (go_at_call 93;refine(HC.o _ hs hw).mono ?_;rintro e w1 ⟨rfl,x1⟩;have q0:=((QA w 36 #[.slice bA B.length bc,.slice pA pn pc,.int .i64 left]).ext x1).cell 0)
   go_ret;exact⟨Jk HN.o.symm,xa.trans x1⟩
 ·have HN:=Qa (show Za B p=J4 B p by unfold Za;rw[Qv hd]);have d1:(J4 B p != 0)=true:=by simpa using hd
  clear hd;generalize J4 B p=dd at *;go_enter func95,ntmps95;go_wp2_with (go_at_call 93;refine(HC.o _ hs hw).mono ?_;rintro e w1 ⟨rfl,x1⟩)
  go_ret;exact⟨Jk HN.o.symm,xa.trans x1⟩
theorem NP (bA pA:Option Addr) (bn bc pn pc:Nat) (left:Int) (B:List (List UInt8)) (p:List Zs) (w:World) (hb:Strs w bA bn B) (hp:Fr w pA pn p) (Kz:pn<=9223372036854775807) :
  Calls prog 98 #[.agg #[.slice bA bn bc,.slice pA pn pc,.int .i64 left]] w λe w'=>e=.returned (.int .i64 (J4 B p))/\Ext w w':=by
 obtain⟨rfl,Kj⟩:=hb;obtain⟨rfl,hp2⟩:=hp;have hz:=Qh;by_cases F9:256<B.length
 ·go_enter func98,ntmps98;go_wp2_with fail;go_ret;exact⟨Jk (by unfold J4;rw[Qv F9]),(Qf w).alloc _⟩
 have HD:=Qa (show J4 B p=if ZV B≠0 then 3 else JX B.length p by unfold J4;rw[Qr F9]);go_enter func98,ntmps98;go_wp2_with fail;generalize Xo:w.alloc _=w1;have x1:Ext w w1:=by rw[←Xo];exact(Qf _).alloc _
 have b1:Box w1 w.heap.size 36 #[.slice bA B.length bc,.slice pA p.length pc,.int .i64 left]:=by rw[←Xo];exact QA _ _ _
 clear Xo;go_loop [3] (λi=>∃k:Nat,k<=B.length/\i=.int .i64 k/\ZV (B.take k)=0) (λi=>B.length-(intOf i).toNat);case atStart=>exact⟨0,by omega,rfl,rfl⟩
 case round =>
  obtain⟨k,hk,rfl,hf⟩:=hrel;have HF:=Qa hf;clear hf;have q0:=b1.cell 0;have q1:=b1.cell 1;by_cases Qo:k<B.length
  ·obtain⟨b,o,rfl,Qd⟩:=Kj (by omega);have c1:=x1.keep (Qd k Qo);clear Qd;by_cases hl:B[k].length=128
   ·have HN:=Qa (TV Qo HF.o hl);have Fw:((B[k].length:Int) != 128)=false:=by rw[hl];rfl
    generalize B[k]=s at *;go_wp2_with fail;go_round;case rel=>exact⟨k+1,by omega,by go_num,HN.o⟩
    case measure=>simp[intOf];omega
   ·have HN:=Qa (Mc Qo HF.o hl);have Fw:((B[k].length:Int) != 128)=true:=by simp;omega
    generalize B[k]=s at *;go_wp2_with fail;go_ret;exact⟨Jk (by rw[HD.o,HN.o];rfl),x1⟩
  ·obtain rfl:k=B.length:=by omega
   have AQ:=Qa (show J4 B p=JX B.length p by rw[HD.o];have:=HF.o;rw[L9]at this;rw[Qr (by simpa using this)]);clear HF HD;go_wp2_with fail;go_loopw [4] (λi wx=>∃k:Nat,k<=p.length/\i=.int .i64 k/\JX B.length (p.take k)=0/\Ext w1 wx) (λi _=>p.length-(intOf i).toNat);case atStart=>exact⟨0,by omega,rfl,rfl,Qf _⟩
   case round =>
    obtain⟨k,hk,rfl,hf,hx⟩:=hrel;have HF:=Qa hf;clear hf;have bx:=b1.ext hx;have r0:=bx.cell 0;have r1:=bx.cell 1;clear q0 q1 bx;by_cases Qo:k<p.length
    ·obtain⟨b,o,rfl,Qd⟩:=hp2 (by omega);have c1:=(x1.trans hx).keep (Qd k Qo).1;have c2:=(x1.trans hx).keep (Qd k Qo).2;clear Qd;have HA:=Qa (Gy (n:=B.length) Qo HF.o);have HT:=Qa (Ry (n:=B.length) Qo HF.o);clear HF;have Vf:(k:Int)<(p.length:Int):=by omega
     generalize p[k]=s at *;by_cases h0:s.1<0
     ·have d0:decide (s.1<0)=true:=Ve h0;have HN:=Qa (show J4 B p=2 by rw[AQ.o,HA.o,JX,Qv (by omega)]);go_wp2_with fail;go_quiet (fail);go_wp2_with fail;go_ret;exact⟨Jk HN.o.symm,x1.trans (hx.drewN _)⟩
     ·have d0:decide (s.1<0)=false:=XI h0;by_cases h1:(B.length:Int)<=s.1
      ·have d1:decide ((B.length:Int)<=s.1)=true:=Ve h1;have HN:=Qa (show J4 B p=2 by rw[AQ.o,HA.o,JX,Qv (by omega)]);go_wp2_with fail;go_quiet (fail);go_wp2_with fail;go_ret;exact⟨Jk HN.o.symm,x1.trans (hx.drewN _)⟩
      ·have d1:decide ((B.length:Int)<=s.1)=false:=XI h1;by_cases hl:s.2.length=128
       ·have HN:=Qa (HT.o (by omega) (by omega) hl);have Fw:((s.2.length:Int) != 128)=false:=by rw[hl];rfl
        go_wp2_with fail;go_quiet (fail);go_wp2_with fail;go_roundw;case rel=>exact⟨k+1,by omega,by go_num,HN.o,hx.drewN _⟩
        case measure=>simp[intOf];omega
       ·have HN:=Qa (show J4 B p=3 by rw[AQ.o,HA.o,JX,Qr (by omega),Qv hl]);have Fw:((s.2.length:Int) != 128)=true:=by simp;omega
        go_wp2_with fail;go_quiet (fail);go_wp2_with fail;go_ret;exact⟨Jk HN.o.symm,x1.trans (hx.drewN _)⟩
    ·obtain rfl:k=p.length:=by omega
     have HN:=Qa (show J4 B p=0 by rw[AQ.o];have:=HF.o;rw[L9]at this;exact this);clear HF;go_wp2_with fail;go_ret;exact⟨Jk HN.o.symm,x1.trans hx⟩
theorem OK (bA pA:Option Addr) (bn bc pn pc:Nat) (left:Int) (B:List (List UInt8)) (p:List Zs) (w:World) (hb:Strs w bA bn B) (hp:Fr w pA pn p) (Kz:pn<=9223372036854775807) :
  Calls prog 143 #[.agg #[.slice bA bn bc,.slice pA pn pc,.int .i64 left]] w λe w'=>e=.returned (.int .i64 (Za B p))/\Ext w w':=by
 have HC:=Qa (λw h1 h2=>NP bA pA bn bc pn pc left B p w h1 h2 Kz);obtain rfl:=hb.1;have xa:=(Qf w).alloc (.cells #[.slice bA B.length bc,.slice pA pn pc,.int .i64 left] 36);have hs:=hb.ext xa;have hw:=hp.ext xa;by_cases hd:J4 B p=0
 ·rw[hd]at HC;by_cases iW:B.length<=33
  ·have HN:=Qa (show Za B p=2 by unfold Za;rw[Qr (by simpa using hd),Qv iW]);go_enter func143,ntmps143;go_wp2_with (go_at_call 98;refine(HC.o _ hs hw).mono ?_;rintro e w1 ⟨rfl,x1⟩;have q0:=((QA w 36 #[.slice bA B.length bc,.slice pA pn pc,.int .i64 left]).ext x1).cell 0)
   go_ret;exact⟨Jk HN.o.symm,xa.trans x1⟩
  ·have HN:=Qa (show Za B p=0 by unfold Za;rw[Qr (by simpa using hd),Qr iW]);go_enter func143,ntmps143;go_wp2_with (go_at_call 98;refine(HC.o _ hs hw).mono ?_;rintro e w1 ⟨rfl,x1⟩;have q0:=((QA w 36 #[.slice bA B.length bc,.slice pA pn pc,.int .i64 left]).ext x1).cell 0)
   go_ret;exact⟨Jk HN.o.symm,xa.trans x1⟩
 ·have HN:=Qa (show Za B p=J4 B p by unfold Za;rw[Qv hd]);have d1:(J4 B p != 0)=true:=by simpa using hd
  clear hd;generalize J4 B p=dd at *;go_enter func143,ntmps143;go_wp2_with (go_at_call 98;refine(HC.o _ hs hw).mono ?_;rintro e w1 ⟨rfl,x1⟩)
  go_ret;exact⟨Jk HN.o.symm,xa.trans x1⟩
theorem Bf {p:List Zs}{k:Nat}(hk:k<p.length) (i:Int) (s:List UInt8):Nd (p.take (k+1)) i s=if p[k].1=i then p[k].2 else Nd (p.take k) i s:=by
 unfold Nd;rw[FL hk,pj];rfl
theorem EO (bA pA:Option Addr) (bn bc pn pc j:Nat) (left:Int) (B:List (List UInt8)) (p:List Zs) (w:World) (hb:Strs w bA bn B) (hp:Fr w pA pn p) (Kz:pn<=9223372036854775807) (hj:j<B.length) :
  Calls prog 144 #[.agg #[.slice bA bn bc,.slice pA pn pc,.int .i64 left],.int .i64 (j:Int)] w λe w'=>e=.returned (.tuple #[.string (Qb (Nd p j (B.getD j []))),.int .i64 0])/\Ext w w':=by
 obtain⟨rfl,Kj⟩:=hb;obtain⟨rfl,hp2⟩:=hp;obtain⟨b,o,rfl,Qd⟩:=Kj (by omega);have c1:=((Qf w).alloc (.cells #[.slice (some ⟨b,o,none⟩) B.length bc,.slice pA p.length pc,.int .i64 left] 36)).keep (Qd j hj);rw[show B[j]=B.getD j [] by rw[ZG,JZ hj];rfl]at c1;clear Qd Kj;have Gd:(j:Int)<(B.length:Int):=by omega
 have d1:decide ((j:Int)<0)=false:=by simp
 have d2:decide ((B.length:Int)<=(j:Int))=false:=by simp;omega
 generalize B.getD j []=s at *;go_enter func144,ntmps144;go_wp2_with fail;generalize Xo:w.alloc _=w1 at *;have x1:Ext w w1:=by rw[←Xo];exact(Qf _).alloc _
 have b1:Box w1 w.heap.size 36 #[.slice (some ⟨b,o,none⟩) B.length bc,.slice pA p.length pc,.int .i64 left]:=by rw[←Xo];exact QA _ _ _
 clear Xo c1;go_loop [6,7] (λt i=>∃k:Nat,k<=p.length/\i=.int .i64 k/\t=.string (Qb (Nd (p.take k) j s))) (λ_ i=>p.length-(intOf i).toNat);case atStart=>exact⟨0,by omega,rfl,rfl⟩
 case round =>
  obtain⟨k,hk,rfl,rfl⟩:=hrel;have q1:=b1.cell 1;by_cases Qo:k<p.length
  ·obtain⟨b,o,rfl,Qd⟩:=hp2 (by omega);have c1:=x1.keep (Qd k Qo).1;have c2:=x1.keep (Qd k Qo).2;have HT:=Qa (Bf Qo (j:Int) s);clear Qd;have Vf:(k:Int)<(p.length:Int):=by omega
   generalize p[k]=y at *;generalize Nd (p.take k) (↑j) s=s1 at *;by_cases he:y.1=(j:Int)
   ·have de:(y.1==(j:Int))=true:=by simpa using he
    have HN:=Qa (HT.o.trans (Qv he));clear HT he;go_wp2_with fail;go_round;case rel=>exact⟨k+1,by omega,by go_num,by rw[HN.o]⟩
    case measure=>simp[intOf];omega
   ·have de:(y.1==(j:Int))=false:=by simpa using he
    have HN:=Qa (HT.o.trans (Qr he));clear HT he;go_wp2_with fail;go_round;case rel=>exact⟨k+1,by omega,by go_num,by rw[HN.o]⟩
    case measure=>simp[intOf];omega
  ·obtain rfl:k=p.length:=by omega
   rw[L9];obtain⟨s1,BA⟩:∃s1,s1=Nd p (↑j) s:=⟨_,rfl⟩
   rw[←BA];have HS:=Qa BA;clear BA;go_wp2_with fail;go_ret2;rw[HS.o];exact⟨rfl,x1⟩
theorem IV {B:List (List UInt8)}{p:List Zs}(h:Za B p=0) {k:Nat}(hk:k<B.length-33):(Q9 B p).take (k+1)=(Q9 B p).take k++[Nd p (33+k:Nat) (B.getD (33+k) [])]:=by
 have hl:=Z7 h;rw[FL (by omega)];congr 2;have:(Q9 B p)[k]? =some (Nd p (33+k:Nat) (B.getD (33+k) [])):=by rw[Bt h,LZ,DA hk];rfl
 rw[JZ (by omega)]at this;exact L0 this
theorem aD (w:World) (s:List UInt8):Strs (w.alloc (.cells #[.string (Qb s)] 9)) (some ⟨w.heap.size,0,none⟩) 1 [s]:=by
 refine⟨rfl,λ_=>⟨_,_,rfl,λj hj=>?_⟩⟩;have D4:j<1:=hj;obtain rfl:j=0:=by omega
 exact(QA w 9 #[.string (Qb s)]).cell 0
theorem MG (bA pA:Option Addr) (bn bc pn pc:Nat) (left:Int) (B:List (List UInt8)) (p:List Zs) (w:World) (hb:Strs w bA bn B) (hp:Fr w pA pn p) (Kz:pn<=9223372036854775807) :
  Calls prog 72 #[.agg #[.slice bA bn bc,.slice pA pn pc,.int .i64 left]] w λe w'=>∃A c,e=.returned (.slice A (Q9 B p).length c)/\Ext w w'/\w'.ownsRow w.heap.size 9 1 (.slice A (Q9 B p).length c) (Q9 B p).length (Q5 (Q9 B p)):=by
 have HC:=Qa (λw h1 h2=>OK bA pA bn bc pn pc left B p w h1 h2 Kz);have HG:=Qa (λw j h1 h2 h3=>EO bA pA bn bc pn pc j left B p w h1 h2 Kz h3);obtain rfl:=hb.1;have xa:=((Qf w).alloc (.cells #[.slice bA B.length bc,.slice pA pn pc,.int .i64 left] 36)).alloc (.cells #[] 9);have oa:((w.alloc (.cells #[.slice bA B.length bc,.slice pA pn pc,.int .i64 left] 36)).alloc (.cells #[] 9)).ownsRow w.heap.size 9 1 (.slice (some ⟨w.heap.size+1,0,none⟩) 0 0) 0 (Q5 []):=by have:=World.ownsRow_lit (base:=w.heap.size) (e:=9) (size:=1) (w.alloc (.cells #[.slice bA B.length bc,.slice pA pn pc,.int .i64 left] 36)) #[] 0 (by simp) (by decide) rfl;rw[Ki]at this;exact this
 have ba:=(QA w 36 #[.slice bA B.length bc,.slice pA pn pc,.int .i64 left]).ext ((Qf _).alloc (.cells #[] 9));have hs:=hb.ext xa;have hw:=hp.ext xa;by_cases hd:Za B p=0
 ·rw[hd]at HC;have hl:=Qa (Z7 hd);have ZL:=Zw hd;have HT:=Qa (λk hk=>IV hd (k:=k) hk);have iW:=ZL.least;have F9:=ZL.most;clear ZL hd;go_enter func72,ntmps72;go_wp2_with (go_at_call 143;refine(HC.o _ hs hw).mono ?_;rintro e w1 ⟨rfl,x1⟩)
  have o1:=Qe oa x1;have b1:=ba.ext x1;have kl:=xa.trans x1;clear oa ba hs hw xa x1;go_loopw [3,4,5,6] (λu i _ _ wx=>∃k:Nat,k<=B.length-33/\i=.int .i64 ((33+k:Nat):Int)/\Ext w wx/\wx.ownsRow w.heap.size 9 1 u k (Q5 ((Q9 B p).take k))/\Box wx w.heap.size 36 #[.slice bA B.length bc,.slice pA pn pc,.int .i64 left]) (λ_ i _ _ _=>B.length-(intOf i).toNat);case atStart=>exact⟨0,by omega,rfl,kl,o1,b1⟩
  case round =>
   obtain⟨k,hk,rfl,xk,ok,bk⟩:=hrel;have q0:=bk.cell 0;have vy:=xk.size;by_cases Qo:k<B.length-33
   ·have Kk:((33+k:Nat):Int)<(B.length:Int):=by omega
    have HN:=Qa (HT.o k Qo);have nk:=Jz ok bk (by decide)
    go_wp2_with (first
     | (refine Uq (.tmp 1) rfl rfl w.heap.size _ 36 rfl bk rfl ?_)
     | (go_at_call 144;refine(HG.o _ (33+k) (hb.ext xk) (hp.ext xk) (by omega)).mono ?_;rintro e w2 ⟨rfl,x2⟩;generalize Nd p (((33+k:Nat)):Int) (B.getD (33+k) [])=s at *;have ZL:=Qe (Qe ok x2) ((Qf w2).alloc (.cells #[.string (Qb s)] 9));have Ko:=aD w2 s;have VH:w.heap.size<=(w2.alloc (.cells #[.string (Qb s)] 9)).heap.size:=by(have:=x2.size;simp;omega))
     | (at_builtin;refine Yb w.heap.size rfl _ _ rfl rfl rfl ZL Ko (by omega) VH (by omega) ?_;intro u' w4 Vw g4))
    have x4:Ext w w4:=((xk.trans x2).alloc _).grown g4 (λj e=>Jc ok e);go_roundw;case rel=>exact⟨k+1,by omega,by go_num,x4,by rw[HN.o];exact Vw,((bk.ext x2).ext ((Qf w2).alloc _)).grown g4 nk⟩
    case measure=>simp[intOf];omega
   ·obtain rfl:k=B.length-33:=by omega
    obtain⟨g,cap,rfl,hgW,_⟩:=Strs.own' ok (by omega);rw[←hl.o,L9]at ok;have IQ:¬(((33+(B.length-33):Nat):Int)<(B.length:Int)):=by omega
    rw[←hl.o];rw[←hl.o]at IQ;obtain⟨h,hh⟩:∃h,h=Q9 B p:=⟨_,rfl⟩
    rw[←hh]at IQ ok ⊢;have HH:=Qa hh;clear hh;have hl2':decide ((((33+h.length:Nat)):Int)<(B.length:Int))=false:=by simpa using IQ
    go_wp2_with fail;go_ret;rw[←HH.o];exact⟨_,_,rfl,xk,ok⟩
 ·have HE:=Qa (show Q9 B p=[] by unfold Q9;rw[Qv hd]);have d1:(Za B p != 0)=true:=by simpa using hd
  clear hd;generalize Za B p=dd at *;go_enter func72,ntmps72;go_wp2_with (go_at_call 143;refine(HC.o _ hs hw).mono ?_;rintro e w1 ⟨rfl,x1⟩)
  go_ret;rw[HE.o];exact⟨_,_,rfl,xa.trans x1,Qe oa x1⟩
theorem Az {w:World}{b o n m:Nat}{B:List (List UInt8)}(h:Strs w (some ⟨b,o,none⟩) n B) (hm:m<n):Strs w (some ⟨b,o+m,none⟩) (n-m) (B.drop m):=by
 obtain⟨rfl,h2⟩:=h;obtain⟨b',o',e,hc⟩:=h2 (by omega);injection e with e;injection e with e1 e2;subst e1;subst e2;refine⟨by simp,λ_=>⟨_,_,rfl,λj hj=>?_⟩⟩;rw[WQ]at hj;rw[List.getElem_drop,Wed];exact hc (m+j) (by omega)
theorem Tr {w:World}{base n g cap i:Nat}{v:List (List UInt8)}(h:w.ownsRow base 9 1 (.slice (some ⟨g,0,none⟩) n cap) n (Q5 v)) (r:List UInt8):(w.setCell ⟨g,i,none⟩ (.string (Qb r))).ownsRow base 9 1 (.slice (some ⟨g,0,none⟩) n cap) n (Q5 (v.set i r)):=by
 rw[show Q5 (v.set i r)=(Q5 v).set i (.string (Qb r)) by simp[Q5,List.map_set]];exact(h.stored i (.string (Qb r))).1
theorem Ge (bA pA:Option Addr) (bn bc pn pc:Nat) (left:Int) (B:List (List UInt8)) (p:List Zs) (w:World) (hb:Strs w bA bn B) (hp:Fr w pA pn p) (Kz:pn<=9223372036854775807) (hbc:bn<=bc) :
  Calls prog 50 #[.agg #[.slice bA bn bc,.slice pA pn pc,.int .i64 left]] w λe w'=>∃A c,e=.returned (.slice A (Q9 B p).length c)/\Ext w w'/\w'.ownsRow w.heap.size 9 1 (.slice A (Q9 B p).length c) (Q9 B p).length (Q5 (Q9 B p)):=by
 have HC:=Qa (λw h1 h2=>dU bA pA bn bc pn pc left B p w h1 h2 Kz);obtain rfl:=hb.1;have xa:=(Qf w).alloc (.cells #[.slice bA B.length bc,.slice pA pn pc,.int .i64 left] 36);have ba:=QA w 36 #[.slice bA B.length bc,.slice pA pn pc,.int .i64 left];have hs:=hb.ext xa;have hw:=hp.ext xa;by_cases hd:Za B p=0
 ·rw[hd]at HC;have hl:=Z7 hd;have ZL:=Zw hd;have HE:=Qa (show Q9 B p=p.foldl U9 (B.drop 33) by unfold Q9;rw[Qr (by simpa using hd)]);have iW:=ZL.least;have F9:=ZL.most;have HP:=Qa ZL.pend;clear ZL hd;obtain⟨b,o,rfl,_⟩:=hb.2 (by omega);have nJ:=Az (m:=33) hs (by omega);obtain⟨rfl,hp2⟩:=hp;go_enter func50,ntmps50
  go_wp2_with (first
   | (go_at_call 95;refine(HC.o _ hs hw).mono ?_;rintro e w1 ⟨rfl,x1⟩;have b1:=ba.ext x1;have q0:=b1.cell 0;have q1:=b1.cell 1;have s1:=nJ.ext x1;have VH:w.heap.size<=w1.heap.size:=(xa.trans x1).size)
   | (at_builtin;refine Pe w.heap.size rfl _ _ rfl rfl rfl s1 (by omega) VH (by omega) ?_;intro u' w2 Zh x2;have q2:=(b1.ext x2).cell 1;obtain⟨g,cap,rfl,hg,_⟩:=Strs.own' Zh (by omega)))
  have xw2:=xa.trans (x1.trans x2);clear q0 q1 q2 s1 nJ hs hw x1 x2 b1 ba xa;rw[←hl];rw[←hl]at Zh;have Sg:0<(Q9 B p).length:=by omega
  have hL:=Qa hl;generalize hN:(Q9 B p).length=N at *;have gX:=Qa hN;clear hl hN;go_loopw [5,16] (λ_ i wx=>∃k:Nat,k<=p.length/\i=.int .i64 k/\Ext w wx/\wx.ownsRow w.heap.size 9 1 (.slice (some ⟨g,0,none⟩) N cap) N (Q5 ((p.take k).foldl U9 (B.drop 33)))) (λ_ i _=>p.length-(intOf i).toNat);case atStart=>exact⟨0,by omega,rfl,xw2,Zh⟩
  case round =>
   obtain⟨k,hk,rfl,xk,ok⟩:=hrel;by_cases Qo:k<p.length
   ·obtain⟨b2,o2,rfl,Qd⟩:=hp2 (by omega);have c1:=xk.keep (Qd k Qo).1;have c2:=xk.keep (Qd k Qo).2;have HT:=Qa (show(p.take (k+1)).foldl U9 (B.drop 33)=U9 ((p.take k).foldl U9 (B.drop 33)) p[k] by rw[FL Qo,pj];rfl);have hy:=HP.o p[k] (FM _);clear Qd;have Vf:(k:Int)<(p.length:Int):=by omega
    generalize p[k]=y at *;generalize (p.take k).foldl U9 (B.drop 33)=V at *;have Pr:=Qe ok ((Qf wr).alloc (.cells #[.int .i64 y.1,.string (Qb y.2)] 92));have hV:V.length=N:=by have:=ok.1;simpa[Q5]using this
    by_cases h3:33<=y.1
    ·obtain⟨q,hq⟩:∃q:Nat,y.1-33=q:=⟨(y.1-33).toNat,by omega⟩
     have hL2:=hL.o;have HY:=Qa (show U9 V y=V.set q y.2 by unfold U9;rw[Qv h3,hq];rfl);have ir:q<N:=by omega
     have kc:(wr.alloc (.cells #[.int .i64 y.1,.string (Qb y.2)] 92)).cell? ⟨g,q,none⟩=some (.string (Qb (V.getD q []))):=(Pr.cellAt q (by omega)).trans (by simp[Q5,hV,ir,ZG]);have kf:=Pr.frozenAt q;have wq:IntKind.i64.wrap (y.1-33)=(q:Int):=by rw[ZU];omega
     have d3:decide (33<=y.1)=true:=Ve h3;have vq:(q:Int)<(N:Int):=by omega
     clear hq hL2 h3 hy;go_wp2_with fail;go_roundw;case rel=>exact⟨k+1,by omega,by go_num,(xk.alloc _).setCell hg _,by rw[HT.o,HY.o];exact Tr Pr _⟩
     case measure=>simp[intOf];omega
    ·have HY:=Qa (show U9 V y=V by unfold U9;rw[Qr h3]);have d3:decide (33<=y.1)=false:=XI h3;go_wp2_with fail;go_roundw;case rel=>exact⟨k+1,by omega,by go_num,xk.alloc _,by rw[HT.o,HY.o];exact Pr⟩
     case measure=>simp[intOf];omega
   ·obtain rfl:k=p.length:=by omega
    rw[L9,←HE.o]at ok;go_wp2_with fail;go_ret;rw[gX.o];exact⟨_,_,rfl,xk,ok⟩
 ·have HE:=Qa (show Q9 B p=[] by unfold Q9;rw[Qv hd]);have d1:(Za B p != 0)=true:=by simpa using hd
  clear hd;generalize Za B p=dd at *;go_enter func50,ntmps50;go_wp2_with (go_at_call 95;refine(HC.o _ hs hw).mono ?_;rintro e w1 ⟨rfl,x1⟩)
  go_ret;rw[HE.o];exact⟨_,_,rfl,xa.trans x1,ap _ _ _ _⟩
theorem Xw {p:List Zs}{k:Nat}(hk:k<p.length) (v:List (List UInt8)):(p.take (k+1)).foldl Yn v=Yn ((p.take k).foldl Yn v) p[k]:=by
 rw[FL hk,pj];rfl
theorem Xr {n:Nat}(h:n<=maxLen):n<=9223372036854775807:=by unfold maxLen at h;omega
theorem Jg.drv {w:World}{m:Q1}{d:QL}(h:Jg w m d):Strs w m.bl.A m.bl.n d.bl/\Fr w m.pe.A m.pe.n d.pe/\Fr w m.di.A m.di.n d.di/\m.pe.n<=9223372036854775807/\m.di.n<=9223372036854775807/\m.bl.n<=m.bl.c :=
 ⟨h.bl.strs,h.pe.wrs,h.di.wrs,Xr h.pek.2.1,Xr h.dik.2.1,h.blk.2.2⟩
theorem Fa (m:Q1) (d:QL) (w:World) (h:Jg w m d) :
  Calls prog 18 #[.agg m.cells] w λe w'=>∃A c,e=.returned (.slice A (QH d.bl d.pe d.di).length c)/\Ext w w'/\w'.ownsRow w.heap.size 9 1 (.slice A (QH d.bl d.pe d.di).length c) (QH d.bl d.pe d.di).length (Q5 (QH d.bl d.pe d.di)):=by
 obtain⟨hb,hp,hd,Kz,Bl,hbc⟩:=h.drv;clear h;obtain⟨clock,quantum,cur,left,⟨fA,fn,fc⟩,⟨rA,rn,rc⟩,next,init,⟨iA,inn,ic⟩,newPipe,inp,fin,told,⟨bA,bn,bc⟩,⟨pA,pn,pc⟩,dleft,⟨dA,dn,dc⟩⟩:=m;obtain⟨dfr,dpr,dpi,B,p,l⟩:=d;unfold Q1.cells;simp only at hb hp hd Kz Bl hbc ⊢;have HH:=Qa (λw h1 h2=>Ge bA pA bn bc pn pc dleft B p w h1 h2 Kz hbc);obtain⟨rfl,Ef⟩:=hd;obtain⟨wb,hwb⟩:∃wb,wb=w.alloc (.cells #[.int .u64 clock,.int .i64 quantum,.int .i64 cur,.int .i64 left,.slice fA fn fc,.slice rA rn rc,.int .i64 next,.string (Qb init),.slice iA inn ic,.int .i64 newPipe,.string (Qb inp),.bool fin,.int .u64 told,.slice bA bn bc,.slice pA pn pc,.int .i64 dleft,.slice dA l.length dc] 38):=⟨_,rfl⟩
 have xa:Ext w wb:=by rw[hwb];exact(Qf _).alloc _
 have ba:Box wb w.heap.size 38 #[.int .u64 clock,.int .i64 quantum,.int .i64 cur,.int .i64 left,.slice fA fn fc,.slice rA rn rc,.int .i64 next,.string (Qb init),.slice iA inn ic,.int .i64 newPipe,.string (Qb inp),.bool fin,.int .u64 told,.slice bA bn bc,.slice pA pn pc,.int .i64 dleft,.slice dA l.length dc]:=by rw[hwb];exact QA _ _ _
 have hs:=hb.ext xa;have hw:=hp.ext xa;have HB:=Qa hwb;have fo:wb.cell? ⟨w.heap.size,13,none⟩=some (.slice bA bn bc):=ba.cell 13;have fq:wb.cell? ⟨w.heap.size,14,none⟩=some (.slice pA pn pc):=ba.cell 14;have jS:wb.cell? ⟨w.heap.size,15,none⟩=some (.int .i64 dleft):=ba.cell 15;clear hwb;go_enter func18,ntmps18;go_upto_region 1 with fail;rw[←HB.o];go_wp2_with (go_at_call 50;refine(HH.o _ hs hw).mono ?_;rintro e w1 ⟨A1,c1,rfl,x1,Zu⟩;have kg:=(ba.ext x1).cell 16)
 have kl:=xa.trans x1;have Zu:=Zy Zu xa.size;clear fo fq jS kg hs hw ba xa x1 HH HB;have HV:=Qa (show QH B p l=l.foldl Yn (Q9 B p) from rfl);have HL:=Qa (show(QH B p l).length=(Q9 B p).length by unfold QH;exact JU _ _);obtain⟨h,hh⟩:∃h,h=Q9 B p:=⟨_,rfl⟩
 rw[←hh]at Zu ⊢;have gS:=Qa hh;clear hh;go_loopw [5,12] (λ_ i wx=>∃k:Nat,k<=l.length/\i=.int .i64 k/\Ext w wx/\wx.ownsRow w.heap.size 9 1 (.slice A1 h.length c1) h.length (Q5 ((l.take k).foldl Yn h))) (λ_ i _=>l.length-(intOf i).toNat);case atStart=>exact⟨0,by omega,rfl,kl,Zu⟩
 case round =>
  obtain⟨k,hk,rfl,xk,ok⟩:=hrel;by_cases Qo:k<l.length
  ·obtain⟨b2,o2,rfl,Qd⟩:=Ef (by omega);have e1:=xk.keep (Qd k Qo).1;have e2:=xk.keep (Qd k Qo).2;have HT:=Qa (Xw Qo h);have Dw:=Qa (JU (l.take k) h);clear Qd;have Vf:(k:Int)<(l.length:Int):=by omega
   generalize l[k]=y at *;generalize (l.take k).foldl Yn h=V at *;have Pr:=Qe ok ((Qf wr).alloc (.cells #[.int .i64 y.1,.string (Qb y.2)] 92));by_cases h0:0<=y.1
   ·have d0:decide (0<=y.1)=true:=Ve h0;by_cases h1:y.1<(h.length:Int)
    ·have d1:decide (y.1<(h.length:Int))=true:=Ve h1;obtain⟨y1,y2⟩:=y;simp only at h0 h1 d0 d1 e1 e2 Pr;obtain⟨q,rfl⟩:∃q:Nat,y1=q:=⟨y1.toNat,by omega⟩
     have ir:q<h.length:=by omega
     have HY:=Qa (show Yn V ((q:Int),y2)=V.set q y2 by unfold Yn;simp only;rw[Qv (by have:=Dw.o;omega)];rfl);obtain⟨g,cap,hgc,hg,_⟩:=Strs.own' ok (by omega);injection hgc with hgA _ hgc;subst hgA;subst hgc;have kc:(wr.alloc (.cells #[.int .i64 (q:Int),.string (Qb y2)] 92)).cell? ⟨g,q,none⟩=some (.string (Qb (V.getD q []))):=(Pr.cellAt q (by omega)).trans (by have:=Dw.o;simp[Q5,this,ir,ZG]);have kf:=Pr.frozenAt q;go_wp2_with fail;go_roundw;case rel=>exact⟨k+1,by omega,by go_num,(xk.alloc _).setCell hg _,by rw[HT.o,HY.o];exact Tr Pr _⟩
     case measure=>simp[intOf];omega
    ·have d1:decide (y.1<(h.length:Int))=false:=XI h1;have HY:=Qa (show Yn V y=V by unfold Yn;rw[Qr (by have:=Dw.o;omega)]);go_wp2_with fail;go_roundw;case rel=>exact⟨k+1,by omega,by go_num,xk.alloc _,by rw[HT.o,HY.o];exact Pr⟩
     case measure=>simp[intOf];omega
   ·have d0:decide (0<=y.1)=false:=XI h0;have HY:=Qa (show Yn V y=V by unfold Yn;rw[Qr (by omega)]);go_wp2_with fail;go_roundw;case rel=>exact⟨k+1,by omega,by go_num,xk.alloc _,by rw[HT.o,HY.o];exact Pr⟩
    case measure=>simp[intOf];omega
  ·obtain rfl:k=l.length:=by omega
   rw[L9]at ok;go_wp2_with fail;go_ret;rw[HL.o,HV.o,←gS.o];exact⟨_,_,rfl,xk,ok⟩
theorem Box.setOther {w:World}{g g' i:Nat}{t:TypeId}{cs:Array Value}(h:Box w g t cs) (QY:g≠g') (u:Value):Box (w.setCell ⟨g',i,none⟩ u) g t cs:=by
 have k:w.heap[g]? =some (.cells cs t (0,0)):=h;show(w.setCell ⟨g',i,none⟩ u).heap[g]? =_;simp[World.setCell,rU,k,Fq QY]
theorem Q1.size (m:Q1):m.cells.size=17:=rfl
theorem Ab (w:World) (t:TypeId) (cs:Array Value):((w.alloc (.cells cs t)).alloc (.cells #[] 9)).ownsRow w.heap.size 9 1 (.slice (some ⟨w.heap.size+1,0,none⟩) 0 0) 0 (Q5 []):=by
 have:=World.ownsRow_lit (base:=w.heap.size) (e:=9) (size:=1) (w.alloc (.cells cs t)) #[] 0 (by simp) (by decide) rfl;rw[Ki]at this;exact this
theorem GT (m:Q1) (d:QL) (w:World) (h:Jg w m d) (hj:Za d.bl d.pe=0) :
  Calls prog 100 #[.agg m.cells] w λe w'=>∃A c,e=.returned (.slice A (QH d.bl d.pe d.di).length c)/\Ext w w'/\w'.ownsRow w.heap.size 9 1 (.slice A (QH d.bl d.pe d.di).length c) (QH d.bl d.pe d.di).length (Q5 (QH d.bl d.pe d.di)):=by
 obtain⟨hb,hp,hd,Kz,Bl,hbc⟩:=h.drv;clear h;have HH:=Qa (λw h1 h2=>MG m.bl.A m.pe.A m.bl.n m.bl.c m.pe.n m.pe.c m.dleft d.bl d.pe w h1 h2 Kz);have xa:Ext w (w.alloc (.cells m.cells 38)):=(Qf _).alloc _;have jn:=xa.alloc (.cells #[] 9);have ba:=QA w 38 m.cells;have oa:=Ab w 38 m.cells;have hs:=hb.ext jn;have hw:=hp.ext jn;have mg:=ba.ext ((Qf _).alloc (.cells #[] 9));have fo:((w.alloc (.cells m.cells 38)).alloc (.cells #[] 9)).cell? ⟨w.heap.size,13,none⟩=some (.slice m.bl.A m.bl.n m.bl.c):=mg.cell 13;have fq:((w.alloc (.cells m.cells 38)).alloc (.cells #[] 9)).cell? ⟨w.heap.size,14,none⟩=some (.slice m.pe.A m.pe.n m.pe.c):=mg.cell 14;have jS:((w.alloc (.cells m.cells 38)).alloc (.cells #[] 9)).cell? ⟨w.heap.size,15,none⟩=some (.int .i64 m.dleft):=mg.cell 15;have Vb:=Z7 hj;have im:=(Zw hj).least;have fe:=(Zw hj).most;have hN:0<(Q9 d.bl d.pe).length:=by omega
 have iZ:(Q9 d.bl d.pe).length<=1000000:=by omega
 have pN:=Qa hN;have Sx:=Qa iZ;clear Vb im fe hN iZ;go_enter func100,ntmps100
 go_wp2_with (first
  | (go_at_call 72;refine(HH.o _ hs hw).mono ?_;rintro e w1 ⟨A1,c1,rfl,x1,Zu⟩;have s1:=Cz Zu;have o1:=Qe oa x1;have b1:=mg.ext x1;have hN:=pN.o;have iZ:=Sx.o;have VH:w.heap.size<=w1.heap.size:=(jn.trans x1).size)
  | (at_builtin;refine Yb w.heap.size rfl _ _ rfl rfl rfl o1 s1 (by omega) VH (by omega) ?_;intro u' w2 Zh g2;rw[Ux,Cx]at Zh;obtain⟨g,cap,rfl,hg,_⟩:=Strs.own' Zh (by omega);have b2:=b1.grown g2 (Jz o1 b1 (by decide));have kg:w2.cell? ⟨w.heap.size,16,none⟩=some (.slice m.di.A m.di.n m.di.c):=b2.cell 16;have x2:Ext w w2:=(jn.trans x1).grown g2 (λj e=>Jc o1 e)))
 clear fo fq jS hs hw ba mg xa jn x1 HH oa o1 s1 Zu b1 g2 VH;have HV:=Qa (show QH d.bl d.pe d.di=d.di.foldl Yn (Q9 d.bl d.pe) from rfl);have HL:=Qa (show(QH d.bl d.pe d.di).length=(Q9 d.bl d.pe).length by unfold QH;exact JU _ _);obtain⟨h,hh⟩:∃h,h=Q9 d.bl d.pe:=⟨_,rfl⟩
 rw[←hh]at Zh hN iZ ⊢;have gS:=Qa hh;clear hh;obtain⟨DY,Ef⟩:=hd;rw[DY];rw[DY]at kg Bl;have Su:=Qa DY;have ky:=Qa Ef;clear DY Ef;generalize DZ:d.di=l at *;have jp:=Qa DZ;clear DZ;go_loopw [5,14] (λ_ i wx=>∃k:Nat,k<=l.length/\i=.int .i64 k/\Ext w wx/\wx.ownsRow w.heap.size 9 1 (.slice (some ⟨g,0,none⟩) h.length cap) h.length (Q5 ((l.take k).foldl Yn h))) (λ_ i _=>l.length-(intOf i).toNat);case atStart=>exact⟨0,by omega,rfl,x2,Zh⟩
 case round =>
  obtain⟨k,hk,rfl,xk,ok⟩:=hrel;by_cases Qo:k<l.length
  ·obtain⟨b2,o2,hA,Qd⟩:=ky.o (by rw[Su.o];omega);have e1:=xk.keep (Qd k Qo).1;have e2:=xk.keep (Qd k Qo).2;have HT:=Qa (Xw Qo h);have Dw:=Qa (JU (l.take k) h);clear Qd;have Vf:(k:Int)<(l.length:Int):=by omega
   generalize l[k]=y at *;generalize (l.take k).foldl Yn h=V at *;have Pr:=Qe ok ((Qf wr).alloc (.cells #[.int .i64 y.1,.string (Qb y.2)] 92));by_cases h0:0<=y.1
   ·have d0:decide (0<=y.1)=true:=Ve h0;by_cases h1:y.1<(h.length:Int)
    ·have d1:decide (y.1<(h.length:Int))=true:=Ve h1;obtain⟨y1,y2⟩:=y;simp only at h0 h1 d0 d1 e1 e2 Pr;obtain⟨q,rfl⟩:∃q:Nat,y1=q:=⟨y1.toNat,by omega⟩
     have ir:q<h.length:=by omega
     have HY:=Qa (show Yn V ((q:Int),y2)=V.set q y2 by unfold Yn;simp only;rw[Qv (by have:=Dw.o;omega)];rfl);have kc:(wr.alloc (.cells #[.int .i64 (q:Int),.string (Qb y2)] 92)).cell? ⟨g,q,none⟩=some (.string (Qb (V.getD q []))):=(Pr.cellAt q (by omega)).trans (by have:=Dw.o;simp[Q5,this,ir,ZG]);have kf:=Pr.frozenAt q;go_wp2_with fail;go_roundw;case rel=>exact⟨k+1,by omega,by go_num,(xk.alloc _).setCell hg _,by rw[HT.o,HY.o];exact Tr Pr _⟩
     case measure=>simp[intOf];omega
    ·have d1:decide (y.1<(h.length:Int))=false:=XI h1;have HY:=Qa (show Yn V y=V by unfold Yn;rw[Qr (by have:=Dw.o;omega)]);go_wp2_with fail;go_roundw;case rel=>exact⟨k+1,by omega,by go_num,xk.alloc _,by rw[HT.o,HY.o];exact Pr⟩
     case measure=>simp[intOf];omega
   ·have d0:decide (0<=y.1)=false:=XI h0;have HY:=Qa (show Yn V y=V by unfold Yn;rw[Qr (by omega)]);go_wp2_with fail;go_roundw;case rel=>exact⟨k+1,by omega,by go_num,xk.alloc _,by rw[HT.o,HY.o];exact Pr⟩
    case measure=>simp[intOf];omega
  ·obtain rfl:k=l.length:=by omega
   rw[L9]at ok;go_wp2_with fail;go_ret;rw[jp.o,HL.o,HV.o,←gS.o];exact⟨_,_,rfl,xk,ok⟩
theorem XC {w:World}{b o:Nat}{l:List QN}(hc:∀j v,(l.flatMap QJ)[j]? =some v->w.cell? ⟨b,o+j,none⟩=some v) {k:Nat}(hk:k<l.length):w.rangeAt b (o+k*96) (QJ l[k]):=λj v hv=>by
 have hj:j<96:=by have:=(PO.1 hv).1;rw[Zo]at this;exact this
 have:=hc (k*96+j) v ((Ue QJ 96 l (λx _=>Zo x) k hk j hj).trans hv);rw[Wed];exact this
theorem Z9 {w w':World}{b o:Nat}{cs:List Value}(h:w.rangeAt b o cs) (k:Ext w w'):w'.rangeAt b o cs:=λj v hv=>k.keep (h j v hv)
theorem Xm {w:World}{g:Nat}{t:TypeId}{cs:Array Value}(h:Box w g t cs) {o:Nat}{l:List Value}(hl:∀j v,l[j]? =some v->cs[o+j]? =some v):w.rangeAt g o l:=λj v hv=>(h.cell (o+j)).trans (hl j v hv)
theorem jO (p:QN):(QJ p).toArray.all (·.oneCell')=true:=all_oneCell_toArray (Cg p)
section
variable {ops:Array Oper}{rest:List Oper}{o:Oper}{a:Act}{w:World}{Q:Exit->Act->World->Prop}
theorem Zk (x:Operand) (Q7:o.guard=none) (ho:o.op=.load 57 x) (g i:Nat) (p:QN) (hx:a.eval x=.pointer (some ⟨g,i,none⟩))
  (hb:w.rangeAt g i (QJ p)) (hK:wpList prog ops Q rest (a.put o.dst (.agg (QJ p).toArray)) w):wpList prog ops Q (o::rest) a w :=
 wpList_load_mid Q7 _ x ho g i hx _ _ hb underlying57 rfl (by rw[Zo];exact RH) hK
theorem VA (x y:Operand) (Q7:o.guard=none) (ho:o.op=.store 57 x y) (g:Nat) (p:QN) (old:Array Value) (t:TypeId) (hx:a.eval x=.pointer (some ⟨g,0,none⟩)) (hy:a.eval y=.agg (QJ p).toArray)
  (hb:Box w g t old) (hold:old.size=96) (hK:∀w',Box w' g t (QJ p).toArray->w.grownBy w' (some g)->wpList prog ops Q rest (a.put o.dst undef) w'):wpList prog ops Q (o::rest) a w :=
 Yv _ x y Q7 ho g _ _ t hx hy hb (by rw[N1,Zo];exact RH) (hold.trans (by rw[N1,Zo])) (jO p) hK
end
theorem Vs {w:World}{g:Nat}{t:TypeId}{m:Q1}(h:Box w g t m.cells):w.cell? ⟨g,0,none⟩=some (.int .u64 m.clock)/\w.cell? ⟨g,1,none⟩=some (.int .i64 m.quantum)/\w.cell? ⟨g,2,none⟩=some (.int .i64 m.cur)/\w.cell? ⟨g,3,none⟩=some (.int .i64 m.left)/\w.cell? ⟨g,4,none⟩=some (.slice m.fr.A m.fr.n m.fr.c)/\w.cell? ⟨g,5,none⟩=some (.slice m.pr.A m.pr.n m.pr.c)/\w.cell? ⟨g,6,none⟩=some (.int .i64 m.next)/\w.cell? ⟨g,7,none⟩=some (.string (Qb m.init))/\w.cell? ⟨g,8,none⟩=some (.slice m.pi.A m.pi.n m.pi.c)/\w.cell? ⟨g,9,none⟩=some (.int .i64 m.newPipe)/\w.cell? ⟨g,10,none⟩=some (.string (Qb m.inn))/\w.cell? ⟨g,11,none⟩=some (.bool m.fin)/\w.cell? ⟨g,12,none⟩=some (.int .u64 m.told)/\w.cell? ⟨g,13,none⟩=some (.slice m.bl.A m.bl.n m.bl.c)/\w.cell? ⟨g,14,none⟩=some (.slice m.pe.A m.pe.n m.pe.c)/\w.cell? ⟨g,15,none⟩=some (.int .i64 m.dleft)/\w.cell? ⟨g,16,none⟩=some (.slice m.di.A m.di.n m.di.c) :=
 ⟨h.cell 0,h.cell 1,h.cell 2,h.cell 3,h.cell 4,h.cell 5,h.cell 6,h.cell 7,h.cell 8,h.cell 9,h.cell 10,h.cell 11,h.cell 12,h.cell 13,h.cell 14,h.cell 15,h.cell 16⟩
def ZA (p:QN):List Value:=(List.range 16).flatMap (WG p)
def N5 (p:QN):List Value:=(List.range 8).flatMap (cU p)
theorem OE (p:QN):∀j v,(ZA p)[j]? =some v->(QJ p).toArray[20+j]? =some v:=λj v hv=>by
 have hj:j<48:=by have:=(PO.1 hv).1;exact this
 rw[MY];have e:(QJ p).drop 20=ZA p++(N5 p++[.bool p.mask,.int .u32 p.code,.int .i64 p.why,.int .u64 p.num]):=rfl;rw[←Fm,e,AW (by exact hj)];exact hv
theorem jP (p:QN):∀j v,(N5 p)[j]? =some v->(QJ p).toArray[68+j]? =some v:=λj v hv=>by
 have hj:j<24:=by have:=(PO.1 hv).1;exact this
 rw[MY];have e:(QJ p).drop 68=N5 p++[.bool p.mask,.int .u32 p.code,.int .i64 p.why,.int .u64 p.num]:=rfl;rw[←Fm,e,AW (by exact hj)];exact hv
theorem Lz (f:Nat->List Value) (n z i:Nat) (hz:∀j,(f j).length=z) (hi:i<n):((List.range n).flatMap f).toArray.extract (i*z) (i*z+z)=(f i).toArray:=by
 apply mF.1;apply go;intro j;rw[Array.toList_extract];simp only[List.extract_eq_take_drop,Ty,Fm];have hr:(List.range n).length=n:=mO;by_cases hj:j<z
 ·rw[Qv (by omega)];have:=Ue f z (List.range n) (λx _=>hz x) i (by omega) j hj;rw[List.getElem_range]at this;exact this
 ·rw[Qr (by omega),Fl (by have:=hz i;simp;omega)]
theorem Vc {P:Program}{t e n z:Nat}{cs:Array Value}{i:Nat}{d:TypeDesc}(w:World) (hu:P.underlying t=some (.array n e)) (he:P.underlying e=some d) (hd:d.isRow=true) (hs:(P.info? e).map (·.size)=some z) (UT:i<n) :
  (Instr.index t (.agg cs) (.int .i64 (i:Int))).run P w=.ok (.agg (cs.extract (i*z) (i*z+z))) w:=by
 cases hq:P.info? e with
 | none=>simp[hq]at hs
 | some j =>
  have hz:j.size=z:=by simpa[hq]using hs
  have Ea:(isAgg e).run P w=.ok true w:=by unfold isAgg;rw[WW,SP he w];cases d<;>simp_all
  have h1:(i:Int)<(n:Int):=by omega
  simp[Instr.index,asIntOf,SP hu,h1,sizeOf,typeInfo,hq,part,WW,Ea,hz];intro hc;exact absurd hc (by omega)
theorem LD:(prog.info? 50).map (·.size)=some 3:=by kernel_rfl
theorem Is:(prog.info? 54).map (·.size)=some 3:=by kernel_rfl
theorem RA:(prog.info? 95).map (·.size)=some 2:=by kernel_rfl
theorem Nu:(prog.info? 52).map (·.size)=some 48:=by kernel_rfl
theorem ce:(prog.info? 55).map (·.size)=some 24:=by kernel_rfl
section
variable {ops:Array Oper}{rest:List Oper}{o:Oper}{a:Act}{w:World}{Q:Exit->Act->World->Prop}
theorem Pk (x y:Operand) (Q7:o.guard=none) (ho:o.op=.store 95 x y) (g:Nat) (i:Int) (s:ByteArray) (old:Array Value) (t:TypeId) (hx:a.eval x=.pointer (some ⟨g,0,none⟩)) (hy:a.eval y=.agg #[.int .i64 i,.string s])
  (hb:Box w g t old) (hold:old.size=2) (hK:∀w',Box w' g t #[.int .i64 i,.string s]->w.grownBy w' (some g)->wpList prog ops Q rest (a.put o.dst undef) w'):wpList prog ops Q (o::rest) a w :=
 Yv _ x y Q7 ho g _ _ t hx hy hb RA hold (all_oneCell_toArray (cs:=[.int .i64 i,.string s]) (λv hv=>by simp only[TA,Td,L1]at hv;rcases hv with rfl|rfl<;>rfl)) hK
theorem X3 (x:Operand) (Q7:o.guard=none) (ho:o.op=.load 52 x) (g:Nat) (t:TypeId) (p:QN) (hx:a.eval x=.pointer (some ⟨g,20,none⟩))
  (hb:Box w g t (QJ p).toArray) (hK:wpList prog ops Q rest (a.put o.dst (.agg (ZA p).toArray)) w):wpList prog ops Q (o::rest) a w :=
 wpList_load_mid Q7 _ x ho g 20 hx _ _ (Xm hb (OE p)) underlying52 rfl (by exact Nu) hK
theorem NA (x:Operand) (Q7:o.guard=none) (ho:o.op=.load 55 x) (g:Nat) (t:TypeId) (p:QN) (hx:a.eval x=.pointer (some ⟨g,68,none⟩))
  (hb:Box w g t (QJ p).toArray) (hK:wpList prog ops Q rest (a.put o.dst (.agg (N5 p).toArray)) w):wpList prog ops Q (o::rest) a w :=
 wpList_load_mid Q7 _ x ho g 68 hx _ _ (Xm hb (jP p)) underlying55 rfl (by exact ce) hK
theorem YN (x y:Operand) (Q7:o.guard=none) (ho:o.op=.index 52 x y) (p:QN) (i:Nat) (hx:a.eval x=.agg (ZA p).toArray) (hy:a.eval y=.int .i64 (i:Int)) (hi:i<16)
  (hK:wpList prog ops Q rest (a.put o.dst (.agg #[.bool (p.pis i),.bool (p.pwr i),.int .i64 (p.pfr i)])) w):wpList prog ops Q (o::rest) a w:=by
 refine DC Q7 λK Ky=>?_;unfold Oper.wp execOp;have:=Vc (P:=prog) (cs:=(ZA p).toArray) (i:=i) w underlying52 underlying50 rfl LD hi;rw[show(ZA p).toArray.extract (i*3) (i*3+3)=_ from Lz (WG p) 16 3 i (λ_=>rfl) hi]at this;simp only[ho,hx,hy,this,WW,Fp,MZ];exact Ky _ _ hK
theorem Nz (x y:Operand) (Q7:o.guard=none) (ho:o.op=.index 55 x y) (p:QN) (i:Nat) (hx:a.eval x=.agg (N5 p).toArray) (hy:a.eval y=.int .i64 (i:Int)) (hi:i<8)
  (hK:wpList prog ops Q rest (a.put o.dst (.agg #[.int .i64 (p.fk i),.int .i64 (p.fn i),.int .i64 (p.fp i)])) w):wpList prog ops Q (o::rest) a w:=by
 refine DC Q7 λK Ky=>?_;unfold Oper.wp execOp;have:=Vc (P:=prog) (cs:=(N5 p).toArray) (i:=i) w underlying55 underlying54 rfl Is hi;rw[show(N5 p).toArray.extract (i*3) (i*3+3)=_ from Lz (cU p) 8 3 i (λ_=>rfl) hi]at this;simp only[ho,hx,hy,this,WW,Fp,MZ];exact Ky _ _ hK
end
theorem Xh {α:Type} {f:α->List Value}{w:World}{base z n:Nat}{e:TypeId}{s:Sl}{l:List α}(h:w.ownsRow base e z (.slice s.A s.n s.c) n (l.flatMap f)) (hz:∀x∈l,(f x).length=z) (hn:n=l.length) (hs:s.n=n):Q8 f w s.A s.n l:=by
 refine⟨hs.trans hn,λhp=>?_⟩;have h':=h;rcases h.2 with⟨e1,h0⟩|⟨g,cap,cur,e1,_⟩
 ·omega
 ·injection e1 with e1 e2 e3;refine⟨g,0,e1,λj v hj=>?_⟩;rw[e1,hs]at h';rw[Ux,h'.cellAt j (by have:=(PO.1 hj).1;rw[Kw f z l hz]at this;rw[hn];exact this)];exact hj
def Du:QN:=⟨0,0,0,λ_=>0,0,λ_=>false,λ_=>false,λ_=>0,λ_=>0,λ_=>0,λ_=>0,false,0,0,0⟩
theorem OB:(prog.info? 57).map (λi=>(i.zero,i.size,i.bytes))=some (some (.agg (QJ Du).toArray),96,568):=by kernel_rfl
theorem jk:(prog.info? 92).map (λi=>(i.zero,i.size,i.bytes))=some (some (.agg #[.int .i64 0,.string ⟨#[]⟩]),2,24):=by kernel_rfl
theorem jL:(prog.info? 95).map (λi=>(i.zero,i.size,i.bytes))=some (some (.agg #[.int .i64 0,.string ⟨#[]⟩]),2,24):=by kernel_rfl
theorem Cq (x:Zs):∀v∈Yd x,v.oneCell'=true:=λv hv=>by
 simp only[Yd,TA,Td,L1]at hv;rcases hv with rfl|rfl<;>rfl
theorem Ob (m:Q1):m.cells.all (·.oneCell')=true:=all_oneCell_toArray (cs:=m.cells.toList) (λv hv=>by
 simp only[Q1.cells,TA,Td,L1]at hv;rcases hv with rfl|rfl|rfl|rfl|rfl|rfl|rfl|rfl|rfl|rfl|rfl|rfl|rfl|rfl|rfl|rfl|rfl<;>rfl)
section
variable {ops:Array Oper}{rest:List Oper}{o:Oper}{a:Act}{w:World}{Q:Exit->Act->World->Prop}
theorem JD (x y:Operand) (Q7:o.guard=none) (ho:o.op=.store 38 x y) (g:Nat) (m:Q1) (old:Array Value) (t:TypeId) (hx:a.eval x=.pointer (some ⟨g,0,none⟩)) (hy:a.eval y=.agg m.cells)
  (hb:Box w g t old) (hold:old.size=17) (hK:∀w',Box w' g t m.cells->w.grownBy w' (some g)->wpList prog ops Q rest (a.put o.dst undef) w'):wpList prog ops Q (o::rest) a w :=
 Yv _ x y Q7 ho g m.cells old t hx hy hb Tn hold (Ob m) hK
end
theorem VN {w:World}{base n g i size:Nat}{e t:TypeId}{v:Value}{xs:List Value}{cs:Array Value}(h:w.ownsRow base e size v n xs) (hb:Box w g t cs) (QY:e≠t) (u:Value):(w.setCell ⟨g,i,none⟩ u).ownsRow base e size v n xs:=by
 have hn:=Jz h hb QY;refine⟨h.1,?_⟩;rcases h.2 with c|⟨g1,cap1,cur,e1,qC,hh,r⟩
 ·exact DD c
 ·have:g1≠g:=λe2=>hn (by rw[e1,e2];rfl);exact PQ ⟨g1,cap1,cur,e1,qC,Box.setOther (show Box w g1 e cur from hh) this u,r⟩
theorem QG {fn:Func}{p:Tmp}{ty:TypeId}(h:fn.results=#[.cell p ty]) (tmps:Array Value) (w:World) (g:Nat) (t:TypeId) (cs:Array Value) (d:TypeDesc)
  (hp:tmps.getD p undef=.pointer (some ⟨g,0,none⟩)) (hg:Box w g t cs)
  (hu:prog.underlying ty=some d) (hd:Ls d=true) (hi:(prog.info? ty).map (·.size)=some cs.size) :
  (results fn tmps).run prog w=.ok (.agg cs) w:=by
 have nf:tmps[p]?.getD undef=.pointer (some ⟨g,0,none⟩):=by simpa using hp
 simp[results,h,nf,asAddr,mR w g t ty cs (0,0) d hg hu (by cases d<;>first|rfl|cases hd) hi]
structure SH {α:Type} (f:α->List Value) (w:World) (s:Sl) (l:List α):Prop where
 row:Q8 f w s.A s.n l
 ok:s.ok
 small:s.n<=100000
theorem SH.ext {α:Type} {f:α->List Value}{w w':World}{s:Sl}{l:List α}(h:SH f w s l) (x:Ext w w'):SH f w' s l:=⟨h.row.ext x,h.ok,h.small⟩
structure Yz {α:Type} (B0:Nat) (f:α->List Value) (T:TypeId) (w:World) (s:Sl) (l:List α):Prop where
 k:SH f w s l
 inb:0<s.n->∀b o,s.A=some ⟨b,o,none⟩->b<B0\/∃cs,Box w b T cs
theorem Yz.ext {α:Type} {B0:Nat}{f:α->List Value}{T:TypeId}{w w':World}{s:Sl}{l:List α}(h:Yz B0 f T w s l) (x:Ext w w'):Yz B0 f T w' s l :=
 ⟨h.k.ext x,λhp b o e=>(h.inb hp b o e).imp id λ⟨cs,hb⟩=>⟨cs,hb.ext x⟩⟩
theorem Yz.keepsB {α:Type} {B0:Nat}{f:α->List Value}{T:TypeId}{w w':World}{s:Sl}{l:List α}{row:Option Nat}(h:Yz B0 f T w s l) (hk:∀b cs,Box w b T cs->some b≠row) (hB:∀k,row=some k->B0<=k) (hg:w.grownBy w' row):Yz B0 f T w' s l:=by
 have QY:0<s.n->∀b o,s.A=some ⟨b,o,none⟩->some b≠row:=λhp b o e=>by
  rcases h.inb hp b o e with hb|⟨cs,hb⟩
  ·intro e2;have:=hB b e2.symm;omega
  ·exact hk b cs hb
 refine⟨⟨⟨h.k.row.1,λhp=>?_⟩,h.k.ok,h.k.small⟩,λhp b o e=>(h.inb hp b o e).imp id λ⟨cs,hb⟩=>⟨cs,hb.grown hg (hk b cs hb)⟩⟩;obtain⟨b,o,e,hc⟩:=h.k.row.2 hp;refine⟨b,o,e,λj v hj=>?_⟩;have qE:=hc j v hj;rw[mG (w:=w) (hg.block b (fD w _ qE) (QY hp b o e))];exact qE
theorem Yz.grown {α:Type} {B0:Nat}{f:α->List Value}{T t:TypeId}{w w':World}{s:Sl}{l:List α}{g:Nat}{cs:Array Value}(h:Yz B0 f T w s l) (QY:T≠t) (hb:Box w g t cs) (hg:w.grownBy w' (some g)) (hB:B0<=g:=by omega):Yz B0 f T w' s l :=
 h.keepsB (λb cs ZS e=>ZS.ne hb QY (by injection e)) (λk e=>by injection e with e;omega) hg
theorem Yz.own {α:Type} {B0:Nat}{f:α->List Value}{T:TypeId}{w:World}{s:Sl}{l:List α}{base z:Nat}(hr:Q8 f w s.A s.n l) (hk:s.ok) (hs:s.n<=100000) (h:w.ownsRow base T z (.slice s.A s.n s.c) s.n (l.flatMap f)):Yz B0 f T w s l :=
 ⟨⟨hr,hk,hs⟩,λ_ b o e=>by
   rcases h.2 with⟨e1,_⟩|⟨g,cap,cur,e1,_,hh,_⟩
   ·injection e1 with e1;rw[e]at e1;cases e1
   ·injection e1 with e1;rw[e]at e1;injection e1 with e1;injection e1 with e1;subst e1;exact .inr ⟨cur,hh⟩⟩
theorem Yz.old {α:Type} {f:α->List Value}{T:TypeId}{w:World}{s:Sl}{l:List α}(h:SH f w s l) (hz:∀x∈l,0<(f x).length):Yz w.heap.size f T w s l:=⟨h,λhp b o e=>.inl (by
 obtain⟨b',o',e',hc⟩:=h.row.2 hp;rw[e]at e';injection e' with e';injection e' with e1 e2;subst e1;subst e2;have hl:0<l.length:=by have:=h.row.1;omega
 obtain⟨x,l',rfl⟩:∃x l',l=x::l':=by
  cases l with
  | nil=>cases hl
  | cons x l'=>exact⟨x,l',rfl⟩
 have h0:=hz x LY;obtain⟨v,vs,ev⟩:∃v vs,f x=v::vs:=by
  cases hf:f x with
  | nil=>rw[hf]at h0;cases h0
  | cons v vs=>exact⟨v,vs,rfl⟩
 have:=hc 0 v (by rw[AV,ev];rfl);exact fD w _ this)⟩
theorem Yz.nil {α:Type} {B0:Nat}{f:α->List Value}{T:TypeId}{w:World}:Yz B0 f T w ⟨none,0,0⟩ ([]:List α):=⟨⟨⟨rfl,λh=>absurd h (Nat.lt_irrefl 0)⟩,⟨λ_=>⟨rfl,rfl⟩,AZ _,QW _⟩,AZ _⟩,λh=>absurd h (Nat.lt_irrefl 0)⟩
theorem dZ {w:World}{g:Nat}{t:TypeId}{m:Q1}(h:Box w g t m.cells):w.rangeAt g 13 [.slice m.bl.A m.bl.n m.bl.c,.slice m.pe.A m.pe.n m.pe.c,.int .i64 m.dleft]:=Xm h (λj v hj=>by
 match j with
 | 0=>exact hj
 | 1=>exact hj
 | 2=>exact hj
 | j+3=>cases hj)
theorem Kx {g:Nat}:∀(vs:List Value) (o:Nat) (w:World),w.grownBy (w.setCells g o vs) (some g)
 | [],_,w=>⟨rfl,rfl,rfl,QW _,λ_ _ _=>rfl⟩
 | v::r,o,w=>by
  have h:=Kx (g:=g) r (o+1) (w.setCell ⟨g,o,none⟩ v);have h1:(w.setCell ⟨g,o,none⟩ v).heap.size=w.heap.size:=by simp[World.setCell]
  exact⟨h.os,h.tape,h.output,by have:=h.size;rw[h1]at this;exact this,λk hk QY=>(h.block k (by omega) QY).trans (kC w ⟨g,o,none⟩ v k (λe=>QY (by rw[e])))⟩
section
variable {ops:Array Oper}{rest:List Oper}{o:Oper}{a:Act}{w:World}{Q:Exit->Act->World->Prop}
theorem Pg (x:Operand) (Q7:o.guard=none) (ho:o.op=.load 36 x) (g:Nat) (m:Q1) (t:TypeId) (hx:a.eval x=.pointer (some ⟨g,13,none⟩)) (hb:Box w g t m.cells)
  (hK:wpList prog ops Q rest (a.put o.dst (.agg #[.slice m.bl.A m.bl.n m.bl.c,.slice m.pe.A m.pe.n m.pe.c,.int .i64 m.dleft])) w):wpList prog ops Q (o::rest) a w :=
 wpList_load_mid Q7 _ x ho g 13 hx _ _ (dZ hb) underlying36 rfl DM hK
end
structure SE (m:Q1):Prop where
 fr:m.fr.n<=100000
 pr:m.pr.n<=100000
 pi:m.pi.n<=100000
 bl:m.bl.n<=100000
 pe:m.pe.n<=100000
 di:m.di.n<=100000
def Us (w:World) (s:Sl):Prop:=∀b o,s.A=some ⟨b,o,none⟩->∃cs t,t≠38/\Box w b t cs
structure Wg (w:World) (m:Q1):Prop where
 fr:Us w m.fr
 pr:Us w m.pr
 pi:Us w m.pi
 bl:Us w m.bl
 pe:Us w m.pe
 di:Us w m.di
theorem Us.ext {w w':World}{s:Sl}(h:Us w s) (x:Ext w w'):Us w' s:=λb o e=>by
 obtain⟨cs,t,ht,hb⟩:=h b o e;exact⟨cs,t,ht,hb.ext x⟩
theorem Us.nil (w:World):Us w ⟨none,0,0⟩:=λb o e=>by cases e
theorem Wg.ext {w w':World}{m:Q1}(h:Wg w m) (x:Ext w w'):Wg w' m:=⟨h.fr.ext x,h.pr.ext x,h.pi.ext x,h.bl.ext x,h.pe.ext x,h.di.ext x⟩
theorem Xs {w:World}{base size n:Nat}{e:TypeId}{s:Sl}{xs:List Value}(h:w.ownsRow base e size (.slice s.A s.n s.c) n xs) (he:e≠38):Us w s:=λb o hs=>by
 rcases h.2 with⟨e1,_⟩|⟨g,cap,cur,e1,_,hh,_⟩
 ·injection e1 with e1;rw[hs]at e1;cases e1
 ·injection e1 with e1;rw[hs]at e1;injection e1 with e1;injection e1 with e1;subst e1;exact⟨cur,e,he,hh⟩
theorem Us.grown {w w':World}{s:Sl}{g:Nat}{cs:Array Value}(h:Us w s) (hb:Box w g 38 cs) (hg:w.grownBy w' (some g)):Us w' s:=λb o e=>by
 obtain⟨cs1,t,ht,ZS⟩:=h b o e;exact⟨cs1,t,ht,ZS.grown hg (λe=>ZS.ne hb ht (by injection e))⟩
theorem Q8.grown {α:Type} {f:α->List Value}{w w':World}{s:Sl}{g:Nat}{cs:Array Value}{l:List α}(h:Q8 f w s.A s.n l) (ht:Us w s) (hb:Box w g 38 cs) (hg:w.grownBy w' (some g)):Q8 f w' s.A s.n l :=
 ⟨h.1,λhp=>by
  obtain⟨b,o,e,hc⟩:=h.2 hp;refine⟨b,o,e,λj v hj=>?_⟩;have qE:=hc j v hj;obtain⟨cs1,t,ht1,ZS⟩:=ht b o e;rw[mG (w:=w) (hg.block b ZS.lt (λe=>ZS.ne hb ht1 (by injection e)))];exact qE⟩
theorem Jg.grown {w w':World}{m:Q1}{d:QL}{g:Nat}{cs:Array Value}(h:Jg w m d) (hn:Wg w m) (hb:Box w g 38 cs) (hg:w.grownBy w' (some g)):Jg w' m d :=
 ⟨h.fr.grown hn.fr hb hg,h.pr.grown hn.pr hb hg,h.pi.grown hn.pi hb hg,h.bl.grown hn.bl hb hg,h.pe.grown hn.pe hb hg,h.di.grown hn.di hb hg,h.frk,h.prk,h.pik,h.blk,h.pek,h.dik,h.initk,h.innk,h.leftk⟩
theorem Wg.grown {w w':World}{m:Q1}{g:Nat}{cs:Array Value}(h:Wg w m) (hb:Box w g 38 cs) (hg:w.grownBy w' (some g)):Wg w' m :=
 ⟨h.fr.grown hb hg,h.pr.grown hb hg,h.pi.grown hb hg,h.bl.grown hb hg,h.pe.grown hb hg,h.di.grown hb hg⟩
structure L7 (B0:Nat) (w:World) (m:Q1) (d:QL):Prop where
 fr:Yz B0 FE 9 w m.fr d.fr
 pr:Yz B0 QJ 57 w m.pr d.pr
 pi:Yz B0 Yd 95 w m.pi d.pi
 bl:Yz B0 FE 9 w m.bl d.bl
 pe:Yz B0 Yd 92 w m.pe d.pe
 di:Yz B0 Yd 92 w m.di d.di
 initk:m.init.length<=maxLen
 innk:m.inn.length<=maxLen
 leftk:(Lit.int .i64 m.dleft).wf=true
theorem L7.ext {B0:Nat}{w w':World}{m:Q1}{d:QL}(h:L7 B0 w m d) (x:Ext w w'):L7 B0 w' m d:=⟨h.fr.ext x,h.pr.ext x,h.pi.ext x,h.bl.ext x,h.pe.ext x,h.di.ext x,h.initk,h.innk,h.leftk⟩
theorem L7.grown {B0:Nat}{w w':World}{m:Q1}{d:QL}{g:Nat}{t:TypeId}{cs:Array Value}(h:L7 B0 w m d) (ht:∀T∈[9,57,95,92],T≠t) (hb:Box w g t cs) (hg:w.grownBy w' (some g)) (hB:B0<=g:=by omega):L7 B0 w' m d :=
 ⟨h.fr.grown (ht _ (by simp)) hb hg hB,h.pr.grown (ht _ (by simp)) hb hg hB,h.pi.grown (ht _ (by simp)) hb hg hB,h.bl.grown (ht _ (by simp)) hb hg hB,h.pe.grown (ht _ (by simp)) hb hg hB,h.di.grown (ht _ (by simp)) hb hg hB,h.initk,h.innk,h.leftk⟩
theorem L7.old {w:World}{m:Q1}{d:QL}(h:Jg w m d) (hs:SE m):L7 w.heap.size w m d :=
 ⟨Yz.old ⟨h.fr,h.frk,hs.fr⟩ (λ_ _=>Nat.one_pos),Yz.old ⟨h.pr,h.prk,hs.pr⟩ (λ_ _=>by rw[Zo];omega),Yz.old ⟨h.pi,h.pik,hs.pi⟩ (λ_ _=>Nat.succ_pos _),Yz.old ⟨h.bl,h.blk,hs.bl⟩ (λ_ _=>Nat.one_pos),Yz.old ⟨h.pe,h.pek,hs.pe⟩ (λ_ _=>Nat.succ_pos _),Yz.old ⟨h.di,h.dik,hs.di⟩ (λ_ _=>Nat.succ_pos _),h.initk,h.innk,h.leftk⟩
def Q1.with (m:Q1) (fr pr pi bl pe di:Sl):Q1:={ m with fr:=fr,pr:=pr,pi:=pi,bl:=bl,pe:=pe,di:=di }
def N9:Array Value->Nat->List Value->Array Value
 | cs,_,[]=>cs
 | cs,o,v::l=>N9 (cs.setIfInBounds o v) (o+1) l
theorem RI {g:Nat}{t:TypeId}:∀(vs:List Value) (o:Nat) (w:World) (cs:Array Value),Box w g t cs->Box (w.setCells g o vs) g t (N9 cs o vs)
 | [],_,_,_,h=>h
 | v::l,o,w,cs,h=>RI l (o+1) (w.setCell ⟨g,o,none⟩ v) _ (h.set o v)
theorem RJ {g:Nat}:∀(vs:List Value) (o:Nat) (w:World),But g w (w.setCells g o vs)
 | [],_,w=>But.refl g w
 | v::l,o,w=>((But.refl g w).setCell o v).trans (RJ l (o+1) _)
section
variable {ops:Array Oper}{rest:List Oper}{o:Oper}{a:Act}{w:World}{Q:Exit->Act->World->Prop}
theorem Z5 (T:TypeId) (x y:Operand) (Q7:o.guard=none) (ho:o.op=.store T x y) (g i:Nat) (v:Value) (cs ds:Array Value) (t:TypeId) (hx:a.eval x=.pointer (some ⟨g,i,none⟩)) (hy:a.eval y=v) (hv:v.oneCell'=true)
  (hi:(prog.info? T).map (·.size)=some 1) (hb:Box w g t cs) (Qo:i<cs.size) (Bo:cs.setIfInBounds i v=ds)
  (hK:∀w',Box w' g t ds->But g w w'->wpList prog ops Q rest (a.put o.dst undef) w'):wpList prog ops Q (o::rest) a w:=by
 have hr:=run_storeCells_cells (P:=prog) g i [v] 0 w (λj hj=>by
   have h0:j=0:=by simpa using hj
   subst h0;rw[show i+(0+0)=i from rfl,hb.cell i,pg Qo];rfl) (λj hj=>hb.frozen _) (λu hu=>by
   rw[SJ.1 hu];exact hv)
 have hc:v.cells=#[v]:=by cases v<;>first|rfl|cases hv
 refine DC Q7 λK Ky=>?_;unfold Oper.wp execOp;cases hq:prog.info? T with
 | none=>simp[hq]at hi
 | some j =>
  have hs:j.size=1:=by simpa[hq]using hi
  have Ko:(storeVar T ⟨g,i,none⟩ v).run prog w=.ok () (w.setCells g i [v]):=by simp only[fO]at hr;simp[storeVar,sizeOf,typeInfo,hq,hc,hs,hr]
  simp only[ho,hx,hy,Instr.storeAt,Instr.sureAddr,WW,Fp,MZ,Ko];exact Ky _ _ (hK _ (by rw[←Bo];exact RI [v] i w cs hb) (RJ [v] i w))
theorem Y3 (T:TypeId) (x y:Operand) (Q7:o.guard=none) (ho:o.op=.store T x y) (g i:Nat) (vs:List Value) (cs ds:Array Value) (t:TypeId) (hx:a.eval x=.pointer (some ⟨g,i,none⟩)) (hy:a.eval y=.agg vs.toArray) (hv:∀v∈vs,v.oneCell'=true)
  (hi:(prog.info? T).map (·.size)=some vs.length) (hb:Box w g t cs) (Qo:i+vs.length<=cs.size) (Bo:N9 cs i vs=ds)
  (hK:∀w',Box w' g t ds->But g w w'->wpList prog ops Q rest (a.put o.dst undef) w'):wpList prog ops Q (o::rest) a w:=by
 refine wpList_store_mid Q7 _ x y ho g i vs.toArray hx hy (λj hj=>?_) (by rw[N1];exact hi) (all_oneCell_toArray hv) (hK _ ?_ ?_)
 ·have hj3:j<vs.length:=by simpa using hj
  refine⟨?_,hb.frozen (i+j)⟩;rw[hb.cell (i+j),pg (by omega)];rfl
 ·rw[←Bo];exact RI vs i w cs hb
 ·exact RJ vs i w
end
theorem KS:(prog.info? 3).map (·.size)=some 1:=by kernel_rfl
theorem aF:(prog.info? 45).map (·.size)=some 1:=by kernel_rfl
theorem aG:(prog.info? 31).map (·.size)=some 1:=by kernel_rfl
theorem LR:(prog.info? 4).map (·.size)=some 1:=by kernel_rfl
theorem fx:(prog.info? 9).map (·.size)=some 1:=by kernel_rfl
theorem ol:(prog.info? 32).map (·.size)=some 1:=by kernel_rfl
theorem oh:(prog.info? 33).map (·.size)=some 1:=by kernel_rfl
theorem gA:(prog.info? 34).map (·.size)=some 1:=by kernel_rfl
theorem EL (y q:QN):N9 (QJ y).toArray 20 (ZA q)=(QJ { y with pis:=q.pis,pwr:=q.pwr,pfr:=q.pfr }).toArray:=by kernel_rfl
theorem RY (q:QN):(ZA q).length=48:=rfl
theorem EZ (p:QN):∀v∈ZA p,v.oneCell'=true:=λv hv=>by
 simp only[ZA,WG,mE,TA,Td,L1]at hv;obtain⟨i,_,h|h|h⟩:=hv<;>(subst h;rfl)
def QN.pages (y q:QN):QN:={ y with pis:=q.pis,pwr:=q.pwr,pfr:=q.pfr }
theorem Fj {ops:Array Oper}{rest:List Oper}{o:Oper}{a:Act}{w:World}{Q:Exit->Act->World->Prop}(x z:Operand) (Q7:o.guard=none) (ho:o.op=.store 52 x z) (g:Nat) (y q:QN) (t:TypeId) (hx:a.eval x=.pointer (some ⟨g,20,none⟩)) (hy:a.eval z=.agg (ZA q).toArray)
  (hb:Box w g t (QJ y).toArray) (hK:∀w',Box w' g t (QJ (y.pages q)).toArray->But g w w'->wpList prog ops Q rest (a.put o.dst undef) w'):wpList prog ops Q (o::rest) a w :=
 Y3 _ x z Q7 ho g 20 (ZA q) _ _ t hx hy (EZ q) (by rw[RY];exact Nu) hb (by rw[RY,N1,Zo];decide) (EL y q) hK
theorem Eu {w:World}{g:Nat}{t:TypeId}{m:Q1}(h:Box w g t m.cells):w.rangeAt g 0 m.cells.toList:=λj v hj=>by
 rw[Ux];exact(h.cell j).trans (by rw[←hj];simp)
theorem Y2 {ops:Array Oper}{rest:List Oper}{o:Oper}{a:Act}{w:World}{Q:Exit->Act->World->Prop}(x:Operand) (hw:Region.wanted o (yielded ops a.tmps)=true) (ho:o.op=.load 38 x) (g:Nat) (m:Q1) (t:TypeId) (hx:a.eval x=.pointer (some ⟨g,0,none⟩))
  (hb:Box w g t m.cells) (hK:wpList prog ops Q rest (a.put o.dst (.agg m.cells)) w):wpList prog ops Q (o::rest) a w:=by
 unfold wpList;rw[Qv hw];exact .inl (wp_load_mid _ x ho g 0 hx _ _ (Eu hb) underlying38 rfl Tn hK)
theorem TY {w a b:World}{g r:Option Nat}(h:w.grownBy a g) (k:a.grownBy b r) (hr:∀j,r=some j->w.heap.size<=j\/g=some j):w.grownBy b g :=
 ⟨k.os.trans h.os,k.tape.trans h.tape,k.output.trans h.output,Y6 h.size k.size,λi hi QY=>(k.block i (ao hi h.size) (λe=>by
  rcases hr i e.symm with h1|h1
  ·omega
  ·exact QY h1.symm)).trans (h.block i hi QY)⟩
theorem KI {H:Type}{P:Program}{k:TypeId}{R:Value->Option (DataW H × List MemPlace)}{w w':World}{b n:Nat}{D:DataW H}(h:w.ownsMap P k R b n D) (x:Ext w w'):w'.ownsMap P k R b n D:=by
 obtain⟨es,cl,hb,r⟩:=h;exact⟨es,cl,(x.block b (SK.1 hb).1).trans hb,r⟩
theorem Ri:Maps.Keyed prog 3:=Maps.int_keyed underlying3
theorem Lt (k:Nat) (hk:k<=100000):keyOf prog 3 (.int .i64 (k:Int))=some (.int .i64 (k:Int)):=by
 have hw:(Lit.int .i64 (k:Int)).wf=true:=(by unfold Lit.wf;simp only[VB,Cw,show IntKind.i64.min= -9223372036854775808 from rfl,show IntKind.i64.max=9223372036854775807 from rfl];omega)
 simp[keyOf,underlying3,mapKey,hw]
structure Qt where
 v:List (List UInt8)
 I:Int
 n:Int
 x:List Int
def Iv (F:Qt):List Value:=[.int .i64 (F.v.length:Int),.int .i64 F.I,.int .i64 1,.int .i64 2,.int .i64 3,.int .i64 (3+(F.I+1)/2),.int .i64 F.n,.int .i64 (F.x.getD 0 0),.int .i64 (F.x.getD 1 0),.int .i64 (F.x.getD 2 0),.int .i64 (F.x.getD 3 0),.int .i64 (F.x.getD 4 0),.int .i64 (F.x.getD 5 0),.int .i64 (F.x.getD 6 0),.int .i64 (F.x.getD 7 0),.int .i64 (F.x.getD 8 0),.int .i64 (F.x.getD 9 0),.int .i64 (F.x.getD 10 0),.int .i64 (F.x.getD 11 0)]
def Zx (s:Sl) (F:Qt):Array Value:=(Value.slice s.A s.n s.c::Iv F).toArray
def FC (v:List (List UInt8)) (I b:Int):Bool:=decide (3+(I+1)/2<=b)&&decide (b<(v.length:Int))
def UA (v:List (List UInt8)) (I:Int) (x:List Int) (k:Nat):Int :=
 if k<6 then x.getD (4+k) 0 else if FC v I (x.getD 10 0) then JK (v.getD (x.getD 10 0).toNat []) (2*(k-6)) 2 else 0
def UN (v:List (List UInt8)) (I:Int) (x:List Int) (k:Nat):Int:=if FC v I (UA v I x k) then UA v I x k else -1
def J7 (x:List Int):Int:=min (x.getD 3 0) 8960
theorem ct (g:Nat) (s:Sl) (F:Qt) (b:Int) (w:World) (h:Box w g 162 (Zx s F)) :
  Calls prog 228 #[.pointer (some ⟨g,0,none⟩),.int .i64 b] w λe w'=>e=.returned (.bool (FC F.v F.I b))/\w=w':=by
 have c6:w.cell? ⟨g,6,none⟩=some (.int .i64 (3+(F.I+1)/2)):=h.cell 6;have c1:w.cell? ⟨g,1,none⟩=some (.int .i64 (F.v.length:Int)):=h.cell 1;clear h;unfold FC;generalize 3+(F.I+1)/2=dt at *;go_enter func228,ntmps228;rcases UK (decide (dt<=b)) with d1|d1
 ·go_wp2_with fail;go_ret;exact⟨by rw[d1];rfl,rfl⟩
 ·go_wp2_with fail;go_ret;exact⟨by rw[d1];rfl,rfl⟩
theorem Nc (g:Nat) (s:Sl) (F:Qt) (w:World) (h:Box w g 162 (Zx s F)) :
  Calls prog 116 #[.pointer (some ⟨g,0,none⟩)] w λe w'=>e=.returned (.int .i64 (J7 F.x))/\w=w':=by
 have c6:w.cell? ⟨g,11,none⟩=some (.int .i64 (F.x.getD 3 0)):=h.cell 11;clear h;unfold J7;generalize F.x.getD 3 0=z at *;go_enter func116,ntmps116;go_wp2_with fail;go_ret;exact⟨rfl,rfl⟩
structure Q0 (F:Qt):Prop where
 good:Ji F.v F.I
 n1:1<=F.n
 n2:F.n<=F.I
 len:F.x.length=12
 fits:P7 F.x=true
theorem cZ {w:World}{g:Nat}{s:Sl}{F:Qt}(h:Box w g 162 (Zx s F)) {k:Nat}(hk:k<6):w.cell? ⟨g,12+k,none⟩=some (.int .i64 (F.x.getD (4+k) 0)):=by
 rcases(by omega:k=0\/k=1\/k=2\/k=3\/k=4\/k=5) with rfl|rfl|rfl|rfl|rfl|rfl
 ·exact h.cell 12
 ·exact h.cell 13
 ·exact h.cell 14
 ·exact h.cell 15
 ·exact h.cell 16
 ·exact h.cell 17
theorem Rl {v:List (List UInt8)}{I b:Int}(h:FC v I b=true):3+(I+1)/2<=b/\b<(v.length:Int):=by
 unfold FC at h;simpa using h
theorem DG {v:List (List UInt8)}{I b:Int}{x:List Int}{k:Nat}(h:UA v I x k=b) (hb:FC v I b=true):UN v I x k=b:=by unfold UN;rw[h,Qv hb]
theorem FO {v:List (List UInt8)}{I b:Int}{x:List Int}{k:Nat}(h:UA v I x k=b) (hb:FC v I b=false):UN v I x k= -1:=by unfold UN;rw[h,Qr (by rw[hb];simp)]
theorem W6 {w:World}{b o:Nat}{v:List (List UInt8)}(h:∀(j:Nat) (h:j<v.length),w.cell? ⟨b,o+j,none⟩=some (.string (Qb v[j]))) {k:Nat}(hk:k<v.length):w.cell? ⟨b,o+k,none⟩=some (.string (Qb (v.getD k []))):=by
 rw[h k hk,ZG,JZ hk];rfl
theorem cT (g:Nat) (s:Sl) (F:Qt) (k:Nat) (w:World) (h:Box w g 162 (Zx s F)) (hr:Strs w s.A s.n F.v) (hF:Q0 F) (hk:k<70) :
  Calls prog 214 #[.pointer (some ⟨g,0,none⟩),.int .i64 (k:Int)] w λe w'=>e=.returned (.int .i64 (UN F.v F.I F.x k))/\Ext w w':=by
 have gT:=Qa (λb w h=>ct g s F b w h);have Uz:=QM hF.good.plan;obtain⟨hl,Kl⟩:=hr;by_cases h6:k<6
 ·have hn:UA F.v F.I F.x k=F.x.getD (4+k) 0:=by unfold UA;rw[Qv h6]
  have HY:=Qa (λh=>DG hn h);have PM:=Qa (λh=>FO hn h);have cd:=cZ h h6;have Vf:(k:Int)<6:=by omega
  have Fu:decide ((k:Int)<6)=true:=Ve Vf;clear Kl hn;generalize F.x.getD (4+k) 0=b at *;go_enter func214,ntmps214;cases hb:FC F.v F.I b with
  | true =>
   have HB:=Qa hb;have HA:=Qa (HY.o hb);clear hb HY PM;go_wp2_with (go_at_call 228;refine(gT.o b _ h).mono ?_;rintro e w2 ⟨rfl,rfl⟩;rw[HB.o])
   go_ret;exact⟨by rw[HA.o];rfl,Qf _⟩
  | false =>
   have HB:=Qa hb;have HA:=Qa (PM.o hb);clear hb HY PM;go_wp2_with (go_at_call 228;refine(gT.o b _ h).mono ?_;rintro e w2 ⟨rfl,rfl⟩;rw[HB.o])
   go_ret;exact⟨by rw[HA.o];rfl,Qf _⟩
 ·have Fu:decide ((k:Int)<6)=false:=XI (by omega);have ci:w.cell? ⟨g,18,none⟩=some (.int .i64 (F.x.getD 10 0)):=h.cell 18;have cv:w.cell? ⟨g,0,none⟩=some (.slice s.A s.n s.c):=h.cell 0;cases hi:FC F.v F.I (F.x.getD 10 0) with
  | false =>
   have hn:UA F.v F.I F.x k=0:=by unfold UA;rw[Qr h6,hi];rfl
   have h0:FC F.v F.I 0=false:=by unfold FC;rw[show decide (3+(F.I+1)/2<=0)=false from XI (by omega)];rfl
   have HA:=Qa (FO hn h0);have HB:=Qa hi;have H0:=Qa h0;clear hi hn h0 Kl;generalize F.x.getD 10 0=ind at *;go_enter func214,ntmps214
   go_wp2_with (first
    | (go_at_call 228;(have hq:=gT.o ind _ h;rw[HB.o]at hq;with_reducible (refine hq.mono ?_));clear hq;rintro e w2 ⟨rfl,rfl⟩)
    | (go_at_call 228;(have hq:=gT.o 0 _ h;rw[H0.o]at hq;with_reducible (refine hq.mono ?_));clear hq;rintro e w2 ⟨rfl,rfl⟩))
   go_ret;exact⟨by rw[HA.o];rfl,Qf _⟩
  | true =>
   have hn:UA F.v F.I F.x k=JK (F.v.getD (F.x.getD 10 0).toNat []) (2*(k-6)) 2:=by unfold UA;rw[Qr h6,Qv hi]
   have HY:=Qa (λh=>DG hn h);have PM:=Qa (λh=>FO hn h);have hib:=Rl hi;obtain⟨b,o,hsA,Qd⟩:=Kl (by omega);rw[hsA]at cv;have ij:(F.v.getD (F.x.getD 10 0).toNat []).length=128:=Ym hF.good (by omega);have cb:w.cell? ⟨b,o+(F.x.getD 10 0).toNat,none⟩=some (.string (Qb (F.v.getD (F.x.getD 10 0).toNat []))):=W6 Qd (by omega);have HB:=Qa hi;clear hi hn Qd Kl;generalize F.x.getD 10 0=ind at *;obtain⟨q,rfl⟩:∃q:Nat,ind=(q:Int):=⟨ind.toNat,by omega⟩
   rw[gp]at cb ij HY PM;generalize F.v.getD q []=blk at *;have vr:(q:Int)<(s.n:Int):=by omega
   obtain⟨z,hz⟩:∃z,k-6=z:=⟨_,rfl⟩
   have sf:(k:Int)=(z:Int)+6:=by omega
   rw[hz]at HY PM;rw[sf];rw[sf]at Fu;have hzk:z<64:=by omega
   have HG:=Qa (λw=>DT blk (2*z) (2*z+2) 2 w rfl (.inr (.inl rfl)) (by omega));have qG:=DR blk (2*z) 2 (by omega);have VH:(Qb blk).size=128:=by rw[Qh,ij]
   have w1:IntKind.i64.wrap ((z:Int)+6-6)=(z:Int):=by rw[ZU];omega
   have w2:IntKind.i64.wrap (2*(z:Int))=((2*z:Nat):Int):=by rw[ZU];omega
   have w3:IntKind.i64.wrap (((2*z:Nat):Int)+2)=((2*z+2:Nat):Int):=by rw[ZU];omega
   have w4:IntKind.i64.wrap (JK blk (2*z) 2)=JK blk (2*z) 2:=by rw[ZU];omega
   generalize JK blk (2*z) 2=num at *;clear h6 hk sf hz hF Uz hl hib;go_enter func214,ntmps214
   go_wp2_with (first
    | (go_at_call 228;(have hq:=gT.o (q:Int) _ h;rw[HB.o]at hq;with_reducible (refine hq.mono ?_));clear hq;rintro e w2 ⟨rfl,rfl⟩))
   have ci':∀y:Qg w,y.now.cell? ⟨g,18,none⟩=some (.int .i64 (q:Int)):=λy=>y.ext.keep ci;have cv':∀y:Qg w,y.now.cell? ⟨g,0,none⟩=some (.slice (some ⟨b,o,none⟩) s.n s.c):=λy=>y.ext.keep cv;have cb':∀y:Qg w,y.now.cell? ⟨b,o+q,none⟩=some (.string (Qb blk)):=λy=>y.ext.keep cb;have t1:((2*z:Nat):Int).toNat=2*z:=by omega
   refine Qp (by kernel_rfl) (by kernel_rfl) ?_;repeat (go_big_quiet_step ((exact Jq (HG.o _))))
   refine Y7 ?_;rintro w5 ⟨x5,rfl⟩;have h5:=h.ext x5.ext;clear ci' cv' cb';cases hb:FC F.v F.I num with
   | true =>
    have Ct:=Qa hb;have HA:=Qa (HY.o hb);clear hb HY PM;go_wp2_with (go_at_call 228;refine(gT.o num _ h5).mono ?_;rintro e w2 ⟨rfl,rfl⟩;rw[Ct.o])
    go_ret;exact⟨by rw[HA.o];rfl,x5.ext⟩
   | false =>
    have Ct:=Qa hb;have HA:=Qa (PM.o hb);clear hb HY PM;go_wp2_with (go_at_call 228;refine(gT.o num _ h5).mono ?_;rintro e w2 ⟨rfl,rfl⟩;rw[Ct.o])
    go_ret;exact⟨by rw[HA.o];rfl,x5.ext⟩
theorem Ht:(prog.info? 162).map (·.size)=some 20:=by kernel_rfl
def V8:Array Value:=#[.slice none 0 0,.int .i64 0,.int .i64 0,.int .i64 0,.int .i64 0,.int .i64 0,.int .i64 0,.int .i64 0,.int .i64 0,.int .i64 0,.int .i64 0,.int .i64 0,.int .i64 0,.int .i64 0,.int .i64 0,.int .i64 0,.int .i64 0,.int .i64 0,.int .i64 0,.int .i64 0]
theorem C4 (s:Sl) (F:Qt):(Zx s F).all (·.oneCell')=true:=all_oneCell_toArray (λv hv=>by
 simp only[Iv,TA,Td,L1]at hv;rcases hv with h|h|h|h|h|h|h|h|h|h|h|h|h|h|h|h|h|h|h|h<;>(subst h;rfl))
section
variable {ops:Array Oper}{rest:List Oper}{o:Oper}{a:Act}{w:World}{Q:Exit->Act->World->Prop}
theorem YP (x y:Operand) (Q7:o.guard=none) (ho:o.op=.store 162 x y) (g:Nat) (s:Sl) (F:Qt) (old:Array Value) (t:TypeId) (hx:a.eval x=.pointer (some ⟨g,0,none⟩)) (hy:a.eval y=.agg (Zx s F))
  (hb:Box w g t old) (hold:old.size=20) (hK:∀w',Box w' g t (Zx s F)->w.grownBy w' (some g)->wpList prog ops Q rest (a.put o.dst undef) w'):wpList prog ops Q (o::rest) a w :=
 Yv _ x y Q7 ho g _ _ t hx hy hb Ht hold (C4 s F) hK
end
def tY (B:Nat) (A:Option Addr) (n c:Nat) (v:List (List UInt8)) (I k:Int) (x:List Int):Nat->World->Value->Prop
 | 0,_,u=>u=.slice A n c
 | 1,w,u=>w.ownsRow B 9 1 u n (Q5 v)
 | 2,_,u=>u=.agg (Qj [(v.length:Int),I,1,2,3,3+(I+1)/2])
 | 3,_,u=>u=.int .i64 k
 | 4,_,u=>u=.agg (Qj x)
 | 5,w,u=>∃s:Sl,u=.agg (Zx s ⟨v,I,k,x⟩)/\s.n=n/\w.ownsRow B 9 1 (.slice s.A s.n s.c) n (Q5 v)
 | _,_,_=>True
theorem dm {B:Nat}{A:Option Addr}{n c:Nat}{v:List (List UInt8)}{I k:Int}{x:List Int}(j:Nat) (w w':World) (u:Value) (hx:Ext w w') (h:tY B A n c v I k x j w u):tY B A n c v I k x j w' u:=by
 match j,h with
 | 0,h=>exact h
 | 1,h=>exact Qe h hx
 | 2,h=>exact h
 | 3,h=>exact h
 | 4,h=>exact h
 | 5,⟨s,e,hn,hb⟩=>exact⟨s,e,hn,Qe hb hx⟩
 | _+6,_=>trivial
def Dy (B:Nat) (v:List (List UInt8)) (I k:Int) (e:Ending) (w':World):Prop :=
 ∃s:Sl,e=.returned (.tuple #[.agg (Zx s ⟨v,I,k,QV v k⟩),.int .i64 0])/\s.n=v.length/\w'.ownsRow B 9 1 (.slice s.A s.n s.c) v.length (Q5 v)
theorem VM (A:Option Addr) (n c:Nat) (v:List (List UInt8)) (I k:Int) (w:World) (hv:Strs w A n v) (hg:Ji v I) (Y9:1<=k) (Xn:k<=I) :
  Calls prog 115 #[.slice A n c,.int .i64 k] w λe w'=>Dy w.heap.size v I k e w'/\Ext w w':=by
 have Uz:=QM hg.plan;have qI:=hv.1;have qf:=Qa (λw h=>KA A n c v I k w h hg Y9 Xn);have HO:=Qa (λw h=>Ly A n c v I w h hg);have x0:=(Qf w).alloc (.cells V8 162);have b0:=QA w 162 V8;have HV:=Qa (hv.ext x0);have bK:=Qa (Uf v k);subst qI;clear hv hg Y9 Xn;unfold Dy;go_enter func115,ntmps115;go_upto_region 1 with fail;change Code.wp _ _ _ _ (w.alloc (.cells V8 162));generalize w.alloc (.cells V8 162)=w1 at *;generalize hG:w.heap.size=G at *;obtain⟨x,hxi⟩:∃x,x=QV v k:=⟨_,rfl⟩
 rw[←hxi]at qf bK;have HXI:=Qa hxi;clear hxi
 go_upto_region 2 with(first
  | (go_at_call 69;refine(qf.o _ HV.o).mono ?_;rintro e w2 ⟨rfl,x2⟩)
  | (refine QR (.tmp 6) (.tmp 13) rfl rfl w2.heap.size x QE 121 rfl rfl (QA _ _ _) bK.o rfl ?_;intro w3 b3 g3))
 have Po:Ext w2 w3:=((Qf w2).alloc _).grown g3 (λj e=>by cases e;exact QW _);have qS:=x2.trans Po;have po:=b0.ext qS;have lu:=Qa (HV.o.ext qS);have wM:=x0.trans qS;clear g3 Po x2 b0 qS x0 HV;generalize w2.heap.size=g3 at *
 go_upto_region 5 with(first
  | (go_at_call 94;refine(HO.o _ lu.o).mono ?_;rintro e w4 ⟨rfl,x4⟩)
  | (rw[Vn];refine Qu (.tmp 8) (.tmp 22) rfl rfl w4.heap.size _ [0,0,0,0,0,0] 144 rfl rfl (QA _ _ _) rfl rfl ?_;intro w5 b5 g5))
 have jm:Ext w4 w5:=((Qf w4).alloc _).grown g5 (λj e=>by cases e;exact QW _);have ox:=x4.trans jm;have b05:=po.ext ox;have b35:=b3.ext ox;have rI:=Qa (lu.o.ext ox);have NZ:=wM.trans ox;clear g5 jm x4 po b3 ox wM lu qf HO;generalize w4.heap.size=g5 at *;have VH:=NZ.size;rw[hG]at VH;go_wp2_with fail;refine ZB 6 [[],[0],[],[],[],[1,2,3,4]] (tY G A v.length c v I k x) (by kernel_rfl) (by kernel_rfl) dm (λus=>?_);simp only[Yh,Yt,YB,Yu];refine⟨λw' hx hd=>?_,λw' hx hd=>?_,λw' hx hd=>?_,λw' hx hd=>?_,λw' hx hd=>?_,λw' hx hd=>?_,λw' hx hv=>?_⟩
 ·refine Qk 28 rfl (by simp[Act.put]) rfl ?_;go_wp2_with fail;exact⟨Qf _,rfl⟩
 ·have h0:=hd 0 (by simp);clear hd;generalize us 0=u0 at *;obtain rfl:u0=.slice A v.length c:=h0;have kW:=rI.o.ext hx;refine Qk 29 rfl (by simp[Act.put]) rfl ?_;go_wp2_with (refine Pe G rfl _ _ rfl rfl rfl kW (by omega) (by have:=hx.size;omega) (by omega) ?_;intro u' w2 Zh xx)
  exact Zh
 ·refine Qk 30 rfl (by simp[Act.put]) rfl ?_;go_wp2_with (refine YO (.tmp 8) rfl rfl g5 _ 144 rfl (b5.ext hx) rfl ?_)
  exact⟨Qf _,rfl⟩
 ·refine Qk 31 rfl (by simp[Act.put]) rfl ?_;go_wp2_with fail;exact⟨Qf _,rfl⟩
 ·refine Qk 32 rfl (by simp[Act.put]) rfl ?_;go_wp2_with (refine AN (.tmp 6) rfl rfl g3 x 121 rfl (b35.ext hx) bK.o ?_)
  exact⟨Qf _,rfl⟩
 ·have h1:=hd 1 (by simp);have h2:=hd 2 (by simp);have h3:=hd 3 (by simp);have h4:=hd 4 (by simp);clear hd;generalize us 1=u1 at *;generalize us 2=u2 at *;generalize us 3=u3 at *;generalize us 4=u4 at *;have Zu:w'.ownsRow G 9 1 u1 v.length (Q5 v):=h1;obtain rfl:u2=.agg (Qj [(v.length:Int),I,1,2,3,3+(I+1)/2]):=h2;obtain rfl:u3=.int .i64 k:=h3;obtain rfl:u4=.agg (Qj x):=h4;clear h1;obtain⟨g,cap,rfl,hgb,_⟩:=Strs.own' Zu (by omega);obtain⟨y0,y1,y2,y3,y4,y5,y6,y7,y8,y9,y10,y11,rfl⟩:=Lv bK.o;have OW:=Qa Zu;refine Qk 33 rfl (by simp[Act.put]) rfl ?_;simp only[Qj,FN,Cy];go_wp2_with fail;exact⟨Qf _,⟨some ⟨g,0,none⟩,v.length,cap⟩,rfl,rfl,OW.o⟩
 ·have h5:=hv 5 (by omega);clear hv;generalize us 5=u5 at *;obtain⟨s,rfl,Rb,Ru⟩:∃s:Sl,u5=.agg (Zx s ⟨v,I,k,x⟩)/\s.n=v.length/\w'.ownsRow G 9 1 (.slice s.A s.n s.c) v.length (Q5 v):=h5;have mc:=b05.ext hx;have OW:=Qa Ru;have HSN:=Qa Rb;have QY:=Qa (Jz Ru mc (by decide));clear Ru Rb;go_wp2_with (refine YP (.tmp 4) (.tmp 33) rfl rfl G s ⟨v,I,k,x⟩ _ 162 rfl rfl mc rfl ?_;intro w8 b8 g8)
  refine ZD (Qn rfl _ _ G _ _ _ (.int .i64 0) rfl rfl b8 underlying162 rfl Ht) rfl ?_;exact⟨⟨s,by rw[←HXI.o],HSN.o,by rw[hG];exact OW.o.kept g8 (.inr QY.o.symm)⟩,(NZ.trans hx).grown g8 (λj e=>by cases e;rw[hG];exact QW _)⟩
end Go.Proofs.YtfaplefkakpgcaaGreatDoor
namespace Go.Proofs.YtfaplefkakpgcaaGreatDoor
open Go.Proofs.Tryz
open Go.RowKit Go.Shelf
def JC (f:Nat->Int) (k:Nat):Array Value:=((List.range 70).map λj=>Value.int .i64 (if j<k then f j else 0)).toArray
theorem Zz (f:Nat->Int) (k:Nat):(JC f k).size=70:=by simp[JC]
theorem Ad (f:Nat->Int) (k:Nat):(JC f k).setIfInBounds k (.int .i64 (f k))=JC f (k+1):=by
 apply Array.ext_getElem?;intro j;unfold JC;simp only[kA,MY];rw[List.getElem?_set,LZ,LZ];by_cases hj:j<70
 ·rw[DA hj];by_cases e:k=j
  ·subst e;rw[Qv rfl,Qv (by simp;omega)];simp
  ·rw[Qr e];simp only[au];congr 2;by_cases h1:j<k
   ·rw[Qv h1,Qv (by omega)]
   ·rw[Qr h1,Qr (by omega)]
 ·rw[Fl (by simp;omega)];by_cases e:k=j
  ·subst e;rw[Qv rfl,Qr (by simp;omega)];rfl
  ·rw[Qr e];rfl
theorem Mt (f:Nat->Int) (k:Nat):(JC f k).all (·.oneCell')=true:=all_oneCell_toArray (λv hv=>by
 obtain⟨j,_,rfl⟩:=Pq.1 hv;rfl)
theorem Ov (f:Nat->Int) (k j:Nat) (hj:j<70) (hk:j<k):(JC f k)[j]? =some (.int .i64 (f j)):=by
 unfold JC;rw[MY,LZ,DA hj];simp only[au,Qv hk]
theorem ED (f:Nat->Int):JC f 0=Array.replicate 70 (.int .i64 0):=by
 unfold JC;simp only[Nat.not_lt_zero,if_false];rfl
theorem Hc:(prog.info? 237).map (·.size)=some 70:=by kernel_rfl
theorem Le (g:Nat) (s:Sl) (F:Qt) (w:World) (h:Box w g 162 (Zx s F)) (hr:Strs w s.A s.n F.v) (hF:Q0 F) :
  Calls prog 181 #[.pointer (some ⟨g,0,none⟩)] w λe w'=>e=.returned (.agg (JC (UN F.v F.I F.x) 70))/\Ext w w':=by
 have ko:=Qa (λk hk w h hr=>cT g s F k w h hr hF hk);have tq:=Qa h;have HR:=Qa hr;clear h hr hF;generalize UN F.v F.I F.x=f at *;have hP:=Qa (ED f);go_enter func181,ntmps181;go_upto_region 2 with fail;have oH:Tryz.zeroCells237=Array.replicate 70 (.int .i64 0):=by kernel_rfl
 rw[oH,←hP.o];have x0:=((Qf w).alloc (.cells (JC f 0) 237)).alloc (.cells (JC f 0) 237);have b2:=(QA w 237 (JC f 0)).ext ((Qf _).alloc (.cells (JC f 0) 237));have b3:=QA (w.alloc (.cells (JC f 0) 237)) 237 (JC f 0);rw[Ki]at b3;clear oH hP;generalize (w.alloc (.cells (JC f 0) 237)).alloc (.cells (JC f 0) 237)=w1 at *;generalize hG:w.heap.size=G at *;go_upto_region 3 with fail;go_loopw [4,5] (λ_ i wx=>∃k:Nat,k<=70/\i=.int .i64 k/\Ext w wx/\Box wx G 237 (JC f 0)/\Box wx (G+1) 237 (JC f k)) (λ_ i _=>70-(intOf i).toNat);case atStart=>exact⟨0,by omega,rfl,x0,b2,b3⟩
 case round =>
  clear b2 b3 x0;obtain⟨k,hk,rfl,xk,c2,c3⟩:=hrel;have HX:=Qa xk;have C2:=Qa c2;have C3:=Qa c3;by_cases Qo:k<70
  ·have Vf:(k:Int)<70:=by omega
   have HAk:=Qa (ko.o k Qo wr (tq.o.ext xk) (HR.o.ext xk));clear xk c2 c3;go_wp2_with (go_at_call 214;refine HAk.o.mono ?_;rintro e w4 ⟨rfl,x4⟩;have d3:=C3.o.ext x4;have f3:=d3.frozen k;have k3:w4.cell? ⟨G+1,k,none⟩=some (.int .i64 0):=(d3.cell k).trans (by unfold JC;rw[MY,LZ,DA Qo];simp);have D3:=Qa d3;have X4:=Qa x4;clear d3 x4)
   go_roundw;case rel=>exact⟨k+1,by omega,by go_num,(HX.o.trans X4.o).setCell (by rw[hG];exact Nat.le_succ _) _,(C2.o.ext X4.o).far (p:=⟨G+1,k,none⟩) (by show G≠G+1;omega) _,by have:=D3.o.set k (.int .i64 (f k));rw[Ad]at this;exact this⟩
   case measure=>simp[intOf];omega
  ·have Kk:¬(k:Int)<70:=by omega
   obtain rfl:k=70:=by omega
   clear xk c2 c3
   go_wp2_with (first
    | (refine XZ 237 (.tmp 3) rfl rfl (G+1) (JC f 70) 237 _ rfl C3.o underlying237 rfl (by rw[Zz];exact Hc) ?_)
    | (refine Yv 237 (.tmp 2) (.tmp 14) rfl rfl G (JC f 70) _ 237 rfl rfl C2.o (by rw[Zz];exact Hc) (by rw[Zz,Zz]) (Mt f 70) ?_;intro w6 b6 g6))
   exact ZD (QG rfl _ _ G _ _ _ rfl b6 underlying237 rfl (by rw[Zz];exact Hc)) rfl ⟨rfl,HX.o.grown g6 (λj e=>by cases e;rw[hG];exact QW _)⟩
def gG (f:Nat->Int) (c:Int) (w:World) (e:Ending) (w':World):Prop :=
 ∃b1 b2,e=.returned (.func (.func 182) #[] #[.pointer (some ⟨b1,0,none⟩),.pointer (some ⟨b2,0,none⟩)])/\Box w' b1 237 (JC f 70)/\Box w' b2 3 #[.int .i64 c]/\w.heap.size<=b1/\w.heap.size<=b2/\b1≠b2
theorem TR (g:Nat) (s:Sl) (F:Qt) (c:Int) (w:World) (h:Box w g 162 (Zx s F)) (hr:Strs w s.A s.n F.v) (hF:Q0 F) :
  Calls prog 117 #[.pointer (some ⟨g,0,none⟩),.int .i64 c] w λe w'=>gG (UN F.v F.I F.x) c w e w'/\Ext w w':=by
 have kV:∀(fn:Fn) (first cap:Array Value) (w:World),(Instr.makeFunc fn first cap).run prog w=.ok (.func fn first cap) w:=λ_ _ _ _=>rfl;have x0:=(Qf w).alloc (.cells #[.int .i64 c] 3);have b0:=QA w 3 #[.int .i64 c];have HN:=Qa (Le g s F _ (h.ext x0) (hr.ext x0) hF);clear h hr hF;generalize UN F.v F.I F.x=f at *;go_enter func117,ntmps117
 go_upto_region 2 with(first
  | (go_at_call 181;refine HN.o.mono ?_;rintro e w2 ⟨rfl,x2⟩)
  | (refine Yv 237 (.tmp 5) (.tmp 7) rfl rfl w2.heap.size (JC f 70) Tryz.zeroCells237 237 rfl rfl (QA _ _ _) (by rw[Zz];exact Hc) (by rw[Zz];kernel_rfl) (Mt f 70) ?_;intro w3 b3 g3))
 have xa:Ext w2 (w2.alloc (.cells Tryz.zeroCells237 237)):=(Qf w2).alloc _;have Po:Ext w2 w3:=xa.grown g3 (λj e=>by cases e;exact QW _);have po:=(b0.ext x2).ext Po;have xx:=(x0.trans x2).trans Po;have Qo:=(b0.ext x2).lt;have VH:=(x0.trans x2).size;clear g3;go_wp2_with fail;go_ret;exact⟨⟨w2.heap.size,w.heap.size,rfl,b3,po,VH,QW _,by omega⟩,xx⟩
theorem WM {F:Fence}{n:Nat}{P:Program}{ops:Array Oper}{rest:List Oper}{o:Oper}{a:Act}{w:World}{Q:Exit->Act->World->Prop}(Q7:o.guard=none) (ty:TypeId) (x:Operand) (ho:o.op=.load ty x)
  (g:Nat) (hx:a.eval x=.pointer (some ⟨g,0,none⟩)) (t:TypeId) (cs:Array Value) (fr:Nat × Nat) (d:TypeDesc) (hg:w.heap[g]? =some (.cells cs t fr))
  (hu:P.underlying ty=some d) (hd:(match d with|.struct _|.array _ _=>true|_=>false)=true) (hi:(P.info? ty).map (·.size)=some cs.size)
  (h:wpListIn F n P ops Q rest (a.put o.dst (.agg cs)) w):wpListIn F n P ops Q (o::rest) a w:=by
 refine wpListIn_plain Q7 λK Ky=>?_;unfold Oper.wpIn;refine⟨?_,?_⟩
 ·simp[Oper.about,ho]
 ·rw[Oper.semAt_plain F _ _ (by rw[ho];intro c hc';cases hc')];simp only[execOp,ho,hx,Instr.loadAt,Instr.sureAddr,WW,Fp,MZ,mR w g t ty cs fr d hg hu hd hi];exact Ky _ _ h
theorem EQ {P:Program}{t e n:Nat}{k:IntKind}{cs:Array Value}{i:Nat}{v:Value}(w:World) (hu:P.underlying t=some (.array n e)) (he:P.underlying e=some (.int k)) (hs:(P.info? e).map (·.size)=some 1) (UT:i<n) (hv:cs[i]? =some v) (h1:v.oneCell'=true) :
  (Instr.index t (.agg cs) (.int .i64 (i:Int))).run P w=.ok v w:=by
 cases hq:P.info? e with
 | none=>simp[hq]at hs
 | some j =>
  have hz:j.size=1:=by simpa[hq]using hs
  have Ea:(isAgg e).run P w=.ok false w:=by unfold isAgg;rw[WW,SP he w];rfl
  have h1:(i:Int)<(n:Int):=by omega
  simp[Instr.index,asIntOf,SP hu,h1,sizeOf,typeInfo,hq,part,WW,Ea,hz,hv];intro hc;exact absurd hc (by omega)
def Vh (b1 b2:Nat) (W W':World):Prop:=∀(cs:Array Value) (t:TypeId),(W.heap[b1]? =some (Obj.cells cs t (0,0))->W'.heap[b1]? =some (Obj.cells cs t (0,0)))/\(W.heap[b2]? =some (Obj.cells cs t (0,0))->W'.heap[b2]? =some (Obj.cells cs t (0,0)))
theorem Vh.trans {b1 b2:Nat}{A B C:World}(h:Vh b1 b2 A B) (k:Vh b1 b2 B C):Vh b1 b2 A C:=λcs t=>⟨λe=>(k cs t).1 ((h cs t).1 e),λe=>(k cs t).2 ((h cs t).2 e)⟩
theorem Vh.ext {b1 b2:Nat}{W W':World}(h:Ext W W'):Vh b1 b2 W W':=λcs t=>⟨λe=>Box.ext e h,λe=>Box.ext e h⟩
theorem Vh.book {b1 b2:Nat}{w:World}(W:World) (l:Nat) (o o':Obj) (_:w.heap.size<=l) (h:W.heap[l]? =some o) (hc:o.isCells=false) (_:o.isWalk=false):Vh b1 b2 W (W.putObj l o'):=by
 have key:∀b (cs:Array Value) (t:TypeId),W.heap[b]? =some (Obj.cells cs t (0,0))->(W.putObj l o').heap[b]? =some (Obj.cells cs t (0,0)):=λb cs t hb=>by
  have QY:b≠l:=by rintro rfl;rw[h]at hb;cases hb;cases hc
  have:=(grownBy_putObj' W l o').block b (SK.1 hb).1 (λe=>QY (by cases e;rfl));exact this.trans hb
 exactλcs t=>⟨key b1 cs t,key b2 cs t⟩
def bz (f:Nat->Int) (k:Nat):Array Value:=#[.int .i64 (k:Int),.int .i64 (f k)]
theorem C6 (n:Nat) (hn:1<=n) (l b1 b2 c:Nat) (f:Nat->Int) (J Jx:List Nat->World->Prop) (W:World) (hJ:AbidesFrom W.heap.size J)
  (hY:∀pre x W1,J pre W1->pre.length<70->YieldAt Fence.wide (n-1) prog l (bz f x) W1 λe W' =>
   (e=.returned (.bool true)/\J (pre++[x]) W'/\Vh b1 b2 W1 W')\/(e=.returned (.bool false)/\Jx (pre++[x]) W'))
  (h1:Box W b1 237 (JC f 70)) (h2:Box W b2 3 #[.int .i64 (c:Int)]) (h0:J [] W) :
  CallsIn Fence.wide n prog 182 #[.func (.yield l) #[] #[],.pointer (some ⟨b1,0,none⟩),.pointer (some ⟨b2,0,none⟩)] W λe W'=>(∃v,e=.returned v)/\
   ((∃ys,ys=List.range (min c 70)/\J ys W')\/(∃pre,True/\Jx pre W')):=by
 generalize hL0:List.range (min c 70)=L;have hL:=Qa hL0;clear hL0;refine callsIn_of_wp func182 rfl trivial ?_ rfl;simp only[ntmps182,N1,YV,Tz,Nat.reduceAdd,Nat.reduceSub,ah,ak,aq,an,Cx,DB];gi_wp2_with (refine WM rfl 237 (.tmp 1) rfl b1 rfl 237 _ (0,0) _ h1 underlying237 rfl (by rw[Zz];exact Hc) ?_)
 gi_loopw [4,5,7] (λ_ _ i wx=>∃k:Nat,k<=70/\k<=c/\i=.int .i64 k/\J (List.range k) wx/\Box wx b1 237 (JC f 70)/\Box wx b2 3 #[.int .i64 (c:Int)]) (λ_ _ i _=>70-(intOf i).toNat);case atStart=>exact⟨0,by omega,by omega,rfl,h0,h1,h2⟩
 case round =>
  obtain⟨k,hk,hkc,rfl,hJs,Bi,IF⟩:=hrel;by_cases Qo:k<70
  ·have Vf:(k:Int)<70:=by omega
   have c2:=IF.cell 0;simp only[MY,fE]at c2;have hix:∀w,(Instr.index 237 (.agg (JC f 70)) (.int .i64 (k:Int))).run prog w=.ok (.int .i64 (f k)) w:=λw=>EQ w underlying237 underlying3 (by kernel_rfl) Qo (Ov f 70 k Qo Qo) rfl;by_cases hc:c<=k
   ·have nH:(c:Int)<=(k:Int):=by omega
    obtain rfl:k=c:=by omega
    gi_wp2;rename_i hKK _ _ _ _;refine⟨λf hf=>(by cases hf),hKK _ _ ?_⟩;clear hKK;gi_wp2;refine ZD (UL rfl _ _ _) rfl ?_;have nA:J L wr:=by rw[←hL.o,gz (by omega)];exact hJs
    first
     | exact⟨⟨_,rfl⟩,.inl ⟨_,rfl,nA⟩⟩
     | exact⟨⟨_,rfl⟩,.inl nA⟩
   ·have nH:¬(c:Int)<=(k:Int):=by omega
    obtain⟨fn,tmps,assign,body,hy,hR⟩:=hY (List.range k) k _ hJs (by rw[mO];exact Qo);have BB:(Instr.yield l #[.int .i64 (k:Int),.int .i64 (f k)]).run prog wr=.ok (.round l fn tmps assign body) wr:=hy;clear hy;gi_wp2;refine hR.mono ?_;rintro e W3 (⟨rfl,hJ3,hk3⟩|⟨rfl,hJx3⟩)
    ·gi_wp2;go_roundw;case rel=>exact⟨k+1,by omega,by omega,by go_num,by rw[fL];exact hJ3,(hk3 _ _).1 Bi,(hk3 _ _).2 IF⟩
     case measure=>simp[intOf];omega
    ·gi_wp2;refine ZD (UL rfl _ _ _) rfl ?_;exact⟨⟨_,rfl⟩,.inr ⟨_,trivial,hJx3⟩⟩
  ·have Vf:¬(k:Int)<70:=by omega
   obtain rfl:k=70:=by omega
   gi_wp2;refine bodyPost_end (UL rfl _ _ _) rfl ?_;have nA:J L wr:=by rw[←hL.o,Nat.min_eq_right (by omega)];exact hJs
   first
    | exact⟨⟨_,rfl⟩,.inl ⟨_,rfl,nA⟩⟩
    | exact⟨⟨_,rfl⟩,.inl nA⟩
theorem NF (n:Nat) (hn:1<=n) (b1 b2 c:Nat) (f:Nat->Int) (w:World) (h1:Box w b1 237 (JC f 70)) (h2:Box w b2 3 #[.int .i64 (c:Int)]) :
  SeqStopsK Fence.wide n prog 182 #[.pointer (some ⟨b1,0,none⟩),.pointer (some ⟨b2,0,none⟩)] (bz f) (Vh b1 b2) (λys=>ys=List.range (min c 70)) (λ_=>True) 70 w:=λl J Jx W hW hJ _ hY h0 =>
 C6 n hn l b1 b2 c f J Jx W hJ hY (h1.ext hW) (h2.ext hW) h0
end Go.Proofs.YtfaplefkakpgcaaGreatDoor
