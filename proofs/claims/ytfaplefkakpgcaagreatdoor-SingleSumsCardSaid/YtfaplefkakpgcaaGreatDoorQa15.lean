import Derived.Test.YtfaplefkakpgcaaGreatDoorQa12
import Derived.Test.YtfaplefkakpgcaaGreatDoorQa14
import Derived.Deep.AppendLies
import Derived.Deep.RegionLaw
import Derived.Lib.Bytealg
import Derived.BigRegion
set_option linter.unusedVariables false
set_option linter.unusedSimpArgs false
set_option maxHeartbeats 32000000
set_option maxRecDepth 100000
namespace Go.Proofs.YtfaplefkakpgcaaGreatDoor
open Go.Proofs.Tryz
open Go.RowKit
theorem OP (p q:UInt8) (B:Int) (w:World) (h:(p.toNat:Int)+256*q.toNat=B) :
  Calls prog 169 #[.string (Qb [p,q])] w λe w'=>e=.returned (.int .u64 B)/\w=w':=by
 subst h;exact ft p q w
theorem eH (A:Option Addr) (n c:Nat) (v:List (List UInt8)) (I:Int) (w:World) (hv:Strs w A n v) (hg:Ji v I) :
  Calls prog 99 #[.slice A n c] w λe w'=>e=.returned (.tuple #[JO v.length I,.int .i64 0])/\Ext w w':=by
 have Uz:=QM hg.plan;obtain⟨rfl,Kl⟩:=hv;obtain⟨b,o,rfl,Qd⟩:=Kl (by omega);have Qo:b<w.heap.size:=fD w _ (Qd 0 (by omega));have hz:=Qh;go_enter func99,ntmps99;go_wp2_with fail;generalize Xo:w.alloc _=w1;have x1:Ext w w1:=by rw[←Xo];exact(Qf _).alloc _
 have r1:Box w1 w.heap.size 144 (Qj [0,0,0,0,0,0]):=by rw[←Xo];exact QA _ _ _
 clear Xo;go_loop [5,15] (λ_ i=>∃k:Nat,k<=v.length/\i=.int .i64 k) (λ_ i=>v.length-(intOf i).toNat);case atStart=>exact⟨0,by omega,rfl⟩
 case round =>
  obtain⟨k,hk,rfl⟩:=hrel;by_cases Kk:k<v.length
  ·have dH:w1.cell? ⟨b,o+k,none⟩=some (.string (Qb v[k])):=x1.keep (Qd k Kk);have Tj:((v[k].length:Int) != 128)=false:=by rw[hg.all k Kk];rfl
   go_wp2_with fail;go_round;case rel=>exact⟨k+1,by omega,by go_num⟩
   case measure=>simp[intOf];omega
  ·have ZS:b<w1.heap.size:=ao Qo x1.size;have Sm:v[0]'(by omega)=Zn v.length I:=by
    have:=hg.head;rw[ZG,JZ (by omega)]at this;exact this
   have c0:w1.cell? ⟨b,o,none⟩=some (.string (Qb (Zn v.length I))):=by have:=x1.keep (Qd 0 (by omega));rw[Sm]at this;exact this
   have kK:=D1 v.length I;have zH:(Qb (Zn v.length I)).size=128:=by rw[Qh,Mg]
   have gI:=λw=>OP _ _ I w (R7 I (by omega) (by omega));have HP:=Qa hg.plan;have HF:∀w,Zv (Calls prog 170 #[.agg #[.int .i64 v.length,.int .i64 I,.int .i64 1,.int .i64 2,.int .i64 3,.int .i64 (3+(I+1)/2)]] w λe w'=>e=.returned (.string (Qb (Zn v.length I)))/\Ext w w'):=λw=>Qa (MF v.length I w hg.plan);have ij:=Qa hg;have fU:∀wx,Ext w wx->wx.cell? ⟨b,o+2,none⟩=some (.string (Qb (v.getD 2 []))):=λwx xx=>by have:=xx.keep (Qd 2 (by omega));rw[ZG,JZ (by omega)];exact this
   have C2:=Qa fU;have l2:(v.getD 2 []).length=128:=by rw[ZG,JZ (by omega)];exact hg.all 2 (by omega)
   clear fU Qd Sm hg;generalize Zn v.length I=H at *;generalize b8 (I%256)=r at *;generalize b8 (I/256)=s at *;have qH:0<v.length:=by omega
   have dM:(0:Int)<(v.length:Int):=by omega
   have vk:(2:Int)<(v.length:Int):=by omega
   have GI:=Qa gI;clear gI hz;have wI:IntKind.i64.wrap I=I:=by rw[ZU];omega
   go_wp2_with (first
    | (go_at_call 169;refine(GI.o _).mono ?_;rintro e w' ⟨rfl,rfl⟩)
    | (go_at_call 168;refine(Nt _ _ _ HP.o).mono ?_;rintro e wp ⟨rfl,xp⟩;unfold JO))
   have bc:=QA wp 144 (Qj [(v.length:Int),I,1,2,3,3+(I+1)/2]);have xc:=(x1.trans xp).alloc (.cells (Qj [(v.length:Int),I,1,2,3,3+(I+1)/2]) 144);have rc:=(r1.ext xp).ext ((Qf wp).alloc (.cells (Qj [(v.length:Int),I,1,2,3,3+(I+1)/2]) 144));have cc:=(xp.alloc (.cells (Qj [(v.length:Int),I,1,2,3,3+(I+1)/2]) 144)).keep c0;change Box (wp.alloc (.cells #[.int .i64 v.length,.int .i64 I,.int .i64 1,.int .i64 2,.int .i64 3,.int .i64 (3+(I+1)/2)] 144)) _ _ _ at bc;change Ext w (wp.alloc (.cells #[.int .i64 v.length,.int .i64 I,.int .i64 1,.int .i64 2,.int .i64 3,.int .i64 (3+(I+1)/2)] 144)) at xc;change Box (wp.alloc (.cells #[.int .i64 v.length,.int .i64 I,.int .i64 1,.int .i64 2,.int .i64 3,.int .i64 (3+(I+1)/2)] 144)) _ _ _ at rc;change (wp.alloc (.cells #[.int .i64 v.length,.int .i64 I,.int .i64 1,.int .i64 2,.int .i64 3,.int .i64 (3+(I+1)/2)] 144)).cell? _=_ at cc;generalize wp.alloc (.cells #[.int .i64 v.length,.int .i64 I,.int .i64 1,.int .i64 2,.int .i64 3,.int .i64 (3+(I+1)/2)] 144)=wc at bc xc rc cc ⊢;generalize wp.heap.size=g at bc ⊢;clear xp x1 r1 c0;have c0:∀x:Qg wc,x.now.cell? ⟨b,o,none⟩=some (.string (Qb H)):=λx=>x.ext.keep cc;have q0:∀x:Qg wc,x.now.cell? ⟨g,0,none⟩=some (.int .i64 v.length):=λx=>(bc.ext x.ext).cell 0;have q1:∀x:Qg wc,x.now.cell? ⟨g,1,none⟩=some (.int .i64 I):=λx=>(bc.ext x.ext).cell 1;have q2:∀x:Qg wc,x.now.cell? ⟨g,2,none⟩=some (.int .i64 1):=λx=>(bc.ext x.ext).cell 2;have q3:∀x:Qg wc,x.now.cell? ⟨g,3,none⟩=some (.int .i64 2):=λx=>(bc.ext x.ext).cell 3;have q4:∀x:Qg wc,x.now.cell? ⟨g,4,none⟩=some (.int .i64 3):=λx=>(bc.ext x.ext).cell 4;have q5:∀x:Qg wc,x.now.cell? ⟨g,5,none⟩=some (.int .i64 (3+(I+1)/2)):=λx=>(bc.ext x.ext).cell 5;refine Qp (by kernel_rfl) (by kernel_rfl) ?_;repeat (go_big_quiet_step ((exact Zg ((HF _).o))))
   refine Y7 ?_;rintro w5 ⟨x5,rfl⟩;have NZ:=xc.trans x5.ext;have e2:=C2.o _ NZ;have d0:=q0 x5;have d5:=q5 x5;have b5:=bc.ext x5.ext;have r5:=rc.ext x5.ext;clear q0 q1 q2 q3 q4 q5 c0 cc HF C2 bc rc xc;go_wp2_with fail;go_loop [8] (λt=>∃m:Nat,m<=1024/\t=.int .i64 m) (λt=>1024-(intOf t).toNat);case atStart=>exact⟨0,by omega,rfl⟩
   case round =>
    obtain⟨m,hm,rfl⟩:=hrel;have HB:=Qa (λ(XL:m<1024) w=>GK m (v.getD 2 []) w l2 XL);by_cases XL:m<1024
    ·by_cases m1:(m:Int)<3+(I+1)/2
     ·have Eb:=Qa (ij.o.low m m1);have Gm:¬(v.length:Int)<=m:=by omega
      have BU:decide ((v.length:Int)<=m)=false:=by simpa using Gm
      go_wp2_with (go_at_call 171;refine(HB.o XL _).mono ?_;rintro e w' ⟨rfl,rfl⟩;rw[Eb.o])
      go_round;case rel=>exact⟨m+1,by omega,by go_num⟩
      case measure=>simp[intOf];omega
     ·have tX:decide ((m:Int)<3+(I+1)/2)=false:=by simpa using m1
      by_cases m3:v.length<=m
      ·have Eb:=Qa (ij.o.high m XL m3);have Gm:(v.length:Int)<=m:=by omega
       go_wp2_with (go_at_call 171;refine(HB.o XL _).mono ?_;rintro e w' ⟨rfl,rfl⟩;rw[Eb.o])
       go_round;case rel=>exact⟨m+1,by omega,by go_num⟩
       case measure=>simp[intOf];omega
      ·have Gm:¬(v.length:Int)<=m:=by omega
       have BU:decide ((v.length:Int)<=m)=false:=by simpa using Gm
       go_wp2_with (go_at_call 171;refine(HB.o XL _).mono ?_;rintro e w' ⟨rfl,rfl⟩)
       go_round;case rel=>exact⟨m+1,by omega,by go_num⟩
       case measure=>simp[intOf];omega
    ·go_wp2_with (first
      | (refine YO (.tmp 6) rfl rfl g _ 144 rfl b5 rfl ?_)
      | (refine Qu (.tmp 2) (.tmp 77) rfl rfl w.heap.size _ [0,0,0,0,0,0] 144 rfl rfl r5 rfl rfl ?_;intro w6 b6 g6))
     have xF:=NZ.grown g6 (λk e=>by cases e;exact QW _);exact ZD (v:=.tuple #[JO v.length I,.int .i64 0]) (Qn Tryz.results99 _ _ _ _ _ _ _ rfl rfl b6 underlying144 rfl QU) rfl ⟨rfl,xF⟩
theorem AA (w:World) (s:List UInt8):Strs (w.alloc (.cells #[.string (Qb s)] 9)) (some ⟨w.heap.size,0,none⟩) 1 [s]:=by
 refine⟨rfl,λ_=>⟨w.heap.size,0,rfl,λj hj=>?_⟩⟩;rcases(show j=0 by simpa using hj) with rfl;exact(QA w 9 #[.string (Qb s)]).cell 0
end Go.Proofs.YtfaplefkakpgcaaGreatDoor
