import Derived.Test.YtfaplefkakpgcaaGreatDoorQa5
import Derived.Test.YtfaplefkakpgcaaGreatDoorQa2
import Derived.Deep.RegionHeld3
import Derived.Deep.DeepCutAuto
set_option linter.unusedVariables false
set_option linter.unusedSimpArgs false
set_option maxHeartbeats 32000000
set_option maxRecDepth 100000
namespace Go.Proofs.YtfaplefkakpgcaaGreatDoor
open Go.Proofs.Tryz
open Go.RowKit
theorem Ti (p q:UInt8) (B:Int) (w:World) (h:(p.toNat:Int)+256*q.toNat=B) :
  Calls prog 164 #[.string (Qb [p,q])] w λe w'=>e=.returned (.int .u64 B)/\w=w':=by
 subst h;exact mu p q w
theorem R7 (B:Int) (h0:0<=B) (h1:B<=65535):((b8 (B%256)).toNat:Int)+256*(b8 (B/256)).toNat=B:=by
 rw[Kr _ (by omega) (by omega),Kr _ (by omega) (by omega)];omega
theorem dJ (B I:Int):(Qb (Zn B I)).extract 4 6=Qb [b8 (B%256),b8 (B/256)]:=by rw[JJ];rfl
theorem D1 (B I:Int):(Qb (Zn B I)).extract 6 8=Qb [b8 (I%256),b8 (I/256)]:=by rw[JJ];rfl
structure Ji (v:List (List UInt8)) (I:Int):Prop where
 all:∀(j:Nat) (h:j<v.length),v[j].length=128
 plan:YY v.length I=true
 head:v.getD 0 []=Zn v.length I
 low:∀i:Nat,(i:Int)<3+(I+1)/2->YC (v.getD 2 []) i=true
 high:∀i:Nat,i<1024->v.length<=i->YC (v.getD 2 []) i=false
theorem QM {B I:Int}(h:YY B I=true):16<=B/\B<=223/\4<=I/\I<=64/\3+(I+1)/2<B:=by simpa[YY]using h
theorem Ly (A:Option Addr) (n c:Nat) (v:List (List UInt8)) (I:Int) (w:World) (hv:Strs w A n v) (hg:Ji v I) :
  Calls prog 94 #[.slice A n c] w λe w'=>e=.returned (.tuple #[JO v.length I,.int .i64 0])/\Ext w w':=by
 have Uz:=QM hg.plan;obtain⟨rfl,Kl⟩:=hv;obtain⟨b,o,rfl,Qd⟩:=Kl (by omega);have Qo:b<w.heap.size:=fD w _ (Qd 0 (by omega));have hz:=Qh;go_enter func94,ntmps94;go_wp2_with fail;generalize Xo:w.alloc _=w1;have x1:Ext w w1:=by rw[←Xo];exact(Qf _).alloc _
 have r1:Box w1 w.heap.size 144 #[.int .i64 0,.int .i64 0,.int .i64 0,.int .i64 0,.int .i64 0,.int .i64 0]:=by rw[←Xo];exact QA _ _ _
 clear Xo;go_loop [5,12] (λ_ i=>∃k:Nat,k<=v.length/\i=.int .i64 k) (λ_ i=>v.length-(intOf i).toNat);case atStart=>exact⟨0,by omega,rfl⟩
 case round =>
  obtain⟨k,hk,rfl⟩:=hrel;by_cases Kk:k<v.length
  ·have dH:w1.cell? ⟨b,o+k,none⟩=some (.string (Qb v[k])):=x1.keep (Qd k Kk);have Tj:((v[k].length:Int) != 128)=false:=by rw[hg.all k Kk];rfl
   go_wp2_with fail;go_round;case rel=>exact⟨k+1,by omega,by go_num⟩
   case measure=>simp[intOf];omega
  ·go_wp2_with fail;go_cut [6,7] (λs6 s7 wx=>∃g:Nat,s6=.pointer (some ⟨g,0,none⟩)/\s7=.int .i64 0/\w1.heap.size<=g/\Ext w1 wx/\Box wx g 144 #[.int .i64 v.length,.int .i64 I,.int .i64 1,.int .i64 2,.int .i64 3,.int .i64 (3+(I+1)/2)]);case first =>
    have ZS:b<w1.heap.size:=ao Qo x1.size;have Sm:v[0]'(by omega)=Zn v.length I:=by have:=hg.head;rw[ZG,JZ (by omega)]at this;exact this
    have c0:∀x:Qg w1,x.now.cell? ⟨b,o,none⟩=some (.string (Qb (Zn v.length I))):=by have:=x1.keep (Qd 0 (by omega));rw[Sm]at this;exactλx=>x.ext.keep this
    have mp:=dJ v.length I;have kK:=D1 v.length I;have zH:(Qb (Zn v.length I)).size=128:=by rw[Qh,Mg]
    have gB:=λw=>Ti _ _ (v.length:Int) w (R7 v.length (by omega) (by omega));have gI:=λw=>Ti _ _ I w (R7 I (by omega) (by omega));have HP:=Qa hg.plan;generalize Zn v.length I=H at *;generalize b8 ((v.length:Int)%256)=p at *;generalize b8 ((v.length:Int)/256)=q at *;generalize b8 (I%256)=r at *;generalize b8 (I/256)=s at *;have qH:0<v.length:=by omega
    have dM:(0:Int)<(v.length:Int):=by omega
    have GB:=Qa gB;have GI:=Qa gI;clear gB gI;have wB:IntKind.i64.wrap (v.length:Int)=v.length:=by rw[ZU];omega
    have wI:IntKind.i64.wrap I=I:=by rw[ZU];omega
    have c0:=c0 ⟨w1,Qf _⟩;simp only at c0;have cA:(w1.alloc (.cells #[.int .i64 0,.int .i64 0,.int .i64 0,.int .i64 0,.int .i64 0,.int .i64 0] 144)).cell? ⟨b,o,none⟩=some (.string (Qb H)):=av ((Qf _).alloc _) c0;have rj:¬b=w1.heap.size:=by omega
    have rl:¬w1.heap.size=b:=by omega
    clear Qd hz
    go_region_held3 (λw'=>w'.cell? ⟨b,o,none⟩=some (.string (Qb H)))
     (first|(with_reducible exact c0)|(with_reducible exact cB)|(with_reducible exact cA)|(with_reducible exact av ((Qf _).alloc _) cB)|go_keep) (first
     | (go_at_call_of 164 (Qb [p,q]);refine(GB.o _).mono ?_;rintro e w' ⟨rfl,rfl⟩)
     | (go_at_call_of 164 (Qb [r,s]);refine(GI.o _).mono ?_;rintro e w' ⟨rfl,rfl⟩)
     | (go_at_call 163;(with_reducible refine(RD _ _ (World.drew (World.alloc w1 _)) HP.o).mono ?_);rintro e w' ⟨rfl,hgp⟩;have HX:=Qa (((Qf w1).alloc _).trans (kG hgp));have cB:=av hgp (show(World.drew (World.alloc w1 _)).cell? ⟨b,o,none⟩=some (.string (Qb H)) from av ((Qf _).alloc _) c0);have bx:=Box.ext (QA w1 144 #[.int .i64 0,.int .i64 0,.int .i64 0,.int .i64 0,.int .i64 0,.int .i64 0]) (kG hgp);have y0:=bx.cell 0;have f0:=bx.frozen 0;have y1:=bx.cell 1;have f1:=bx.frozen 1;have y2:=bx.cell 2;have f2:=bx.frozen 2;have y3:=bx.cell 3;have f3:=bx.frozen 3;have y4:=bx.cell 4;have f4:=bx.frozen 4;have y5:=bx.cell 5;have f5:=bx.frozen 5;have BX:=Qa bx;clear bx;simp only[MY,fE,gt]at y0 y1 y2 y3 y4 y5;unfold JO)
     | (go_at_call 163;refine(RD _ _ _ HP.o).mono ?_;rintro e w' ⟨rfl,hgp⟩;have HX:=Qa (kG hgp);have cB:=av hgp (show(World.drew w1).cell? ⟨b,o,none⟩=some (.string (Qb H)) from c0);unfold JO))
    ·go_wp2_with fail;go_meet;exact⟨w'.heap.size,rfl,rfl,HX.o.size,HX.o.alloc _,QA _ _ _⟩
    all_goals
     go_wp2_with fail;go_meet;refine⟨w1.heap.size,rfl,rfl,QW _,?_,?_⟩
     ·exact(((((HX.o.setCell (QW _) _).setCell (QW _) _).setCell (QW _) _).setCell (QW _) _).setCell (QW _) _).setCell (QW _) _
     ·exact((((((BX.o.set 0 _).set 1 _).set 2 _).set 3 _).set 4 _).set 5 _)
   case rest =>
    obtain⟨g,rfl,rfl,hg6,xc,bc⟩:=hcut;have ZS:b<w1.heap.size:=ao Qo x1.size;have Sm:v[0]'(by omega)=Zn v.length I:=by have:=hg.head;rw[ZG,JZ (by omega)]at this;exact this
    have xw:=x1.trans xc;have c0:∀x:Qg wc,x.now.cell? ⟨b,o,none⟩=some (.string (Qb (Zn v.length I))):=by have:=xw.keep (Qd 0 (by omega));rw[Sm]at this;exactλx=>x.ext.keep this
    have c2:wc.cell? ⟨b,o+2,none⟩=some (.string (Qb (v.getD 2 []))):=by have:=xw.keep (Qd 2 (by omega));rw[ZG,JZ (by omega)];exact this
    have l2:(v.getD 2 []).length=128:=by rw[ZG,JZ (by omega)];exact hg.all 2 (by omega)
    have q0:∀x:Qg wc,x.now.cell? ⟨g,0,none⟩=some (.int .i64 v.length):=λx=>(bc.ext x.ext).cell 0;have q1:∀x:Qg wc,x.now.cell? ⟨g,1,none⟩=some (.int .i64 I):=λx=>(bc.ext x.ext).cell 1;have q2:∀x:Qg wc,x.now.cell? ⟨g,2,none⟩=some (.int .i64 1):=λx=>(bc.ext x.ext).cell 2;have q3:∀x:Qg wc,x.now.cell? ⟨g,3,none⟩=some (.int .i64 2):=λx=>(bc.ext x.ext).cell 3;have q4:∀x:Qg wc,x.now.cell? ⟨g,4,none⟩=some (.int .i64 3):=λx=>(bc.ext x.ext).cell 4;have q5:∀x:Qg wc,x.now.cell? ⟨g,5,none⟩=some (.int .i64 (3+(I+1)/2)):=λx=>(bc.ext x.ext).cell 5;have HF:∀w,Zv (Calls prog 165 #[.agg #[.int .i64 v.length,.int .i64 I,.int .i64 1,.int .i64 2,.int .i64 3,.int .i64 (3+(I+1)/2)]] w λe w'=>e=.returned (.string (Qb (Zn v.length I)))/\Ext w w'):=λw=>Qa (P6 v.length I w hg.plan);generalize Zn v.length I=H at *;have qH:0<v.length:=by omega
    have dM:(0:Int)<(v.length:Int):=by omega
    go_wp2_with fail;refine Qp (by kernel_rfl) (by kernel_rfl) ?_;repeat (go_big_quiet_step ((exact Zg ((HF _).o))))
    refine Y7 ?_;rintro w5 ⟨x5,rfl⟩;have NZ:=xw.trans x5.ext;have d0:=q0 x5;have d1:=q1 x5;have d2:=q2 x5;have d3:=q3 x5;have d4:=q4 x5;have d5:=q5 x5
    have e2:=x5.ext.keep c2;have r5:=(r1.ext xc).ext x5.ext;clear q0 q1 q2 q3 q4 q5 c0 HF c2;go_wp2_with fail;go_loop [59] (λt=>∃m:Nat,m<=1024/\t=.int .i64 m) (λt=>1024-(intOf t).toNat);case atStart=>exact⟨0,by omega,rfl⟩
    case round =>
     obtain⟨m,hm,rfl⟩:=hrel;have HB:=Qa (λ(XL:m<1024) w (h:w.cell? ⟨b,o+2,none⟩=some (.string (Qb (v.getD 2 []))))=>DI b o v.length c m (v.getD 2 []) w (by omega) h l2 XL);by_cases XL:m<1024
     ·by_cases m1:(m:Int)<3+(I+1)/2
      ·have Eb:=Qa (hg.low m m1);go_wp2_with (go_at_call 166;refine(HB.o XL _ e2).mono ?_;rintro e w' ⟨rfl,rfl⟩;rw[Eb.o])
       go_round;case rel=>exact⟨m+1,by omega,by go_num⟩
       case measure=>simp[intOf];omega
      ·have tX:decide ((m:Int)<3+(I+1)/2)=false:=by simpa using m1
       by_cases m3:v.length<=m
       ·have Eb:=Qa (hg.high m XL m3);have Gm:(v.length:Int)<=m:=by omega
        go_wp2_with (go_at_call 166;refine(HB.o XL _ e2).mono ?_;rintro e w' ⟨rfl,rfl⟩;rw[Eb.o])
        go_round;case rel=>exact⟨m+1,by omega,by go_num⟩
        case measure=>simp[intOf];omega
       ·have Gm:¬(v.length:Int)<=m:=by omega
        have BU:decide ((v.length:Int)<=m)=false:=by simpa using Gm
        go_wp2_with (go_at_call 166;refine(HB.o XL _ e2).mono ?_;rintro e w' ⟨rfl,rfl⟩)
        go_round;case rel=>exact⟨m+1,by omega,by go_num⟩
        case measure=>simp[intOf];omega
     ·have z0:=r5.frozen 0;have z1:=r5.frozen 1;have z2:=r5.frozen 2;have z3:=r5.frozen 3;have z4:=r5.frozen 4;have z5:=r5.frozen 5
      have n0:=r5.cell 0;have n1:=r5.cell 1;have n2:=r5.cell 2;have n3:=r5.cell 3;have n4:=r5.cell 4;have n5:=r5.cell 5
      simp only[MY,fE,gt]at n0 n1 n2 n3 n4 n5;have R5:=Qa r5;clear r5;go_wp2_with fail;have rF:=((((((R5.o.set 0 (.int .i64 v.length)).set 1 (.int .i64 I)).set 2 (.int .i64 1)).set 3 (.int .i64 2)).set 4 (.int .i64 3)).set 5 (.int .i64 (3+(I+1)/2)))
      have xF:=(((((NZ.setCell (p:=⟨w.heap.size,0,none⟩) (QW _) (.int .i64 v.length)).setCell (p:=⟨w.heap.size,1,none⟩) (QW _) (.int .i64 I)).setCell (p:=⟨w.heap.size,2,none⟩) (QW _) (.int .i64 1)).setCell (p:=⟨w.heap.size,3,none⟩) (QW _) (.int .i64 2)).setCell (p:=⟨w.heap.size,4,none⟩) (QW _) (.int .i64 3)).setCell (p:=⟨w.heap.size,5,none⟩) (QW _) (.int .i64 (3+(I+1)/2));generalize (((((x5.now.setCell ⟨w.heap.size,0,none⟩ (.int .i64 v.length)).setCell ⟨w.heap.size,1,none⟩ (.int .i64 I)).setCell ⟨w.heap.size,2,none⟩ (.int .i64 1)).setCell ⟨w.heap.size,3,none⟩ (.int .i64 2)).setCell ⟨w.heap.size,4,none⟩ (.int .i64 3)).setCell ⟨w.heap.size,5,none⟩ (.int .i64 (3+(I+1)/2))=wf at rF xF ⊢;have p0:=rF.cell 0;have p1:=rF.cell 1;have p2:=rF.cell 2;have p3:=rF.cell 3;have p4:=rF.cell 4;have p5:=rF.cell 5
      simp at p0 p1 p2 p3 p4 p5;exact ZD (v:=.tuple #[JO v.length I,.int .i64 0]) (by simp[results,Tryz.results94,go_sem,JO,p0,p1,p2,p3,p4,p5]) rfl ⟨rfl,xF⟩
end Go.Proofs.YtfaplefkakpgcaaGreatDoor
