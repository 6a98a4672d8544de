import Derived.Test.YtfaplefkakpgcaaGreatDoorPl13
import Derived.Test.YtfaplefkakpgcaaGreatDoorPl15
import Derived.Deep.AppendLies
import Derived.Deep.RegionLaw
import Derived.Lib.Bytealg
import Derived.BigRegion
set_option linter.unusedVariables false
set_option linter.unusedSimpArgs false
set_option maxHeartbeats 32000000
set_option maxRecDepth 100000
namespace Go.Proofs.YtfaplefkakpgcaaGreatDoor
open Go.Proofs.Tryz
open Go.RowKit
theorem Jj {fn:Func}{p s r:Tmp}{ty:TypeId}(h:fn.results=#[.cell p ty,.tmp s,.tmp r]) (tmps:Array Value) (w:World) (g:Nat) (t:TypeId) (cs:Array Value) (d:TypeDesc) (v u:Value)
  (hp:tmps.getD p undef=.pointer (some ⟨g,0,none⟩)) (hs:tmps.getD s undef=v) (hr:tmps.getD r undef=u) (hg:Box w g t cs)
  (hu:prog.underlying ty=some d) (hd:RQ d=true) (hi:(prog.info? ty).map (·.size)=some cs.size) :
  (results fn tmps).run prog w=.ok (.tuple #[.agg cs,v,u]) w:=by
 have pB:tmps[p]?.getD undef=.pointer (some ⟨g,0,none⟩):=by simpa using hp
 have AC:tmps[s]?.getD undef=v:=by simpa using hs
 have gG:tmps[r]?.getD undef=u:=by simpa using hr
 simp[results,h,pB,AC,gG,asAddr,su w g t ty cs (0,0) d hg hu (by cases d<;>first|rfl|cases hd) hi]
theorem lJ (p q:UInt8) (B:Int) (w:World) (h:(p.toNat:Int)+256*q.toNat=B) :
  Calls prog 169 #[.string (Qb [p,q])] w λe w'=>e=.returned (.int .u64 B)/\w=w':=by
 subst h;exact lI p q w
theorem MG (A:Option Addr) (n c:Nat) (v:List (List UInt8)) (I:Int) (w:World) (hv:Strs w A n v) (hg:Ji v I) :
  Calls prog 99 #[.slice A n c] w λe w'=>e=.returned (.tuple #[ZO v.length I,.int .i64 0])/\Ext w w':=by
 have XS:=Jg hg.plan;obtain⟨rfl,Y7⟩:=hv;obtain⟨b,o,rfl,Qf⟩:=Y7 (by omega);have Qn:b<w.heap.size:=zR w _ (Qf 0 (by omega));have hz:=Qh;go_enter func99,ntmps99;go_wp2_with fail;generalize VA:w.alloc _=w1;have x1:Ext w w1:=by rw[←VA];exact(Qg _).alloc _
 have r1:Box w1 w.heap.size 144 (Qj [0,0,0,0,0,0]):=by rw[←VA];exact Qs _ _ _
 clear VA;go_loop [5,15] (λ_ i=>∃k:Nat,k<=v.length/\i=.int .i64 k) (λ_ i=>v.length-(intOf i).toNat);case atStart=>exact⟨0,by omega,rfl⟩
 case round =>
  obtain⟨k,hk,rfl⟩:=hrel;by_cases Vq:k<v.length
  ·have ND:w1.cell? ⟨b,o+k,none⟩=some (.string (Qb v[k])):=x1.keep (Qf k Vq);have P9:((v[k].length:Int) != 128)=false:=by rw[hg.all k Vq];rfl
   go_wp2_with fail;go_round;case rel=>exact⟨k+1,by omega,by go_num⟩
   case measure=>simp[intOf];omega
  ·have Vy:b<w1.heap.size:=Ca Qn x1.size;have wW:v[0]'(by omega)=YA v.length I:=by
    have:=hg.head;rw[Yb,ZX (by omega)]at this;exact this
   have c0:w1.cell? ⟨b,o,none⟩=some (.string (Qb (YA v.length I))):=by have:=x1.keep (Qf 0 (by omega));rw[wW]at this;exact this
   have wK:=aC v.length I;have zH:(Qb (YA v.length I)).size=128:=by rw[Qh,FL]
   have gI:=λw=>lJ _ _ I w (Hy I (by omega) (by omega));have HP:=Qa hg.plan;have HF:∀w,Zm (Calls prog 170 #[.agg #[.int .i64 v.length,.int .i64 I,.int .i64 1,.int .i64 2,.int .i64 3,.int .i64 (3+(I+1)/2)]] w λe w'=>e=.returned (.string (Qb (YA v.length I)))/\Ext w w'):=λw=>Qa (Em v.length I w hg.plan);have ot:=Qa hg;have rB:∀wx,Ext w wx->wx.cell? ⟨b,o+2,none⟩=some (.string (Qb (v.getD 2 []))):=λwx xx=>by have:=xx.keep (Qf 2 (by omega));rw[Yb,ZX (by omega)];exact this
   have C2:=Qa rB;have l2:(v.getD 2 []).length=128:=by rw[Yb,ZX (by omega)];exact hg.all 2 (by omega)
   clear rB Qf wW hg;generalize YA v.length I=H at *;generalize b8 (I%256)=r at *;generalize b8 (I/256)=s at *;have SD:0<v.length:=by omega
   have GQ:(0:Int)<(v.length:Int):=by omega
   have GR:(2:Int)<(v.length:Int):=by omega
   have GI:=Qa gI;clear gI hz;have wI:IntKind.i64.wrap I=I:=by rw[Wb];omega
   go_wp2_with (first
    | (go_at_call 169;refine(GI.o _).mono ?_;rintro e w' ⟨rfl,rfl⟩)
    | (go_at_call 168;refine(Pc _ _ _ HP.o).mono ?_;rintro e wp ⟨rfl,xp⟩;unfold ZO))
   have bc:=Qs wp 144 (Qj [(v.length:Int),I,1,2,3,3+(I+1)/2]);have xc:=(x1.trans xp).alloc (.cells (Qj [(v.length:Int),I,1,2,3,3+(I+1)/2]) 144);have rc:=(r1.ext xp).ext ((Qg wp).alloc (.cells (Qj [(v.length:Int),I,1,2,3,3+(I+1)/2]) 144));have cc:=(xp.alloc (.cells (Qj [(v.length:Int),I,1,2,3,3+(I+1)/2]) 144)).keep c0;change Box (wp.alloc (.cells #[.int .i64 v.length,.int .i64 I,.int .i64 1,.int .i64 2,.int .i64 3,.int .i64 (3+(I+1)/2)] 144)) _ _ _ at bc;change Ext w (wp.alloc (.cells #[.int .i64 v.length,.int .i64 I,.int .i64 1,.int .i64 2,.int .i64 3,.int .i64 (3+(I+1)/2)] 144)) at xc;change Box (wp.alloc (.cells #[.int .i64 v.length,.int .i64 I,.int .i64 1,.int .i64 2,.int .i64 3,.int .i64 (3+(I+1)/2)] 144)) _ _ _ at rc;change (wp.alloc (.cells #[.int .i64 v.length,.int .i64 I,.int .i64 1,.int .i64 2,.int .i64 3,.int .i64 (3+(I+1)/2)] 144)).cell? _=_ at cc;generalize wp.alloc (.cells #[.int .i64 v.length,.int .i64 I,.int .i64 1,.int .i64 2,.int .i64 3,.int .i64 (3+(I+1)/2)] 144)=wc at bc xc rc cc ⊢;generalize wp.heap.size=g at bc ⊢;clear xp x1 r1 c0;have c0:∀x:Qt wc,x.now.cell? ⟨b,o,none⟩=some (.string (Qb H)):=λx=>x.ext.keep cc;have q0:∀x:Qt wc,x.now.cell? ⟨g,0,none⟩=some (.int .i64 v.length):=λx=>(bc.ext x.ext).cell 0;have q1:∀x:Qt wc,x.now.cell? ⟨g,1,none⟩=some (.int .i64 I):=λx=>(bc.ext x.ext).cell 1;have q2:∀x:Qt wc,x.now.cell? ⟨g,2,none⟩=some (.int .i64 1):=λx=>(bc.ext x.ext).cell 2;have q3:∀x:Qt wc,x.now.cell? ⟨g,3,none⟩=some (.int .i64 2):=λx=>(bc.ext x.ext).cell 3;have q4:∀x:Qt wc,x.now.cell? ⟨g,4,none⟩=some (.int .i64 3):=λx=>(bc.ext x.ext).cell 4;have q5:∀x:Qt wc,x.now.cell? ⟨g,5,none⟩=some (.int .i64 (3+(I+1)/2)):=λx=>(bc.ext x.ext).cell 5;refine Qk (by kernel_rfl) (by kernel_rfl) ?_;repeat (go_big_quiet_step ((exact JO ((HF _).o))))
   refine VI ?_;rintro w5 ⟨x5,rfl⟩;have PX:=xc.trans x5.ext;have e2:=C2.o _ PX;have d0:=q0 x5;have d5:=q5 x5;have b5:=bc.ext x5.ext;have r5:=rc.ext x5.ext;clear q0 q1 q2 q3 q4 q5 c0 cc HF C2 bc rc xc;go_wp2_with fail;go_loop [8] (λt=>∃m:Nat,m<=1024/\t=.int .i64 m) (λt=>1024-(intOf t).toNat);case atStart=>exact⟨0,by omega,rfl⟩
   case round =>
    obtain⟨m,hm,rfl⟩:=hrel;have HB:=Qa (λ(hm2:m<1024) w=>BG m (v.getD 2 []) w l2 hm2);by_cases hm2:m<1024
    ·by_cases m1:(m:Int)<3+(I+1)/2
     ·have Sz:=Qa (ot.o.low m m1);have CZ:¬(v.length:Int)<=m:=by omega
      have dY:decide ((v.length:Int)<=m)=false:=by simpa using CZ
      go_wp2_with (go_at_call 171;refine(HB.o hm2 _).mono ?_;rintro e w' ⟨rfl,rfl⟩;rw[Sz.o])
      go_round;case rel=>exact⟨m+1,by omega,by go_num⟩
      case measure=>simp[intOf];omega
     ·have m1':decide ((m:Int)<3+(I+1)/2)=false:=by simpa using m1
      by_cases m3:v.length<=m
      ·have Sz:=Qa (ot.o.high m hm2 m3);have CZ:(v.length:Int)<=m:=by omega
       go_wp2_with (go_at_call 171;refine(HB.o hm2 _).mono ?_;rintro e w' ⟨rfl,rfl⟩;rw[Sz.o])
       go_round;case rel=>exact⟨m+1,by omega,by go_num⟩
       case measure=>simp[intOf];omega
      ·have CZ:¬(v.length:Int)<=m:=by omega
       have dY:decide ((v.length:Int)<=m)=false:=by simpa using CZ
       go_wp2_with (go_at_call 171;refine(HB.o hm2 _).mono ?_;rintro e w' ⟨rfl,rfl⟩)
       go_round;case rel=>exact⟨m+1,by omega,by go_num⟩
       case measure=>simp[intOf];omega
    ·go_wp2_with (first
      | (refine Vd (.tmp 6) rfl rfl g _ 144 rfl b5 rfl ?_)
      | (refine QC (.tmp 2) (.tmp 77) rfl rfl w.heap.size _ [0,0,0,0,0,0] 144 rfl rfl r5 rfl rfl ?_;intro w6 b6 g6))
     have xF:=PX.grown g6 (λk e=>by cases e;exact Q4 _);exact Jv (v:=.tuple #[ZO v.length I,.int .i64 0]) (Qd Tryz.results99 _ _ _ _ _ _ _ rfl rfl b6 underlying144 rfl Ju) rfl ⟨rfl,xF⟩
theorem Nj (w:World) (s:List UInt8):Strs (w.alloc (.cells #[.string (Qb s)] 9)) (some ⟨w.heap.size,0,none⟩) 1 [s]:=by
 refine⟨rfl,λ_=>⟨w.heap.size,0,rfl,λj hj=>?_⟩⟩;rcases(show j=0 by simpa using hj) with rfl;exact(Qs w 9 #[.string (Qb s)]).cell 0
theorem rG (s:List UInt8) (i:Nat) (h:i+1<s.length):QW s i 2=(s[i].toNat:Int)+256*(s[i+1].toNat:Int):=by
 unfold QW;rw[fj (by omega),fj (i:=i+1) (by omega)];simp only[KG,KI,Z1];omega
theorem fF (s:List UInt8) (i:Nat) (w:World) (h:i+1<s.length) (h2:s.length<=1000) :
  Calls prog 202 #[.string (Qb s),.int .i64 i] w λe w'=>e=.returned (.int .i64 (QW s i 2))/\Ext w w':=by
 have hz:=Qh;have H:=Qa (rG s i h);have t1:(i:Int)<(s.length:Int):=by omega
 have t2:(i:Int)+1<(s.length:Int):=by omega
 have t3:((i:Int)+1).toNat=i+1:=by omega
 have a0:(Qb s)[i]'(by rw[Qh];omega)=s[i]:=rfl;have a1:(Qb s)[i+1]'(by rw[Qh];omega)=s[i+1]:=rfl;have b0:=s[i].toNat_lt;have b1:=s[i+1].toNat_lt;generalize s[i]=p at *;generalize s[i+1]=q at *;have w0:IntKind.i64.wrap (p.toNat:Int)=p.toNat:=ON _ (by omega);have w1:IntKind.i64.wrap (q.toNat:Int)=q.toNat:=ON _ (by omega);go_enter func202,ntmps202;go_wp2_with fail;refine Qk (by kernel_rfl) (by kernel_rfl) ?_;repeat (go_big_quiet_step (fail))
 refine VI ?_;rintro w2 ⟨x,rfl⟩;go_wp2_with fail;go_ret;exact⟨by rw[H.o];rfl,x.ext⟩
theorem jH (s:List UInt8) (i:Nat):0<=QW s i 2/\QW s i 2<=65535:=by
 unfold QW;have h1:=Nb ((s.drop i).take 2);have h2:((s.drop i).take 2).length<=2:=by simp;omega
 have h3:256^((s.drop i).take 2).length<=256^2:=sw (by decide) h2;omega
theorem Qak (s:List UInt8) (i:Nat) (h:i+3<s.length):QW s i 4=QW s i 2+65536*QW s (i+2) 2:=by
 unfold QW;rw[fj (by omega),fj (i:=i+1) (by omega),fj (i:=i+1+1) (by omega),fj (i:=i+1+1+1) (by omega)];simp only[KG,KI,Z1];omega
theorem rE (s:List UInt8) (i:Nat) (h:i<s.length):QW s i 1=(s[i].toNat:Int):=by
 unfold QW;rw[fj (by omega)];simp only[KG,KI,Z1];omega
theorem Z8 (w:World) (g i:Nat) (v:Value):w.grownBy (w.setCell ⟨g,i,none⟩ v) (some g) :=
 ⟨rfl,rfl,rfl,by simp[World.setCell],λk _ Jt=>heap_setCell_other w ⟨g,i,none⟩ k v (λe=>Jt (by rw[e]))⟩
theorem Hd {fn:Func}{p:Tmp}{ty:TypeId}(h:fn.results=#[.cell p ty]) (tmps:Array Value) (w:World) (g:Nat) (t:TypeId) (cs:Array Value) (d:TypeDesc)
  (hp:tmps.getD p undef=.pointer (some ⟨g,0,none⟩)) (hg:Box w g t cs)
  (hu:prog.underlying ty=some d) (hd:RQ d=true) (hi:(prog.info? ty).map (·.size)=some cs.size) :
  (results fn tmps).run prog w=.ok (.agg cs) w:=by
 have pB:tmps[p]?.getD undef=.pointer (some ⟨g,0,none⟩):=by simpa using hp
 simp[results,h,pB,asAddr,su w g t ty cs (0,0) d hg hu (by cases d<;>first|rfl|cases hd) hi]
theorem lM (s:List UInt8) (w:World) (h:s.length=64) :
  Calls prog 147 #[.string (Qb s)] w λr w'=>r=.returned (jq (U9 s 0))/\Ext w w':=by
 have hz:(Qb s).size=64:=by rw[Qh,h]
 have W:∀i:Nat,i+1<64->Zm (∀w,Calls prog 202 #[.string (Qb s),.int .i64 i] w λe w'=>e=.returned (.int .i64 (QW s i 2))/\Ext w w'):=λi hi=>Qa (λw=>fF s i w (by omega) (by omega));have B:=jH s;have HI:=Qa (show U9 s 0=[QW s 0 1,QW s 2 2,QW s 1 1,QW s 4 2+65536*QW s 6 2,QW s 8 2,QW s 10 2,QW s 12 2,QW s 14 2,QW s 16 2,QW s 18 2,QW s 20 2,QW s 22 2] by unfold U9;rw[show QW s (0+4) 4=_ from Qak s 4 (by omega)]);rw[rE s 0 (by omega),rE s 1 (by omega)]at HI;have a0:(Qb s)[0]'(by rw[hz];decide)=s[0]'(by omega):=rfl;have a1:(Qb s)[1]'(by rw[hz];decide)=s[1]'(by omega):=rfl;have g0:=(s[0]'(by omega)).toNat_lt;have g1:=(s[1]'(by omega)).toNat_lt;generalize s[0]'(by omega)=c0 at *;generalize s[1]'(by omega)=c1 at *;have v0:IntKind.i64.wrap (c0.toNat:Int)=c0.toNat:=ON _ (by omega);have v1:IntKind.i64.wrap (c1.toNat:Int)=c1.toNat:=ON _ (by omega);have W2:Zm (∀w,Calls prog 202 #[.string (Qb s),.int .i64 2] w λe w'=>e=.returned (.int .i64 (QW s 2 2))/\Ext w w'):=W 2 (by decide);have W4:Zm (∀w,Calls prog 202 #[.string (Qb s),.int .i64 4] w λe w'=>e=.returned (.int .i64 (QW s 4 2))/\Ext w w'):=W 4 (by decide);have W6:Zm (∀w,Calls prog 202 #[.string (Qb s),.int .i64 6] w λe w'=>e=.returned (.int .i64 (QW s 6 2))/\Ext w w'):=W 6 (by decide);have W8:Zm (∀w,Calls prog 202 #[.string (Qb s),.int .i64 8] w λe w'=>e=.returned (.int .i64 (QW s 8 2))/\Ext w w'):=W 8 (by decide);have W10:Zm (∀w,Calls prog 202 #[.string (Qb s),.int .i64 10] w λe w'=>e=.returned (.int .i64 (QW s 10 2))/\Ext w w'):=W 10 (by decide);have W12:Zm (∀w,Calls prog 202 #[.string (Qb s),.int .i64 12] w λe w'=>e=.returned (.int .i64 (QW s 12 2))/\Ext w w'):=W 12 (by decide);have W14:Zm (∀w,Calls prog 202 #[.string (Qb s),.int .i64 14] w λe w'=>e=.returned (.int .i64 (QW s 14 2))/\Ext w w'):=W 14 (by decide)
 have W16:Zm (∀w,Calls prog 202 #[.string (Qb s),.int .i64 16] w λe w'=>e=.returned (.int .i64 (QW s 16 2))/\Ext w w'):=W 16 (by decide);have W18:Zm (∀w,Calls prog 202 #[.string (Qb s),.int .i64 18] w λe w'=>e=.returned (.int .i64 (QW s 18 2))/\Ext w w'):=W 18 (by decide);have W20:Zm (∀w,Calls prog 202 #[.string (Qb s),.int .i64 20] w λe w'=>e=.returned (.int .i64 (QW s 20 2))/\Ext w w'):=W 20 (by decide);have W22:Zm (∀w,Calls prog 202 #[.string (Qb s),.int .i64 22] w λe w'=>e=.returned (.int .i64 (QW s 22 2))/\Ext w w'):=W 22 (by decide);have B4:=B 4;have B6:=B 6;clear W B h;generalize QW s 2 2=n2 at *;generalize QW s 4 2=n4 at *;generalize QW s 6 2=n6 at *;generalize QW s 8 2=n8 at *;generalize QW s 10 2=n10 at *;generalize QW s 12 2=n12 at *;generalize QW s 14 2=n14 at *;generalize QW s 16 2=n16 at *;generalize QW s 18 2=n18 at *;generalize QW s 20 2=n20 at *;generalize QW s 22 2=n22 at *;obtain⟨B40,B41⟩:=B4;obtain⟨B60,B61⟩:=B6;have v2:IntKind.i64.wrap (65536*n6)=65536*n6:=ON _ (by omega);have v3:IntKind.i64.wrap (n4+65536*n6)=n4+65536*n6:=ON _ (by omega);go_enter func147,ntmps147;go_wp2_with fail;generalize VA:w.alloc _=w1;have x1:Ext w w1:=by rw[←VA];exact(Qg _).alloc _
 have r1:Box w1 w.heap.size 121 (Qj Qy):=by rw[←VA];exact Qs _ _ _
 clear VA;refine Mh 20 19 [0,1,2,3,4,5,6,7,8,9,10,11,12,13,14,15,16,17,18] [] (Ru w1 121 (Qj Qy)) (Ru.keep w1 _ _) _ (by kernel_rfl) (by kernel_rfl) (by kernel_rfl) (by kernel_rfl) (by decide) (by decide) rfl (by kernel_rfl) rfl rfl (by kernel_rfl) (by kernel_rfl) ?_;simp only[Eb,List.filterMap_cons,List.filterMap_nil,so,nT,UY,KJ];apply Aj;case h1 =>
  repeat (refine DN rfl ?_ (λx=>?_) ?_;rotate_left;(· (go_simp;(first|(with_reducible exact rfl)|(with_reducible exact W2.o _)|(with_reducible exact W4.o _)|(with_reducible exact W6.o _)|(with_reducible exact W20.o _)|(with_reducible exact W22.o _))));(try dsimp only);(try simp only[S_]))
  exact Oq rfl
 case h2 =>
  refine⟨λx=>?_,λu hu=>?_⟩
  ·go_simp;exact Dj x _ _
  ·obtain⟨_,q,rfl,hq,_⟩:=hu;simp only[S_];refine VI ?_;rintro wx ⟨xx,q',e,_,bx⟩;cases e;refine QR (.tmp 3) (.tmp 23) rfl rfl q [(c0.toNat:Int),n2,(c1.toNat:Int),n4+65536*n6,0,0,0,0,0,0,n20,n22] Qy 121 rfl rfl bx rfl rfl ?_;intro e0 b0 g0';have z0:Ext w e0:=(x1.trans xx).grown g0' (λk e=>by cases e;exact YR x1.size hq);have rr0:Box e0 w.heap.size 121 (Qj Qy):=(r1.ext xx).grown g0' (λe=>by have:=r1.lt;cases e;omega);have pD:w.heap.size<q:=Ca r1.lt hq;clear bx xx r1 x1 hq g0';go_wp2_with fail;refine fm 7 ?_;rw[Vn];go_wp2_with (go_at_call 202;with_reducible refine(W8.o _).mono ?_;rintro ee y0 ⟨rfl,xy0⟩;have k0:=(b0.ext xy0).cell 4;have f0:=(b0.ext xy0).frozen 4)
   have b1:Box (y0.setCell ⟨q,4,none⟩ (.int .i64 n8)) q 121 (Qj [(c0.toNat:Int),n2,(c1.toNat:Int),n4+65536*n6,n8,0,0,0,0,0,n20,n22]):=(b0.ext xy0).set 4 (.int .i64 n8);have z1:=(z0.trans xy0).setCell (p:=⟨q,4,none⟩) (vw pD) (.int .i64 n8);have rr1:=(rr0.ext xy0).grown (Z8 y0 q 4 (.int .i64 n8)) (by simp;omega);generalize y0.setCell ⟨q,4,none⟩ (.int .i64 n8)=e1 at b1 z1 rr1 ⊢;clear b0 z0 rr0 k0 f0 xy0;rw[Vn];go_wp2_with (go_at_call 202;with_reducible refine(W10.o _).mono ?_;rintro ee y1 ⟨rfl,xy1⟩;have k1:=(b1.ext xy1).cell 5;have f1:=(b1.ext xy1).frozen 5)
   have b2:Box (y1.setCell ⟨q,5,none⟩ (.int .i64 n10)) q 121 (Qj [(c0.toNat:Int),n2,(c1.toNat:Int),n4+65536*n6,n8,n10,0,0,0,0,n20,n22]):=(b1.ext xy1).set 5 (.int .i64 n10);have z2:=(z1.trans xy1).setCell (p:=⟨q,5,none⟩) (vw pD) (.int .i64 n10);have rr2:=(rr1.ext xy1).grown (Z8 y1 q 5 (.int .i64 n10)) (by simp;omega);generalize y1.setCell ⟨q,5,none⟩ (.int .i64 n10)=e2 at b2 z2 rr2 ⊢;clear b1 z1 rr1 k1 f1 xy1;rw[Vn];go_wp2_with (go_at_call 202;with_reducible refine(W12.o _).mono ?_;rintro ee y2 ⟨rfl,xy2⟩;have k2:=(b2.ext xy2).cell 6;have f2:=(b2.ext xy2).frozen 6)
   have b3:Box (y2.setCell ⟨q,6,none⟩ (.int .i64 n12)) q 121 (Qj [(c0.toNat:Int),n2,(c1.toNat:Int),n4+65536*n6,n8,n10,n12,0,0,0,n20,n22]):=(b2.ext xy2).set 6 (.int .i64 n12);have z3:=(z2.trans xy2).setCell (p:=⟨q,6,none⟩) (vw pD) (.int .i64 n12);have rr3:=(rr2.ext xy2).grown (Z8 y2 q 6 (.int .i64 n12)) (by simp;omega);generalize y2.setCell ⟨q,6,none⟩ (.int .i64 n12)=e3 at b3 z3 rr3 ⊢;clear b2 z2 rr2 k2 f2 xy2;rw[Vn];go_wp2_with (go_at_call 202;with_reducible refine(W14.o _).mono ?_;rintro ee y3 ⟨rfl,xy3⟩;have k3:=(b3.ext xy3).cell 7;have f3:=(b3.ext xy3).frozen 7)
   have b4:Box (y3.setCell ⟨q,7,none⟩ (.int .i64 n14)) q 121 (Qj [(c0.toNat:Int),n2,(c1.toNat:Int),n4+65536*n6,n8,n10,n12,n14,0,0,n20,n22]):=(b3.ext xy3).set 7 (.int .i64 n14);have z4:=(z3.trans xy3).setCell (p:=⟨q,7,none⟩) (vw pD) (.int .i64 n14);have rr4:=(rr3.ext xy3).grown (Z8 y3 q 7 (.int .i64 n14)) (by simp;omega);generalize y3.setCell ⟨q,7,none⟩ (.int .i64 n14)=e4 at b4 z4 rr4 ⊢;clear b3 z3 rr3 k3 f3 xy3;rw[Vn];go_wp2_with (go_at_call 202;with_reducible refine(W16.o _).mono ?_;rintro ee y4 ⟨rfl,xy4⟩;have k4:=(b4.ext xy4).cell 8;have f4:=(b4.ext xy4).frozen 8)
   have b5:Box (y4.setCell ⟨q,8,none⟩ (.int .i64 n16)) q 121 (Qj [(c0.toNat:Int),n2,(c1.toNat:Int),n4+65536*n6,n8,n10,n12,n14,n16,0,n20,n22]):=(b4.ext xy4).set 8 (.int .i64 n16);have z5:=(z4.trans xy4).setCell (p:=⟨q,8,none⟩) (vw pD) (.int .i64 n16);have rr5:=(rr4.ext xy4).grown (Z8 y4 q 8 (.int .i64 n16)) (by simp;omega);generalize y4.setCell ⟨q,8,none⟩ (.int .i64 n16)=e5 at b5 z5 rr5 ⊢;clear b4 z4 rr4 k4 f4 xy4;rw[Vn];go_wp2_with (go_at_call 202;with_reducible refine(W18.o _).mono ?_;rintro ee y5 ⟨rfl,xy5⟩;have k5:=(b5.ext xy5).cell 9;have f5:=(b5.ext xy5).frozen 9)
   have b6:Box (y5.setCell ⟨q,9,none⟩ (.int .i64 n18)) q 121 (Qj [(c0.toNat:Int),n2,(c1.toNat:Int),n4+65536*n6,n8,n10,n12,n14,n16,n18,n20,n22]):=(b5.ext xy5).set 9 (.int .i64 n18);have z6:=(z5.trans xy5).setCell (p:=⟨q,9,none⟩) (vw pD) (.int .i64 n18);have rr6:=(rr5.ext xy5).grown (Z8 y5 q 9 (.int .i64 n18)) (by simp;omega);generalize y5.setCell ⟨q,9,none⟩ (.int .i64 n18)=e6 at b6 z6 rr6 ⊢;clear b5 z5 rr5 k5 f5 xy5;rw[Vn]
   go_wp2_with (first
    | (refine Xh (.tmp 3) rfl rfl q _ 121 rfl b6 rfl ?_)
    | (refine QR (.tmp 2) (.tmp 36) rfl rfl w.heap.size [(c0.toNat:Int),n2,(c1.toNat:Int),n4+65536*n6,n8,n10,n12,n14,n16,n18,n20,n22] Qy 121 rfl rfl rr6 rfl rfl ?_;intro e9 b9 g9))
   have xF:=z6.grown g9 (λk e=>by cases e;exact Q4 _);refine Jv (Hd rfl _ _ w.heap.size _ _ _ rfl b9 underlying121 rfl VO) rfl ⟨?_,xF⟩;rw[HI.o];rfl
theorem dN (b:List UInt8) (o:Nat):U9 ((b.drop o).take 64) 0=U9 b o:=by
 have e:∀i z:Nat,i+z<=64->QW ((b.drop o).take 64) (0+i) z=QW b (o+i) z:=λi z h=>by unfold QW;rw[Nz,List.drop_take,tE,nf,show min z (64-i)=z by omega]
 unfold U9;rw[show QW ((b.drop o).take 64) 0 1=QW b o 1 from e 0 1 (by omega),e 2 2 (by omega),e 1 1 (by omega),e 4 4 (by omega),e 8 2 (by omega),e 10 2 (by omega),e 12 2 (by omega),e 14 2 (by omega),e 16 2 (by omega),e 18 2 (by omega),e 20 2 (by omega),e 22 2 (by omega)]
theorem Nf (A:Option Addr) (n c:Nat) (v:List (List UInt8)) (I k:Int) (w:World) (hv:Strs w A n v) (hg:Ji v I) (Vz:1<=k) (KN:k<=I) :
  Calls prog 74 #[.slice A n c,.int .i64 k] w λe w'=>e=.returned (.tuple #[.agg (Qj (QI v k)),.int .i64 0])/\Ext w w':=by
 have XS:=Jg hg.plan;have HO:=Qa (λw h=>MG A n c v I w h hg);have hv':=hv;obtain⟨rfl,Y7⟩:=hv;obtain⟨b,o,rfl,Qf⟩:=Y7 (by omega);have hi:(3+(k-1)/2).toNat<v.length:=by omega
 have Gt:(v.getD (3+(k-1)/2).toNat []).length=128:=Yo hg hi;have tz:w.cell? ⟨b,o+(3+(k-1)/2).toNat,none⟩=some (.string (Qb (v.getD (3+(k-1)/2).toNat []))):=by rw[Qf _ hi,Yb,ZX hi];rfl
 have HE:=Qa (show QI v k=U9 (((v.getD (3+(k-1)/2).toNat []).drop ((k-1)%2*64).toNat).take 64) 0 by rw[dN];rfl);generalize v.getD (3+(k-1)/2).toNat []=bl at *;have hse:=J6;have hz:(Qb bl).size=128:=by rw[Qh,Gt]
 have hp:(3+(k-1)/2).toNat=((3+(k-1)/2).toNat):=rfl;have HT:=Qa (λw=>lM ((bl.drop ((k-1)%2*64).toNat).take 64) w (by simp[Gt];omega));have t1:IntKind.i64.wrap (k-1)=k-1:=ON _ (by omega);have t2:(k-1).tmod 2=(k-1)%2:=Wep (by omega);have t3:(k-1).tdiv 2=(k-1)/2:=Wdu (by omega);have t4:IntKind.i64.wrap ((k-1)/2)=(k-1)/2:=ON _ (by omega);have t5:IntKind.i64.wrap ((k-1)%2*64)=(k-1)%2*64:=ON _ (by omega);have t6:IntKind.i64.wrap (3+(k-1)/2)=3+(k-1)/2:=ON _ (by omega);have t7:IntKind.i64.wrap ((k-1)%2*64+64)=(k-1)%2*64+64:=ON _ (by omega);have s1:(0:Int)<=(k-1)%2*64:=by omega
 have s2:(k-1)%2*64+64<=128:=by omega
 have s3:(0:Int)<=3+(k-1)/2:=by omega
 have s4:3+(k-1)/2<(v.length:Int):=by omega
 have s5:(k-1)%2*64<=(k-1)%2*64+64:=by omega
 have s6:(0:Int)<=(k-1)%2*64+64:=by omega
 have s7:((k-1)%2*64+64).toNat-((k-1)%2*64).toNat=64:=by omega
 have d1:decide (k<1)=false:=by simp;omega
 have d2:decide (I<k)=false:=by simp;omega
 clear Qf hi hp Y7;go_enter func74,ntmps74;go_wp2_with fail;refine(HO.o _ (hv'.ext ((Qg _).alloc _))).mono ?_;rintro e w1 ⟨rfl,x1⟩;rw[Xr];have x0:Ext w w1:=((Qg w).alloc _).trans x1;have bR:Box w1 w.heap.size 121 (Qj Qy):=(Qs w 121 _).ext x1;have Qn:=bR.lt;clear x1
 go_wp2_with (first
  | (refine QC (.tmp 6) (.tmp 12) rfl rfl w1.heap.size _ [0,0,0,0,0,0] 144 rfl rfl (Qs _ _ _) rfl rfl ?_;intro w2 b2 g2;have x2:Ext w w2:=(x0.alloc _).grown g2 (λk e=>by cases e;exact x0.size);have c1:w2.cell? ⟨w1.heap.size,1,none⟩=some (.int .i64 I):=b2.cell 1;have c4:w2.cell? ⟨w1.heap.size,4,none⟩=some (.int .i64 3):=b2.cell 4;have cb:=x2.keep tz)
  | (go_at_call 147;refine(HT.o _).mono ?_;rintro e w3 ⟨rfl,x3⟩)
  | (refine QR (.tmp 4) (.tmp 44) rfl rfl w.heap.size _ Qy 121 rfl rfl (((bR.ext ((Qg _).alloc _)).grown g2 (by simp;omega)).ext x3) rfl rfl ?_;intro w4 b4 g4))
 refine Jv (Qd rfl _ _ w.heap.size _ _ _ (.int .i64 0) rfl rfl b4 underlying121 rfl VO) rfl ⟨by rw[HE.o],?_⟩;exact(x2.trans x3).grown g4 (λk e=>by cases e;exact Q4 _)
end Go.Proofs.YtfaplefkakpgcaaGreatDoor
