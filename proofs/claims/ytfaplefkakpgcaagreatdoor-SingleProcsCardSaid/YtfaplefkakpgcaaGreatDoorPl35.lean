import Derived.Test.YtfaplefkakpgcaaGreatDoorPl33
import Derived.Test.YtfaplefkakpgcaaGreatDoorPl34
set_option linter.unusedVariables false
set_option linter.unusedSimpArgs false
set_option maxHeartbeats 32000000
set_option maxRecDepth 100000
namespace Go.Proofs.YtfaplefkakpgcaaGreatDoor
open Go.Proofs.Tryz
open Go.RowKit
def Zr (v:List (List UInt8)) (I:Option Int) (k:Int):List UInt8:=((JW v I).find? λp=>(JE v I p).2==0&&(JE v I p).1==k).getD []
theorem T3 (v:List (List UInt8)) (I:Option Int) (k:Int):(Zr v I k).length<=200:=by
 unfold Zr;cases h:(JW v I).find? λp=>(JE v I p).2==0&&(JE v I p).1==k with
 | none=>exact WP _
 | some p=>exact WI v I p (List.mem_of_find?_eq_some h)
theorem Il {v:List (List UInt8)}{I:Option Int}{k:Int}{j:Nat}(hj:j<(JW v I).length) (h:((JE v I (JW v I)[j]).2==0&&(JE v I (JW v I)[j]).1==k)=true) (Xz:∀(i:Nat) (hi:i<(JW v I).length),i<j->((JE v I (JW v I)[i]).2==0&&(JE v I (JW v I)[i]).1==k)=false):Zr v I k=(JW v I)[j]:=by
 unfold Zr;rw[Mu (p:=λp=>(JE v I p).2==0&&(JE v I p).1==k) hj h Xz];rfl
theorem eA {v:List (List UInt8)}{I:Option Int}{k:Int}(Xz:∀(i:Nat) (hi:i<(JW v I).length),((JE v I (JW v I)[i]).2==0&&(JE v I (JW v I)[i]).1==k)=false):Zr v I k=[]:=by
 unfold Zr;rw[We3.2 (λp hp=>by
  obtain⟨i,hi,rfl⟩:=Fd hp;rw[Xz i hi];decide)]
 rfl
theorem Im (A B:Option Addr) (n c nl cl:Nat) (v:List (List UInt8)) (I:Option Int) (k:Int) (gl gv:Nat) (w:World) (hv:Strs w A n v) (hn:n<=9223372036854775807) (hg:ZW v I) (hl:Strs w B nl (JW v I)) (bl:Box w gl 22 #[.slice B nl cl]) (bv:Box w gv 22 #[.slice A n c]) (Lo:nl<=maxLen) :
  Calls prog 151 #[.int .i64 k,.pointer (some ⟨gl,0,none⟩),.pointer (some ⟨gv,0,none⟩)] w λe w'=>e=.returned (.string (Qb (Zr v I k)))/\Ext w w':=by
 have HF:=Qa (λp (hp:p.length<=200) w h=>Fu A n c v I p w h hn hg (YR hp (by decide)));have HS:=Qa (WI v I);have HY:=Qa (λj hj=>@Il v I k j hj);have HN:=Qa (@eA v I k);have HV:=Qa hv;obtain⟨E7,Rm⟩:=hl;have ge:=Qa E7;unfold maxLen at Lo;clear hv hg E7;generalize Zr v I k=P at *;generalize JW v I=L at *;generalize JE v I=F at *;have Rn:nl=L.length:=ge.o;have q1:w.cell? ⟨gl,0,none⟩=some (.slice B nl cl):=bl.cell 0;go_enter func151,ntmps151;go_upto_region 2 with fail;clear q1;subst Rn;go_loopw [11] (λi wx=>∃j:Nat,j<=L.length/\i=.int .i64 j/\Ext w wx/\∀(i:Nat) (hi:i<L.length),i<j->((F L[i]).2==0&&(F L[i]).1==k)=false) (λi _=>L.length-(intOf i).toNat);case atStart=>exact⟨0,by omega,rfl,Qg _,λi hi h=>by omega⟩
 case round =>
  obtain⟨j,hj,rfl,xj,Xz⟩:=hrel;have WM:=Qa Xz;clear Xz;by_cases Qn:j<L.length
  ·obtain⟨b,o,rfl,Qf⟩:=Rm (by omega);have e1:=xj.keep (Qf j Qn);have Kp:(j:Int)<(L.length:Int):=by omega
   have q2:wr.cell? ⟨gv,0,none⟩=some (.slice A n c):=(bv.ext xj).cell 0;have Mk:=Qa (show((F L[j]).2==0&&(F L[j]).1==k)=false->∀(i:Nat) (hi:i<L.length),i<j+1->((F L[i]).2==0&&(F L[i]).1==k)=false fromλh i hi hij=>by
    by_cases e:i<j
    ·exact WM.o i hi e
    ·obtain rfl:i=j:=by omega
     exact h)
   have zF:=Qa (λh=>HY.o j Qn h WM.o);have nB:=Qa (λw h=>HF.o L[j] (HS.o _ (NT Qn)) w h);clear Qf WM HY HN HF HS;generalize L[j]=p at *;generalize F p=fp at *;obtain⟨z,e⟩:=fp;simp only at Mk zF nB;rcases VS (e==0) with h1|h1
   ·rcases VS (z==k) with h2|h2
    ·have HP:=Qa (zF.o (by rw[h1,h2];rfl));go_wp2_with (go_at_call 23;refine(nB.o _ (HV.o.ext xj)).mono ?_;rintro e w2 ⟨rfl,x2⟩)
     go_ret;exact⟨by rw[HP.o];rfl,xj.trans x2⟩
    ·have HP:=Qa (Mk.o (by rw[h1,h2];rfl));go_wp2_with (go_at_call 23;refine(nB.o _ (HV.o.ext xj)).mono ?_;rintro e w2 ⟨rfl,x2⟩)
     go_roundw;case rel=>exact⟨j+1,by omega,by go_num,xj.trans x2,HP.o⟩
     case measure=>simp[intOf];omega
   ·have HP:=Qa (Mk.o (by rw[h1];rfl));go_wp2_with (go_at_call 23;refine(nB.o _ (HV.o.ext xj)).mono ?_;rintro e w2 ⟨rfl,x2⟩)
    go_roundw;case rel=>exact⟨j+1,by omega,by go_num,xj.trans x2,HP.o⟩
    case measure=>simp[intOf];omega
  ·have HP:=Qa (HN.o (λi hi=>WM.o i hi (by omega)));clear WM HY HN HF HS;go_wp2_with fail;go_ret;exact⟨by rw[HP.o];rfl,xj⟩
theorem aQ {w:World}{base z n:Nat}{e:TypeId}{v:Value}{xs:List Value}(h:w.ownsRow base e z v n xs):n<=maxLen:=by
 rcases h.2 with⟨_,rfl⟩|⟨g,cap,cur,_,_,_,h1,h2,_⟩
 ·exact WP _
 ·exact YR h1 h2
theorem Oa (A:Option Addr) (n c:Nat) (v:List (List UInt8)) (I:Option Int) (w:World) (hv:Strs w A n v) (hn:n<=9223372036854775807) (hg:ZW v I) :
  Calls prog 80 #[.slice A n c] w λe w'=>∃gl gv,e=.returned (.func (.func 151) #[] #[.pointer (some ⟨gl,0,none⟩),.pointer (some ⟨gv,0,none⟩)])/\Ext w w'/\
   ∀k wx,Ext w' wx->Calls prog 151 #[.int .i64 k,.pointer (some ⟨gl,0,none⟩),.pointer (some ⟨gv,0,none⟩)] wx λe w''=>e=.returned (.string (Qb (Zr v I k)))/\Ext wx w'':=by
 have HW:=Qa (λw h=>lu A n c v I w h hn hg);have HP:=Qa (λB nl cl k gl gv w h1 h2 h3 h4 h5=>Im A B n c nl cl v I k gl gv w h1 hn hg h2 h3 h4 h5);have ou:∀(fn:Fn) (first cap:Array Value) (w:World),(Instr.makeFunc fn first cap).run prog w=.ok (.func fn first cap) w:=λ_ _ _ _=>rfl;have x0:=(Qg w).alloc (.cells #[.slice A n c] 22);have bv:=Qs w 22 #[.slice A n c];have HV:=Qa (hv.ext x0);clear hv hg;go_enter func80,ntmps80;go_upto_region 1 with fail;generalize w.alloc (.cells #[.slice A n c] 22)=w1 at *;have q0:w1.cell? ⟨w.heap.size,0,none⟩=some (.slice A n c):=bv.cell 0;go_upto_region 2 with(go_at_call 22;refine(HW.o _ HV.o).mono ?_;rintro e w2 ⟨u,rfl,x2,JP⟩;obtain⟨B,cl,hu,_⟩:=RX JP;subst hu;have HO:=Qa JP;clear JP)
 have VD:w2.heap.size<=w2.heap.size:=Q4 _;have x3:=(Qg w2).alloc (.cells #[.slice B (JW v I).length cl] 22);have b3:=Qs w2 22 #[.slice B (JW v I).length cl];have bv3:=(bv.ext x2).ext x3;have yr:=Qa ((HV.o.ext x2).ext x3);have mL:=Qa ((GA HO.o).ext x3);have HL:=Qa (aQ HO.o);generalize hLn:(JW v I).length=Ln at *;clear q0 hLn;go_wp2_with fail;go_ret;refine⟨w2.heap.size,w.heap.size,rfl,(x0.trans x2).trans x3,λk wx xx=>?_⟩;exact HP.o B Ln cl k w2.heap.size w.heap.size wx (yr.o.ext xx) (mL.o.ext xx) (b3.ext xx) (bv3.ext xx) HL.o
def Xv (pa:Int->List UInt8) (fi:List UInt8->Int × Int) (k n p:Int):Int × Int × Int :=
 if k=1\/k=2 then (k,n,p) else if k=3/\pa n≠[]/\(fi (pa n)).2=0 then (3,(fi (pa n)).1,p) else (0,0,0)
def QF.setFd (q:QF) (i:Nat) (f:Int × Int × Int):QF:={ q with fk:=λj=>if j=i then f.1 else q.fk j,fn:=λj=>if j=i then f.2.1 else q.fn j,fp:=λj=>if j=i then f.2.2 else q.fp j }
theorem pw (q:QF) (i:Nat) (hi:i<8) (f:Int × Int × Int):Mc (Jf q).toArray (i*3) [.int .i64 f.1,.int .i64 f.2.1,.int .i64 f.2.2]=(Jf (q.setFd i f)).toArray:=by
 rcases(by omega:i=0\/i=1\/i=2\/i=3\/i=4\/i=5\/i=6\/i=7) with rfl|rfl|rfl|rfl|rfl|rfl|rfl|rfl<;>rfl
def RF (F:Nat->Int × Int × Int) (j:Nat):QF:={ JK with fk:=λi=>if i<j then (F i).1 else 0,fn:=λi=>if i<j then (F i).2.1 else 0,fp:=λi=>if i<j then (F i).2.2 else 0 }
theorem i8 {a b:QF}(h:∀i<8,a.fk i=b.fk i/\a.fn i=b.fn i/\a.fp i=b.fp i):Jf a=Jf b:=by
 unfold Jf;rw[fq,fq];congr 1;apply zQ;intro i hi;obtain⟨h1,h2,h3⟩:=h i (Mo.1 hi);unfold GH;rw[h1,h2,h3]
theorem jA (F:Nat->Int × Int × Int) (j:Nat):Jf ((RF F j).setFd j (F j))=Jf (RF F (j+1)):=by
 refine i8 λi _=>?_;unfold RF QF.setFd;simp only;by_cases e:i=j
 ·subst e;rw[QN rfl,QN rfl,QN rfl,QN (sy _),QN (sy _),QN (sy _)];exact⟨rfl,rfl,rfl⟩
 ·rw[QD e,QD e,QD e];by_cases h:i<j
  ·rw[QN h,QN h,QN h,QN (by omega),QN (by omega),QN (by omega)];exact⟨rfl,rfl,rfl⟩
  ·rw[QD h,QD h,QD h,QD (by omega),QD (by omega),QD (by omega)];exact⟨rfl,rfl,rfl⟩
theorem jB {F:Nat->Int × Int × Int}{j:Nat}(h:F j=(0,0,0)):Jf (RF F j)=Jf (RF F (j+1)):=by
 refine i8 λi _=>?_;unfold RF;simp only;by_cases e:i=j
 ·subst e;rw[QD (zc _),QD (zc _),QD (zc _),QN (sy _),QN (sy _),QN (sy _),h];exact⟨rfl,rfl,rfl⟩
 ·by_cases h:i<j
  ·rw[QN h,QN h,QN h,QN (by omega),QN (by omega),QN (by omega)];exact⟨rfl,rfl,rfl⟩
  ·rw[QD h,QD h,QD h,QD (by omega),QD (by omega),QD (by omega)];exact⟨rfl,rfl,rfl⟩
theorem cO (q:QF):(Jf q).toArray.size=24:=rfl
theorem Mr (a b c:Int):∀v∈[Value.int .i64 a,.int .i64 b,.int .i64 c],v.oneCell'=true:=λv hv=>by
 simp only[Pm,Rw,Fe]at hv;rcases hv with rfl|rfl|rfl<;>rfl
theorem oT (q:QF):(Jf q).toArray.all (·.oneCell')=true:=all_oneCell_toArray (cs:=Jf q) (λv hv=>by
 simp only[Jf,GH,nc,Pm,Rw,Fe]at hv;obtain⟨i,_,h|h|h⟩:=hv<;>(subst h;rfl))
theorem O2 {q:QF}:(prog.info? 55).map (·.size)=some (Jf q).toArray.size:=Mt
theorem Ie (m1 m2:QO) (d1 d2:Qz) (y:QF) (I1 I2:Option Int) (w:World) (h1:Q0 w m1 d1) (h2:Q0 w m2 d2) (Wp:ZW (QS d1.bl d1.pe d1.di) I1) (Rl:ZW (QS d2.bl d2.pe d2.di) I2)
  (GQ:(QS d1.bl d1.pe d1.di).length<=100000) (GR:(QS d2.bl d2.pe d2.di).length<=100000) :
  Calls prog 37 #[.agg m1.cells,.agg m2.cells,.agg (Jf y).toArray] w λe w' => e=.returned (.agg (Jf (RF (λi=>Xv (Zr (QS d1.bl d1.pe d1.di) I1) (Yz (QS d2.bl d2.pe d2.di) I2) (y.fk i) (y.fn i) (y.fp i)) 8)).toArray)/\Ext w w':=by
 obtain⟨F,hF⟩:∃F:Nat->Int × Int × Int,F=λi=>Xv (Zr (QS d1.bl d1.pe d1.di) I1) (Yz (QS d2.bl d2.pe d2.di) I2) (y.fk i) (y.fn i) (y.fp i):=⟨_,rfl⟩
 rw[←hF];have HF:=Qa (λi=>show F i=Xv (Zr (QS d1.bl d1.pe d1.di) I1) (Yz (QS d2.bl d2.pe d2.di) I2) (y.fk i) (y.fn i) (y.fp i) by rw[hF]);clear hF;have P1:=Qa (λw h=>Ah m1 d1 w h);have P2:=Qa (λw h=>Ah m2 d2 w h);have nM:=Qa (λA c w h=>Oa A (QS d1.bl d1.pe d1.di).length c (QS d1.bl d1.pe d1.di) I1 w h (YR GQ (by decide)) Wp);have mJ:=Qa (λA c p (hp:p.length<=200) w h=>I4 A (QS d2.bl d2.pe d2.di).length c (QS d2.bl d2.pe d2.di) I2 p w h (YR GR (by decide)) Rl (YR hp (by decide)));have HSh:=Qa (T3 (QS d1.bl d1.pe d1.di) I1);have x0:=((((Qg w).alloc (.cells m1.cells 38)).alloc (.cells m2.cells 38)).alloc (.cells (Jf y).toArray 55)).alloc (.cells (Jf JK).toArray 55);have b1:=(((Qs w 38 m1.cells).ext ((Qg _).alloc (.cells m2.cells 38))).ext ((Qg _).alloc (.cells (Jf y).toArray 55))).ext ((Qg _).alloc (.cells (Jf JK).toArray 55));have b2:=((Qs (w.alloc (.cells m1.cells 38)) 38 m2.cells).ext ((Qg _).alloc (.cells (Jf y).toArray 55))).ext ((Qg _).alloc (.cells (Jf JK).toArray 55));have b3:=(Qs ((w.alloc (.cells m1.cells 38)).alloc (.cells m2.cells 38)) 55 (Jf y).toArray).ext ((Qg _).alloc (.cells (Jf JK).toArray 55));have b4:=Qs (((w.alloc (.cells m1.cells 38)).alloc (.cells m2.cells 38)).alloc (.cells (Jf y).toArray 55)) 55 (Jf JK).toArray;rw[YB]at b2;rw[YB,YB]at b3;rw[YB,YB,YB]at b4;have H1:=Qa (h1.ext x0);have H2:=Qa (h2.ext x0);clear h1 h2 Wp Rl GQ GR;go_enter func37,ntmps37;go_upto_region 1 with fail;change Code.wp _ _ _ _ ((((w.alloc (.cells m1.cells 38)).alloc (.cells m2.cells 38)).alloc (.cells (Jf y).toArray 55)).alloc (.cells (Jf JK).toArray 55))
 generalize (((w.alloc (.cells m1.cells 38)).alloc (.cells m2.cells 38)).alloc (.cells (Jf y).toArray 55)).alloc (.cells (Jf JK).toArray 55)=w1 at *;obtain⟨G,hG⟩:∃G,G=w.heap.size:=⟨_,rfl⟩
 rw[←hG]at b1 b2 b3 b4 ⊢;have HG:=Qa hG;clear hG
 go_upto_region 2 with(first
  | (refine Qo _ rfl rfl G _ _ rfl b1 rfl ?_)
  | (go_at_call 18;refine(P1.o _ H1.o).mono ?_;rintro e w2 ⟨A1,c1,rfl,x2,o2⟩;have P0:=Qa (GA o2);clear o2)
  | (go_at_call 80;refine(nM.o _ _ _ P0.o).mono ?_;rintro e w3 ⟨gl,gv,rfl,x3,gD⟩))
 have fg:=Qa gD;have X3:=x2.trans x3;have H2':=Qa (H2.o.ext X3);have b2':=b2.ext X3;clear gD x2 x3 P0 b2 b1
 go_upto_region 3 with(first
  | (refine Qo _ rfl rfl (G+1) _ _ rfl b2' rfl ?_)
  | (go_at_call 18;refine(P2.o _ H2'.o).mono ?_;rintro e w4 ⟨A2,c2,rfl,x4,o4⟩;have Xc:=Qa (GA o4);clear o4))
 have X4:=X3.trans x4;have Qh3:=Qa (λk wx xx=>fg.o k wx (x4.trans xx));have b34:=b3.ext X4;have b44:=b4.ext X4;clear b3 b4 b2' X3 x4 fg;have Qha:=Qa (λp hp (wx:World) (x:Ext w4 wx)=>mJ.o A2 c2 p hp wx (Xc.o.ext x));clear mJ Xc nM P1 P2 H1 H2 H2';generalize Zr (QS d1.bl d1.pe d1.di) I1=pa at *;generalize Yz (QS d2.bl d2.pe d2.di) I2=fi at *;generalize (QS d2.bl d2.pe d2.di).length=n2 at *;go_upto_region 4 with fail;change Code.wp _ _ _ _ (w4.alloc (.cells (Jf (RF F 0)).toArray 55));have b9:=Qs w4 55 (Jf (RF F 0)).toArray;have x5:=(Qg w4).alloc (.cells (Jf (RF F 0)).toArray 55);generalize w4.alloc (.cells (Jf (RF F 0)).toArray 55)=w5 at *;have wF:=b34.ext x5;go_upto_region 5 with(refine J2 _ _ rfl rfl (G+1+1) (Jf y).toArray 55 _ rfl wF underlying55 rfl O2 ?_)
 clear b34 wF;go_loopw [21] (λi wx=>∃j:Nat,j<=8/\i=.int .i64 j/\Ext w4 wx/\Box wx w4.heap.size 55 (Jf (RF F j)).toArray) (λi _=>8-(intOf i).toNat);case atStart=>exact⟨0,by omega,rfl,x5,b9⟩
 case round =>
  clear b9 x5;obtain⟨j,hj,rfl,xj,b9⟩:=hrel;by_cases Qn:j<8
  ·have Kp:(j:Int)<8:=by omega
   have HSK:=Qa (show F j=(0,0,0)->(Jf (RF F j)).toArray=(Jf (RF F (j+1))).toArray fromλh=>by rw[jB h]);have D4:=Qa (show∀f,F j=f->Mc (Jf (RF F j)).toArray (j*3) [.int .i64 f.1,.int .i64 f.2.1,.int .i64 f.2.2]=(Jf (RF F (j+1))).toArray fromλf h=>by rw[pw _ j Qn f,←h,jA]);have rz:=Qa (HF.o j);have VD:j*3+3<=(Jf (RF F j)).toArray.size:=by rw[cO];omega
   go_upto_region 7 with(refine Uo (.tmp 20) (.tmp 21) rfl rfl y j rfl rfl Qn ?_)
   generalize y.fk j=ik at *;generalize y.fn j=ifn at *;generalize y.fp j=ifp at *;generalize (Jf (RF F j)).toArray=C0 at *;generalize hC1:(Jf (RF F (j+1))).toArray=C1 at *;have Gn:=Qa hC1;clear hC1;have xq:Ext wr (wr.alloc (.cells #[.int .i64 ik,.int .i64 ifn,.int .i64 ifp] 54)):=(Qg _).alloc _;have bq:=Qs wr 54 #[.int .i64 ik,.int .i64 ifn,.int .i64 ifp];have xz:=xj.trans xq;have qz:=b9.ext xq;generalize wr.alloc (.cells #[.int .i64 ik,.int .i64 ifn,.int .i64 ifp] 54)=wq at *;have q0:wq.cell? ⟨wr.heap.size,0,none⟩=some (.int .i64 ik):=bq.cell 0;clear b9 xq xj;by_cases Vz:ik=1\/ik=2
   ·have nD:=Qa (show F j=(ik,ifn,ifp) by rw[rz.o,Xv,QN Vz]);rcases Vz with rfl|rfl
    ·go_wp2_with (first
      | (refine J2 _ _ rfl rfl wr.heap.size #[.int .i64 1,.int .i64 ifn,.int .i64 ifp] 54 _ rfl bq underlying54 rfl KL ?_)
      | (refine Yg 54 (.tmp 32) (.tmp 31) rfl rfl w4.heap.size (j*3) [.int .i64 1,.int .i64 ifn,.int .i64 ifp] _ C1 55 rfl rfl (Mr _ _ _) KL qz VD (D4.o _ nD.o) ?_;intro w8 b8 d8))
     go_roundw;case rel=>exact⟨j+1,by omega,by go_num,d8.past xz (Q4 _),by rw[Gn.o];exact b8⟩
     case measure=>simp[intOf];omega
    ·go_wp2_with (first
      | (refine J2 _ _ rfl rfl wr.heap.size #[.int .i64 2,.int .i64 ifn,.int .i64 ifp] 54 _ rfl bq underlying54 rfl KL ?_)
      | (refine Yg 54 (.tmp 32) (.tmp 31) rfl rfl w4.heap.size (j*3) [.int .i64 2,.int .i64 ifn,.int .i64 ifp] _ C1 55 rfl rfl (Mr _ _ _) KL qz VD (D4.o _ nD.o) ?_;intro w8 b8 d8))
     go_roundw;case rel=>exact⟨j+1,by omega,by go_num,d8.past xz (Q4 _),by rw[Gn.o];exact b8⟩
     case measure=>simp[intOf];omega
   ·by_cases hk3:ik=3
    ·subst hk3;have q1:wq.cell? ⟨wr.heap.size,1,none⟩=some (.int .i64 ifn):=bq.cell 1;have HP:=Qa (λwx x=>Qh3.o ifn wx x);have hsh:=HSh.o ifn;have nD:=Qa (show F j=if pa ifn≠[]/\(fi (pa ifn)).2=0 then (3,(fi (pa ifn)).1,ifp) else (0,0,0) by
      rw[rz.o,Xv,QD (by decide)];by_cases c:pa ifn≠[]/\(fi (pa ifn)).2=0
      ·rw[QN ⟨rfl,c⟩,QN c]
      ·rw[QD (λh=>c h.2),QD c])
     generalize pa ifn=s at *;have vM:=Qa (Qha.o s hsh);go_upto_region 13 with(go_at_call 151;refine(HP.o _ xz).mono ?_;rintro e w6 ⟨rfl,x6⟩)
     have x46:=xz.trans x6;have b9w:=qz.ext x6;clear q0 q1 qz;by_cases hs0:s=[]
     ·have xl:=Qa (show F j=(0,0,0) by rw[nD.o,QD (λh=>h.1 hs0)]);subst hs0;have d1:(Qb []).toList.isEmpty=true:=by rw[Qe];rfl
      go_wp2_with fail;go_roundw;case rel=>exact⟨j+1,by omega,by go_num,x46,by rw[Gn.o,←HSK.o xl.o];exact b9w⟩
      case measure=>simp[intOf];omega
     ·have d1:(Qb s).toList.isEmpty=false:=by rw[Qe];simpa using hs0
      generalize dD:fi s=fs at *;obtain⟨z,e⟩:=fs;simp only at vM nD;by_cases he:e=0
      ·have xl:=Qa (show F j=(3,z,ifp) by rw[nD.o,QN ⟨hs0,he⟩]);subst he;clear hs0 dD;have bq6:=bq.ext x6
       go_wp2_with (first
        | (go_at_call 28;refine(vM.o _ x46).mono ?_;rintro e w7 ⟨rfl,x7⟩;have q2:w7.cell? ⟨wr.heap.size,2,none⟩=some (.int .i64 ifp):=(bq6.ext x7).cell 2;have b9y:=b9w.ext x7)
        | (refine Yg 54 (.tmp 54) (.tmp 53) rfl rfl w4.heap.size (j*3) [.int .i64 3,.int .i64 z,.int .i64 ifp] _ C1 55 rfl rfl (Mr _ _ _) KL b9y VD (D4.o _ xl.o) ?_;intro w8 b8 d8))
       go_roundw;case rel=>exact⟨j+1,by omega,by go_num,d8.past (x46.trans x7) (Q4 _),by rw[Gn.o];exact b8⟩
       case measure=>simp[intOf];omega
      ·have xl:=Qa (show F j=(0,0,0) by rw[nD.o,QD (λh=>he h.2)]);have uA:(e==0)=false:=by simpa using he
       clear hs0 dD he;go_wp2_with (go_at_call 28;refine(vM.o _ x46).mono ?_;rintro e w7 ⟨rfl,x7⟩)
       go_roundw;case rel=>exact⟨j+1,by omega,by go_num,x46.trans x7,by rw[Gn.o,←HSK.o xl.o];exact b9w.ext x7⟩
       case measure=>simp[intOf];omega
    ·have e1:(ik==1)=false:=by have:ik≠1:=λh=>Vz (.inl h);simpa using this
     have e2:(ik==2)=false:=by have:ik≠2:=λh=>Vz (.inr h);simpa using this
     have e3:(ik==3)=false:=by simpa using hk3
     have nD:=Qa (show F j=(0,0,0) by rw[rz.o,Xv,QD Vz,QD (λh=>hk3 h.1)]);clear Vz hk3;go_wp2_with fail;go_roundw;case rel=>exact⟨j+1,by omega,by go_num,xz,by rw[Gn.o,←HSK.o nD.o];exact qz⟩
     case measure=>simp[intOf];omega
  ·obtain rfl:j=8:=by omega
   have b4f:=b44.ext xj
   go_wp2_with (first
    | (refine J2 _ _ rfl rfl w4.heap.size (Jf (RF F 8)).toArray 55 _ rfl b9 underlying55 rfl O2 ?_)
    | (refine JU 55 _ _ rfl rfl (G+1+1+1) (Jf (RF F 8)).toArray _ 55 rfl rfl b4f O2 rfl (oT _) ?_;intro w8 b8 g8))
   refine Jv (QQ rfl _ _ (G+1+1+1) _ _ _ rfl b8 underlying55 rfl O2) rfl ⟨rfl,((x0.trans X4).trans xj).grown g8 (λj e=>by cases e;rw[←HG.o];omega)⟩
noncomputable def XL (m2:QO) (d2:Qz) (l:List QF) (pid:Int):Int:=GX (Zk m2 d2) (match Zc l pid with
 | none=>9
 | some y=>if 8<=d2.pr.length then 6 else if (Jc m2.fr.n d2.pr).length<QL y 16 then 10 else 0)
def Ft (d1 d2:Qz) (I1 I2:Option Int) (y:QF):Nat->Int × Int × Int:=λi=>Xv (Zr (QS d1.bl d1.pe d1.di) I1) (Yz (QS d2.bl d2.pe d2.di) I2) (y.fk i) (y.fn i) (y.fp i)
def OI (m2:QO) (d1 d2:Qz) (I1 I2:Option Int) (pid:Int) (w':World) (e:Ending):Prop :=
 (XL m2 d2 d1.pr pid≠0/\e=.returned (.tuple #[.agg QB.cells,.int .i64 0,.int .i64 (XL m2 d2 d1.pr pid)]))\/
 (∃y,Z3 m2 d2/\Zc d1.pr pid=some y/\d2.pr.length<8/\QL y 16<=(Jc m2.fr.n d2.pr).length/\
  ∃z:QO,e=.returned (.tuple #[.agg z.cells,.int .i64 m2.next,.int .i64 0])/\Zf w' 0 z (Uu d1.fr y m2.next m2.fr.n d2 (Ft d1 d2 I1 I2 y))/\Zv { z with next:=m2.next } m2/\z.next=m2.next+1)
theorem Ui {w w':World}{b base z n:Nat}{u:Value}{xs:List Value}{t:TypeId}(o:w.ownsRow base t z u n xs) (hk:But b w w') (hu:u.ownBlock≠some b):w'.ownsRow base t z u n xs:=by
 refine⟨o.1,?_⟩;rcases o.2 with h|⟨g,cap,cur,h1,h2,h3,h4⟩
 ·exact .inl h
 ·refine .inr ⟨g,cap,cur,h1,h2,?_,h4⟩;have Qn:g<w.heap.size:=(Fa.1 h3).1;refine(hk.block g Qn ?_).trans h3;intro e;subst e;exact hu (by rw[h1];rfl)
def iE (N:Nat) (m:QO):Prop:=∀k,N<=k->(Value.slice m.fr.A m.fr.n m.fr.c).ownBlock≠some k/\(Value.slice m.pr.A m.pr.n m.pr.c).ownBlock≠some k/\(Value.slice m.pi.A m.pi.n m.pi.c).ownBlock≠some k/\(Value.slice m.bl.A m.bl.n m.bl.c).ownBlock≠some k/\(Value.slice m.pe.A m.pe.n m.pe.c).ownBlock≠some k/\(Value.slice m.di.A m.di.n m.di.c).ownBlock≠some k
theorem Zf.low {w:World}{B:Nat}{m:QO}{d:Qz}(h:Zf w B m d):iE w.heap.size m:=λk hk =>
 ⟨λe=>by have:=Xb h.fr e;omega,λe=>by have:=Xb h.pr e;omega,λe=>by have:=Xb h.pi e;omega,λe=>by have:=Xb h.bl e;omega,λe=>by have:=Xb h.pe e;omega,λe=>by have:=Xb h.di e;omega⟩
theorem Zf.but {w w':World}{B N b:Nat}{m:QO}{d:Qz}(h:Zf w B m d) (hl:iE N m) (hb:N<=b) (k:But b w w'):Zf w' B m d:=by
 obtain⟨h1,h2,h3,h4,h5,h6⟩:=hl b hb;exact⟨Ui h.fr k h1,Ui h.pr k h2,Ui h.pi k h3,Ui h.bl k h4,Ui h.pe k h5,Ui h.di k h6,h.frn,h.prn,h.pin,h.bln,h.pen,h.din,h.apart⟩
theorem Sh (y:QF) (next:Int) (free:List Nat) (F:Nat->Int × Int × Int):prog.built 57 [(0,.int .i64 next),(2,.int .i64 1),(3,.agg (Cs y).toArray),(6,.bool y.mask),(5,.agg (Jf (RF F 8)).toArray)]=some (Qq (JI y next free F 0)).toArray:=by kernel_rfl
theorem Al {ops:Array Oper}{rest:List Oper}{o:Oper}{a:Act}{w:World}{Q:Exit->Act->World->Prop}(x0 x3 x6 x5:Operand) (y:QF) (next:Int) (free:List Nat) (F:Nat->Int × Int × Int) (J7:o.guard=none)
  (ho:o.op=.build 57 #[(0,x0),(2,.const (.int .i64 1)),(3,x3),(6,x6),(5,x5)]) (h0:a.eval x0=.int .i64 next) (h3:a.eval x3=.agg (Cs y).toArray) (h6:a.eval x6=.bool y.mask) (h5:a.eval x5=.agg (Jf (RF F 8)).toArray)
  (hK:wpList prog ops Q rest (a.put o.dst (.agg (Qq (JI y next free F 0)).toArray)) w):wpList prog ops Q (o::rest) a w:=by
 refine wpList_buildTo J7 _ _ ho _ rfl (Qq (JI y next free F 0)).toArray ?_ hK;have hc:a.eval (.const (.int .i64 1))=.int .i64 1:=rfl;have e:((#[(0,x0),(2,.const (.int .i64 1)),(3,x3),(6,x6),(5,x5)]:Array (Nat × Operand)).map λ(i,x)=>(i,a.eval x)).toList=[(0,.int .i64 next),(2,.int .i64 1),(3,.agg (Cs y).toArray),(6,.bool y.mask),(5,.agg (Jf (RF F 8)).toArray)]:=by simp only[bO,P4,Gz,h0,h3,h6,h5,hc]
 rw[e];exact Sh y next free F
theorem Lf {w:World}{B L c:Nat}{A:Option Addr}{l:List Nat}(h:w.ownsRow B 3 1 (.slice A L c) L (Vr (l.map λf:Nat=>(f:Int)))) (hl:L=l.length):(L<=c/\c<=maxLen)/\∃gb,0<L->A=some ⟨gb,0,none⟩/\∀i,i<L->w.cell? ⟨gb,i,none⟩=some (.int .i64 ((l.getD i 0:Nat):Int)):=by
 rcases h.2 with⟨h1,h2⟩|⟨g,cap,cur,h1,_,_,h3,h4,_⟩
 ·injection h1 with _ _ h1;exact⟨⟨by omega,by unfold maxLen;omega⟩,0,λh0=>by omega⟩
 ·injection h1 with h1 _ h5;subst h1 h5;refine⟨⟨h3,h4⟩,g,λ_=>⟨rfl,λi hi=>?_⟩⟩;have hx:i<(Vr (l.map λf:Nat=>(f:Int))).length:=by unfold Vr;rw[AR,AR];omega
  rw[h.cellAt i (by omega)];unfold Vr;rw[List.map_map,fo,Yb,ZX (by omega)];rfl
theorem cw {w w':World}{g:Nat}(k:w.grownBy w' (some g)):But g w w':=⟨k.os,k.tape,k.output,k.size,λi hi Jt=>k.block i hi (λe=>Jt (NU e))⟩
theorem aY (a b:Bool) (c:Int):∀v∈[Value.bool a,.bool b,.int .i64 c],v.oneCell'=true:=λv hv=>by
 simp only[Pm,Rw,Fe]at hv;rcases hv with rfl|rfl|rfl<;>rfl
theorem Zf.base0 {w:World}{B:Nat}{m:QO}{d:Qz}(h:Zf w B m d):Zf w 0 m d :=
 ⟨Q8 h.fr (WP _),Q8 h.pr (WP _),Q8 h.pi (WP _),Q8 h.bl (WP _),Q8 h.pe (WP _),Q8 h.di (WP _),h.frn,h.prn,h.pin,h.bln,h.pen,h.din,h.apart⟩
theorem kV (y:QF):(Qq y).toArray[92]? =some (.bool y.mask):=by kernel_rfl
theorem kg (FA BA:Option Addr) (fn fc bn bc:Nat) (s:ByteArray) (pid:Int) (m2:QO) (d1 d2:Qz) (I1 I2:Option Int) (w:World)
  (hM:∀w',Ext w w'->Calls prog 27 #[.agg #[.slice FA fn fc,.slice BA bn bc,.string s]] w' λe w''=>∃z:QO,e=.returned (.tuple #[.agg z.cells,.int .i64 0])/\Ext w' w''/\Q0 w'' z d1/\Z3 z d1)
  (h2:Q0 w m2 d2) (dJ:YY m2) (U1:m2.pi.n<=4000) (Wp:ZW (QS d1.bl d1.pe d1.di) I1) (Rl:ZW (QS d2.bl d2.pe d2.di) I2) (GQ:(QS d1.bl d1.pe d1.di).length<=100000) (GR:(QS d2.bl d2.pe d2.di).length<=100000) :
  Calls prog 14 #[.agg #[.slice FA fn fc,.slice BA bn bc,.string s],.int .i64 pid,.agg m2.cells] w λe w'=>OI m2 d1 d2 I1 I2 pid w' e/\Ext w w':=by
 obtain⟨OUT,NZ⟩:∃OUT,OUT=OI m2 d1 d2 I1 I2 pid:=⟨_,rfl⟩
 rw[←NZ];have HO:=Qa NZ;clear NZ;have HM:=Qa hM;have xK:=Qa (λw h=>Hm m2 d2 w h U1);have vI:=Qa (λw h=>ir m2 d2 w h dJ);have nC:=Qa (λw h k=>jI m2 d2 w h k);have sI:=Qa (λz w h k=>SW z d1 pid w h k);have As:=Qa (λy w=>dv y w);have vQ:=Qa (λz y w h1 h2=>Ie z m2 d1 d2 y I1 I2 w h1 h2 Wp Rl GQ GR);have x0:=(((Qg w).alloc (.cells #[.slice FA fn fc,.slice BA bn bc,.string s] 24)).alloc (.cells m2.cells 38)).alloc (.cells QB.cells 38);have bi:=((Qs w 24 #[.slice FA fn fc,.slice BA bn bc,.string s]).ext ((Qg _).alloc (.cells m2.cells 38))).ext ((Qg _).alloc (.cells QB.cells 38));have b5:=(Qs (w.alloc (.cells #[.slice FA fn fc,.slice BA bn bc,.string s] 24)) 38 m2.cells).ext ((Qg _).alloc (.cells QB.cells 38));have b6:=Qs ((w.alloc (.cells #[.slice FA fn fc,.slice BA bn bc,.string s] 24)).alloc (.cells m2.cells 38)) 38 QB.cells;rw[YB]at b5;rw[YB,YB]at b6;have H2:=Qa h2;clear hM h2 dJ U1 Wp Rl GQ GR;go_enter func14,ntmps14;go_upto_region 1 with fail;change Code.wp _ _ _ _ (((w.alloc (.cells #[.slice FA fn fc,.slice BA bn bc,.string s] 24)).alloc (.cells m2.cells 38)).alloc (.cells QB.cells 38));generalize ((w.alloc (.cells #[.slice FA fn fc,.slice BA bn bc,.string s] 24)).alloc (.cells m2.cells 38)).alloc (.cells QB.cells 38)=w1 at *;obtain⟨G,hG⟩:∃G,G=w.heap.size:=⟨_,rfl⟩
 rw[←hG]at bi b5 b6 ⊢;have HG:=Qa hG;clear hG
 go_upto_region 2 with(first
  | (refine J2 _ _ rfl rfl G #[.slice FA fn fc,.slice BA bn bc,.string s] 24 _ rfl bi underlying24 rfl jo ?_)
  | (go_at_call 27;refine(HM.o _ x0).mono ?_;rintro e w2 ⟨z,rfl,x2,hi,Kq⟩)
  | (refine Qr _ _ rfl rfl w2.heap.size z _ _ rfl rfl (Qs _ _ _) rfl ?_;intro w3 b9 g3))
 have y3:Ext w2 w3:=((Qg w2).alloc _).grown g3 (λj e=>by cases e;exact Q4 _);have HZ:=Qa (hi.ext y3);have sZ:=Qa Kq;have X3:=Qa (x0.trans (x2.trans y3));replace b5:=b5.ext (x2.trans y3);replace b6:=b6.ext (x2.trans y3);clear hi Kq y3 g3 x2 bi x0 HM;generalize w2.heap.size=g9 at *;clear w2
 go_upto_region 5 with(first
  | (refine Qo _ rfl rfl (G+1) _ _ rfl b5 rfl ?_)
  | (go_at_call 17;refine(xK.o _ (H2.o.ext X3.o)).mono ?_;rintro e w4 ⟨rfl,x4⟩))
 replace b5:=b5.ext x4;replace b6:=b6.ext x4;replace b9:=b9.ext x4;have HZ4:=Qa (HZ.o.ext x4);have X4:=Qa (X3.o.trans x4);clear HZ X3 x4 xK;clear w3;by_cases ND:Zk m2 d2=0;case neg =>
  have HE:=Qa (show XL m2 d2 d1.pr pid=Zk m2 d2 from by unfold XL;exact Zy ND _);have HNZ:=Qa ND;generalize Zk m2 d2=cE at *;have hcE:(cE != 0)=true:=by simpa using ND
  clear ND vQ As sI nC vI;go_wp2_with (refine Qr _ _ rfl rfl (G+1+1) QB _ _ rfl rfl b6 rfl ?_;intro w9 bb9 g9)
  refine Jv (Jj rfl _ _ (G+1+1) _ _ _ _ _ rfl rfl rfl bb9 underlying38 rfl J1) rfl ⟨?_,X4.o.grown g9 (λj e=>by cases e;rw[←HG.o];omega)⟩;rw[HO.o];exact .inl ⟨by rw[HE.o];exact HNZ.o,by rw[HE.o];rfl⟩
 have Xc:=Qa (XP.1 ND);have HE:=Qa (show XL m2 d2 d1.pr pid=match Zc d1.pr pid with
  | none=>9
  | some y=>if 8<=d2.pr.length then 6 else if (Jc m2.fr.n d2.pr).length<QL y 16 then 10 else 0 from by unfold XL;rw[ND];exact QY _)
 rw[ND];clear ND;have Tm:z.pr.n<=1000:=by have:=sZ.o.rest.prn;omega
 go_upto_region 8 with(first
  | (refine Qo _ rfl rfl g9 _ _ rfl b9 rfl ?_)
  | (go_at_call 33;refine(sI.o z _ HZ4.o Tm).mono ?_;rintro e w5 ⟨rfl,x5⟩)
  | (refine J0 _ _ rfl rfl w5.heap.size ((Zc d1.pr pid).getD JK) _ 57 rfl rfl (Qs _ _ _) rfl ?_;intro w6 Uq g6))
 have y6:Ext w5 w6:=((Qg w5).alloc _).grown g6 (λj e=>by cases e;exact Q4 _);have X6:=Qa (X4.o.trans (x5.trans y6));have HZ6:=Qa (HZ4.o.ext (x5.trans y6));replace b5:=b5.ext (x5.trans y6);replace b6:=b6.ext (x5.trans y6);replace b9:=b9.ext (x5.trans y6);clear x5 y6 g6 X4 HZ4 sI Tm;generalize w5.heap.size=g12 at *;clear w4 w5
 go_upto_region 9 with(first
  | (refine Qo _ rfl rfl (G+1) _ _ rfl b5 rfl ?_)
  | (go_at_call 34;refine(nC.o _ (H2.o.ext X6.o) Xc.o).mono ?_;rintro e w7 ⟨u,rfl,x7,ow7⟩))
 obtain⟨AF,cF,hu⟩:∃A c,u=.slice A (Jc m2.fr.n d2.pr).length c:=by
  rcases ow7.2 with⟨h1,h2⟩|⟨g,cap,cur,h1,_⟩
  ·exact⟨none,0,by rw[h1,h2]⟩
  ·exact⟨_,_,h1⟩
 subst hu;have AJ:=Qa ow7;have X7:=Qa (X6.o.trans x7);have HZ7:=Qa (HZ6.o.ext x7);replace b5:=b5.ext x7;replace b6:=b6.ext x7;replace b9:=b9.ext x7;replace Uq:=Uq.ext x7;clear ow7 x7 X6 HZ6 nC;cases hlv:Zc d1.pr pid with
 | none =>
  have D0:=Qa (HE.o.trans (by rw[hlv]));rw[hlv]at Uq;clear vQ As vI hlv HE;go_wp2_with (refine Qr _ _ rfl rfl (G+1+1) QB _ _ rfl rfl b6 rfl ?_;intro w9 bb9 g9)
  refine Jv (Jj rfl _ _ (G+1+1) _ _ _ _ _ rfl rfl rfl bb9 underlying38 rfl J1) rfl ⟨?_,X7.o.grown g9 (λj e=>by cases e;rw[←HG.o];omega)⟩;rw[HO.o];exact .inl ⟨by rw[D0.o];decide,by rw[D0.o];rfl⟩
 | some y =>
 have HLV:=Qa hlv;have D0:=Qa (HE.o.trans (by rw[hlv]));rw[hlv]at Uq;replace Uq:Box w7 g12 57 (Qq y).toArray:=Uq;clear hlv HE;have Rn:m2.pr.n=d2.pr.length:=H2.o.pr.1;have k5:w7.cell? ⟨G+1,5,none⟩=some (.slice m2.pr.A m2.pr.n m2.pr.c):=b5.cell 5;by_cases h8:8<=d2.pr.length
 ·have aw:=Qa (D0.o.trans (QN h8));have tv:decide ((8:Int)<=(m2.pr.n:Int))=true:=by simp;omega
  have hli:(some y).isSome=true:=rfl;clear vQ As vI D0 Rn h8;go_wp2_with (refine Qr _ _ rfl rfl (G+1+1) QB _ _ rfl rfl b6 rfl ?_;intro w9 bb9 g9)
  refine Jv (Jj rfl _ _ (G+1+1) _ _ _ _ _ rfl rfl rfl bb9 underlying38 rfl J1) rfl ⟨?_,X7.o.grown g9 (λj e=>by cases e;rw[←HG.o];omega)⟩;rw[HO.o];exact .inl ⟨by rw[aw.o];decide,by rw[aw.o];rfl⟩
 have tv:decide ((8:Int)<=(m2.pr.n:Int))=false:=by simp;omega
 have H8:=Qa (show d2.pr.length<8 by omega);have aw:=Qa (D0.o.trans (QD h8));clear Rn h8 D0;by_cases hfp:(Jc m2.fr.n d2.pr).length<QL y 16
 ·have xO:=Qa (aw.o.trans (QN hfp));have jX:decide (((Jc m2.fr.n d2.pr).length:Int)<(QL y 16:Int))=true:=by simp;omega
  clear vQ vI aw
  go_wp2_with (first
   | (refine Zs _ rfl rfl g12 57 y rfl Uq ?_)
   | (go_at_call 35;refine(As.o y _).mono ?_;rintro e w8 ⟨rfl,x8⟩;replace b6:=b6.ext x8)
   | (refine Qr _ _ rfl rfl (G+1+1) QB _ _ rfl rfl b6 rfl ?_;intro w9 bb9 g9))
  refine Jv (Jj rfl _ _ (G+1+1) _ _ _ _ _ rfl rfl rfl bb9 underlying38 rfl J1) rfl ⟨?_,(X7.o.trans x8).grown g9 (λj e=>by cases e;rw[←HG.o];omega)⟩;rw[HO.o];exact .inl ⟨by rw[xO.o];decide,by rw[xO.o];rfl⟩
 have jX:decide (((Jc m2.fr.n d2.pr).length:Int)<(QL y 16:Int))=false:=by simp;omega
 have ol:decide ((Jc m2.fr.n d2.pr).length<QL y 16)=false:=by simp;omega
 have DS:=Qa (show QL y 16<=(Jc m2.fr.n d2.pr).length by omega);clear hfp aw
 go_upto_region 15 with(first
  | (refine Zs _ rfl rfl g12 57 y rfl Uq ?_)
  | (go_at_call 35;refine(As.o y _).mono ?_;rintro e w8 ⟨rfl,x8⟩))
 have X8:=Qa (X7.o.trans x8);have HZ8:=Qa (HZ7.o.ext x8);have Qg8:=Qa (Qc AJ.o x8);replace b5:=b5.ext x8;replace b6:=b6.ext x8;replace b9:=b9.ext x8;replace Uq:=Uq.ext x8;clear x8 As HZ7 X7 AJ k5 tv jX ol
 go_upto_region 16 with(first
  | (refine Qo _ rfl rfl (G+1) _ _ rfl b5 rfl ?_)
  | (go_at_call 36;refine(vI.o _ (H2.o.ext X8.o)).mono ?_;rintro e w9 ⟨fr,pr,pi,bl,pe,di,rfl,x9,ho9⟩)
  | (refine Qr _ _ rfl rfl w9.heap.size (m2.with fr pr pi bl pe di) _ _ rfl rfl (Qs _ _ _) rfl ?_;intro gP b15 g15))
 have fX:Ext w8 gP:=(x9.alloc _).grown g15 (λj e=>by cases e;exact x9.size);have yU:=Qa ((ho9.ext ((Qg w9).alloc _)).grown (by decide) (Qs _ _ _) g15);have a8:=Qa ho9.low;have Qa2:w8.heap.size<=w9.heap.size:=x9.size;have b5A:=b5.ext fX;have b9A:=b9.ext fX;have iZ:=Uq.ext fX;have sY:=Qa (HZ8.o.ext fX);have Qin:=Qa fX;have wt:=Qa ((H2.o.ext X8.o).ext fX);have Rq:=Qa (show m2.fr.n=d2.fr.length from H2.o.fr.1);clear ho9 x9 g15 fX vI H2;generalize w9.heap.size=g15 at *;clear w9;obtain⟨F,hF⟩:∃F,F=Ft d1 d2 I1 I2 y:=⟨_,rfl⟩
 have yY:=Qa (λw h1 h2=>show Calls prog 37 #[.agg z.cells,.agg m2.cells,.agg (Jf y).toArray] w λe w'=>e=.returned (.agg (Jf (RF F 8)).toArray)/\Ext w w' from by rw[hF];exact vQ.o z y w h1 h2);have EI:=Qa hF;clear vQ hF;obtain⟨free,U0⟩:∃free,free=Jc m2.fr.n d2.pr:=⟨_,rfl⟩
 have KS:=Qa U0;clear U0;simp only[Act.put];refine Ya 13 [[],[0],[],[2],[],[4],[],[],[],[8],[6,7,9],[1,3,5,10],[]] (TT [Ka (.pointer (some ⟨g15,6,none⟩)),Ka (.int .i64 m2.next),Ka (.pointer (some ⟨g12,3,none⟩)),Ka (.agg (Cs y).toArray),Ka (.pointer (some ⟨g12,92,none⟩)),Ka (.bool y.mask),Ka (.agg z.cells),Ka (.agg m2.cells),Ka (.pointer (some ⟨g12,68,none⟩)),Ka (.agg (Jf y).toArray),Ka (.agg (Jf (RF F 8)).toArray),Ka (.agg (Qq (JI y m2.next free F 0)).toArray),pT gP.heap.size 57 (Qq JK).toArray]) (by kernel_rfl) (by kernel_rfl) (WZ (λp hp=>by simp only[Pm,Rw,Fe]at hp;rcases hp with rfl|rfl|rfl|rfl|rfl|rfl|rfl|rfl|rfl|rfl|rfl|rfl|rfl<;>first|exact TR _|exact RR _ _ _)) (λus=>?_);simp only[KG,KI,UY,KJ];rw[Qu];refine ZU (λw' hx hd=>?_) ?_
 ·clear hd;refine Qp 62 rfl (by simp) rfl ?_;go_wp2_with fail;exact⟨Qg _,rfl⟩
 simp only[S_];rw[Qu];refine ZU (λw' hx hd=>?_) ?_
 ·have h0:=hd 0 (by simp);clear hd;generalize us 0=u0 at *;obtain rfl:u0=.pointer (some ⟨g15,6,none⟩):=h0;have q6:w'.cell? ⟨g15,6,none⟩=some (.int .i64 m2.next):=(b15.ext hx).cell 6;refine Qp 63 rfl (by simp[Act.put]) rfl ?_;go_wp2_with fail;exact⟨Qg _,rfl⟩
 simp only[S_];rw[Qu];refine ZU (λw' hx hd=>?_) ?_
 ·clear hd;refine Qp 64 rfl (by simp[Act.put]) rfl ?_;go_wp2_with fail;exact⟨Qg _,rfl⟩
 simp only[S_];rw[Qu];refine ZU (λw' hx hd=>?_) ?_
 ·have h2:=hd 2 (by simp);clear hd;generalize us 2=u2 at *;obtain rfl:u2=.pointer (some ⟨g12,3,none⟩):=h2;refine Qp 65 rfl (by simp[Act.put]) rfl ?_;go_wp2_with (refine fU _ rfl rfl g12 57 y rfl (iZ.ext hx) ?_)
  exact⟨Qg _,rfl⟩
 simp only[S_];rw[Qu];refine ZU (λw' hx hd=>?_) ?_
 ·clear hd;refine Qp 66 rfl (by simp[Act.put]) rfl ?_;go_wp2_with fail;exact⟨Qg _,rfl⟩
 simp only[S_];rw[Qu];refine ZU (λw' hx hd=>?_) ?_
 ·have h4:=hd 4 (by simp);clear hd;generalize us 4=u4 at *;obtain rfl:u4=.pointer (some ⟨g12,92,none⟩):=h4;have q92:w'.cell? ⟨g12,92,none⟩=some (.bool y.mask):=((iZ.ext hx).cell 92).trans (kV y);refine Qp 67 rfl (by simp[Act.put]) rfl ?_;go_wp2_with fail;exact⟨Qg _,rfl⟩
 simp only[S_];rw[Qu];refine ZU (λw' hx hd=>?_) ?_
 ·clear hd;refine Qp 68 rfl (by simp[Act.put]) rfl ?_;go_wp2_with (refine Qo _ rfl rfl g9 _ _ rfl (b9A.ext hx) rfl ?_)
  exact⟨Qg _,rfl⟩
 simp only[S_];rw[Qu];refine ZU (λw' hx hd=>?_) ?_
 ·clear hd;refine Qp 69 rfl (by simp[Act.put]) rfl ?_;go_wp2_with (refine Qo _ rfl rfl (G+1) _ _ rfl (b5A.ext hx) rfl ?_)
  exact⟨Qg _,rfl⟩
 simp only[S_];rw[Qu];refine ZU (λw' hx hd=>?_) ?_
 ·clear hd;refine Qp 70 rfl (by simp[Act.put]) rfl ?_;go_wp2_with fail;exact⟨Qg _,rfl⟩
 simp only[S_];rw[Qu];refine ZU (λw' hx hd=>?_) ?_
 ·have h8:=hd 8 (by simp);clear hd;generalize us 8=u8 at *;obtain rfl:u8=.pointer (some ⟨g12,68,none⟩):=h8;refine Qp 71 rfl (by simp[Act.put]) rfl ?_;go_wp2_with (refine V3 _ rfl rfl g12 57 y rfl (iZ.ext hx) ?_)
  exact⟨Qg _,rfl⟩
 simp only[S_];rw[Qu];refine ZU (λw' hx hd=>?_) ?_
 ·have h6:=hd 6 (by simp);have h7:=hd 7 (by simp);have h9:=hd 9 (by simp);clear hd;generalize us 6=u6 at *;generalize us 7=u7 at *;generalize us 9=u9 at *;obtain rfl:u6=.agg z.cells:=h6;obtain rfl:u7=.agg m2.cells:=h7;obtain rfl:u9=.agg (Jf y).toArray:=h9;refine Qp 72 rfl (by simp[Act.put]) rfl ?_;go_wp2_with (go_at_call 37;refine(yY.o _ (sY.o.ext hx) (wt.o.ext hx)).mono ?_;rintro e w2 ⟨rfl,x2⟩)
  first|exact⟨x2,rfl⟩|exact rfl
 simp only[S_];rw[Qu];refine ZU (λw' hx hd=>?_) ?_
 ·have h1:=hd 1 (by simp);have h3:=hd 3 (by simp);have h5:=hd 5 (by simp);have GL:=hd 10 (by simp);clear hd;generalize us 1=u1 at *;generalize us 3=u3 at *;generalize us 5=u5 at *;generalize us 10=u10 at *;obtain rfl:u1=.int .i64 m2.next:=h1;obtain rfl:u3=.agg (Cs y).toArray:=h3;obtain rfl:u5=.bool y.mask:=h5;obtain rfl:u10=.agg (Jf (RF F 8)).toArray:=GL;refine Qp 73 rfl (by simp[Act.put]) rfl ?_;go_wp2_with (refine Al (.tmp 63) (.tmp 65) (.tmp 67) (.tmp 72) y m2.next free F rfl rfl rfl rfl rfl rfl ?_)
  exact⟨Qg _,rfl⟩
 simp only[S_];rw[Qu];refine ZU (λw' hx hd=>?_) ?_
 ·clear hd;refine Qp 16 rfl (by simp[Act.put]) rfl ?_;go_wp2_with fail;exact⟨(Qg w').alloc _,_,rfl,hx.size,Qs _ _ _⟩
 simp only[S_];rw[Qu];intro w' hx hv;have oY:=hv 11 (by omega);have Sw:=hv 12 (by omega);clear hv;generalize us 1=u1 at *;generalize us 3=u3 at *;generalize us 4=u4 at *;generalize us 11=u11 at *;generalize us 12=u12 at *;obtain rfl:u11=.agg (Qq (JI y m2.next free F 0)).toArray:=oY;obtain⟨g16,rfl,hg16,b16⟩:=Sw;go_upto_region 17 with(refine J0 _ _ rfl rfl g16 (JI y m2.next free F 0) _ 57 rfl rfl b16 rfl ?_;intro wg b16n k16)
 have ti:=cw k16;have Qbj:g15<gP.heap.size:=b15.lt;have hxz:=hx.size;have wj:Ext gP wg:=ti.past hx hg16;have tK:=ti.box (b15.ext hx) (show g15≠g16 by omega);have HOL:=Qa ((yU.o.ext hx).but a8.o (show g15<=g16 by omega) ti);have Qja:=iZ.ext wj;have b9w:=b9;have zG:=Qa (sY.o.ext wj);have HXL:=Qa (Qin.o.trans wj);have b6L:=b6.ext HXL.o;have Qnz:g15<g16:=by omega
 clear ti k16 b16 hx wj b5 b5A b9A iZ Uq hxz Qbj hg16 b15 yU sY wt yY;obtain⟨hLc,gb,hgb⟩:=Lf Qg8.o rfl;have xt:=Qa hgb;have Qg9:=Qa (show QL y 16<=(Jc m2.fr.n d2.pr).length from DS.o);have hmx:=hLc.2;have oe:(Jc m2.fr.n d2.pr).length<=64:=YR (TG _ _) Xc.o.rest.frn.2;have gY:=Qa (λc (hc:c<(Jc m2.fr.n d2.pr).length)=>Le (n:=m2.fr.n) (l:=d2.pr) hc);rw[←KS.o]at hLc oe ⊢;have gc:=Qa (show 0<free.length->AF=some ⟨gb,0,none⟩/\∀i,i<free.length->w8.cell? ⟨gb,i,none⟩=some (.int .i64 ((free.getD i 0:Nat):Int)) fromλh=>by have hq:=xt.o;rw[←KS.o]at hq;exact hq h);have mz:=Qa (show∀c,c<free.length->free.getD c 0<m2.fr.n fromλc hc=>by have hq:=gY.o;rw[←KS.o]at hq;exact(hq c hc).1);have mt:=Qa (show QL y 16<=free.length from by rw[KS.o];exact DS.o);clear hgb xt gY Qg9;unfold maxLen at hmx;have nL:=Qa (λj hj=>((sZ.o.proc (UH HLV.o).1).page j hj));obtain⟨mr,hmr⟩:∃mr,mr=m2.with fr pr pi bl pe di:=⟨_,rfl⟩
 rw[←hmr]at tK HOL a8;have HMR:=Qa hmr;clear hmr;go_upto_region 18 with(refine Zs _ rfl rfl g12 57 y rfl Qja ?_)
 go_loopw [14,76] (λu i wx=>∃j:Nat,j<=16/\i=.int .i64 j/\(∃A',u=.slice A' (free.length-QL y j) (cF-QL y j)/\(QL y j<free.length->A'=some ⟨gb,QL y j,none⟩))/\Ext w8 wx/\Zf wx w8.heap.size mr { d2 with fr:=NB d1.fr y free d2.fr j }/\Box wx g16 57 (Qq (JI y m2.next free F j)).toArray/\Box wx g15 38 mr.cells) (λ_ i _=>16-(intOf i).toNat);case atStart=>exact⟨0,by omega,rfl,⟨AF,rfl,λh=>(gc.o h).1⟩,HXL.o,HOL.o,b16n,tK⟩
 case round =>
  clear b16n tK HOL HXL;obtain⟨j,hj,rfl,⟨A',rfl,hA'⟩,xj,Zb,b16,b15⟩:=hrel;have Wc:=Qa Zb;have HA':=Qa hA';clear Zb hA';by_cases Qn:j<16
  ·have Kp:(j:Int)<16:=by omega
   have Ma:=nL.o j Qn;go_upto_region 20 with(refine ZV (.tmp 75) (.tmp 76) rfl rfl y j rfl rfl Qn ?_)
   have Y1:y.pis j=false\/(y.pis j=true/\∃pf:Nat,y.pfr j=(pf:Int)/\pf<z.fr.n):=by
    rcases Ma with⟨h1,_⟩|⟨h1,_,h3,h4,_⟩
    ·exact .inl h1
    ·exact .inr ⟨h1,(y.pfr j).toNat,by omega,by omega⟩
   clear Ma;rcases Y1 with hp|⟨hp,pf,mh,XS⟩
   ·have XH:=Qa (LJ (next:=m2.next) (free:=free) (F:=F) hp);have qf:=Qa (show NB d1.fr y free d2.fr (j+1)=NB d1.fr y free d2.fr j from by rw[NB,QD (by rw[hp];decide)]);have gx:=Qa (show QL y (j+1)=QL y j from by rw[QL,QD (by rw[hp];decide)];rfl);rw[hp];have xq:=(Qg wr).alloc (.cells #[.bool false,.bool (y.pwr j),.int .i64 (y.pfr j)] 50);have bq:=Qs wr 50 #[.bool false,.bool (y.pwr j),.int .i64 (y.pfr j)];generalize wr.alloc (.cells #[.bool false,.bool (y.pwr j),.int .i64 (y.pfr j)] 50)=wq at *;have q0:wq.cell? ⟨wr.heap.size,0,none⟩=some (.bool false):=bq.cell 0;clear hp;go_wp2_with fail;go_roundw;case rel=>exact⟨j+1,by omega,by go_num,⟨A',by rw[gx.o],by rw[gx.o];exact HA'.o⟩,xj.trans xq,by rw[qf.o];exact Wc.o.ext xq,by rw[←XH.o];exact b16.ext xq,b15.ext xq⟩
    case measure=>simp[intOf];omega
   ·have hc:QL y j<free.length:=Ca (M2 Qn hp) mt.o;have ff:=Qa (show Mc (Qq (JI y m2.next free F j)).toArray (20+j*3) [.bool true,.bool (y.pwr j),.int .i64 ((free.getD (QL y j) 0:Nat):Int)]=(Qq (JI y m2.next free F (j+1))).toArray from by rw[BC _ j Qn,LI hp]);have sN:=Qa (show NB d1.fr y free d2.fr (j+1)=(NB d1.fr y free d2.fr j).set (free.getD (QL y j) 0) (d1.fr.getD pf []) from by rw[NB,QN hp,mh,mU]);have qa:=Qa (show QL y (j+1)=QL y j+1 from by rw[QL,QN hp]);obtain⟨hAF,hfc⟩:=gc.o (by omega);have me:=HA'.o hc;subst me;have kf:=hfc _ hc;have hff:=mz.o _ hc;obtain⟨AE,Da⟩:=HZ8.o.fr.strs;obtain⟨bz,oz,hzA,hzc⟩:=Da (by omega);have kz:w8.cell? ⟨bz,oz+pf,none⟩=some (.string (Qb (d1.fr.getD pf []))):=by
     rw[Yb,ZX (by omega)];exact hzc pf (by omega)
    have hmn:mr.fr.n=m2.fr.n:=by have h1:=Wc.o.frn;rw[Uy]at h1;rw[h1,Rq.o]
    obtain⟨gfr,capf,hgfr,hgfb⟩:=Uj Wc.o.fr (show 0<mr.fr.n by omega);injection hgfr with rP _ hgc;have ot:gfr<g15:=by
     rcases Nat.lt_or_ge gfr g15 with h|h
     ·exact h
     ·exact absurd (show(Value.slice mr.fr.A mr.fr.n mr.fr.c).ownBlock=some gfr by rw[rP];rfl) (a8.o gfr h).1
    have HGA:=Qa rP;have HZA:=Qa hzA;clear hAF hfc AE Da hzc hgc;rw[hp,mh];generalize hsr:d1.fr.getD pf []=sr at *;generalize hfe:free.getD (QL y j) 0=f at *;generalize hce:QL y j=c at *;generalize y.pwr j=iw at *;clear hsr hp mh rP hzA;have ga:=Qa hfe;have gX:=Qa hce;clear hfe hce;have xq:=(Qg wr).alloc (.cells #[.bool true,.bool iw,.int .i64 (pf:Int)] 50);have bq:=Qs wr 50 #[.bool true,.bool iw,.int .i64 (pf:Int)];generalize wr.alloc (.cells #[.bool true,.bool iw,.int .i64 (pf:Int)] 50)=wq at *;have q0:wq.cell? ⟨wr.heap.size,0,none⟩=some (.bool true):=bq.cell 0;have xjq:=xj.trans xq;have tL:=b15.ext xq;have zm:=b16.ext xq;have qz:Box wq g9 38 z.cells:=b9w.ext xjq;have L4:∀v:Qt wq,v.now.cell? ⟨g15,4,none⟩=some (.slice (some ⟨gfr,0,none⟩) mr.fr.n mr.fr.c):=λv=>by rw[←HGA.o];exact(tL.ext v.ext).cell 4
    have Lg:∀v:Qt wq,v.now.cell? ⟨gb,c,none⟩=some (.int .i64 (f:Int)):=λv=>(xjq.trans v.ext).keep kf;have L9:∀v:Qt wq,v.now.cell? ⟨g9,4,none⟩=some (.slice (some ⟨bz,oz,none⟩) z.fr.n z.fr.c):=λv=>by rw[←HZA.o];exact(qz.ext v.ext).cell 4
    have sa:∀v:Qt wq,v.now.cell? ⟨wr.heap.size,2,none⟩=some (.int .i64 (pf:Int)):=λv=>(bq.ext v.ext).cell 2;have Lz:∀v:Qt wq,v.now.cell? ⟨bz,oz+pf,none⟩=some (.string (Qb sr)):=λv=>(xjq.trans v.ext).keep kz;have n1:(pf:Int)<(z.fr.n:Int):=by omega
    have n2:(0:Int)<((free.length-c:Nat):Int):=by omega
    have n3:(f:Int)<(mr.fr.n:Int):=by omega
    go_upto_region 21 with fail;try simp only[Act.put]
    refine Ja 12 (by kernel_rfl) (by kernel_rfl) ?_;simp only[KG,KI,UY,KJ];repeat (go_big_quiet_step (fail))
    refine VI ?_;rintro wv' ⟨v,rfl⟩;have bD:=Qa (Wc.o.ext (xq.trans v.ext));have pW:=bD.o.fr;rw[TF,HGA.o]at pW;have jW:=Uy d1.fr y free d2.fr j;have DW:f<(NB d1.fr y free d2.fr j).length:=by rw[jW,←Rq.o];omega
    have kc:v.now.cell? ⟨gfr,f,none⟩=some (.string (Qb ((NB d1.fr y free d2.fr j).getD f []))):=(pW.cellAt f (by omega)).trans (by
     show(Q5 (NB d1.fr y free d2.fr j))[f]? =_;simp[Q5,DW,Yb])
    have kfz:=pW.frozenAt f;have xv:=Qa (xjq.trans v.ext);have bqv:=bq.ext v.ext;have zi:=tL.ext v.ext;have zo:=zm.ext v.ext;have h18:g16<wr.heap.size:=b16.lt;clear pW jW DW L4 Lg L9 sa Lz n1 n3 bq tL zm qz xjq q0 b15 b16 Wc;generalize v.now=wv at *;go_upto_region 22 with fail;have yW:=Qa (bD.o.setFr (i:=f) HGA.o sr);have dS:=(But.refl gfr wv).setCell f (.string (Qb sr));have zh:=dS.box zi (show g15≠gfr by omega);have zn:=dS.box zo (show g16≠gfr by omega);have bqs:=dS.box bqv (show wr.heap.size≠gfr by omega);have xs:Ext w8 (wv.setCell ⟨gfr,f,none⟩ (.string (Qb sr))):=xv.o.setCell hgfb _;generalize wv.setCell ⟨gfr,f,none⟩ (.string (Qb sr))=ws at *;clear dS kc kfz xv bqv zi zo bD;have Lg:∀v:Qt ws,v.now.cell? ⟨gb,c,none⟩=some (.int .i64 (f:Int)):=λv=>(xs.trans v.ext).keep kf;have sa:∀v:Qt ws,v.now.cell? ⟨wr.heap.size,1,none⟩=some (.bool iw):=λv=>(bqs.ext v.ext).cell 1;try simp only[Act.put]
    refine Ja 9 (by kernel_rfl) (by kernel_rfl) ?_;simp only[KG,KI,UY,KJ];repeat (go_big_quiet_step (fail))
    refine VI ?_;rintro wv' ⟨v,rfl⟩;have zr:=zn.ext v.ext;have zj:=zh.ext v.ext;have yX:=Qa (yW.o.ext v.ext);have xy:=Qa (xs.trans v.ext);clear Lg sa bqs zh zn yW xs;generalize v.now=wy at *;go_upto_region 24 with(refine Yg 50 (.tmp 103) (.tmp 101) rfl rfl g16 (20+j*3) [.bool true,.bool iw,.int .i64 (f:Int)] _ (Qq (JI y m2.next free F (j+1))).toArray 57 rfl rfl (aY _ _ _) Kz zr (by show 20+j*3+3<=96;omega) ff.o ?_;intro wn b16n dn)
    have GC:=dn.box zj (show g15≠g16 by omega);have yV:=Qa (yX.o.but a8.o (show g15<=g16 by omega) dn);have xn:=dn.past xy.o (show w8.heap.size<=g16 by omega);have hcF:free.length<=cF:=hLc.1;clear yX xy dn zj zr;go_wp2_with fail;go_roundw;case rel=>exact⟨j+1,by omega,by go_num,⟨_,by rw[qa.o,Nat.sub_add_eq,Nat.sub_add_eq],λh=>by rw[qa.o]at h ⊢;rw[QD (by omega)]⟩,xn,by rw[sN.o];exact yV.o,b16n,GC⟩
    case measure=>simp[intOf];omega
  ·obtain rfl:j=16:=by omega
   have q5:wr.cell? ⟨g15,5,none⟩=some (.slice mr.pr.A mr.pr.n mr.pr.c):=b15.cell 5;obtain⟨q,hq⟩:∃q,q=JI y m2.next free F 16:=⟨_,rfl⟩
   rw[←hq]at b16;have HQ:=Qa hq;clear hq;have xA:=(Qg wr).alloc (.cells (Qq q).toArray 57);have kL:=Qc Wc.o.pr xA;have Qcb:w8.heap.size<=(wr.alloc (.cells (Qq q).toArray 57)).heap.size:=(xj.trans xA).size;have K8:mr.pr.n<=1000000000:=by have h1:mr.pr.n=d2.pr.length:=Wc.o.prn;have:=H8.o;omega
   have zg:=b15.ext xA
   go_upto_region 26 with(first
    | (refine QT (.tmp 16) rfl rfl g16 0 q rfl (Je b16) ?_;simp only[S_])
    | (refine Vk (.tmp 109) rfl rfl q rfl ?_;simp only[S_])
    | (at_builtin;refine Kk (u:=.slice mr.pr.A mr.pr.n mr.pr.c) (Qq q) underlying32 N7 (by decide) ?_ (Q2 q) (Ky q) (by decide) ?_ (.tmp 108) (.tmp 110) ?_ ?_ ?_ kL (Qs _ _ _) K8 Qcb ?_;(· rfl);(· rfl);(· rfl);(· rfl);(· rfl);intro u9 w9 o9 k9;obtain⟨s9,hu9,hn9,_⟩:=Dn o9;subst hu9;have HN9:=Qa hn9;clear hn9;have GC:=zg.grown k9 (λe=>(a8.o g15 (Q4 _)).2.1 e.symm))
    | (refine QJ 32 (.tmp 112) (.tmp 111) rfl rfl g15 5 (.slice s9.A s9.n s9.c) _ ({ mr with pr:=s9 }:QO).cells 38 rfl rfl rfl B9 GC (show 5<17 by decide) rfl ?_;intro wA bA dA))
   have zk:=dA.box ((b16.ext xA).grown k9 (λe=>(a8.o g16 (by omega)).2.1 e.symm)) (show g16≠g15 by omega);have xB:=dA.past ((xj.trans xA).grown k9 (λk e=>QU kL e)) Qa2
   have D5:=Qa (show Zf wA w8.heap.size ({ mr with pr:=s9 }:QO) { d2 with fr:=NB d1.fr y free d2.fr 16,pr:=d2.pr++[q] } from
    ⟨Qi (Zz (Qc Wc.o.fr xA) kL (by decide) k9) dA GC (by decide),
     by have h1:=Qi o9 dA GC (by decide);rw[AU,show[q].flatMap Qq=Qq q by simp];show wA.ownsRow _ _ _ (.slice s9.A s9.n s9.c) s9.n _;have hn:=HN9.o;rw[hn]at h1 ⊢;exact h1,
     Qi (Zz (Qc Wc.o.pi xA) kL (by decide) k9) dA GC (by decide),Qi (Zz (Qc Wc.o.bl xA) kL (by decide) k9) dA GC (by decide),Qi (Zz (Qc Wc.o.pe xA) kL (by decide) k9) dA GC (by decide),Qi (Zz (Qc Wc.o.di xA) kL (by decide) k9) dA GC (by decide),
     Wc.o.frn,by show s9.n=(d2.pr++[q]).length;rw[HN9.o,VL,show mr.pr.n=d2.pr.length from Wc.o.prn];rfl,Wc.o.pin,Wc.o.bln,Wc.o.pen,Wc.o.din,Wc.o.apart⟩)
   clear b15 b16 zg GC kL Qcb K8 o9 k9 dA xA xj q5 Wc;have Qbn:mr.next=m2.next:=by rw[HMR.o];rfl
   have hnx:=Xc.o.rest.nums.next;have hwr:IntKind.i64.wrap (mr.next+1)=mr.next+1:=by rw[Wb];omega
   have q6:wA.cell? ⟨g15,6,none⟩=some (.int .i64 mr.next):=bA.cell 6;have D4:=Qa Qbn;clear Qbn hnx;go_upto_region 27 with(refine QJ 3 (.tmp 116) (.tmp 115) rfl rfl g15 6 (.int .i64 (mr.next+1)) _ ({ mr with pr:=s9,next:=mr.next+1 }:QO).cells 38 rfl rfl rfl YT bA (show 6<17 by decide) rfl ?_;intro wB bB dB)
   have zl:=dB.box zk (show g16≠g15 by omega);have xC:=dB.past xB Qa2
   have HOB:=Qa (show Zf wB w8.heap.size ({ mr with pr:=s9,next:=mr.next+1 }:QO) { d2 with fr:=NB d1.fr y free d2.fr 16,pr:=d2.pr++[q] } from
    ⟨Qi D5.o.fr dB bA (by decide),Qi D5.o.pr dB bA (by decide),Qi D5.o.pi dB bA (by decide),Qi D5.o.bl dB bA (by decide),Qi D5.o.pe dB bA (by decide),Qi D5.o.di dB bA (by decide),D5.o.frn,D5.o.prn,D5.o.pin,D5.o.bln,D5.o.pen,D5.o.din,D5.o.apart⟩)
   have qx:=b6.ext xC;clear bA zk xB D5 dB q6 hwr;have hm3:Zv { ({ mr with pr:=s9,next:=mr.next+1 }:QO) with next:=m2.next } m2:=by rw[HMR.o];exact⟨rfl,rfl,rfl,rfl,rfl,rfl,rfl,rfl,rfl,rfl,rfl⟩
   have hm4:({ mr with pr:=s9,next:=mr.next+1 }:QO).next=m2.next+1:=by show mr.next+1=_;rw[D4.o]
   have yH:=Qa hm3;have sJ:=Qa hm4;clear hm3 hm4;generalize ({ mr with pr:=s9,next:=mr.next+1 }:QO)=m3 at *;have xd:Ext wB wB.drew:=(Qg wB).drew;have bBd:=bB.ext xd;have nr:=qx.ext xd;have nj:=zl.ext xd;have q0d:wB.drew.cell? ⟨g16,0,none⟩=some (.int .i64 q.pid):=nj.cell 0;have hGg:G+1+1<w8.heap.size:=b6.lt;have HOd:=Qa (HOB.o.ext xd);have xf:=Qa ((X8.o.trans xC).trans xd);clear xC bB qx zl HOB xd;refine iS (by kernel_rfl) ?_;change wpAny _ _ _ _ _ _ _ (World.drew _);refine OO (i:=1) (v:=.pointer (some ⟨g16,0,none⟩)) rfl (by kernel_rfl) (by kernel_rfl) (by kernel_rfl) (λ_ _ _ h=>h) (MU ⟨by rfl,?_⟩) ?_
   ·intro w;go_simp
   refine Vf (rs:=[0,2]) (by kernel_rfl) (by simp) ?_;refine YZ rfl (λK hK=>?_) (YZ rfl (λK hK=>?_) Vh)
   ·refine tB 38 (.tmp 15) rfl g15 rfl 38 m3.cells (0,0) _ bBd underlying38 rfl Vi (hK _ _ ?_);clear hK K;refine Vf (rs:=[2,3]) (by kernel_rfl) (by simp) ?_;refine YZ rfl (λK hK=>?_) (YZ rfl (λK hK=>?_) Vh)
    ·go_simp;refine hK _ _ ?_;clear hK K;refine Vf (rs:=[3]) (by kernel_rfl) (by simp) ?_;refine YZ rfl (λK hK=>?_) Vh;refine iT 38 (.tmp 6) (.tmp 117) rfl (G+1+1) m3.cells rfl rfl 38 _ nr Vi rfl (TU m3) (hK _ _ ?_);clear hK K;have bz:Box (wB.drew.setRow (G+1+1) m3.cells) (G+1+1) 38 m3.cells:=Zh nr;have gz:=Jp wB.drew (G+1+1) m3.cells;have q0z:(wB.drew.setRow (G+1+1) m3.cells).cell? ⟨g16,0,none⟩=some (.int .i64 q.pid):=(nj.grown gz (λe=>by injection e with e;omega)).cell 0;generalize wB.drew.setRow (G+1+1) m3.cells=wz at *;refine Vf (rs:=[4]) (by kernel_rfl) (by simp) ?_;refine YZ rfl (λK hK=>?_) Vh;go_simp;refine hK _ _ ?_;clear hK K;refine Vf (rs:=[5]) (by kernel_rfl) (by simp) ?_;refine YZ rfl (λK hK=>?_) Vh;go_simp;refine hK _ _ ?_;clear hK K;refine bU (by kernel_rfl) ?_ _;go_wp2_with fail;refine Jv (Jj rfl _ _ (G+1+1) _ _ _ _ _ rfl rfl rfl bz underlying38 rfl J1) rfl ⟨?_,xf.o.grown gz (λj e=>by cases e;rw[←HG.o];omega)⟩;rw[HO.o];refine .inr ⟨y,Xc.o,HLV.o,H8.o,DS.o,m3,by rw[HQ.o];rfl,?_,yH.o,sJ.o⟩;have CK:=(HOd.o.grown (by decide) nr gz).base0;rw[Uu,←KS.o,←EI.o,←HQ.o];exact CK
    ·refine iT 38 (.tmp 6) (.tmp 117) rfl (G+1+1) m3.cells rfl rfl 38 _ nr Vi rfl (TU m3) (hK _ _ ?_);clear hK K;have bz:Box (wB.drew.setRow (G+1+1) m3.cells) (G+1+1) 38 m3.cells:=Zh nr;have gz:=Jp wB.drew (G+1+1) m3.cells;have q0z:(wB.drew.setRow (G+1+1) m3.cells).cell? ⟨g16,0,none⟩=some (.int .i64 q.pid):=(nj.grown gz (λe=>by injection e with e;omega)).cell 0;generalize wB.drew.setRow (G+1+1) m3.cells=wz at *;refine Vf (rs:=[2]) (by kernel_rfl) (by simp) ?_;refine YZ rfl (λK hK=>?_) Vh;go_simp;refine hK _ _ ?_;clear hK K;refine Vf (rs:=[4]) (by kernel_rfl) (by simp) ?_;refine YZ rfl (λK hK=>?_) Vh;go_simp;refine hK _ _ ?_;clear hK K;refine Vf (rs:=[5]) (by kernel_rfl) (by simp) ?_;refine YZ rfl (λK hK=>?_) Vh;go_simp;refine hK _ _ ?_;clear hK K;refine bU (by kernel_rfl) ?_ _;go_wp2_with fail;refine Jv (Jj rfl _ _ (G+1+1) _ _ _ _ _ rfl rfl rfl bz underlying38 rfl J1) rfl ⟨?_,xf.o.grown gz (λj e=>by cases e;rw[←HG.o];omega)⟩;rw[HO.o];refine .inr ⟨y,Xc.o,HLV.o,H8.o,DS.o,m3,by rw[HQ.o];rfl,?_,yH.o,sJ.o⟩;have CK:=(HOd.o.grown (by decide) nr gz).base0;rw[Uu,←KS.o,←EI.o,←HQ.o];exact CK
   ·go_simp;refine hK _ _ ?_;clear hK K;refine Vf (rs:=[0]) (by kernel_rfl) (by simp) ?_;refine YZ rfl (λK hK=>?_) Vh;refine tB 38 (.tmp 15) rfl g15 rfl 38 m3.cells (0,0) _ bBd underlying38 rfl Vi (hK _ _ ?_);clear hK K;refine Vf (rs:=[3]) (by kernel_rfl) (by simp) ?_;refine YZ rfl (λK hK=>?_) Vh;refine iT 38 (.tmp 6) (.tmp 117) rfl (G+1+1) m3.cells rfl rfl 38 _ nr Vi rfl (TU m3) (hK _ _ ?_);clear hK K;have bz:Box (wB.drew.setRow (G+1+1) m3.cells) (G+1+1) 38 m3.cells:=Zh nr;have gz:=Jp wB.drew (G+1+1) m3.cells;have q0z:(wB.drew.setRow (G+1+1) m3.cells).cell? ⟨g16,0,none⟩=some (.int .i64 q.pid):=(nj.grown gz (λe=>by injection e with e;omega)).cell 0;generalize wB.drew.setRow (G+1+1) m3.cells=wz at *;refine Vf (rs:=[4]) (by kernel_rfl) (by simp) ?_;refine YZ rfl (λK hK=>?_) Vh;go_simp;refine hK _ _ ?_;clear hK K;refine Vf (rs:=[5]) (by kernel_rfl) (by simp) ?_;refine YZ rfl (λK hK=>?_) Vh;go_simp;refine hK _ _ ?_;clear hK K;refine bU (by kernel_rfl) ?_ _;go_wp2_with fail;refine Jv (Jj rfl _ _ (G+1+1) _ _ _ _ _ rfl rfl rfl bz underlying38 rfl J1) rfl ⟨?_,xf.o.grown gz (λj e=>by cases e;rw[←HG.o];omega)⟩;rw[HO.o];refine .inr ⟨y,Xc.o,HLV.o,H8.o,DS.o,m3,by rw[HQ.o];rfl,?_,yH.o,sJ.o⟩;have CK:=(HOd.o.grown (by decide) nr gz).base0;rw[Uu,←KS.o,←EI.o,←HQ.o];exact CK
theorem Cz {v:List (List UInt8)}{I:Option Int}{p:List UInt8}(hg:ZW v I) (h:(Yz v I p).2=0):1<=(Yz v I p).1/\(Yz v I p).1<=64:=by
 unfold Yz at h ⊢;split at h
 ·rename_i c;exact absurd h c
 ·rename_i c;rw[QD c];split at h
  ·rename_i c2;rw[QN c2];show 1<=(JE v I p).1/\(JE v I p).1<=64;have h2:=c2.1;unfold AG at h2;cases I with
   | none => have h3:(3:Int)=0:=h2;omega
   | some J =>
    simp only at h2;split at h2
    ·rename_i hr;have:=Jg (show Ji v J from hg).plan;omega
    ·have h3:(2:Int)=0:=h2;omega
  ·have h3:(11:Int)=0:=h;omega
theorem dq {d:Qz}{v1 v2:List (List UInt8)}{I1 I2:Option Int}(hg:ZW v2 I2) {k n p:Int}(h:Gm d.pi k n p):OC (Xv (Zr v1 I1) (Yz v2 I2) k n p):=by
 unfold Xv;split
 ·rename_i c;rcases h with⟨_,h1,h2⟩|⟨h0,_⟩|⟨h0,_⟩
  ·exact .inr (.inl ⟨c,h1,h2⟩)
  ·omega
  ·omega
 ·rename_i c;split
  ·rename_i c2;have h3:=Cz hg c2.2.2;rcases h with⟨h0,_⟩|⟨_,_,_,h1,h2⟩|⟨h0,_⟩
   ·omega
   ·exact .inr (.inr ⟨rfl,h3.1,h3.2,h1,h2⟩)
   ·omega
  ·exact .inl ⟨rfl,rfl,rfl⟩
theorem cP {m1:QO}{d1 d2:Qz}{I1 I2:Option Int}{y:QF}(h:Xa m1 d1 y) (hg:ZW (QS d2.bl d2.pe d2.di) I2):∀i<8,OC (Ft d1 d2 I1 I2 y i):=λi hi=>dq hg (h.fd i hi).1
theorem Ag (B:List (List UInt8)) (p l:List ZY):(QS B p l).length<=B.length:=by
 unfold QS;rw[JM];unfold Jl;split
 ·exact WP _
 ·rw[NA,Nx];omega
theorem NM {fn:Func}{p s r:Tmp}{ty:TypeId}(h:fn.results=#[.cell p ty,.tmp s,.tmp r]) (tmps:Array Value) (w:World) (g:Nat) (t:TypeId) (cs:Array Value) (d:TypeDesc) (v u:Value)
  (hp:tmps.getD p undef=.pointer (some ⟨g,0,none⟩)) (hs:tmps.getD s undef=v) (hr:tmps.getD r undef=u) (hg:Box w g t cs)
  (hu:prog.underlying ty=some d) (hd:RQ d=true) (hi:(prog.info? ty).map (·.size)=some cs.size) :
  (results fn tmps).run prog w=.ok (.tuple #[.agg cs,v,u]) w:=by
 have pB:tmps[p]?.getD undef=.pointer (some ⟨g,0,none⟩):=by simpa using hp
 have AC:tmps[s]?.getD undef=v:=by simpa using hs
 have gG:tmps[r]?.getD undef=u:=by simpa using hr
 simp[results,h,pB,AC,gG,asAddr,su w g t ty cs (0,0) d hg hu (by cases d<;>first|rfl|cases hd) hi]
theorem Ob (w:World):Calls prog 14 #[.agg #[.slice none 0 0,.slice none 0 0,.string ⟨#[]⟩],.int .i64 1,.agg QB.cells] w λe w'=>e=.returned (.tuple #[.agg QB.cells,.int .i64 0,.int .i64 3])/\Ext w w':=by
 have HM:=Qa N2;have x0:=(((Qg w).alloc (.cells #[.slice none 0 0,.slice none 0 0,.string ⟨#[]⟩] 24)).alloc (.cells QB.cells 38)).alloc (.cells QB.cells 38);have br:=Qs ((w.alloc (.cells #[.slice none 0 0,.slice none 0 0,.string ⟨#[]⟩] 24)).alloc (.cells QB.cells 38)) 38 QB.cells;have bx:=((Qs w 24 #[.slice none 0 0,.slice none 0 0,.string ⟨#[]⟩]).ext ((Qg _).alloc (.cells QB.cells 38))).ext ((Qg _).alloc (.cells QB.cells 38));rw[YB,YB]at br;go_enter func14,ntmps14;go_upto_region 1 with fail;change Code.wp _ _ _ _ (((w.alloc (.cells #[.slice none 0 0,.slice none 0 0,.string ⟨#[]⟩] 24)).alloc (.cells QB.cells 38)).alloc (.cells QB.cells 38));generalize ((w.alloc (.cells #[.slice none 0 0,.slice none 0 0,.string ⟨#[]⟩] 24)).alloc (.cells QB.cells 38)).alloc (.cells QB.cells 38)=w0 at x0 br bx ⊢;obtain⟨G,hG⟩:∃G,G=w.heap.size:=⟨_,rfl⟩
 rw[←hG]at br bx ⊢;have HG:=Qa hG;clear hG
 go_upto_region 2 with(first
  | (refine J2 _ _ rfl rfl G #[.slice none 0 0,.slice none 0 0,.string ⟨#[]⟩] _ _ rfl bx underlying24 rfl jo ?_)
  | (go_at_call 27;refine(HM.o _).mono ?_;rintro e w1 ⟨rfl,x1⟩)
  | (refine Qr _ _ rfl rfl w1.heap.size QB _ _ rfl rfl (Qs _ _ _) rfl ?_;intro w2 b2 g2))
 have y2:Ext w1 w2:=((Qg w1).alloc _).grown g2 (λj e=>by cases e;exact Q4 _);have Sf:=br.ext (x1.trans y2);go_wp2_with (refine Qr _ _ rfl rfl (G+1+1) QB _ _ rfl rfl Sf rfl ?_;intro w9 b9 g9)
 exact Jv (NM rfl _ _ (G+1+1) _ _ _ _ _ rfl rfl rfl b9 underlying38 rfl J1) rfl ⟨rfl,(x0.trans (x1.trans y2)).grown g9 (λj e=>by cases e;rw[←HG.o];omega)⟩
theorem IZ (w:World):Calls prog 10 #[] w λe w'=>e=.returned (.bool true)/\Ext w w':=by
 have HM:=Qa N2;have HF:=Qa (λw=>I3 [47,97] w);have HP:=Qa Ob;go_enter func10,ntmps10
 go_wp2_with (first
  | (go_at_call 11;refine(HF.o _).mono ?_;rintro e w1 ⟨rfl,x1⟩)
  | (go_at_call 14;refine(HP.o _).mono ?_;rintro e w2 ⟨rfl,x2⟩)
  | (go_at_call 27;refine(HM.o _).mono ?_;rintro e w5 ⟨rfl,x5⟩)
  | (refine Qr (.tmp 3) (.tmp 17) rfl rfl w2.heap.size QB _ _ rfl rfl (Qs _ _ _) rfl ?_;intro w3 b3 g3)
  | (refine Qr (.tmp 6) (.tmp 23) rfl rfl w5.heap.size QB _ _ rfl rfl (Qs _ _ _) rfl ?_;intro w6 b6 g6;have x3:Ext w2 w3:=((Qg w2).alloc _).grown g3 (λj e=>by cases e;exact Q4 _);have x6:Ext w5 w6:=((Qg w5).alloc _).grown g6 (λj e=>by cases e;exact Q4 _);have q0:w6.cell? ⟨w2.heap.size,4,none⟩=some (.slice none 0 0):=((b3.ext x5).ext x6).cell 4))
 go_ret;exact⟨rfl,(((x1.trans x2).trans x3).trans x5).trans x6⟩
theorem fI (fr bl:Sl) (s:List UInt8) (pid c:Int) (m2:QO) (w:World) (hc:c≠0)
  (hM:∀w',Ext w w'->Calls prog 27 #[.agg #[.slice fr.A fr.n fr.c,.slice bl.A bl.n bl.c,.string (Qb s)]] w' λe w''=>e=.returned (.tuple #[.agg QB.cells,.int .i64 c])/\Ext w' w'') :
  Calls prog 14 #[.agg #[.slice fr.A fr.n fr.c,.slice bl.A bl.n bl.c,.string (Qb s)],.int .i64 pid,.agg m2.cells] w λe w'=>e=.returned (.tuple #[.agg QB.cells,.int .i64 0,.int .i64 c])/\Ext w w':=by
 have HM:=Qa hM;have GO:(c != 0)=true:=by simpa using hc
 clear hc hM;have x0:=(((Qg w).alloc (.cells #[.slice fr.A fr.n fr.c,.slice bl.A bl.n bl.c,.string (Qb s)] 24)).alloc (.cells m2.cells 38)).alloc (.cells QB.cells 38);have br:=Qs ((w.alloc (.cells #[.slice fr.A fr.n fr.c,.slice bl.A bl.n bl.c,.string (Qb s)] 24)).alloc (.cells m2.cells 38)) 38 QB.cells;have bx:=((Qs w 24 #[.slice fr.A fr.n fr.c,.slice bl.A bl.n bl.c,.string (Qb s)]).ext ((Qg _).alloc (.cells m2.cells 38))).ext ((Qg _).alloc (.cells QB.cells 38));rw[YB,YB]at br;go_enter func14,ntmps14;go_upto_region 1 with fail;change Code.wp _ _ _ _ (((w.alloc (.cells #[.slice fr.A fr.n fr.c,.slice bl.A bl.n bl.c,.string (Qb s)] 24)).alloc (.cells m2.cells 38)).alloc (.cells QB.cells 38));generalize ((w.alloc (.cells #[.slice fr.A fr.n fr.c,.slice bl.A bl.n bl.c,.string (Qb s)] 24)).alloc (.cells m2.cells 38)).alloc (.cells QB.cells 38)=w0 at x0 br bx ⊢;obtain⟨G,hG⟩:∃G,G=w.heap.size:=⟨_,rfl⟩
 rw[←hG]at br bx ⊢;have HG:=Qa hG;clear hG
 go_upto_region 2 with(first
  | (refine J2 _ _ rfl rfl G #[.slice fr.A fr.n fr.c,.slice bl.A bl.n bl.c,.string (Qb s)] _ _ rfl bx underlying24 rfl jo ?_)
  | (go_at_call 27;refine(HM.o _ x0).mono ?_;rintro e w1 ⟨rfl,x1⟩)
  | (refine Qr _ _ rfl rfl w1.heap.size QB _ _ rfl rfl (Qs _ _ _) rfl ?_;intro w2 b2 g2))
 have y2:Ext w1 w2:=((Qg w1).alloc _).grown g2 (λj e=>by cases e;exact Q4 _);have Sf:=br.ext (x1.trans y2);go_wp2_with (refine Qr (.tmp 6) _ rfl rfl (G+1+1) QB _ _ rfl rfl Sf rfl ?_;intro w9 b9 g9)
 exact Jv (NM rfl _ _ (G+1+1) _ _ _ _ _ rfl rfl rfl b9 underlying38 rfl J1) rfl ⟨rfl,(x0.trans (x1.trans y2)).grown g9 (λj e=>by cases e;rw[←HG.o];omega)⟩
theorem dL {FB BB:List (List UInt8)}{s:List UInt8}(h:V7 FB BB s=0):∃z0 e0,Ye s=some (z0,e0)/\Z3 (jn z0 (JY FB BB e0)) (JY FB BB e0)/\KF (jn z0 (JY FB BB e0)) (JY FB BB e0)/\Z7 z0 (JY FB BB e0)=s:=by
 unfold V7 at h;split at h
 ·omega
 ·rename_i z e hq;have h2:=Uh.1 h;refine⟨z,e,hq,XP.1 h2.1,Ww (Uk hq).fit ⟨rfl,rfl,rfl,rfl,rfl,rfl,rfl,rfl,rfl,rfl,rfl⟩ rfl,?_⟩;have h3:=h2.2;split at h3
  ·assumption
  ·omega
theorem dl {a:QO}{e:Qz}{y:QF}{fds:Nat->Int × Int × Int}(ha:Z3 a e) (hr:∀i<16,0<=y.reg i/\y.reg i<4294967296) (hp:0<=y.pc/\y.pc<4294967296) (hc:QL y 16<=(Jc a.fr.n e.pr).length) (DW:∀i<8,OC (fds i)) :
  Wg (JI y a.next (Jc a.fr.n e.pr) fds 16):=by
 have hn:=ha.rest.nums.next;have Mx:=ha.rest.frn;have z0:Up 0:=⟨by omega,by omega⟩
 refine⟨XT (b:=1000000000) (show(0:Int)<=a.next by omega) (show a.next<=1000000000 by omega) (by omega),z0,(⟨by omega,by omega⟩:Up 1),z0,hr,hp,⟨by show(0:Int)<=0;omega,by show(0:Int)<_;omega⟩,⟨by show(0:Int)<=0;omega,by show(0:Int)<_;omega⟩,λj hj=>?_,λj hj=>?_,λj hj=>?_,λj hj=>?_⟩
 ·by_cases U1:y.pis j=true
  ·have hfa:=Le (n:=a.fr.n) (l:=e.pr) (Ca (M2 hj U1) hc);have epf:(JI y a.next (Jc a.fr.n e.pr) fds 16).pfr j=(((Jc a.fr.n e.pr).getD (QL y j) 0:Nat):Int):=by
    show(if j<16/\y.pis j=true then (((Jc a.fr.n e.pr).getD (QL y j) 0:Nat):Int) else 0)=_;rw[QN ⟨hj,U1⟩]
   rw[epf];refine⟨by omega,by omega,λh=>?_⟩;have h':(decide (j<16)&&y.pis j)=false:=h;rw[Xd hj,U1]at h';cases h'
  ·have mh:y.pis j=false:=by simpa using U1
   have epf:(JI y a.next (Jc a.fr.n e.pr) fds 16).pfr j=0:=by show(if j<16/\y.pis j=true then (((Jc a.fr.n e.pr).getD (QL y j) 0:Nat):Int) else 0)=_;rw[QD (λh=>by rw[mh]at h;cases h.2)]
   rw[epf];refine⟨by omega,by omega,λ_=>⟨?_,rfl⟩⟩;show(decide (j<16)&&(y.pis j&&y.pwr j))=false;rw[mh,Bool.false_and,Bool.and_false]
 all_goals
  rcases DW j hj with⟨h1,h2,h3⟩|⟨h1,h2,h3⟩|⟨h1,h2,h3,h4,h5⟩
 ·show 0<=(fds j).1/\(fds j).1<256;omega
 ·show 0<=(fds j).1/\(fds j).1<256;omega
 ·show 0<=(fds j).1/\(fds j).1<256;omega
 ·show 0<=(fds j).2.1/\(fds j).2.1<9223372036854775808;omega
 ·show 0<=(fds j).2.1/\(fds j).2.1<9223372036854775808;omega
 ·show 0<=(fds j).2.1/\(fds j).2.1<9223372036854775808;omega
 ·show 0<=(fds j).2.2/\(fds j).2.2<9223372036854775808;omega
 ·show 0<=(fds j).2.2/\(fds j).2.2<9223372036854775808;omega
 ·show 0<=(fds j).2.2/\(fds j).2.2<9223372036854775808;omega
theorem Sg {a:QO}{e:Qz}{y:QF}{fds:Nat->Int × Int × Int}(src:List (List UInt8)) (ha:Z3 a e) (hf:Y4 a e) (h8:e.pr.length<8) (hr:∀i<16,0<=y.reg i/\y.reg i<4294967296) (hp:0<=y.pc/\y.pc<4294967296) (hc:QL y 16<=(Jc a.fr.n e.pr).length) (DW:∀i<8,OC (fds i)) :
  Y4 { a with next:=a.next+1 } (Uu src y a.next a.fr.n e fds):=by
 have hn:=ha.rest.nums.next;refine⟨hf.clock,hf.told,hf.quantum,hf.cur,hf.left,XT (b:=1000000001) (show(0:Int)<=a.next+1 by omega) (show a.next+1<=1000000001 by omega) (by omega),hf.newPipe,hf.dleft,hf.init,hf.inn,hf.pe,hf.di,hf.pi,λq hq=>?_,hf.pel,hf.dil,hf.pil,?_⟩
 ·rcases iO.1 hq with hq|hq
  ·exact hf.pr q hq
  ·obtain rfl:q=_:=by simpa using hq
   exact dl ha hr hp hc DW
 ·show(e.pr++[_]).length<=1000;rw[VL,Weh];omega
abbrev j9:Qz:=⟨[],[],[],[],[],[]⟩
theorem Nh {α:Type} (f:α->List Value) (w:World):Q6 f w none 0 []:=⟨rfl,λh=>absurd h (by decide)⟩
theorem Pd:Q1.ok:=⟨λ_=>⟨rfl,rfl⟩,WP _,Q4 _⟩
theorem pL (w:World):Q0 w QB j9 :=
 ⟨Nh _ w,Nh _ w,Nh _ w,Nh _ w,Nh _ w,Nh _ w,Pd,Pd,Pd,Pd,Pd,Pd,WP _,WP _,by decide⟩
theorem SX:YY QB:=⟨WP _,WP _,WP _,WP _,WP _,WP _⟩
theorem C4:Y4 QB j9 :=
 ⟨⟨by decide,by decide⟩,⟨by decide,by decide⟩,⟨by decide,by decide⟩,⟨by decide,by decide⟩,⟨by decide,by decide⟩,⟨by decide,by decide⟩,⟨by decide,by decide⟩,⟨by decide,by decide⟩,WP _,WP _,
  (λ_ h=>by cases h),(λ_ h=>by cases h),(λ_ h=>by cases h),(λ_ h=>by cases h),WP _,WP _,WP _,WP _⟩
theorem Zv.self (m:QO):Zv m m:=⟨rfl,rfl,rfl,rfl,rfl,rfl,rfl,rfl,rfl,rfl,rfl⟩
theorem Ix {a:QO}{e:Qz}{l:List QF}{pid:Int}(h:XL a e l pid=0):∃y,Z3 a e/\Zc l pid=some y/\e.pr.length<8/\QL y 16<=(Jc a.fr.n e.pr).length:=by
 unfold XL at h;obtain⟨h1,h2⟩:=Uh.1 h;cases hl:Zc l pid with
 | none=>rw[hl]at h2;exact absurd (show(9:Int)=0 from h2) (by decide)
 | some y =>
  rw[hl]at h2;have h3:(if 8<=e.pr.length then (6:Int) else if (Jc a.fr.n e.pr).length<QL y 16 then 10 else 0)=0:=h2;by_cases h8:8<=e.pr.length
  ·rw[QN h8]at h3;exact absurd h3 (by decide)
  rw[QD h8]at h3;by_cases hc:(Jc a.fr.n e.pr).length<QL y 16
  ·rw[QN hc]at h3;exact absurd h3 (by decide)
  exact⟨y,XP.1 h1,rfl,by omega,by omega⟩
theorem ke {a:QO}{e:Qz}{l:List QF}{pid:Int}{y:QF}(h:Z3 a e) (hl:Zc l pid=some y) (h8:e.pr.length<8) (hc:QL y 16<=(Jc a.fr.n e.pr).length):XL a e l pid=0:=by
 unfold XL;rw[Uh];refine⟨XP.2 h,?_⟩;rw[hl];show(if 8<=e.pr.length then (6:Int) else if (Jc a.fr.n e.pr).length<QL y 16 then 10 else 0)=0;rw[QD (by omega),QD (by omega)]
def PR (n c:Int) (D:Qz) (sc:QO) (w:World) (en:Ending):Prop :=
 ∃z:QO,en=.returned (.tuple #[.agg z.cells,.int .i64 n,.int .i64 c])/\Q0 w z D/\Zv z sc/\YY z
theorem PR.none {c:Int}{w:World}{en:Ending}(h:en=.returned (.tuple #[.agg QB.cells,.int .i64 0,.int .i64 c])):PR 0 c j9 QB w en :=
 ⟨QB,h,pL w,Zv.self _,SX⟩
theorem Es {z a:QO}(h:Zv { z with next:=a.next } a) (hn:z.next=a.next+1):Zv z { a with next:=a.next+1 } :=
 ⟨h.clock,h.quantum,h.cur,h.left,hn,h.init,h.newPipe,h.inn,h.fin,h.told,h.dleft⟩
theorem PH {w:World}{a z:QO}{e:Qz}{y:QF}{n:Nat}{src:List (List UInt8)}{next:Int}{fds:Nat->Int × Int × Int}(ha:Q0 w a e) (hs:YY a) (h8:e.pr.length<8) {D:Qz}(hD:D=Uu src y next n e fds)
  (h1:z.fr.n=D.fr.length) (h2:z.pr.n=D.pr.length) (h3:z.pi.n=D.pi.length) (h4:z.bl.n=D.bl.length) (h5:z.pe.n=D.pe.length) (h6:z.di.n=D.di.length):YY z:=by
 subst hD;refine⟨?_,?_,?_,?_,?_,?_⟩
 ·rw[h1];show(NB src y (Jc n e.pr) e.fr 16).length<=_;rw[Uy,←ha.fr.1];exact hs.fr
 ·rw[h2];show(e.pr++[_]).length<=_;rw[VL,Weh];omega
 ·rw[h3];show e.pi.length<=_;rw[←ha.pi.1];exact hs.pi
 ·rw[h4];show e.bl.length<=_;rw[←ha.bl.1];exact hs.bl
 ·rw[h5];show e.pe.length<=_;rw[←ha.pe.1];exact hs.pe
 ·rw[h6];show e.di.length<=_;rw[←ha.di.1];exact hs.di
end Go.Proofs.YtfaplefkakpgcaaGreatDoor
