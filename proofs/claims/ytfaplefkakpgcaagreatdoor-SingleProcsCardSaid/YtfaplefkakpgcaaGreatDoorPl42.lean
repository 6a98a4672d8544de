import Derived.Test.YtfaplefkakpgcaaGreatDoorPl40
import Derived.Test.YtfaplefkakpgcaaGreatDoorPl41
import Derived.Test.YtfaplefkakpgcaaGreatDoorPl35
set_option linter.unusedVariables false
set_option linter.unusedSimpArgs false
set_option maxHeartbeats 32000000
set_option maxRecDepth 100000
namespace Go.Proofs.YtfaplefkakpgcaaGreatDoor
open Go.Proofs.Tryz
open Go.RowKit
theorem lK (A:Option Addr) (n c:Nat) (v:List (List UInt8)) (I:Option Int) (k:Int) (w:World) (hv:Strs w A n v) (hn:n<=9223372036854775807) (hg:ZW v I) :
  Calls prog 74 #[.slice A n c,.int .i64 k] w λe w'=>e=.returned (.tuple #[.agg (Qj (AG v I k).1),.int .i64 (AG v I k).2])/\Ext w w':=by
 cases I with
 | none=>exact En A n c v k w hv hn hg
 | some J =>
  by_cases h:1<=k/\k<=J
  ·have e:AG v (some J) k=(QI v k,0):=QN h;rw[e];exact Nf A n c v J k w hv hg h.1 h.2
  ·have e:AG v (some J) k=(Qy,2):=QD h;rw[e];exact Pa A n c v J k w hv hg (by omega)
theorem pF (v:List (List UInt8)) (I:Option Int) (k:Int):(AG v I k).1.length=12:=by
 unfold AG;cases I with
 | none=>rfl
 | some J =>
  simp only;split
  ·rfl
  ·rfl
theorem BL (A:Option Addr) (n c:Nat) (v:List (List UInt8)) (I:Option Int) (p:List UInt8) (w:World) (hv:Strs w A n v) (hn:n<=9223372036854775807) (hg:ZW v I) (hp:p.length<=100000) :
  Calls prog 31 #[.slice A n c,.string (Qb p)] w λe w'=>e=.returned (.tuple #[.int .i64 (Yz v I p).1,.int .i64 (Yz v I p).2])/\Ext w w':=by
 have HF:=Qa (λw h=>He A n c v I p w h hn hg hp);have HG:=Qa (λw h=>lK A n c v I (JE v I p).1 w h hn hg);have hl:=pF v I (JE v I p).1;have HV:=Qa hv;unfold Yz;clear hv hg hn hp;generalize JE v I p=F at *;obtain⟨k,e⟩:=F;simp only at HF HG hl ⊢;generalize AG v I k=Y at *;obtain⟨x,e2⟩:=Y;simp only at HG hl ⊢;by_cases h1:e=0
 ·subst h1;have gK:=TK hl;have HL:=Qa hl;clear hl;rw[QD (by decide)];generalize Mz:x.getD 0 0=kd at *;by_cases h2:e2=0
  ·subst h2;by_cases h3:kd=1
   ·subst h3;rw[QN ⟨rfl,rfl⟩];go_enter func31,ntmps31
    go_wp2_with (first
     | (go_at_call 73;refine(HF.o _ HV.o).mono ?_;rintro e w1 ⟨rfl,x1⟩)
     | (go_at_call 74;refine(HG.o _ (HV.o.ext x1)).mono ?_;rintro e w2 ⟨rfl,x2⟩)
     | (refine QR (.tmp 8) (.tmp 23) rfl rfl w2.heap.size x Qy _ rfl rfl (Qs _ _ _) HL.o rfl ?_;intro w3 b3 g3;have q0:w3.cell? ⟨w2.heap.size,0,none⟩=some (.int .i64 1):=(b3.cell 0).trans gK))
    have x3:Ext w2 w3:=((Qg w2).alloc _).grown g3 (λj e=>by cases e;exact Q4 _);go_ret2;exact⟨rfl,(x1.trans x2).trans x3⟩
   ·rw[QD (λh=>h3 h.2)];have h4:(kd != 1)=true:=by simpa using h3
    go_enter func31,ntmps31
    go_wp2_with (first
     | (go_at_call 73;refine(HF.o _ HV.o).mono ?_;rintro e w1 ⟨rfl,x1⟩)
     | (go_at_call 74;refine(HG.o _ (HV.o.ext x1)).mono ?_;rintro e w2 ⟨rfl,x2⟩)
     | (refine QR (.tmp 8) (.tmp 23) rfl rfl w2.heap.size x Qy _ rfl rfl (Qs _ _ _) HL.o rfl ?_;intro w3 b3 g3;have q0:w3.cell? ⟨w2.heap.size,0,none⟩=some (.int .i64 kd):=(b3.cell 0).trans gK))
    have x3:Ext w2 w3:=((Qg w2).alloc _).grown g3 (λj e=>by cases e;exact Q4 _);go_ret2;exact⟨rfl,(x1.trans x2).trans x3⟩
  ·rw[QD (λh=>h2 h.1)];have h4:(e2 != 0)=true:=by simpa using h2
   go_enter func31,ntmps31
   go_wp2_with (first
    | (go_at_call 73;refine(HF.o _ HV.o).mono ?_;rintro e w1 ⟨rfl,x1⟩)
    | (go_at_call 74;refine(HG.o _ (HV.o.ext x1)).mono ?_;rintro e w2 ⟨rfl,x2⟩)
    | (refine QR (.tmp 8) (.tmp 23) rfl rfl w2.heap.size x Qy _ rfl rfl (Qs _ _ _) HL.o rfl ?_;intro w3 b3 g3))
   have x3:Ext w2 w3:=((Qg w2).alloc _).grown g3 (λj e=>by cases e;exact Q4 _);go_ret2;exact⟨rfl,(x1.trans x2).trans x3⟩
 ·rw[QN h1];have h4:(e != 0)=true:=by simpa using h1
  go_enter func31,ntmps31;go_wp2_with (go_at_call 73;refine(HF.o _ HV.o).mono ?_;rintro e w1 ⟨rfl,x1⟩)
  go_ret2;exact⟨rfl,x1⟩
noncomputable def qI (v:List (List UInt8)):Option Int:=by
 classical
 exact if h:∃J,Ji v J then some (Classical.choose h) else none
theorem EB (v:List (List UInt8)):ZW v (qI v):=by
 unfold qI;by_cases h:∃J,Ji v J
 ·rw[dif_pos h];exact Classical.choose_spec h
 ·rw[dif_neg h];exactλI hI=>h ⟨I,hI⟩
def T4 (v:List (List UInt8)) (I:Option Int) (k:Int):Option (List UInt8):=(JW v I).find? λp=>(JE v I p).2==0&&(JE v I p).1==k
theorem RY (v:List (List UInt8)) (I:Option Int) (k:Int):Zr v I k=(T4 v I k).getD []:=rfl
theorem cU (v:List (List UInt8)) (I:Option Int):(JE v I []).2≠0:=by
 cases I with
 | none=>show(Ks Cj []).2≠0;unfold Ks;rw[QN (by decide)];decide
 | some I=>show(Ks (Xl v I) []).2≠0;unfold Ks;rw[QN (by decide)];decide
theorem kO {v:List (List UInt8)}{I:Option Int}{k:Int}{p:List UInt8}(h:T4 v I k=some p):p≠[]:=λe=>by
 have h2:=List.find?_some h;rw[e]at h2;rw[Vg,ng]at h2;exact cU v I h2.1
theorem ey (A:Option Addr) (n c:Nat) (v:List (List UInt8)) (I:Option Int) (k:Int) (w:World) (hv:Strs w A n v) (hn:n<=9223372036854775807) (hg:ZW v I) :
  Calls prog 82 #[.slice A n c,.int .i64 k] w λe w'=>e=.returned (.tuple #[.string (Qb (Zr v I k)),.bool (T4 v I k).isSome])/\Ext w w':=by
 have HW:=Qa (λw h=>fE A n c v I w h hn hg);have HF:=Qa (λp (hp:p.length<=200) w h=>He A n c v I p w h hn hg (YR hp (by decide)));have HS:=Qa (WI v I);have HY:=Qa (λj (hj:j<(JW v I).length) (h:((JE v I (JW v I)[j]).2==0&&(JE v I (JW v I)[j]).1==k)=true) Xz=>show T4 v I k=some (JW v I)[j] from Mu (p:=λp=>(JE v I p).2==0&&(JE v I p).1==k) hj h Xz);have HN:=Qa (λ(Xz:∀(i:Nat) (hi:i<(JW v I).length),((JE v I (JW v I)[i]).2==0&&(JE v I (JW v I)[i]).1==k)=false)=>show T4 v I k=none from We3.2 (λp hp=>by
  obtain⟨i,hi,rfl⟩:=Fd hp;rw[Xz i hi];decide))
 have HV:=Qa hv;rw[RY];clear hv hg;generalize T4 v I k=P at *;go_enter func82,ntmps82;go_upto_region 2 with(go_at_call 152;refine(HW.o _ HV.o).mono ?_;rintro e w2 ⟨u,rfl,x2,JP⟩;obtain⟨B,cl,hu,_⟩:=RX JP;subst hu;have HO:=Qa JP;clear JP)
 have HL:=Qa (aQ HO.o);have P0:=Qa (GA HO.o);clear HO HW;generalize JW v I=L at *;generalize JE v I=F at *;have Lo:=HL.o;unfold maxLen at Lo;obtain⟨-,Rm⟩:=P0.o;go_upto_region 3 with fail;go_loopw [14] (λi wx=>∃j:Nat,j<=L.length/\i=.int .i64 j/\Ext w2 wx/\∀(i:Nat) (hi:i<L.length),i<j->((F L[i]).2==0&&(F L[i]).1==k)=false) (λi _=>L.length-(intOf i).toNat);case atStart=>exact⟨0,by omega,rfl,Qg _,λi hi h=>by omega⟩
 case round =>
  obtain⟨j,hj,rfl,xj,Xz⟩:=hrel;have WM:=Qa Xz;clear Xz;by_cases Qn:j<L.length
  ·obtain⟨b,o,rfl,Qf⟩:=Rm (by omega);have gX:=Qa (λ(w':World) (x:Ext wr w')=>(xj.trans x).keep (Qf j Qn));have e1:=gX.o wr (Qg wr);have Kp:(j:Int)<(L.length:Int):=by omega
   have Mk:=Qa (show((F L[j]).2==0&&(F L[j]).1==k)=false->∀(i:Nat) (hi:i<L.length),i<j+1->((F L[i]).2==0&&(F L[i]).1==k)=false fromλh i hi hij=>by
    by_cases e:i<j
    ·exact WM.o i hi e
    ·obtain rfl:i=j:=by omega
     exact h)
   have zF:=Qa (λh=>HY.o j Qn h WM.o);have nB:=Qa (λw h=>HF.o L[j] (HS.o _ (NT Qn)) w h);clear Qf WM HY HN HF HS;generalize L[j]=p at *;generalize F p=fp at *;obtain⟨z,e⟩:=fp;simp only at Mk zF nB;rcases VS (e==0) with h1|h1
   ·rcases VS (z==k) with h2|h2
    ·have HP:=Qa (zF.o (by rw[h1,h2];rfl));go_wp2_with (go_at_call 73;refine(nB.o _ ((HV.o.ext x2).ext xj)).mono ?_;rintro e w3 ⟨rfl,x3⟩;have e3:=gX.o _ x3)
     go_ret2;exact⟨by rw[HP.o];rfl,(x2.trans xj).trans x3⟩
    ·have HP:=Qa (Mk.o (by rw[h1,h2];rfl));go_wp2_with (go_at_call 73;refine(nB.o _ ((HV.o.ext x2).ext xj)).mono ?_;rintro e w3 ⟨rfl,x3⟩)
     go_roundw;case rel=>exact⟨j+1,by omega,by go_num,xj.trans x3,HP.o⟩
     case measure=>simp[intOf];omega
   ·have HP:=Qa (Mk.o (by rw[h1];rfl));go_wp2_with (go_at_call 73;refine(nB.o _ ((HV.o.ext x2).ext xj)).mono ?_;rintro e w3 ⟨rfl,x3⟩)
    go_roundw;case rel=>exact⟨j+1,by omega,by go_num,xj.trans x3,HP.o⟩
    case measure=>simp[intOf];omega
  ·have HP:=Qa (HN.o (λi hi=>WM.o i hi (by omega)));clear WM HY HN HF HS;go_wp2_with fail;go_ret2;exact⟨by rw[HP.o];rfl,x2.trans xj⟩
abbrev Gs (f:Int × Int × Int):Array Value:=#[.int .i64 f.1,.int .i64 f.2.1,.int .i64 f.2.2]
theorem UZ {f:Int × Int × Int}:(prog.info? 54).map (·.size)=some (Gs f).size:=KL
theorem RE (f:Int × Int × Int):(Gs f).all (·.oneCell')=true:=by kernel_rfl
theorem F0 {pa:Int->List UInt8}{fi:List UInt8->Int × Int}{k n p:Int}(h:k=1\/k=2):Xv pa fi k n p=(k,n,p):=QN h
theorem LK {pa:Int->List UInt8}{fi:List UInt8->Int × Int}{k n p:Int}(h:¬(k=1\/k=2)) (h2:¬(k=3/\pa n≠[]/\(fi (pa n)).2=0)):Xv pa fi k n p=(0,0,0):=by unfold Xv;rw[QD h,QD h2]
theorem Ic {pa:Int->List UInt8}{fi:List UInt8->Int × Int}{n p:Int}(h1:pa n≠[]) (h2:(fi (pa n)).2=0):Xv pa fi 3 n p=(3,(fi (pa n)).1,p):=by unfold Xv;rw[QD (by decide),QN ⟨rfl,h1,h2⟩]
theorem lG (A B:Option Addr) (an ac bn bc:Nat) (v1 v2:List (List UInt8)) (I1 I2:Option Int) (k n p:Int) (w:World) (hv:Strs w A an v1) (hn:an<=9223372036854775807) (hg:ZW v1 I1) (Y7:Strs w B bn v2) (GR:bn<=9223372036854775807) (Rl:ZW v2 I2) :
  Calls prog 41 #[.agg (Gs (k,n,p)),.slice A an ac,.slice B bn bc] w λe w'=>e=.returned (.agg (Gs (Xv (Zr v1 I1) (Yz v2 I2) k n p)))/\Ext w w':=by
 have HP:=Qa (λw h=>ey A an ac v1 I1 n w h hn hg);have HPS:=Qa (T3 v1 I1 n);have xU:=Qa (λq (hq:q.length<=200) w h=>BL B bn bc v2 I2 q w h GR Rl (YR hq (by decide)));have HNE:=Qa (λq (h:T4 v1 I1 n=some q)=>show Zr v1 I1 n=q/\q≠[] from⟨by rw[RY,h];rfl,kO h⟩);have WM:=Qa (λ(h:T4 v1 I1 n=none)=>show Zr v1 I1 n=[] from by rw[RY,h];rfl);have x0:=((Qg w).alloc (.cells (Gs (k,n,p)) 54)).alloc (.cells (Gs (0,0,0)) 54);have bi:=(Qs w 54 (Gs (k,n,p))).ext ((Qg _).alloc (.cells (Gs (0,0,0)) 54));have br:=Qs (w.alloc (.cells (Gs (k,n,p)) 54)) 54 (Gs (0,0,0));rw[YB]at br;have HV:=Qa (hv.ext x0);have P2:=Qa (Y7.ext x0);obtain⟨O,hO⟩:∃O,O=Xv (Zr v1 I1) (Yz v2 I2) k n p:=⟨_,rfl⟩
 rw[←hO];have HO:=Qa hO;clear hv hg Y7 Rl hO;go_enter func41,ntmps41;go_upto_region 1 with fail;change Code.wp _ _ _ _ ((w.alloc (.cells (Gs (k,n,p)) 54)).alloc (.cells (Gs (0,0,0)) 54));generalize (w.alloc (.cells (Gs (k,n,p)) 54)).alloc (.cells (Gs (0,0,0)) 54)=w1 at *;obtain⟨G,hG⟩:∃G,G=w.heap.size:=⟨_,rfl⟩
 rw[←hG]at bi br ⊢;have HG:=Qa (show w.heap.size<=G+1 by omega);clear hG;have q0:w1.cell? ⟨G,0,none⟩=some (.int .i64 k):=bi.cell 0;have q1:w1.cell? ⟨G,1,none⟩=some (.int .i64 n):=bi.cell 1;have q2:w1.cell? ⟨G,2,none⟩=some (.int .i64 p):=bi.cell 2;by_cases k1:k=1
 ·subst k1;obtain rfl:=HO.o.trans (F0 (.inl rfl));go_wp2_with (refine JU _ (.tmp 6) _ rfl rfl (G+1) (Gs (1,n,p)) _ _ rfl rfl br UZ rfl (RE _) ?_;intro w9 b9 g9)
  exact Jv (QQ rfl _ _ (G+1) _ _ _ rfl b9 underlying54 rfl UZ) rfl ⟨rfl,x0.grown g9 (λj e=>by cases e;exact HG.o)⟩
 by_cases k2:k=2
 ·subst k2;obtain rfl:=HO.o.trans (F0 (.inr rfl));go_wp2_with (refine JU _ (.tmp 6) _ rfl rfl (G+1) (Gs (2,n,p)) _ _ rfl rfl br UZ rfl (RE _) ?_;intro w9 b9 g9)
  exact Jv (QQ rfl _ _ (G+1) _ _ _ rfl b9 underlying54 rfl UZ) rfl ⟨rfl,x0.grown g9 (λj e=>by cases e;exact HG.o)⟩
 have Sw:¬(k=1\/k=2):=λh=>h.elim k1 k2;have d1:(k==1)=false:=by simpa using k1
 have d2:(k==2)=false:=by simpa using k2
 by_cases k3:k=3;case neg =>
  have d3:(k != 3)=true:=by simpa using k3
  obtain rfl:=HO.o.trans (LK Sw (λh=>k3 h.1));clear k1 k2 k3 Sw;go_wp2_with (refine JU _ (.tmp 6) (.tmp 23) rfl rfl (G+1) (Gs (0,0,0)) _ _ rfl rfl br UZ rfl (RE _) ?_;intro w9 b9 g9)
  exact Jv (QQ rfl _ _ (G+1) _ _ _ rfl b9 underlying54 rfl UZ) rfl ⟨rfl,x0.grown g9 (λj e=>by cases e;exact HG.o)⟩
 subst k3;clear k1 k2 Sw d1 d2;have vT:=HP.o;cases hp:T4 v1 I1 n with
 | none =>
  have U8:=WM.o hp;rw[hp,U8]at vT;obtain rfl:=HO.o.trans (LK (by decide) (λh=>h.2.1 U8));have HPq:=Qa vT;clear hp U8 vT HO
  go_wp2_with (first
   | (go_at_call 82;refine(HPq.o _ HV.o).mono ?_;rintro e w3 ⟨rfl,x3⟩;have br3:=br.ext x3)
   | (refine JU _ (.tmp 6) (.tmp 33) rfl rfl (G+1) (Gs (0,0,0)) _ _ rfl rfl br3 UZ rfl (RE _) ?_;intro w9 b9 g9))
  exact Jv (QQ rfl _ _ (G+1) _ _ _ rfl b9 underlying54 rfl UZ) rfl ⟨rfl,(x0.trans x3).grown g9 (λj e=>by cases e;exact HG.o)⟩
 | some q =>
  obtain⟨U8,hqn⟩:=HNE.o q hp;have hqs:=HPS.o;rw[U8]at hqs;rw[hp,U8]at vT;have HPq:=Qa vT;have HFq:=Qa (λw h=>xU.o q hqs w h);have ga:=Qa (show Xv (Zr v1 I1) (Yz v2 I2) 3 n p=if (Yz v2 I2 q).2=0 then (3,(Yz v2 I2 q).1,p) else (0,0,0) from by
   split
   ·rename_i h;rw[Ic (by rw[U8];exact hqn) (by rw[U8];exact h),U8]
   ·rename_i h;rw[LK (by decide) (λh2=>h (by rw[←U8];exact h2.2.2))])
  clear hp U8 hqn hqs vT xU HNE WM HPS HP;generalize Yz v2 I2 q=F at *;obtain⟨z,e⟩:=F;simp only at ga HFq;by_cases h0:e=0
  ·subst h0;obtain rfl:O=(3,z,p):=HO.o.trans (ga.o.trans (QN rfl));clear HO ga
   go_wp2_with (first
    | (go_at_call 82;refine(HPq.o _ HV.o).mono ?_;rintro e w3 ⟨rfl,x3⟩)
    | (go_at_call 31;refine(HFq.o _ (P2.o.ext x3)).mono ?_;rintro e w4 ⟨rfl,x4⟩;have br4:=br.ext (x3.trans x4);have q9:w4.cell? ⟨G,2,none⟩=some (.int .i64 p):=(bi.ext (x3.trans x4)).cell 2)
    | (refine JU _ (.tmp 6) (.tmp 46) rfl rfl (G+1) (Gs (3,z,p)) _ _ rfl rfl br4 UZ rfl (RE _) ?_;intro w9 b9 g9))
   exact Jv (QQ rfl _ _ (G+1) _ _ _ rfl b9 underlying54 rfl UZ) rfl ⟨rfl,(x0.trans (x3.trans x4)).grown g9 (λj e=>by cases e;exact HG.o)⟩
  ·have d4:(e != 0)=true:=by simpa using h0
   obtain rfl:O=(0,0,0):=HO.o.trans (ga.o.trans (QD h0));clear HO ga h0
   go_wp2_with (first
    | (go_at_call 82;refine(HPq.o _ HV.o).mono ?_;rintro e w3 ⟨rfl,x3⟩)
    | (go_at_call 31;refine(HFq.o _ (P2.o.ext x3)).mono ?_;rintro e w4 ⟨rfl,x4⟩;have br4:=br.ext (x3.trans x4))
    | (refine JU _ (.tmp 6) (.tmp 42) rfl rfl (G+1) (Gs (0,0,0)) _ _ rfl rfl br4 UZ rfl (RE _) ?_;intro w9 b9 g9))
   exact Jv (QQ rfl _ _ (G+1) _ _ _ rfl b9 underlying54 rfl UZ) rfl ⟨rfl,(x0.trans (x3.trans x4)).grown g9 (λj e=>by cases e;exact HG.o)⟩
theorem lH (A B:Option Addr) (ac bc:Nat) (v1 v2:List (List UInt8)) (I1 I2:Option Int) (k n p:Int) (w:World) (hv:Strs w A v1.length v1) (Y7:Strs w B v2.length v2) (hg:ZW v1 I1) (Rl:ZW v2 I2) (hn:v1.length<=100000) (GR:v2.length<=100000) :
  Calls prog 41 #[.agg (Gs (k,n,p)),.slice A v1.length ac,.slice B v2.length bc] w λe w'=>e=.returned (.agg (Gs (Xv (Zr v1 I1) (Yz v2 I2) k n p)))/\Ext w w' :=
 lG A B v1.length ac v2.length bc v1 v2 I1 I2 k n p w hv (by omega) hg Y7 (by omega) Rl
def D8 (a:QO) (d1 e:Qz) (I1 I2:Option Int) (pid:Int) (w':World) (en:Ending):Prop :=
 (XL a e d1.pr pid≠0/\en=.returned (.tuple #[.agg QB.cells,.int .i64 0,.int .i64 (XL a e d1.pr pid)]))\/
 (∃y,Z3 a e/\Zc d1.pr pid=some y/\e.pr.length<8/\QL y 16<=(Jc a.fr.n e.pr).length/\
  ∃z:QO,en=.returned (.tuple #[.agg z.cells,.int .i64 a.next,.int .i64 0])/\Q0 w' z (Uu d1.fr y a.next a.fr.n e (Ft d1 e I1 I2 y))/\Zv { z with next:=a.next } a/\z.next=a.next+1)
theorem Lb {α:Type} {p q:α->Bool}:∀{l:List α},(∀x∈l,p x=q x)->l.find? p=l.find? q
 | [],_=>rfl
 | x::l,h=>by rw[List.find?_cons,List.find?_cons,h x Gq,Lb (λy hy=>h y (EL _ hy))]
theorem pK {m:QO}{d:Qz}(h:Z3 m d) (pid:Int):SV d.pr pid=Zc d.pr pid:=by
 unfold SV Zc;refine Lb λp hp=>?_;have hs:=(h.proc hp).state;by_cases h3:p.state=3
 ·rw[h3];rfl
 ·have Sw:p.state=1\/p.state=2:=by omega
  rcases Sw with e|e<;>rw[e]<;>rfl
abbrev oN:Nat->Int × Int × Int:=λ_=>(0,0,0)
theorem Cm (y:QF) (next:Int) (free:List Nat):prog.built 57 [(0,.int .i64 next),(2,.int .i64 1),(3,.agg (NV y).toArray),(6,.bool y.mask)]=some (Qq (JI y next free oN 0)).toArray:=by kernel_rfl
theorem DP {ops:Array Oper}{rest:List Oper}{o:Oper}{a:Act}{w:World}{Q:Exit->Act->World->Prop}(x0 x3 x6:Operand) (y:QF) (next:Int) (free:List Nat) (J7:o.guard=none)
  (ho:o.op=.build 57 #[(0,x0),(2,.const (.int .i64 1)),(3,x3),(6,x6)]) (h0:a.eval x0=.int .i64 next) (h3:a.eval x3=.agg (NV y).toArray) (h6:a.eval x6=.bool y.mask)
  (hK:wpList prog ops Q rest (a.put o.dst (.agg (Qq (JI y next free oN 0)).toArray)) w):wpList prog ops Q (o::rest) a w:=by
 refine wpList_buildTo J7 _ _ ho _ rfl (Qq (JI y next free oN 0)).toArray ?_ hK;have hc:a.eval (.const (.int .i64 1))=.int .i64 1:=rfl;have e:((#[(0,x0),(2,.const (.int .i64 1)),(3,x3),(6,x6)]:Array (Nat × Operand)).map λ(i,x)=>(i,a.eval x)).toList=[(0,.int .i64 next),(2,.int .i64 1),(3,.agg (NV y).toArray),(6,.bool y.mask)]:=by simp only[bO,P4,Gz,h0,h3,h6,hc]
 rw[e];exact Cm y next free
def ma (F:Nat->Int × Int × Int) (j:Nat):Nat->Int × Int × Int:=λi=>if i<j then F i else (0,0,0)
theorem eS (q:QF) (i:Nat) (hi:i<8) (f:Int × Int × Int):Mc (Qq q).toArray (68+i*3) [.int .i64 f.1,.int .i64 f.2.1,.int .i64 f.2.2]=(Qq (q.setFd i f)).toArray:=by
 rcases(by omega:i=0\/i=1\/i=2\/i=3\/i=4\/i=5\/i=6\/i=7) with rfl|rfl|rfl|rfl|rfl|rfl|rfl|rfl<;>kernel_rfl
theorem kH (y:QF) (next:Int) (free:List Nat) (F:Nat->Int × Int × Int) (j:Nat):Qq ((JI y next free (ma F j) 16).setFd j (F j))=Qq (JI y next free (ma F (j+1)) 16):=by
 refine Dv rfl rfl rfl (λ_ _=>rfl) rfl (λ_ _=>⟨rfl,rfl,rfl⟩) (λi _=>?_) rfl rfl rfl rfl;unfold JI QF.setFd ma;simp only;by_cases e:i=j
 ·subst e;simp
 ·by_cases h:i<j
  ·simp[e,h,show i<j+1 by omega]
  ·simp[e,h,show¬i<j+1 by omega]
theorem dj (y:QF) (next:Int) (free:List Nat) (F:Nat->Int × Int × Int):Qq (JI y next free (ma F 8) 16)=Qq (JI y next free F 16):=by
 refine Dv rfl rfl rfl (λ_ _=>rfl) rfl (λ_ _=>⟨rfl,rfl,rfl⟩) (λi hi=>?_) rfl rfl rfl rfl;unfold JI ma;simp[hi]
theorem Iv (p:QF) {k:Nat}(hk:k<8):∀j v,(GH p k)[j]? =some v->(Qq p).toArray[68+k*3+j]? =some v:=λj v hv=>by
 have hj:j<3:=by have:=(Ax.1 hv).1;exact this
 have h1:=VN (GH p) 3 (List.range 8) (λ_ _=>rfl) k (by rw[mT];exact hk) j hj;rw[vh]at h1;rw[vo];exact kX p (k*3+j) v (by show((List.range 8).flatMap (GH p))[k*3+j]? =some v;rw[h1];exact hv)
theorem uk {p:QF}:Qq p≠[]:=λh=>by have:=Q2 p;rw[h]at this;cases this
theorem eF (y:QF):(Qq y).toArray[92]? =some (.bool y.mask):=by kernel_rfl
def lR (V:List (List UInt8)) (w:World) (u:Value):Prop:=∃A c,u=.slice A V.length c/\Strs w A V.length V
theorem SP (V:List (List UInt8)):MP (lR V):=λ_ _ _ hx ⟨A,c,e,s⟩=>⟨A,c,e,s.ext hx⟩
def wZ (B:Nat) (s:Sl) (l0 lq:List Value) (pt:Value) (w0:World):Nat->World->(Nat->Value)->Prop
 | 0,w,us=>∃g,us 0=.slice (some ⟨g,0,none⟩) 0 0/\B<=g/\Box w g 57 #[]
 | 1,_,us=>us 1=pt
 | 2,_,us=>us 2=.slice s.A s.n s.c
 | 3,w,us=>∃t:Sl,us 3=.slice t.A t.n t.c/\t.n=s.n/\w.ownsRow B 57 96 (.slice t.A t.n t.c) t.n l0
 | 4,_,us=>us 4=.agg lq.toArray
 | 5,w,us=>∃g,us 5=.slice (some ⟨g,0,none⟩) 1 1/\Box w g 57 lq.toArray
 | 6,w,us=>∃t:Sl,us 6=.slice t.A t.n t.c/\t.n=s.n+1/\w.ownsRow B 57 96 (.slice t.A t.n t.c) t.n (l0++lq)
 | 7,_,us=>us 7=pt
 | _,w,_=>Ext w0 w
def rvR (B:Nat):Nat->World->World->Prop
 | 3,w,w'=>∃g,B<=g/\Box w g 57 #[]/\w.grownBy w' (some g)
 | 6,w,w'=>∃r,(∀k,r=some k->B<=k)/\w.grownBy w' r
 | _,w,w'=>Ext w w'
theorem Rc {B k:Nat}{w w':World}(h3:k≠3) (h6:k≠6) (h:rvR B k w w'):Ext w w':=by
 unfold rvR at h;split at h
 ·exact absurd rfl h3
 ·exact absurd rfl h6
 ·exact h
theorem qD {B:Nat}{s:Sl}{l0 lq:List Value}{pt:Value}{w0:World}(j:Nat) (w:World) (us us':Nat->Value) (hj:j<9) (h:j<8->us j=us' j) (hv:wZ B s l0 lq pt w0 j w us):wZ B s l0 lq pt w0 j w us':=by
 rcases(by omega:j=0\/j=1\/j=2\/j=3\/j=4\/j=5\/j=6\/j=7\/j=8) with rfl|rfl|rfl|rfl|rfl|rfl|rfl|rfl|rfl;all_goals first|exact hv|(have e:=h (by decide);simp only[wZ]at hv ⊢;rw[←e];exact hv)
abbrev lV:List (List Nat):=[[],[],[],[0],[],[],[0,3,5],[]]
theorem qE {B:Nat}{s:Sl}{l0 lq:List Value}{pt:Value}{w0:World}(hB:B=w0.heap.size) (hq:lq≠[]) (j k:Nat) (w w':World) (us:Nat->Value) (hj:j<9) (hjk:j≠k) (hl:CY lV k j=false) (hr:rvR B k w w') (hv:wZ B s l0 lq pt w0 j w us):wZ B s l0 lq pt w0 j w' us:=by
 rcases(by omega:j=0\/j=1\/j=2\/j=3\/j=4\/j=5\/j=6\/j=7\/j=8) with rfl|rfl|rfl|rfl|rfl|rfl|rfl|rfl|rfl;case inr.inl|inr.inr.inl|inr.inr.inr.inr.inl|inr.inr.inr.inr.inr.inr.inr.inl=>exact hv
 ·have hx:=Rc (by rintro rfl;exact absurd hl (by decide)) (by rintro rfl;exact absurd hl (by decide)) hr;obtain⟨g,h1,h2,h3⟩:=hv;exact⟨g,h1,h2,h3.ext hx⟩
 ·have hx:=Rc (AX hjk) (by rintro rfl;exact absurd hl (by decide)) hr;obtain⟨t,h1,h2,h3⟩:=hv;exact⟨t,h1,h2,Qc h3 hx⟩
 ·obtain⟨g,h1,h2⟩:=hv;refine⟨g,h1,?_⟩;by_cases e:k=3
  ·subst e;obtain⟨g0,_,h4,h5⟩:=hr;refine h2.grown h5 λe=>?_;have e2:g=g0:=NU e;subst e2;have h6:=h4.symm.trans h2;simp at h6;exact hq h6
  ·exact h2.ext (Rc e (by rintro rfl;exact absurd hl (by decide)) hr)
 ·obtain⟨t,h1,h2,h3⟩:=hv;refine⟨t,h1,h2,?_⟩;by_cases e:k=3
  ·subst e;obtain⟨g0,_,h4,h5⟩:=hr;refine h3.kept h5 (.inr λe=>?_);rcases h3.2 with⟨_,h⟩|⟨g,cap,cur,h6,_,h7,h8,_,h9,_⟩
   ·omega
   ·rw[h6]at e;have e2:g=g0:=NU e;subst e2;have GL:cur=#[]:=by have:=h4.symm.trans h7;simp at this;exact this
    rw[GL]at h9;have oY:0=cap*96:=h9;omega
  ·exact Qc h3 (Rc e (AX hjk) hr)
 ·have h0:Ext w0 w:=hv;show Ext w0 w';by_cases e:k=3
  ·subst e;obtain⟨g0,h3,_,h5⟩:=hr;exact h0.grown h5 (λk e=>by cases e;omega)
  ·by_cases e6:k=6
   ·subst e6;obtain⟨r,h3,h5⟩:=hr;exact h0.grown h5 (λk e=>by have:=h3 k e;omega)
   ·exact h0.trans (Rc e e6 hr)
theorem IK (fr bl:Sl) (s:List UInt8) (pid:Int) (a:QO) (d1 e:Qz) (I1 I2:Option Int) (w:World)
  (hM:∀w',Ext w w'->Calls prog 29 #[.agg (Xs fr bl s)] w' λen w''=>∃z:QO,en=.returned (.tuple #[.agg z.cells,.int .i64 0])/\Ext w' w''/\Q0 w'' z d1/\Z3 z d1)
  (ha:Q0 w a e) (dJ:YY a) (K8:a.pr.n<=4000) (U1:a.pi.n<=4000) (Wp:ZW (QS d1.bl d1.pe d1.di) I1) (Rl:ZW (QS e.bl e.pe e.di) I2) (GQ:(QS d1.bl d1.pe d1.di).length<=100000) (GR:(QS e.bl e.pe e.di).length<=100000) :
  Calls prog 15 #[.agg (Xs fr bl s),.int .i64 pid,.agg a.cells] w λen w'=>D8 a d1 e I1 I2 pid w' en/\Ext w w':=by
 obtain⟨OUT,NZ⟩:∃OUT,OUT=D8 a d1 e I1 I2 pid:=⟨_,rfl⟩
 rw[←NZ];have HO:=Qa NZ;clear NZ;have HM:=Qa hM;have xK:=Qa (λw h=>Ei a e w h K8 U1);have nC:=Qa (λw h=>ed a e w h K8 dJ.fr);have sI:=Qa (λz w h k=>BN z d1 pid w h k);have As:=Qa (λy w=>IJ y w);have rx:=Qa (λ(A B:Option Addr) (ac bc:Nat) (k n p:Int) w h1 h2=>lH A B ac bc (QS d1.bl d1.pe d1.di) (QS e.bl e.pe e.di) I1 I2 k n p w h1 h2 Wp Rl GQ GR);have vX:=Qa dJ;have x0:=(((Qg w).alloc (.cells (Xs fr bl s) 24)).alloc (.cells a.cells 38)).alloc (.cells QB.cells 38);have bi:=((Qs w 24 (Xs fr bl s)).ext ((Qg _).alloc (.cells a.cells 38))).ext ((Qg _).alloc (.cells QB.cells 38));have b5:=(Qs (w.alloc (.cells (Xs fr bl s) 24)) 38 a.cells).ext ((Qg _).alloc (.cells QB.cells 38));have b6:=Qs ((w.alloc (.cells (Xs fr bl s) 24)).alloc (.cells a.cells 38)) 38 QB.cells;rw[YB]at b5;rw[YB,YB]at b6;have H2:=Qa ha;clear hM ha dJ K8 U1 Wp Rl GQ GR;go_enter func15,ntmps15;go_upto_region 1 with fail;change Code.wp _ _ _ _ (((w.alloc (.cells (Xs fr bl s) 24)).alloc (.cells a.cells 38)).alloc (.cells QB.cells 38));generalize ((w.alloc (.cells (Xs fr bl s) 24)).alloc (.cells a.cells 38)).alloc (.cells QB.cells 38)=w1 at *;obtain⟨G,hG⟩:∃G,G=w.heap.size:=⟨_,rfl⟩
 rw[←hG]at bi b5 b6 ⊢;have HG:=Qa hG;clear hG;go_upto_region 2 with(refine Qr (.tmp 9) (.tmp 22) rfl rfl w1.heap.size QB _ _ rfl rfl (Qs _ _ _) rfl ?_;intro w2 bN g2)
 have y2:Ext w1 w2:=((Qg w1).alloc _).grown g2 (λj e=>by cases e;exact Q4 _);have hgN:G+1+1<w1.heap.size:=b6.lt;replace bi:=bi.ext y2;replace b5:=b5.ext y2;replace b6:=b6.ext y2;have X2:=Qa (x0.trans y2);clear x0 y2 g2;generalize w1.heap.size=gN at *;clear w1
 go_upto_region 3 with(first
  | (refine J2 _ (.tmp 3) rfl rfl G (Xs fr bl s) 24 _ rfl bi underlying24 rfl CT ?_)
  | (go_at_call 29;refine(HM.o _ X2.o).mono ?_;rintro en w3 ⟨z,rfl,x3,hi,Kq⟩)
  | (refine Qr (.tmp 10) (.tmp 26) rfl rfl w3.heap.size z _ _ rfl rfl (Qs _ _ _) rfl ?_;intro w4 VM g4))
 have y4:Ext w3 w4:=((Qg w3).alloc _).grown g4 (λj e=>by cases e;exact Q4 _);have HZ:=Qa (hi.ext y4);have sZ:=Qa Kq;have X4:=Qa (X2.o.trans (x3.trans y4));replace b5:=b5.ext (x3.trans y4);replace b6:=b6.ext (x3.trans y4);replace bN:=bN.ext (x3.trans y4);clear hi Kq y4 g4 x3 bi HM X2;generalize w3.heap.size=g10 at *;clear w3
 go_upto_region 6 with(first
  | (refine Qo (.tmp 5) rfl rfl (G+1) _ _ rfl b5 rfl ?_)
  | (go_at_call 19;refine(xK.o _ (H2.o.ext X4.o)).mono ?_;rintro en w5 ⟨⟨nn,rfl,hnn⟩,x5⟩;subst hnn))
 replace b5:=b5.ext x5;replace b6:=b6.ext x5;replace bN:=bN.ext x5;replace VM:=VM.ext x5;replace HZ:=Qa (HZ.o.ext x5);replace X4:=Qa (X4.o.trans x5);clear x5 xK;clear w4;by_cases ND:Zk a e=0;case neg =>
  have HE:=Qa (show XL a e d1.pr pid=Zk a e from by unfold XL;exact Zy ND _);have HNZ:=Qa ND;generalize Zk a e=cE at *;have hcE:(cE != 0)=true:=by simpa using ND
  clear ND As sI nC rx
  go_wp2_with (first
   | (refine Qo (.tmp 9) rfl rfl gN _ _ rfl bN rfl ?_)
   | (refine Qr (.tmp 6) (.tmp 36) rfl rfl (G+1+1) QB _ _ rfl rfl b6 rfl ?_;intro w9 bb9 g9))
  refine Jv (Jj rfl _ _ (G+1+1) _ _ _ _ _ rfl rfl rfl bb9 underlying38 rfl J1) rfl ⟨?_,(X4.o).grown g9 (λj e=>by cases e;rw[←HG.o];omega)⟩;rw[HO.o];exact .inl ⟨by rw[HE.o];exact HNZ.o,by rw[HE.o];rfl⟩
 have Xc:=Qa (XP.1 ND);have HE:=Qa (show XL a e d1.pr pid=match Zc d1.pr pid with
  | none=>9
  | some y=>if 8<=e.pr.length then 6 else if (Jc a.fr.n e.pr).length<QL y 16 then 10 else 0 from by unfold XL;rw[ND];exact QY _)
 rw[ND];clear ND;have Tm:z.pr.n<=4000:=by have:=sZ.o.rest.prn;omega
 have sH:=Qa (λw h=>sI.o z w h Tm);have Nt:=pK sZ.o pid;rw[Nt]at sH;clear sI Nt Tm;generalize hlv:Zc d1.pr pid=LV at *;have yG:=Qa hlv;clear hlv
 go_upto_region 9 with(first
  | (refine Qo (.tmp 10) rfl rfl g10 _ _ rfl VM rfl ?_)
  | (go_at_call 38;refine(sH.o _ HZ.o).mono ?_;rintro en w5 ⟨rfl,x5⟩)
  | (refine J0 (.tmp 12) (.tmp 42) rfl rfl w5.heap.size (LV.getD JK) _ 57 rfl rfl (Qs _ _ _) rfl ?_;intro w6 Uq g6))
 have y6:Ext w5 w6:=((Qg w5).alloc _).grown g6 (λj e=>by cases e;exact Q4 _);replace X4:=Qa (X4.o.trans (x5.trans y6));replace HZ:=Qa (HZ.o.ext (x5.trans y6));replace b5:=b5.ext (x5.trans y6);replace b6:=b6.ext (x5.trans y6);replace bN:=bN.ext (x5.trans y6);replace VM:=VM.ext (x5.trans y6);clear x5 y6 g6 sH;generalize w5.heap.size=g12 at *;cases LV with
 | none =>
  clear As nC rx
  go_wp2_with (first
   | (refine Qo (.tmp 9) rfl rfl gN _ _ rfl bN rfl ?_)
   | (refine Qr (.tmp 6) (.tmp 46) rfl rfl (G+1+1) QB _ _ rfl rfl b6 rfl ?_;intro w9 bb9 g9))
  refine Jv (Jj rfl _ _ (G+1+1) _ _ _ _ _ rfl rfl rfl bb9 underlying38 rfl J1) rfl ⟨?_,(X4.o).grown g9 (λj e=>by cases e;rw[←HG.o];omega)⟩;rw[HO.o];exact .inl ⟨by rw[HE.o];decide,by rw[HE.o];rfl⟩
 | some y =>
 replace Uq:Box w6 g12 57 (Qq y).toArray:=Uq;have Rn:a.pr.n=e.pr.length:=H2.o.pr.1;have k5:w6.cell? ⟨G+1,5,none⟩=some (.slice a.pr.A a.pr.n a.pr.c):=b5.cell 5;have Qb7:(some y).isSome=true:=rfl;by_cases h8:8<=e.pr.length
 ·have aw:=Qa (HE.o.trans (QN h8));have tv:decide ((8:Int)<=(a.pr.n:Int))=true:=by simp;omega
  clear As nC rx HE Rn h8
  go_wp2_with (first
   | (refine Qo (.tmp 9) rfl rfl gN _ _ rfl bN rfl ?_)
   | (refine Qr (.tmp 6) (.tmp 51) rfl rfl (G+1+1) QB _ _ rfl rfl b6 rfl ?_;intro w9 bb9 g9))
  refine Jv (Jj rfl _ _ (G+1+1) _ _ _ _ _ rfl rfl rfl bb9 underlying38 rfl J1) rfl ⟨?_,(X4.o).grown g9 (λj e=>by cases e;rw[←HG.o];omega)⟩;rw[HO.o];exact .inl ⟨by rw[aw.o];decide,by rw[aw.o];rfl⟩
 have tv:decide ((8:Int)<=(a.pr.n:Int))=false:=by simp;omega
 have H8:=Qa (show e.pr.length<8 by omega);have aw:=Qa (HE.o.trans (QD h8));clear Rn h8 HE
 go_upto_region 14 with(first
  | (refine Qo (.tmp 5) rfl rfl (G+1) _ _ rfl b5 rfl ?_)
  | (go_at_call 39;refine(nC.o _ (H2.o.ext X4.o)).mono ?_;rintro en w7 ⟨u,rfl,x7,ow7⟩))
 obtain⟨AF,cF,hu⟩:∃A c,u=.slice A (Jc a.fr.n e.pr).length c:=by
  rcases ow7.2 with⟨h1,h2⟩|⟨g,cap,cur,h1,_⟩
  ·exact⟨none,0,by rw[h1,h2]⟩
  ·exact⟨_,_,h1⟩
 subst hu;have AJ:=Qa (Q8 ow7 (WP _));replace X4:=Qa (X4.o.trans x7);replace HZ:=Qa (HZ.o.ext x7);replace b5:=b5.ext x7;replace b6:=b6.ext x7;replace bN:=bN.ext x7;replace VM:=VM.ext x7;replace Uq:=Uq.ext x7;clear ow7 x7 nC k5 tv Qb7;clear w6 w5;by_cases hfp:(Jc a.fr.n e.pr).length<QL y 16
 ·have xO:=Qa (aw.o.trans (QN hfp));have jX:decide (((Jc a.fr.n e.pr).length:Int)<(QL y 16:Int))=true:=by simp;omega
  have ol:decide ((Jc a.fr.n e.pr).length<QL y 16)=true:=by simp;omega
  clear hfp
  go_upto_region 15 with(first
   | (refine QT (.tmp 12) rfl rfl g12 0 y rfl (Je Uq) ?_)
   | (go_at_call 40;refine(As.o y _).mono ?_;rintro en w8 ⟨rfl,x8⟩;replace b6:=b6.ext x8;replace bN:=bN.ext x8;replace X4:=Qa (X4.o.trans x8)))
  clear As rx aw
  go_wp2_with (first
   | (refine Qo (.tmp 9) rfl rfl gN _ _ rfl bN rfl ?_)
   | (refine Qr (.tmp 6) (.tmp 59) rfl rfl (G+1+1) QB _ _ rfl rfl b6 rfl ?_;intro w9 bb9 g9))
  refine Jv (Jj rfl _ _ (G+1+1) _ _ _ _ _ rfl rfl rfl bb9 underlying38 rfl J1) rfl ⟨?_,(X4.o).grown g9 (λj e=>by cases e;rw[←HG.o];omega)⟩;rw[HO.o];exact .inl ⟨by rw[xO.o];decide,by rw[xO.o];rfl⟩
 have jX:decide (((Jc a.fr.n e.pr).length:Int)<(QL y 16:Int))=false:=by simp;omega
 have ol:decide ((Jc a.fr.n e.pr).length<QL y 16)=false:=by simp;omega
 have DS:=Qa (show QL y 16<=(Jc a.fr.n e.pr).length by omega);clear hfp aw
 go_upto_region 16 with(first
  | (refine QT (.tmp 12) rfl rfl g12 0 y rfl (Je Uq) ?_)
  | (go_at_call 40;refine(As.o y _).mono ?_;rintro en w8 ⟨rfl,x8⟩))
 replace X4:=Qa (X4.o.trans x8);replace HZ:=Qa (HZ.o.ext x8);replace AJ:=Qa (Qc AJ.o x8);replace b5:=b5.ext x8;replace b6:=b6.ext x8;replace VM:=VM.ext x8;replace Uq:=Uq.ext x8;clear x8 As jX ol bN;clear w7;have HJ1:=Qa sZ.o.disk.1;have HJ2:=Qa Xc.o.disk.1;obtain⟨V1,hV1⟩:∃V,V=QS d1.bl d1.pe d1.di:=⟨_,rfl⟩
 obtain⟨V2,hV2⟩:∃V,V=QS e.bl e.pe e.di:=⟨_,rfl⟩
 have P1:=Qa (λw (h:Q0 w z d1)=>show Calls prog 30 #[.agg z.cells] w λen w'=>∃A c,en=.returned (.slice A V1.length c)/\Strs w' A V1.length V1/\Ext w w' from(Er z d1 w h HJ1.o).mono (λen w' k=>by
  obtain⟨A,c,rfl,x,o⟩:=k;rw[hV1];exact⟨A,c,rfl,GA o,x⟩))
 have P2:=Qa (λw (h:Q0 w a e)=>show Calls prog 30 #[.agg a.cells] w λen w'=>∃A c,en=.returned (.slice A V2.length c)/\Strs w' A V2.length V2/\Ext w w' from(Er a e w h HJ2.o).mono (λen w' k=>by
  obtain⟨A,c,rfl,x,o⟩:=k;rw[hV2];exact⟨A,c,rfl,GA o,x⟩))
 rw[←hV1,←hV2]at rx;obtain⟨F,hF⟩:∃F,F=Ft d1 e I1 I2 y:=⟨_,rfl⟩
 have EI:=Qa (λi=>show F i=Xv (Zr V1 I1) (Yz V2 I2) (y.fk i) (y.fn i) (y.fp i) from by rw[hF,hV1,hV2];rfl);have ga:=Qa hF;clear hV1 hV2 hF;try simp only[Act.put]
 refine Ya 4 [[],[0],[],[2]] (TT [Ka (.agg z.cells),lR V1,Ka (.agg a.cells),lR V2]) (by kernel_rfl) (by kernel_rfl) (WZ (λp hp=>by simp only[Pm,Rw,Fe]at hp;rcases hp with rfl|rfl|rfl|rfl<;>first|exact TR _|exact SP _)) (λus=>?_);simp only[KG,KI,UY,KJ];rw[Qu];refine ZU (λw' hx hd=>?_) ?_
 ·clear hd;refine Qp 60 rfl (by simp) rfl ?_;go_wp2_with (refine Qo (.tmp 10) rfl rfl g10 _ _ rfl (VM.ext hx) rfl ?_)
  exact⟨Qg _,rfl⟩
 simp only[S_];rw[Qu];refine ZU (λw' hx hd=>?_) ?_
 ·have h0:=hd 0 (by simp);clear hd;generalize us 0=u0 at *;obtain rfl:u0=.agg z.cells:=h0;refine Qp 61 rfl (by simp[Act.put]) rfl ?_;go_wp2_with (go_at_call 30;with_reducible (refine(P1.o _ (HZ.o.ext hx)).mono ?_);rintro en w2 ⟨A,c,rfl,hr,x2⟩)
  first|exact⟨x2,A,c,rfl,hr⟩|exact⟨A,c,rfl,hr⟩
 simp only[S_];rw[Qu];refine ZU (λw' hx hd=>?_) ?_
 ·clear hd;refine Qp 62 rfl (by simp[Act.put]) rfl ?_;go_wp2_with (refine Qo (.tmp 5) rfl rfl (G+1) _ _ rfl (b5.ext hx) rfl ?_)
  exact⟨Qg _,rfl⟩
 simp only[S_];rw[Qu];refine ZU (λw' hx hd=>?_) ?_
 ·have h2:=hd 2 (by simp);clear hd;generalize us 2=u2 at *;obtain rfl:u2=.agg a.cells:=h2;refine Qp 63 rfl (by simp[Act.put]) rfl ?_;go_wp2_with (go_at_call 30;with_reducible (refine(P2.o _ ((H2.o.ext X4.o).ext hx)).mono ?_);rintro en w2 ⟨A,c,rfl,hr,x2⟩)
  first|exact⟨x2,A,c,rfl,hr⟩|exact⟨A,c,rfl,hr⟩
 simp only[S_];rw[Qu];intro w' hx hv;have h1:=hv 1 (by omega);have h3:=hv 3 (by omega);clear hv;generalize us 0=u0 at *;generalize us 1=u1 at *;generalize us 2=u2 at *;generalize us 3=u3 at *;obtain⟨A61,c61,rfl,s61⟩:=h1;obtain⟨A63,c63,rfl,s63⟩:=h3;replace X4:=Qa (X4.o.trans hx);replace HZ:=Qa (HZ.o.ext hx);replace AJ:=Qa (Qc AJ.o hx);replace b5:=b5.ext hx;replace b6:=b6.ext hx;replace VM:=VM.ext hx;replace Uq:=Uq.ext hx;have yn:=Qa s61;have yo:=Qa s63;clear hx s61 s63 P1 P2 HJ1 HJ2;obtain⟨wP,hwP⟩:∃v:World,v=w':=⟨_,rfl⟩
 subst hwP;have q6:wP.cell? ⟨G+1,6,none⟩=some (.int .i64 a.next):=b5.cell 6;have q92:wP.cell? ⟨g12,92,none⟩=some (.bool y.mask):=(Uq.cell 92).trans (eF y);obtain⟨free,U0⟩:∃free,free=Jc a.fr.n e.pr:=⟨_,rfl⟩
 have KS:=Qa U0;clear U0
 go_upto_region 18 with(first
  | (refine Gg (.tmp 66) rfl rfl g12 57 y rfl Uq ?_)
  | (refine DP (.tmp 65) (.tmp 67) (.tmp 69) y a.next free rfl rfl rfl rfl rfl ?_)
  | (refine J0 (.tmp 17) (.tmp 70) rfl rfl wP.heap.size (JI y a.next free oN 0) _ 57 rfl rfl (Qs _ _ _) rfl ?_;intro w8 b17 g8))
 have y8:Ext wP w8:=((Qg wP).alloc _).grown g8 (λj e=>by cases e;exact Q4 _);obtain⟨g17,uB⟩:∃g,g=wP.heap.size:=⟨_,rfl⟩
 rw[←uB]at b17 ⊢;have sA:=Qa (show wP.heap.size<=g17 by omega);clear uB q6 q92 g8;have rO:0<a.fr.n:=Xc.o.rest.frn.1;have Qkf:=Xc.o.rest.frn.2;have o0:=Q8 (Y2 w8 9 1) y8.size;have xA:=(Qg w8).alloc (.cells #[] 9);have k4:(w8.alloc (.cells #[] 9)).cell? ⟨G+1,4,none⟩=some (.slice a.fr.A a.fr.n a.fr.c):=(b5.ext (y8.trans xA)).cell 4;have Qb9:=(H2.o.ext X4.o).fr.strs.ext (y8.trans xA);have CR:=(y8.trans xA).size;have Ci:=b17.ext xA;have y8A:=y8.trans xA;go_upto_region 19 with(refine Jy (n:=0) (xs:=[]) (m:=a.fr.n) wP.heap.size rfl (.tmp 71) (.tmp 73) rfl rfl rfl o0 Qb9 (by omega) CR rO ?_;intro u9 w9 o9 g9)
 have y9:Ext wP w9:=y8A.grown g9 (λk e=>QU o0 e);have bW:=Ci.grown g9 (QX o0 Ci (by decide));rw[Nz,bQ]at o9;obtain⟨gF,cN,hgF,hgFb⟩:=Uj o9 rO;subst hgF;have Qbp:g17≠gF:=λh=>QX o9 bW (by decide) (by rw[h];rfl);have HY9:=Qa y9;have yU:=Qa o9;have wu:=Qa bW;clear o0 xA k4 Qb9 CR Ci y8A g9 y9 o9 bW y8 b17;obtain⟨hLc,gb,hgb⟩:=Lf AJ.o rfl;have xT:=Qa (λc (hc:c<(Jc a.fr.n e.pr).length)=>Le (n:=a.fr.n) (l:=e.pr) hc);have oe:(Jc a.fr.n e.pr).length<=64:=YR (TG _ _) Qkf;have xt:=Qa hgb;rw[←KS.o]at oe ⊢;have gc:=Qa (show 0<free.length->AF=some ⟨gb,0,none⟩/\∀i,i<free.length->wP.cell? ⟨gb,i,none⟩=some (.int .i64 ((free.getD i 0:Nat):Int)) fromλh=>by have hq:=xt.o;rw[←KS.o]at hq;exact hq h);have mz:=Qa (show∀c,c<free.length->free.getD c 0<a.fr.n fromλc hc=>by have hq:=xT.o;rw[←KS.o]at hq;exact(hq c hc).1);have mt:=Qa (show QL y 16<=free.length from by rw[KS.o];exact DS.o);have nL:=Qa (λj hj=>((sZ.o.proc (UH yG.o).1).page j hj));have Rq:=Qa (show a.fr.n=e.fr.length from H2.o.fr.1);clear hgb xt xT hLc;go_upto_region 21 with fail;go_loopw [19,20] (λkv i wx=>∃j:Nat,j<=16/\i=.int .i64 j/\kv=.int .i64 (QL y j)/\Ext wP wx/\wx.ownsRow wP.heap.size 9 1 (.slice (some ⟨gF,0,none⟩) a.fr.n cN) a.fr.n (Q5 (NB d1.fr y free e.fr j))/\Box wx g17 57 (Qq (JI y a.next free oN j)).toArray) (λ_ i _=>16-(intOf i).toNat);case atStart=>exact⟨0,by omega,rfl,rfl,HY9.o,yU.o,wu.o⟩
 case round =>
  clear HY9 yU wu;obtain⟨j,hj,rfl,rfl,xj,own,b17⟩:=hrel;have Wc:=Qa own;clear own;by_cases Qn:j<16
  ·have Kp:(j:Int)<16:=by omega
   have Ma:=nL.o j Qn;have Y1:y.pis j=false\/(y.pis j=true/\∃pf:Nat,y.pfr j=(pf:Int)/\pf<z.fr.n):=by
    rcases Ma with⟨h1,_⟩|⟨h1,_,h3,h4,_⟩
    ·exact .inl h1
    ·exact .inr ⟨h1,(y.pfr j).toNat,by omega,by omega⟩
   clear Ma;have mp:=Qa (λ(w':World) (x:Ext wr w')=>Uq.ext (xj.trans x));have q0:wr.cell? ⟨g12,20+j*3,none⟩=some (.bool (y.pis j)):=((mp.o wr (Qg wr)).cell (20+j*3)).trans (Nd y Qn 0 _ rfl);rcases Y1 with hp|⟨hp,pf,mh,XS⟩
   ·have XH:=Qa (LJ (next:=a.next) (free:=free) (F:=oN) hp);have qf:=Qa (show NB d1.fr y free e.fr (j+1)=NB d1.fr y free e.fr j from by rw[NB,QD (by rw[hp];decide)]);have gx:=Qa (show QL y (j+1)=QL y j from by rw[QL,QD (by rw[hp];decide)];rfl);rw[hp]at q0;clear hp;go_wp2_with fail;go_roundw;case rel=>exact⟨j+1,by omega,by go_num,by rw[gx.o],xj,by rw[qf.o];exact Wc.o,by rw[←XH.o];exact b17⟩
    case measure=>simp[intOf];omega
   ·have hc:QL y j<free.length:=Ca (M2 Qn hp) mt.o;have ff:=Qa (show Mc (Qq (JI y a.next free oN j)).toArray (20+j*3) [.bool true,.bool (y.pwr j),.int .i64 ((free.getD (QL y j) 0:Nat):Int)]=(Qq (JI y a.next free oN (j+1))).toArray from by rw[BC _ j Qn,LI hp]);have sN:=Qa (show NB d1.fr y free e.fr (j+1)=(NB d1.fr y free e.fr j).set (free.getD (QL y j) 0) (d1.fr.getD pf []) from by rw[NB,QN hp,mh,mU]);have qa:=Qa (show QL y (j+1)=QL y j+1 from by rw[QL,QN hp]);obtain⟨hAF,hfc⟩:=gc.o (by omega);have kf:=hfc _ hc;have hff:=mz.o _ hc;obtain⟨AE,Da⟩:=HZ.o.fr.strs;obtain⟨bz,oz,hzA,hzc⟩:=Da (by omega);have kz:wP.cell? ⟨bz,oz+pf,none⟩=some (.string (Qb (d1.fr.getD pf []))):=by
     rw[Yb,ZX (by omega)];exact hzc pf (by omega)
    have HZA:=Qa hzA;have e1:∀w',Ext wr w'->w'.cell? ⟨g12,20+j*3+2,none⟩=some (.int .i64 (y.pfr j)):=λw' x=>((mp.o w' x).cell (20+j*3+2)).trans (Nd y Qn 2 _ rfl);have e2:∀w',Ext wr w'->w'.cell? ⟨g12,20+j*3+1,none⟩=some (.bool (y.pwr j)):=λw' x=>((mp.o w' x).cell (20+j*3+1)).trans (Nd y Qn 1 _ rfl);rw[hp]at q0;rw[mh]at e1;clear hfc AE Da hzc hzA;rw[hAF];generalize hsr:d1.fr.getD pf []=sr at *;generalize hfe:free.getD (QL y j) 0=f at *;generalize hce:QL y j=c at *;generalize y.pwr j=iw at *;have HE1:=Qa e1;have D0:=Qa e2;clear hsr hp mh e1 e2 hfe hce;have L9:∀v:Qt wr,v.now.cell? ⟨g10,4,none⟩=some (.slice (some ⟨bz,oz,none⟩) z.fr.n z.fr.c):=λv=>by rw[←HZA.o];exact(VM.ext (xj.trans v.ext)).cell 4
    have Lg:∀v:Qt wr,v.now.cell? ⟨gb,c,none⟩=some (.int .i64 (f:Int)):=λv=>(xj.trans v.ext).keep kf;have sa:∀v:Qt wr,v.now.cell? ⟨g12,20+j*3+2,none⟩=some (.int .i64 (pf:Int)):=λv=>HE1.o _ v.ext;have Lz:∀v:Qt wr,v.now.cell? ⟨bz,oz+pf,none⟩=some (.string (Qb sr)):=λv=>(xj.trans v.ext).keep kz;have n1:(pf:Int)<(z.fr.n:Int):=by omega
    have n2:(c:Int)<(free.length:Int):=by omega
    have n3:(f:Int)<(a.fr.n:Int):=by omega
    go_upto_region 24 with fail;try simp only[Act.put]
    refine Ja 15 (by kernel_rfl) (by kernel_rfl) ?_;simp only[KG,KI,UY,KJ];repeat (go_big_quiet_step (fail))
    refine VI ?_;rintro wv' ⟨v,rfl⟩;have pW:=Qc Wc.o v.ext;have jW:=Uy d1.fr y free e.fr j;have DW:f<(NB d1.fr y free e.fr j).length:=by rw[jW,←Rq.o];omega
    have kc:v.now.cell? ⟨gF,f,none⟩=some (.string (Qb ((NB d1.fr y free e.fr j).getD f []))):=(pW.cellAt f (by omega)).trans (by
     show(Q5 (NB d1.fr y free e.fr j))[f]? =_;simp[Q5,DW,Yb])
    have kfz:=pW.frozenAt f;have xv:=Qa (xj.trans v.ext);have HXR:=Qa v.ext;have zw:=b17.ext v.ext;have bD:=Qa pW;clear pW jW DW L9 Lg sa Lz n1 n3 q0 b17 Wc;generalize v.now=wv at *;go_upto_region 25 with fail;have yW:=Qa (UL (i:=f) bD.o sr);have dS:=(But.refl gF wv).setCell f (.string (Qb sr));have zu:=dS.box zw Qbp;have xs:Ext wP (wv.setCell ⟨gF,f,none⟩ (.string (Qb sr))):=xv.o.setCell hgFb _
    have HIW:=Qa (λ(w':World) (x:Ext (wv.setCell ⟨gF,f,none⟩ (.string (Qb sr))) w')=>show w'.cell? ⟨g12,20+j*3+1,none⟩=some (.bool iw) from
     (((Uq.ext (xs.trans x)).cell (20+j*3+1)).trans (Nd y Qn 1 _ rfl)).trans (by
       have h1:=(((mp.o wv HXR.o).cell (20+j*3+1)).trans (Nd y Qn 1 _ rfl)).symm.trans (D0.o wv HXR.o);exact h1))
    generalize wv.setCell ⟨gF,f,none⟩ (.string (Qb sr))=ws at *;clear dS kc kfz xv zw bD;have Lg:∀v:Qt ws,v.now.cell? ⟨gb,c,none⟩=some (.int .i64 (f:Int)):=λv=>(xs.trans v.ext).keep kf;have sa:∀v:Qt ws,v.now.cell? ⟨g12,20+j*3+1,none⟩=some (.bool iw):=λv=>HIW.o _ v.ext;try simp only[Act.put]
    refine Ja 13 (by kernel_rfl) (by kernel_rfl) ?_;simp only[KG,KI,UY,KJ];repeat (go_big_quiet_step (fail))
    refine VI ?_;rintro wv' ⟨v,rfl⟩;have tN:=zu.ext v.ext;have yX:=Qa (Qc yW.o v.ext);have xy:=Qa (xs.trans v.ext);clear Lg sa zu yW xs HIW;generalize v.now=wy at *;go_upto_region 26 with(refine Yg 50 (.tmp 111) (.tmp 109) rfl rfl g17 (20+j*3) [.bool true,.bool iw,.int .i64 (f:Int)] _ (Qq (JI y a.next free oN (j+1))).toArray 57 rfl rfl (aY _ _ _) Kz tN (by show 20+j*3+3<=96;omega) ff.o ?_;intro wn b17n dn)
    have yV:=Qa (Qi yX.o dn tN (by decide));have xn:=dn.past xy.o sA.o;have hc64:(c:Int)<64:=by omega
    clear yX xy dn tN;go_wp2_with fail;go_roundw;case rel=>exact⟨j+1,by omega,by go_num,by rw[qa.o];go_num,xn,by rw[sN.o];exact yV.o,b17n⟩
    case measure=>simp[intOf];omega
  ·obtain rfl:j=16:=by omega
   have TI:¬((16:Int)<16):=by omega
   have zt:Box wr g17 57 (Qq (JI y a.next free (ma F 0) 16)).toArray:=b17;have AP:=Qa xj;have qT:=Qa zt;have HO4:=Qa Wc.o;clear b17 zt Wc xj Qn hj gc mz mt nL oe;go_upto_region 28 with fail;go_loopw [21] (λi wx=>∃j:Nat,j<=8/\i=.int .i64 j/\Ext wP wx/\wx.ownsRow wP.heap.size 9 1 (.slice (some ⟨gF,0,none⟩) a.fr.n cN) a.fr.n (Q5 (NB d1.fr y free e.fr 16))/\Box wx g17 57 (Qq (JI y a.next free (ma F j) 16)).toArray) (λi _=>8-(intOf i).toNat);case atStart=>exact⟨0,by omega,rfl,AP.o,HO4.o,qT.o⟩
   case round =>
    clear AP HO4 qT;obtain⟨j,hj,rfl,xj,own,b17⟩:=hrel;have Wc:=Qa own;clear own;by_cases Qn:j<8
    ·have Kp:(j:Int)<8:=by omega
     have bk:=Uq.ext xj;have c0:wr.cell? ⟨g12,68+j*3,none⟩=some (.int .i64 (y.fk j)):=(bk.cell (68+j*3)).trans (Iv y Qn 0 _ rfl);have c1:wr.cell? ⟨g12,68+j*3+1,none⟩=some (.int .i64 (y.fn j)):=(bk.cell (68+j*3+1)).trans (Iv y Qn 1 _ rfl);have c2:wr.cell? ⟨g12,68+j*3+2,none⟩=some (.int .i64 (y.fp j)):=(bk.cell (68+j*3+2)).trans (Iv y Qn 2 _ rfl);have rz:=Qa (λw h1 h2=>rx.o A61 A63 c61 c63 (y.fk j) (y.fn j) (y.fp j) w h1 h2);rw[←EI.o j]at rz;have ff:=Qa (show Mc (Qq (JI y a.next free (ma F j) 16)).toArray (68+j*3) [.int .i64 (F j).1,.int .i64 (F j).2.1,.int .i64 (F j).2.2]=(Qq (JI y a.next free (ma F (j+1)) 16)).toArray from by rw[eS _ j Qn,kH]);generalize F j=Fj at *;generalize y.fk j=fk at *;generalize y.fn j=fn at *;generalize y.fp j=fp at *;clear bk
     go_upto_region 29 with(first
      | (go_at_call 41;refine(rz.o _ (yn.o.ext xj) (yo.o.ext xj)).mono ?_;rintro en wf ⟨rfl,xf⟩;have tM:=b17.ext xf)
      | (refine Yg 54 (.tmp 127) (.tmp 125) rfl rfl g17 (68+j*3) [.int .i64 Fj.1,.int .i64 Fj.2.1,.int .i64 Fj.2.2] _ (Qq (JI y a.next free (ma F (j+1)) 16)).toArray 57 rfl rfl (Mr _ _ _) KL tM (by show 68+j*3+3<=96;omega) ff.o ?_;intro wn b17n dn))
     have yV:=Qa (Qi (Qc Wc.o xf) dn tM (by decide));have xn:=dn.past (xj.trans xf) sA.o;clear Wc xj xf dn tM b17 c0 c1 c2 rz ff;go_wp2_with fail;go_roundw;case rel=>exact⟨j+1,by omega,by go_num,xn,yV.o,b17n⟩
     case measure=>simp[intOf];omega
    ·obtain rfl:j=8:=by omega
     rw[dj]at b17;obtain⟨q,hq⟩:∃q,q=JI y a.next free F 16:=⟨_,rfl⟩
     rw[←hq]at b17;have HQ:=Qa hq;have Qbk:=b5.lt;have rJ:w.heap.size<=G+1:=by have:=HG.o;omega
     have h17:=sA.o;have Qkw:=b6.lt;have nJ:=Qa (show g17≠G+1/\g17≠G+1+1 from⟨by omega,by omega⟩);clear Qkw;have b5w:=b5.ext xj;have b6w:=b6.ext xj;have XJ:=Qa xj;clear hq rx EI yn yo AJ Qn hj VM Uq HZ xj;go_upto_region 31 with fail;try simp only[Act.put]
     go_cut [] from 22 to 129 (λwx=>Box wx (G+1) 38 ({ a with fr:=⟨some ⟨gF,0,none⟩,a.fr.n,cN⟩ }:QO).cells/\Box wx g17 57 (Qq q).toArray/\Box wx (G+1+1) 38 QB.cells/\wx.ownsRow w.heap.size 9 1 (.slice (some ⟨gF,0,none⟩) a.fr.n cN) a.fr.n (Q5 (NB d1.fr y free e.fr 16))/\Ext w wx);case first =>
      go_wp2_with (refine QJ 22 (.tmp 129) (.tmp 128) rfl rfl (G+1) 4 (.slice (some ⟨gF,0,none⟩) a.fr.n cN) _ ({ a with fr:=⟨some ⟨gF,0,none⟩,a.fr.n,cN⟩ }:QO).cells _ rfl rfl rfl Hu b5w (show 4<17 by decide) rfl ?_;intro wA bA dA)
      go_meet;exact⟨bA,dA.box b17 nJ.o.1,dA.box b6w (show G+1+1≠G+1 by omega),Q8 (Qi Wc.o dA b5w (by decide)) X4.o.size,dA.past (X4.o.trans XJ.o) rJ⟩
     case rest =>
     obtain⟨bA,Ci,b6A,kL,xA⟩:=hcut;have D5:=Qa kL;have XA:=Qa xA;have Ar:=Qa (λ(w':World) (x:Ext wc w')=>(H2.o.ext (xA.trans x)).pr);have vS:=Qa H2.o.prk;have K8:a.pr.n<8:=by have h1:a.pr.n=e.pr.length:=H2.o.pr.1;have:=H8.o;omega
     have HK5:=Qa (λ(w':World) (x:Ext wc w')=>show w'.cell? ⟨G+1,5,none⟩=some (.slice a.pr.A a.pr.n a.pr.c) from(bA.ext x).cell 5);have rP:G+1<wc.heap.size:=bA.lt;have uB:g17<wc.heap.size:=Ci.lt;clear b17 b5w b6w Wc XJ kL xA b5 b6 Qbk;clear wr;go_upto_region 32 with fail;try simp only[Act.put]
     go_cut [] from 130 to 137 (λwy=>∃s6:Sl,s6.n=a.pr.n+1/\Box wy (G+1) 38 ({ a with fr:=⟨some ⟨gF,0,none⟩,a.fr.n,cN⟩,pr:=s6 }:QO).cells/\Box wy g17 57 (Qq q).toArray/\Box wy (G+1+1) 38 QB.cells/\wy.ownsRow w.heap.size 9 1 (.slice (some ⟨gF,0,none⟩) a.fr.n cN) a.fr.n (Q5 (NB d1.fr y free e.fr 16))/\wy.ownsRow w.heap.size 57 96 (.slice s6.A s6.n s6.c) s6.n (e.pr.flatMap Qq++Qq q)/\Ext w wy);case first =>
      refine Gj 8 9 [[],[],[1],[0,2],[],[4],[3,5],[]] [[8],[],[8],[8],[8],[],[8],[]] (wZ wc.heap.size ⟨a.pr.A,a.pr.n,a.pr.c⟩ (e.pr.flatMap Qq) (Qq q) (.pointer (some ⟨G+1,5,none⟩)) wc) (λ_=>True) (rvR wc.heap.size) lV [[],[],[],[],[],[],[3],[]] (by kernel_rfl) (by kernel_rfl) (by kernel_rfl) trivial (λj us h1 h2=>by rw[show j=8 from by omega];exact(Qg wc).drew) (λ_ _ _ _ _=>trivial) (λj w us us' hj h hv=>qD j w us us' hj (λh2=>(h h2).1) hv) (λj k w w' us hj hjk hl _ hr hv=>qE rfl uk j k w w' us hj hjk hl hr hv) (λus=>?_);simp only[KG,KI,UY,KJ];rw[Qu];refine ZU (λw' _ hd=>?_) ?_
      ·have h8:Ext wc w':=hd 8 (by decide);clear hd;have x8:Ext wc w':=h8;refine Qx 130 rfl (by simp[Act.put]) ?_;go_wp2_with fail;exact⟨(Qg _).alloc _,_,Vj _ _ _,x8.size,Qs _ _ _⟩
      simp only[S_];rw[Qu];refine ZU (λw' _ hd=>?_) ?_
      ·clear hd;refine Qx 131 rfl (by simp[Act.put]) ?_;go_wp2_with fail;exact⟨Qg _,Vj _ _ _⟩
      simp only[S_];rw[Qu];refine ZU (λw' _ hd=>?_) ?_
      ·have h1:us 1=.pointer (some ⟨G+1,5,none⟩):=hd 1 (by decide);have h8:Ext wc w':=hd 8 (by decide);clear hd;have x8:Ext wc w':=h8;generalize us 1=u1 at *;obtain rfl:u1=.pointer (some ⟨G+1,5,none⟩):=h1;have k5:=HK5.o _ x8;refine Qx 132 rfl (by simp[Act.put]) ?_;go_wp2_with fail;exact⟨Qg _,Vj _ _ _⟩
      simp only[S_];rw[Qu];refine ZU (λw' _ hd=>?_) ?_
      ·have h0:∃g,us 0=.slice (some ⟨g,0,none⟩) 0 0/\wc.heap.size<=g/\Box w' g 57 #[]:=hd 0 (by decide);have h2:us 2=.slice a.pr.A a.pr.n a.pr.c:=hd 2 (by decide);have h8:Ext wc w':=hd 8 (by decide);clear hd;have x8:Ext wc w':=h8;generalize us 2=u2 at *;obtain rfl:u2=.slice a.pr.A a.pr.n a.pr.c:=h2;generalize us 0=u0 at *;obtain⟨g0,e0,hg0,b0⟩:∃g,u0=.slice (some ⟨g,0,none⟩) 0 0/\wc.heap.size<=g/\Box w' g 57 #[]:=h0;subst e0;have ow0:w'.ownsRow wc.heap.size 57 96 (.slice (some ⟨g0,0,none⟩) 0 0) 0 []:=⟨rfl,.inr ⟨g0,0,#[],rfl,hg0,b0,Q4 _,WP _,rfl,rfl⟩⟩
       refine Qx 133 rfl (by simp[Act.put]) ?_;go_wp2_with (refine KB (B0:=0) Qq 32 57 96 568 (.agg (Qq JK).toArray) wc.heap.size (l0:=[]) ⟨some ⟨g0,0,none⟩,0,0⟩ ⟨a.pr.A,a.pr.n,a.pr.c⟩ underlying32 N7 (by decide) rfl rfl (.tmp 130) (.tmp 132) rfl rfl rfl ow0 rfl (Ar.o _ x8) vS.o Q2 Ky (by show 0+a.pr.n<=100000;omega) (by show(0+a.pr.n)*568<=140737488355328;omega) x8.size ?_;intro s' w2 FN _ ho' FM)
       have e3:s'.n=a.pr.n:=by omega
       rw[e3]at ho';exact⟨⟨g0,hg0,b0,FM⟩,⟨s'.A,a.pr.n,s'.c⟩,Vj _ _ _,rfl,ho'⟩
      simp only[S_];rw[Qu];refine ZU (λw' _ hd=>?_) ?_
      ·have h8:Ext wc w':=hd 8 (by decide);clear hd;have x8:Ext wc w':=h8;have r17:=Je (Ci.ext x8);refine Qx 134 rfl (by simp[Act.put]) ?_;go_wp2_with (refine QT (.tmp 17) rfl rfl g17 0 q rfl r17 ?_)
       exact⟨Qg _,Vj _ _ _⟩
      simp only[S_];rw[Qu];refine ZU (λw' _ hd=>?_) ?_
      ·have h4:us 4=.agg (Qq q).toArray:=hd 4 (by decide);clear hd;generalize us 4=u4 at *;obtain rfl:u4=.agg (Qq q).toArray:=h4;refine Qx 135 rfl (by simp[Act.put]) ?_;go_wp2_with (refine Vk (.tmp 134) rfl rfl q rfl ?_)
       exact⟨(Qg _).alloc _,_,Vj _ _ _,Qs _ _ _⟩
      simp only[S_];rw[Qu];refine ZU (λw' _ hd=>?_) ?_
      ·have h3:∃t:Sl,us 3=.slice t.A t.n t.c/\t.n=a.pr.n/\w'.ownsRow wc.heap.size 57 96 (.slice t.A t.n t.c) t.n (e.pr.flatMap Qq):=hd 3 (by decide);have h5:∃g,us 5=.slice (some ⟨g,0,none⟩) 1 1/\Box w' g 57 (Qq q).toArray:=hd 5 (by decide);have h8:Ext wc w':=hd 8 (by decide);clear hd;have x8:Ext wc w':=h8;generalize us 3=u3 at *;obtain⟨s3,e3,mj,ow3⟩:∃t:Sl,u3=.slice t.A t.n t.c/\t.n=a.pr.n/\w'.ownsRow wc.heap.size 57 96 (.slice t.A t.n t.c) t.n (e.pr.flatMap Qq):=h3;subst e3;generalize us 5=u5 at *;obtain⟨g35,e5,wF⟩:∃g,u5=.slice (some ⟨g,0,none⟩) 1 1/\Box w' g 57 (Qq q).toArray:=h5;subst e5;refine Qx 136 rfl (by simp[Act.put]) ?_;go_wp2_with (at_builtin;refine Kk (u:=.slice s3.A s3.n s3.c) (Qq q) underlying32 N7 (by decide) ?_ (Q2 q) (Ky q) (by decide) ?_ (.tmp 133) (.tmp 135) ?_ ?_ ?_ ow3 wF (show s3.n<=1000000000 by omega) x8.size ?_;(· rfl);(· rfl);(· rfl);(· rfl);(· rfl);intro u9 w9 o9 g9;obtain⟨s9,hu9,hn9,_⟩:=Dn o9;subst hu9)
       have e9:s9.n=a.pr.n+1:=by omega
       rw[e9,mj]at o9;exact⟨⟨_,λk e=>QU ow3 e,g9⟩,⟨s9.A,a.pr.n+1,s9.c⟩,Vj _ _ _,rfl,o9⟩
      simp only[S_];rw[Qu];refine ZU (λw' _ hd=>?_) ?_
      ·clear hd;refine Qx 137 rfl (by simp[Act.put]) ?_;go_wp2_with fail;exact⟨Qg _,Vj _ _ _⟩
      simp only[S_];intro w' _ hv;have h6:∃t:Sl,us 6=.slice t.A t.n t.c/\t.n=a.pr.n+1/\w'.ownsRow wc.heap.size 57 96 (.slice t.A t.n t.c) t.n (e.pr.flatMap Qq++Qq q):=hv 6 (by decide) (by decide);have h7:us 7=.pointer (some ⟨G+1,5,none⟩):=hv 7 (by decide) (by decide);have x8:Ext wc w':=hv 8 (by decide) (by decide);clear hv;generalize us 7=u7 at *;obtain rfl:u7=.pointer (some ⟨G+1,5,none⟩):=h7;generalize us 6=u6 at *;obtain⟨s6,e6,hs6,ow6⟩:∃t:Sl,u6=.slice t.A t.n t.c/\t.n=a.pr.n+1/\w'.ownsRow wc.heap.size 57 96 (.slice t.A t.n t.c) t.n (e.pr.flatMap Qq++Qq q):=h6;subst e6;have bAc:=bA.ext x8;go_wp2_with (refine QJ 32 (.tmp 137) (.tmp 136) rfl rfl (G+1) 5 (.slice s6.A s6.n s6.c) _ ({ a with fr:=⟨some ⟨gF,0,none⟩,a.fr.n,cN⟩,pr:=s6 }:QO).cells _ rfl rfl rfl B9 bAc (show 5<17 by decide) rfl ?_;intro wB bB dB)
      go_meet;exact⟨s6,hs6,bB,dB.box (Ci.ext x8) nJ.o.1,dB.box (b6A.ext x8) (show G+1+1≠G+1 by omega),Qi (Qc D5.o x8) dB bAc (by decide),Q8 (Qi ow6 dB bAc (by decide)) XA.o.size,dB.past (XA.o.trans x8) rJ⟩
     case rest =>
     obtain⟨s6,hs6,bB,bW,qx,owF,owP,xB⟩:=hcut;have hnx:=Xc.o.rest.nums.next;have hwr:IntKind.i64.wrap (a.next+1)=a.next+1:=by rw[Wb];omega
     have q6:wc.cell? ⟨G+1,6,none⟩=some (.int .i64 a.next):=bB.cell 6;go_upto_region 34 with(refine QJ 3 (.tmp 141) (.tmp 140) rfl rfl (G+1) 6 (.int .i64 (a.next+1)) _ ({ a with fr:=⟨some ⟨gF,0,none⟩,a.fr.n,cN⟩,pr:=s6,next:=a.next+1 }:QO).cells _ rfl rfl rfl YT bB (show 6<17 by decide) rfl ?_;intro wC bC dC)
     have Qjb:=dC.box bW nJ.o.1;have b6C:=dC.box qx (show G+1+1≠G+1 by omega);have mO:=Qa (Qi owF dC bB (by decide));have nK:=Qa (Qi owP dC bB (by decide));have XC:=Qa (dC.past xB rJ);have vV:=Qa hs6;have dG:G+1≠G+1+1:=by omega
     have CN:=nJ.o.2;have aA:w.heap.size<=G+1+1:=by omega
     have rt:=Qa (λ(w':World) (h:But (G+1+1) wC.drew w')=>h.box (bC.ext (Qg wC).drew) dG);have HBQ:=Qa (λ(w':World) (h:But (G+1+1) wC.drew w')=>h.box (Qjb.ext (Qg wC).drew) CN);have sW:=Qa (λ(w':World) (h:But (G+1+1) wC.drew w')=>h.past (XC.o.trans (Qg wC).drew) aA);have Qhy:=Qa (λ(w':World) (h:But (G+1+1) wC.drew w')=>Qi (Qc mO.o ((Qg wC).drew)) h (b6C.ext (Qg wC).drew) (by decide));have Qh0:=Qa (λ(w':World) (h:But (G+1+1) wC.drew w')=>Qi (Qc nK.o ((Qg wC).drew)) h (b6C.ext (Qg wC).drew) (by decide));clear q6 hwr hnx dC owF owP xB bB bW qx bA Ci b6A D5 XA Ar vS HK5 hs6 dG CN aA;try simp only[Act.put]
     refine Vl 6 [[],[],[1],[0],[2],[]] [.agg ({ a with fr:=⟨some ⟨gF,0,none⟩,a.fr.n,cN⟩,pr:=s6,next:=a.next+1 }:QO).cells,.pointer (some ⟨g17,0,none⟩),.int .i64 q.pid,undef,.int .i64 q.pid,.int .i64 0] 3 (G+1+1) 38 ({ a with fr:=⟨some ⟨gF,0,none⟩,a.fr.n,cN⟩,pr:=s6,next:=a.next+1 }:QO).cells _ (by kernel_rfl) (by kernel_rfl) b6C rfl (λus=>?_);simp only[KG,KI,UY,KJ];rw[Qu];refine ZU (λw' hC hd=>?_) ?_
     ·clear hd;have b':=rt.o w' hC.1;refine Qx 142 rfl (by simp[Act.put]) ?_;go_wp2_with (refine Qo (.tmp 5) rfl rfl (G+1) _ _ rfl b' rfl ?_)
      exact⟨ZE.same (by decide),QP.of (by decide) rfl⟩
     simp only[S_];rw[Qu];refine ZU (λw' hC hd=>?_) ?_
     ·clear hd;refine Qx 143 rfl (by simp[Act.put]) ?_;go_wp2_with fail;exact⟨ZE.same (by decide),QP.of (by decide) rfl⟩
     simp only[S_];rw[Qu];refine ZU (λw' hC hd=>?_) ?_
     ·have h1:us 1=.pointer (some ⟨g17,0,none⟩):=QP.at (by decide) (hd 1 (by simp));clear hd;generalize us 1=u1 at *;subst h1;have q0:w'.cell? ⟨g17,0,none⟩=some (.int .i64 q.pid):=(HBQ.o w' hC.1).cell 0;refine Qx 144 rfl (by simp[Act.put]) ?_;go_wp2_with fail;exact⟨ZE.same (by decide),QP.of (by decide) rfl⟩
     simp only[S_];rw[Qu];refine ZU (λw' hC hd=>?_) ?_
     ·have h0:us 0=.agg ({ a with fr:=⟨some ⟨gF,0,none⟩,a.fr.n,cN⟩,pr:=s6,next:=a.next+1 }:QO).cells:=QP.at (by decide) (hd 0 (by simp));clear hd;generalize us 0=u0 at *;subst h0;obtain⟨hC1,cs,hC2,hC3⟩:=hC;refine Uz rfl rfl (λw u h=>h) ?_;go_wp2_with (refine Qr (.tmp 6) (.tmp 142) rfl rfl (G+1+1) ({ a with fr:=⟨some ⟨gF,0,none⟩,a.fr.n,cN⟩,pr:=s6,next:=a.next+1 }:QO) cs _ rfl rfl hC2 hC3 ?_;intro w2 b2 g2)
      exact⟨ZE.st (Qw g2) b2,QP.st b2⟩
     simp only[S_];rw[Qu];refine ZU (λw' hC hd=>?_) ?_
     ·have h2:us 2=.int .i64 q.pid:=QP.at (by decide) (hd 2 (by simp));clear hd;generalize us 2=u2 at *;subst h2;refine Qx 7 rfl (by simp[Act.put]) ?_;go_wp2_with fail;exact⟨ZE.same (by decide),QP.of (by decide) rfl⟩
     simp only[S_];rw[Qu];refine ZU (λw' hC hd=>?_) ?_
     ·clear hd;refine Qx 8 rfl (by simp[Act.put]) ?_;go_wp2_with fail;exact⟨ZE.same (by decide),QP.of (by decide) rfl⟩
     simp only[S_];rw[Qu];intro wz hC hv;have h0:us 0=.agg ({ a with fr:=⟨some ⟨gF,0,none⟩,a.fr.n,cN⟩,pr:=s6,next:=a.next+1 }:QO).cells:=QP.at (by decide) (hv 0 (by omega));have h1:us 1=.pointer (some ⟨g17,0,none⟩):=QP.at (by decide) (hv 1 (by omega));have h2:us 2=.int .i64 q.pid:=QP.at (by decide) (hv 2 (by omega));have h4:us 4=.int .i64 q.pid:=QP.at (by decide) (hv 4 (by omega));have h5:us 5=.int .i64 0:=QP.at (by decide) (hv 5 (by omega));have bz:Box wz (G+1+1) 38 ({ a with fr:=⟨some ⟨gF,0,none⟩,a.fr.n,cN⟩,pr:=s6,next:=a.next+1 }:QO).cells:=QP.bx (hv 3 (by omega));clear hv;generalize us 0=y0 at *;subst h0;generalize us 1=y1 at *;subst h1;generalize us 2=y2 at *;subst h2;generalize us 4=y4 at *;subst h4;generalize us 5=y5 at *;subst h5;generalize us 3=y3 at *;rw[wpList];have xz:=sW.o wz hC.1;go_wp2_with fail;refine Jv (Jj rfl _ _ (G+1+1) _ _ _ (.int .i64 q.pid) (.int .i64 0) rfl rfl rfl bz underlying38 rfl J1) rfl ⟨?_,xz⟩;rw[HO.o];have hqp:q.pid=a.next:=by rw[HQ.o];rfl
     have hm:=H2.o.ext xz;have of':=Qhy.o wz hC.1;have op':=Qh0.o wz hC.1;have jW:(NB d1.fr y free e.fr 16).length=a.fr.n:=by rw[Uy,Rq.o]
     have XS:(e.pr++[q]).length=s6.n:=by rw[VL,vV.o,show a.pr.n=e.pr.length from H2.o.pr.1];rfl
     rw[←TF]at of';rw[show e.pr.flatMap Qq++Qq q=(e.pr++[q]).flatMap Qq by rw[AU];simp]at op';refine .inr ⟨y,Xc.o,yG.o,H8.o,DS.o,({ a with fr:=⟨some ⟨gF,0,none⟩,a.fr.n,cN⟩,pr:=s6,next:=a.next+1 }:QO),by rw[hqp],?_,⟨rfl,rfl,rfl,rfl,rfl,rfl,rfl,rfl,rfl,rfl,rfl⟩,rfl⟩;rw[Uu,←KS.o,←ga.o,←HQ.o];exact⟨J5 (s:=⟨some ⟨gF,0,none⟩,a.fr.n,cN⟩) of' (λ_ _=>rfl) jW.symm rfl,J5 op' (λ_ _=>Q2 _) XS.symm rfl,hm.pi,hm.bl,hm.pe,hm.di,ZI (s:=⟨some ⟨gF,0,none⟩,a.fr.n,cN⟩) of' vX.o.fr,ZI op' (by rw[vV.o];have:=vX.o.pr;omega),hm.pik,hm.blk,hm.pek,hm.dik,hm.initk,hm.innk,hm.leftk⟩
theorem ez (fr bl:Sl) (s:List UInt8) (pid c:Int) (a:QO) (w:World) (hc:c≠0)
  (hM:∀w',Ext w w'->Calls prog 29 #[.agg (Xs fr bl s)] w' λen w''=>en=.returned (.tuple #[.agg QB.cells,.int .i64 c])/\Ext w' w'') :
  Calls prog 15 #[.agg (Xs fr bl s),.int .i64 pid,.agg a.cells] w λen w'=>en=.returned (.tuple #[.agg QB.cells,.int .i64 0,.int .i64 c])/\Ext w w':=by
 have HM:=Qa hM;have GO:(c != 0)=true:=by simpa using hc
 clear hc hM;have x0:=(((Qg w).alloc (.cells (Xs fr bl s) 24)).alloc (.cells a.cells 38)).alloc (.cells QB.cells 38);have bi:=((Qs w 24 (Xs fr bl s)).ext ((Qg _).alloc (.cells a.cells 38))).ext ((Qg _).alloc (.cells QB.cells 38));have b6:=Qs ((w.alloc (.cells (Xs fr bl s) 24)).alloc (.cells a.cells 38)) 38 QB.cells;rw[YB,YB]at b6;go_enter func15,ntmps15;go_upto_region 1 with fail;change Code.wp _ _ _ _ (((w.alloc (.cells (Xs fr bl s) 24)).alloc (.cells a.cells 38)).alloc (.cells QB.cells 38));generalize ((w.alloc (.cells (Xs fr bl s) 24)).alloc (.cells a.cells 38)).alloc (.cells QB.cells 38)=w1 at *;obtain⟨G,hG⟩:∃G,G=w.heap.size:=⟨_,rfl⟩
 rw[←hG]at bi b6 ⊢;have HG:=Qa hG;clear hG;go_upto_region 2 with(refine Qr (.tmp 9) (.tmp 22) rfl rfl w1.heap.size QB _ _ rfl rfl (Qs _ _ _) rfl ?_;intro w2 bN g2)
 have y2:Ext w1 w2:=((Qg w1).alloc _).grown g2 (λj e=>by cases e;exact Q4 _);replace bi:=bi.ext y2;replace b6:=b6.ext y2;have X2:=Qa (x0.trans y2);clear x0 y2 g2;generalize w1.heap.size=gN at *;clear w1
 go_upto_region 3 with(first
  | (refine J2 _ (.tmp 3) rfl rfl G (Xs fr bl s) 24 _ rfl bi underlying24 rfl CT ?_)
  | (go_at_call 29;refine(HM.o _ X2.o).mono ?_;rintro en w3 ⟨rfl,x3⟩)
  | (refine Qr (.tmp 10) (.tmp 26) rfl rfl w3.heap.size QB _ _ rfl rfl (Qs _ _ _) rfl ?_;intro w4 VM g4))
 have y4:Ext w3 w4:=((Qg w3).alloc _).grown g4 (λj e=>by cases e;exact Q4 _);have X4:=Qa (X2.o.trans (x3.trans y4));replace b6:=b6.ext (x3.trans y4);replace bN:=bN.ext (x3.trans y4);clear y4 g4 x3 bi HM X2 VM;generalize w3.heap.size=g10 at *;clear w3
 go_wp2_with (first
  | (refine Qo (.tmp 9) rfl rfl gN _ _ rfl bN rfl ?_)
  | (refine Qr (.tmp 6) _ rfl rfl (G+1+1) QB _ _ rfl rfl b6 rfl ?_;intro w9 bb9 g9))
 exact Jv (Jj rfl _ _ (G+1+1) _ _ _ _ _ rfl rfl rfl bb9 underlying38 rfl J1) rfl ⟨rfl,(X4.o).grown g9 (λj e=>by cases e;rw[←HG.o];omega)⟩
theorem Iz (fr bl:Sl) (FB BB:List (List UInt8)) (s:List UInt8) (pid:Int) (a:QO) (e:Qz) (w:World) (hF:Q6 Nv w fr.A fr.n FB) (GP:fr.ok) (dD:fr.n<=100000) (hB:Q6 Nv w bl.A bl.n BB) (N0:bl.ok) (hbs:bl.n<=100000) (hs:s.length<=4000) (hD0:ZG w)
  (ha:Q0 w a e) (hsa:YY a) (K8:a.pr.n<=4000) (U1:a.pi.n<=4000) (U8:e.pe.length<=1000) (fa:KF a e) :
  ∃n c D sc,Y4 sc D/\
   (∀w',Ext w w'->Calls prog 14 #[.agg (Xs fr bl s),.int .i64 pid,.agg a.cells] w' λen w''=>PR n c D sc w'' en/\Ext w' w'')/\
   (∀w',Ext w w'->Calls prog 15 #[.agg (Xs fr bl s),.int .i64 pid,.agg a.cells] w' λen w''=>PR n c D sc w'' en/\Ext w' w''):=by
 have HI:=λw' (x:Ext w w')=>dK fr bl FB BB s w' (hF.ext x) GP dD (hB.ext x) N0 hbs hs (hD0.ext x);have HR:=λw' (x:Ext w w')=>et fr bl FB BB s w' (hF.ext x) GP (hB.ext x) N0 hs;by_cases h0:V7 FB BB s=0
 ·obtain⟨z0,e0,hq,Yj,_,_⟩:=dL h0;have hrf:=Uk hq;have Wp:=EB (QS (JY FB BB e0).bl (JY FB BB e0).pe (JY FB BB e0).di);have Rl:=EB (QS e.bl e.pe e.di);generalize qI (QS (JY FB BB e0).bl (JY FB BB e0).pe (JY FB BB e0).di)=I at Wp;generalize qI (QS e.bl e.pe e.di)=J at Rl;have MA:(QS (JY FB BB e0).bl (JY FB BB e0).pe (JY FB BB e0).di).length<=100000:=by
   have h1:=Ag BB e0.pe e0.di;have h2:=hB.1;show(QS BB e0.pe e0.di).length<=100000;omega
  have Y7:(QS e.bl e.pe e.di).length<=100000:=by have h1:=Ag e.bl e.pe e.di;have h2:=ha.bl.1;have h3:=hsa.bl;omega
  have hP:=λw' (x:Ext w w')=>kg fr.A bl.A fr.n fr.c bl.n bl.c (Qb s) pid a (JY FB BB e0) e I J w' (λw2 x2=>(HI w2 (x.trans x2)).mono (by
   rintro en w'' (⟨h,_⟩|⟨_,z1,e1,z,h1,h2,h3,_,h5,h6,_⟩)
   ·exact absurd h0 h
   ·have h7:=NU (hq.symm.trans h1);injection h7 with h7 h8;subst h8;exact⟨z,h2,h3,h5,h6⟩)) (ha.ext x) hsa U1 Wp Rl MA Y7
  have hQ:=λw' (x:Ext w w')=>IK fr bl s pid a (JY FB BB e0) e I J w' (λw2 x2=>(HR w2 (x.trans x2)).mono (by
   rintro en w'' (⟨h,_⟩|⟨_,z1,e1,z,h1,h2,h3,_,h5,h6,_⟩)
   ·exact absurd h0 h
   ·have h7:=NU (hq.symm.trans h1);injection h7 with h7 h8;subst h8;exact⟨z,h2,h3,h5,h6⟩)) (ha.ext x) hsa K8 U1 Wp Rl MA Y7
  by_cases hE:XL a e (JY FB BB e0).pr pid=0
  ·obtain⟨y,Kq,hl,h8,hc⟩:=Ix hE;have hy:=(UH hl).1;have hfy:=hrf.fit.pr y hy;have hpo:=Yj.proc hy;have hra:=Hc Kq fa ha.pr.1.symm ha.pi.1.symm U8;refine⟨a.next,0,Uu (JY FB BB e0).fr y a.next a.fr.n e (Ft (JY FB BB e0) e I J y),{ a with next:=a.next+1 },Sg _ Kq hra h8 hfy.1 hfy.2.1 hc (cP hpo Rl),λw' x=>(hP w' x).mono ?_,λw' x=>(hQ w' x).mono ?_⟩
   ·rintro en w'' ⟨⟨h,_⟩|⟨y',_,P8,_,_,z,rfl,hi,hs,hn⟩,x''⟩
    ·exact absurd hE h
    ·obtain rfl:=NU (hl.symm.trans P8);have E8:=PH ha hsa h8 rfl hi.frn hi.prn hi.pin hi.bln hi.pen hi.din;refine⟨⟨z,rfl,hi.toIn E8 ?_ ?_ ?_,Es hs hn,E8⟩,x''⟩
     ·rw[show z.init=a.init from hs.init];exact ha.initk
     ·rw[show z.inn=a.inn from hs.inn];exact ha.innk
     ·rw[show z.dleft=a.dleft from hs.dleft];exact ha.leftk
   ·rintro en w'' ⟨⟨h,_⟩|⟨y',_,P8,_,_,z,rfl,hi,hs,hn⟩,x''⟩
    ·exact absurd hE h
    ·obtain rfl:=NU (hl.symm.trans P8);exact⟨⟨z,rfl,hi,Es hs hn,PH ha hsa h8 rfl hi.fr.1 hi.pr.1 hi.pi.1 hi.bl.1 hi.pe.1 hi.di.1⟩,x''⟩
  ·refine⟨0,XL a e (JY FB BB e0).pr pid,j9,QB,C4,λw' x=>(hP w' x).mono ?_,λw' x=>(hQ w' x).mono ?_⟩
   all_goals
    rintro en w'' ⟨⟨_,h⟩|⟨y',hst',P8,tv,hc',_⟩,x''⟩
    ·exact⟨PR.none h,x''⟩
    ·exact absurd (ke hst' P8 tv hc') hE
 ·refine⟨0,V7 FB BB s,j9,QB,C4,λw' x=>(fI fr bl s pid _ a w' h0 (λw2 x2=>(HI w2 (x.trans x2)).mono ?_)).mono ?_,λw' x=>(ez fr bl s pid _ a w' h0 (λw2 x2=>(HR w2 (x.trans x2)).mono ?_)).mono ?_⟩
  ·rintro en w'' (⟨_,h1,h2⟩|⟨h,_⟩)
   ·exact⟨h1,h2⟩
   ·exact absurd h h0
  ·rintro en w'' ⟨h,x''⟩;exact⟨PR.none h,x''⟩
  ·rintro en w'' (⟨_,h1,h2⟩|⟨h,_⟩)
   ·exact⟨h1,h2⟩
   ·exact absurd h h0
  ·rintro en w'' ⟨h,x''⟩;exact⟨PR.none h,x''⟩
def se (FB BB:List (List UInt8)) (s:List UInt8) (a:QO):Prop:=(FB.length<=20/\BB.length<=80/\s.length<=4000)/\(a.pr.n<=8/\a.pe.n<=60/\a.di.n<=32/\a.pi.n<=8/\a.fr.n<=20/\a.bl.n<=80)
theorem Md (fr bl:Sl) (FB BB:List (List UInt8)) (s:List UInt8) (pid:Int) (a:QO) (e:Qz) (w:World) (hF:Q6 Nv w fr.A fr.n FB) (GP:fr.ok) (hB:Q6 Nv w bl.A bl.n BB) (N0:bl.ok) (jl:s.length<=9223372036854775807) (ha:Q0 w a e) (fa:KF a e) (hD0:ZG w) :
  Calls prog 4 #[.agg (Xs fr bl s),.int .i64 pid,.agg a.cells] w λen w'=>en=.returned (.bool true)/\Ext w w':=by
 have Mx:fr.n=FB.length:=hF.1;have SA:bl.n=BB.length:=hB.1;have HLa:=Qa (λw h=>dR a e w h);have HGr:=Qa (λw (h1:Strs w fr.A FB.length FB) (h2:Strs w bl.A BB.length BB)=>Li fr.A bl.A fr.c bl.c FB BB s jl w h1 h2 (by rw[←Mx];exact YQ GP.2.1) (by rw[←SA];exact YQ N0.2.1));have HAw:=Qa IZ;have x0:=((Qg w).alloc (.cells (Xs fr bl s) 24)).alloc (.cells a.cells 38);have bi:=(Qs w 24 (Xs fr bl s)).ext ((Qg _).alloc (.cells a.cells 38));have ba:=Qs (w.alloc (.cells (Xs fr bl s) 24)) 38 a.cells;rw[YB]at ba;have HF:=Qa (hF.ext x0);have HB:=Qa (hB.ext x0);have HA:=Qa (ha.ext x0);have HD:=Qa (hD0.ext x0);have fe:=Qa Mx;have qU:=Qa SA;have HFK:=Qa GP;have HBK:=Qa N0;have gY:=Qa fa;clear hF hB ha hD0 Mx SA fa GP N0 jl;go_enter func4,ntmps4;go_upto_region 1 with fail;change Code.wp _ _ _ _ ((w.alloc (.cells (Xs fr bl s) 24)).alloc (.cells a.cells 38));generalize (w.alloc (.cells (Xs fr bl s) 24)).alloc (.cells a.cells 38)=w1 at *;generalize w.heap.size=G at *;obtain⟨KH,hKH⟩:∃KH,KH=se FB BB s a:=⟨_,rfl⟩
 have HKH:=Qa hKH;clear hKH;go_cut [20] (λs wx=>∃q:Bool,s=.bool q/\Ext w1 wx/\(q=false->KH));case first =>
  clear HAw HD;have HFs:=Qa (show Strs w1 fr.A FB.length FB by have:=HF.o.strs;rw[fe.o]at this;exact this);have HBs:=Qa (show Strs w1 bl.A BB.length BB by have:=HB.o.strs;rw[qU.o]at this;exact this);have bi':Box w1 G 24 #[.slice fr.A FB.length fr.c,.slice bl.A BB.length bl.c,.string (Qb s)]:=by rw[←fe.o,←qU.o];exact bi
  go_wp2_with (first
   | (refine J2 _ _ rfl rfl G #[.slice fr.A FB.length fr.c,.slice bl.A BB.length bl.c,.string (Qb s)] _ _ rfl bi' underlying24 rfl (by kernel_rfl) ?_)
   | (refine Jz (.tmp 5) rfl rfl (G+1) a 38 rfl bY ?_)
   | (go_at_call 13;refine(HLa.o _ (HA.o.ext x2)).mono ?_;rintro e9 w3 ⟨⟨z3,rfl,hz3⟩,x3⟩;have HZ3:=Qa hz3;clear hz3;have G6:=x2.trans x3;rcases VS (decide (0<z3)) with dz3|dz3)
   | (go_at_call 9;refine(HGr.o _ HFs.o HBs.o).mono ?_;rintro e9 w2 ⟨⟨z,rfl,hz⟩,x2⟩;have HZ2:=Qa hz;clear hz;have bY:=ba.ext x2;rcases VS (decide (0<z)) with dz|dz))
  all_goals go_meet
  ·exact⟨true,rfl,x2,λh=>by cases h⟩
  ·exact⟨true,rfl,G6,λh=>by cases h⟩
  ·have z2:=HZ2.o (by simpa using dz);have z3:=HZ3.o (by simpa using dz3);exact⟨false,rfl,G6,λ_=>by rw[HKH.o];exact⟨z2,z3⟩⟩
 case rest =>
 obtain⟨q,rfl,x2,hq⟩:=hcut;cases q with
 | true =>
  go_wp2_with (go_at_call 10;refine(HAw.o _).mono ?_;rintro e9 w3 ⟨rfl,x3⟩)
  go_ret;exact⟨rfl,(x0.trans x2).trans x3⟩
 | false =>
 have KH':=hq rfl;rw[HKH.o]at KH';obtain⟨⟨g1,g2,g3⟩,l1,l2,l3,l4,l5,l6⟩:=KH';have CP:=Iz fr bl FB BB s pid a e w1 HF.o HFK.o (by rw[fe.o];omega) HB.o HBK.o (by rw[qU.o];omega) g3 HD.o HA.o ⟨by omega,by omega,by omega,by omega,by omega,by omega⟩ (by omega) (by omega) (by rw[←HA.o.pe.1];omega) gY.o;obtain⟨n,c,D,sc,jV,h1,h2⟩:=CP;have H1:=Qa h1;have H2:=Qa h2;have ry:=Qa jV;clear HKH hq HGr HLa g1 g2 g3 l1 l2 l3 l4 l5 l6 h1 h2 jV;have bi:=bi.ext x2;have ba:=ba.ext x2
 go_upto_region 4 with(first
  | (refine J2 _ _ rfl rfl G (Xs fr bl s) _ _ rfl bi underlying24 rfl CT ?_)
  | (refine Qo _ rfl rfl (G+1) _ _ rfl ba rfl ?_)
  | (go_at_call 14;refine(H1.o _ x2).mono ?_;rintro e9 w3 ⟨⟨z,rfl,hz,hsc,E8⟩,x3⟩)
  | (refine Qr _ _ rfl rfl w3.heap.size z _ _ rfl rfl (Qs _ _ _) rfl ?_;intro w4 bz g4))
 have y4:Ext w3 w4:=((Qg w3).alloc _).grown g4 (λj e=>by cases e;exact Q4 _);have x4:=x2.trans (x3.trans y4);have HZ:=Qa (hz.ext y4);have qg:=Qa hsc;have vX:=Qa E8;have ba:=ba.ext (x3.trans y4);have bi:=bi.ext (x3.trans y4);clear H1 g4 x2 x3 y4 hz hsc E8;generalize w3.heap.size=g at *;clear w3
 go_upto_region 5 with(first
  | (refine J2 _ _ rfl rfl G (Xs fr bl s) _ _ rfl bi underlying24 rfl CT ?_)
  | (refine Qo _ rfl rfl (G+1) _ _ rfl ba rfl ?_)
  | (go_at_call 15;refine(H2.o _ x4).mono ?_;rintro e9 w5 ⟨⟨y,rfl,hy,hsc,E8⟩,x5⟩)
  | (refine Qr _ _ rfl rfl w5.heap.size y _ _ rfl rfl (Qs _ _ _) rfl ?_;intro w6 by6 g6))
 have y6:Ext w5 w6:=((Qg w5).alloc _).grown g6 (λj e=>by cases e;exact Q4 _);have x6:=x4.trans (x5.trans y6);have hyz:Zv y z:=by have h:=qg.o;exact⟨hsc.clock.trans h.clock.symm,hsc.quantum.trans h.quantum.symm,hsc.cur.trans h.cur.symm,hsc.left.trans h.left.symm,hsc.next.trans h.next.symm,hsc.init.trans h.init.symm,hsc.newPipe.trans h.newPipe.symm,hsc.inn.trans h.inn.symm,hsc.fin.trans h.fin.symm,hsc.told.trans h.told.symm,hsc.dleft.trans h.dleft.symm⟩
 have HS:=Qa (IP z y D w6 (HZ.o.ext (x5.trans y6)) (hy.ext y6) hyz (Ra ry.o qg.o) (by have:=vX.o.fr;omega) (by have:=vX.o.bl;omega) (by have h1:=HZ.o.pr.1;have h2:=ry.o.prl;omega));have bz:=bz.ext (x5.trans y6);clear H2 g6 x4 x5 y6 hy hsc E8 HZ qg vX ry ba bi hyz;generalize w5.heap.size=g5 at *;clear w5
 go_wp2_with (first
  | (refine Jz (.tmp 7) rfl rfl g z 38 rfl bz ?_)
  | (refine Jz (.tmp 10) rfl rfl g5 y 38 rfl by6 ?_)
  | (go_at_call 16;refine HS.o.mono ?_;rintro e9 w7 ⟨rfl,x7⟩)
  | (go_at_call 10;refine(HAw.o _).mono ?_;rintro e9 w8 ⟨rfl,x8⟩))
 go_ret;exact⟨rfl,(x0.trans x6).trans (x7.trans x8)⟩
end Go.Proofs.YtfaplefkakpgcaaGreatDoor
