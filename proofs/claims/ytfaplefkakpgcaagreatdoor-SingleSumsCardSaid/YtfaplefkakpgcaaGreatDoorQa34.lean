import Derived.Test.YtfaplefkakpgcaaGreatDoorQa32
import Derived.Test.YtfaplefkakpgcaaGreatDoorQa33
set_option linter.unusedVariables false
set_option linter.unusedSimpArgs false
set_option maxHeartbeats 32000000
set_option maxRecDepth 100000
namespace Go.Proofs.YtfaplefkakpgcaaGreatDoor
open Go.Proofs.Tryz
open Go.RowKit Go.Shelf
attribute [local go_sem] A9
def Z3 (D:Int->List UInt8->Int × Int):Int->List (List UInt8)->Int × Int
 | n,[]=>(n,0)
 | n,x::l=>if (D n x).2≠0 then (0,(D n x).2) else Z3 D (D n x).1 l
def NE (D:Int->List UInt8->Int × Int) (p:List UInt8):Int × Int:=if Rq p=false then (0,7) else Z3 D 1 (QQ p)
def SV (_:Int) (name:List UInt8):Int × Int:=if YG name=false then (0,7) else (0,3)
theorem GY (dd:Int->List UInt8->Int × Int) (l:List (List UInt8)):∀(n m:Int) (x:List UInt8),Z3 dd n l=(m,0)->Z3 dd n (l++[x])=if (dd m x).2≠0 then (0,(dd m x).2) else ((dd m x).1,0):=by
 induction l with
 | nil =>
  intro n m x h;obtain rfl:n=m:=by injection h
  simp only[Cx,Z3]
 | cons y l ih =>
  intro n m x h;simp only[DB,Z3]at h ⊢;by_cases h0:(dd n y).2≠0
  ·rw[Qv h0]at h;injection h with h1 h2;exact absurd h2 h0
  ·rw[Qr h0]at h ⊢;exact ih _ _ _ h
theorem GZ (dd:Int->List UInt8->Int × Int) (l b:List (List UInt8)):∀(n:Int) (R:Int × Int),Z3 dd n l=R->R.2≠0->Z3 dd n (l++b)=R:=by
 induction l with
 | nil => intro n R h hR;exact absurd (by rw[←h];rfl) hR
 | cons y l ih =>
  intro n R h hR;simp only[DB,Z3]at h ⊢;by_cases h0:(dd n y).2≠0
  ·rw[Qv h0]at h ⊢;exact h
  ·rw[Qr h0]at h ⊢;exact ih _ _ h hR
theorem Hu (dd:Int->List UInt8->Int × Int) (A:Option Addr) (n c:Nat) (v:List (List UInt8)) (p:List UInt8) (w:World) (hv:Strs w A n v) (hd:∀k x w,Strs w A n v->x.length<=1000000000->Calls prog 58 #[.slice A n c,.int .i64 k,.string (Qb x)] w λe w'=>e=.returned (.tuple #[.int .i64 (dd k x).1,.int .i64 (dd k x).2])/\Ext w w') (hp:p.length<=100000000) :
  Calls prog 23 #[.slice A n c,.string (Qb p)] w λe w'=>e=.returned (.tuple #[.int .i64 (NE dd p).1,.int .i64 (NE dd p).2])/\Ext w w':=by
 have lT:=Qa (λw=>dg p w hp);have HN:=Qa (λw=>Mn (Qb p) w);have HV:=Qa hv;have HD:=Qa (λk x w h=>hd k ((QQ p).getD x []) w h (by have:=Mu p x;omega));have Uz:=(Nm p).1;have b0:=QA w 22 #[.slice A n c];have b1:=QA (w.alloc (.cells #[.slice A n c] 22)) 3 #[.int .i64 0];have b2:=QA ((w.alloc (.cells #[.slice A n c] 22)).alloc (.cells #[.int .i64 0] 3)) 27 #[.int .i64 0];have mc:=(b0.ext ((Qf _).alloc (.cells #[.int .i64 0] 3))).ext ((Qf _).alloc (.cells #[.int .i64 0] 27));have pq:=b1.ext ((Qf _).alloc (.cells #[.int .i64 0] 27));have X:=((((Qf w).alloc (.cells #[.slice A n c] 22)).alloc (.cells #[.int .i64 0] 3)).alloc (.cells #[.int .i64 0] 27))
 clear b0 b1 hv hd;simp only[Ki]at pq b2;cases hm:Rq p with
 | false =>
  rw[hm]at lT;have HP:=Qa (show NE dd p=(0,7) by unfold NE;rw[hm];rfl);go_enter func23,ntmps23;go_upto_region 1 with fail;generalize ((w.alloc (.cells #[.slice A n c] 22)).alloc (.cells #[.int .i64 0] 3)).alloc (.cells #[.int .i64 0] 27)=w3 at *;go_wp2_with (go_at_call 56;refine(lT.o _).mono ?_;rintro e w4 ⟨rfl,x4⟩;have d1:=pq.ext x4;have d2:=b2.ext x4;have e1:w4.cell? ⟨w.heap.size+1,0,none⟩=some (.int .i64 0):=d1.cell 0;have e2:w4.cell? ⟨w.heap.size+1+1,0,none⟩=some (.int .i64 0):=d2.cell 0;have f1:=d1.frozen 0;have f2:=d2.frozen 0)
  have k1:=(d1.set 0 (.int .i64 0)).far (p:=⟨w.heap.size+1+1,0,none⟩) (by show w.heap.size+1≠w.heap.size+1+1;omega) (.int .i64 7);have k2:=(d2.far (p:=⟨w.heap.size+1,0,none⟩) (by show w.heap.size+1+1≠w.heap.size+1;omega) (.int .i64 0)).set 0 (.int .i64 7);have US:=k1.cell 0;have Bj:=k2.cell 0;refine ZD (v:=.tuple #[.int .i64 0,.int .i64 7]) ?_ rfl ⟨by rw[HP.o],((X.trans x4).setCell (p:=⟨w.heap.size+1,0,none⟩) (by show w.heap.size<=w.heap.size+1;omega) _).setCell (p:=⟨w.heap.size+1+1,0,none⟩) (by show w.heap.size<=w.heap.size+1+1;omega) _⟩;simp at US Bj;simp[results,Tryz.results23,go_sem,US,Bj]
 | true =>
  rw[hm]at lT;have Sf:p.head? =some 47:=by obtain⟨q,rfl⟩:=BW hm;rfl
  have HP:=Qa (show NE dd p=Z3 dd 1 (QQ p) by unfold NE;rw[hm];rfl);refine(Pp (n:=6)).1 ?_;refine callsIn_of_wp_marks func23 rfl trivial ?_ rfl;simp only[ntmps23,N1,YV,Tz,Nat.reduceAdd,Nat.reduceSub,ah,ak,aq,an,Cx,DB];refine fQ.2 ?_;go_upto_region 1 with fail;generalize ((w.alloc (.cells #[.slice A n c] 22)).alloc (.cells #[.int .i64 0] 3)).alloc (.cells #[.int .i64 0] 27)=w3 at *;go_upto_region 3 with(go_at_call 56;refine(lT.o _).mono ?_;rintro e w4 ⟨rfl,x4⟩)
  have d0:=mc.ext x4;have d1:=pq.ext x4;have d2:=b2.ext x4;have X4:=X.trans x4;have b3:=QA w4 3 #[.int .i64 1];have b4:=QA (w4.alloc (.cells #[.int .i64 1] 3)) 9 #[.string (Qb p)];have pt:=b3.ext ((Qf _).alloc (.cells #[.string (Qb p)] 9));have x5:Ext w4 ((w4.alloc (.cells #[.int .i64 1] 3)).alloc (.cells #[.string (Qb p)] 9)):=((Qf w4).alloc _).alloc _;have e0:=d0.ext x5;have e1:=d1.ext x5;have e2:=d2.ext x5;have X5:=X4.trans x5;have h24:=d2.lt;clear mc pq b2 d0 d1 d2 b3 X X4 x4 lT;simp only[Ki]at b4;go_upto_region 4 with fail;go_wp2_with (go_at_call 57;refine(HN.o _).mono ?_;rintro e w1 ⟨rfl,rfl⟩)
  refine(fQ (n:=6)).1 ?_;gi_wp2_with fail;generalize hw5:(w4.alloc (.cells #[.int .i64 1] 3)).alloc (.cells #[.string (Qb p)] 9)=w5 at *;have hz5:w5.heap.size=w4.heap.size+1+1:=by rw[←hw5,Ki,Ki]
  clear hw5 x5 HN;have nC:=NK 5 (by decide) (w4.heap.size+1) p w5 b4 Sf;have vR:=Qa (GJ (QQ p));have Ga:=Qa (λk=>fH k (QQ p));have sJ:=Qa (λk (R:Int × Int) (h:Z3 dd 1 ((QQ p).take k)=R) (h0:R.2≠0)=>GZ dd ((QQ p).take k) ((QQ p).drop k) 1 R h h0);have hSn:=Qa (λl m x=>GY dd l 1 m x);unfold B9 at nC;generalize hf:(λy=>(QQ p).getD y [])=f at *;have ii:∀y,(QQ p).getD y []=f y:=λy=>by rw[←hf]
  simp only[ii]at *;generalize hLp:QQ p=L at *;clear hf ii hLp;have hG4:w.heap.size+1+1<w4.heap.size:=h24;have hGG:w.heap.size<=w5.heap.size:=X5.size;generalize hG:w.heap.size=G at *;generalize w4.heap.size=E at *
  refine wpIn_rangeFunc_ownH rfl (by decide) (gf:=111) (lb:=#[.pointer (some ⟨E+1,0,none⟩)]) rfl trivial (enters_of func111 (by kernel_rfl) rfl)
   nC Vh.trans Vh.book (bj _ _) (λ_=>rfl)
   (λpre W=>Ext w W/\Box W G 22 #[.slice A n c]/\Box W (G+1) 3 #[.int .i64 0]/\Box W (G+1+1) 27 #[.int .i64 0]/\∃m,Box W E 3 #[.int .i64 m]/\Z3 dd 1 (pre.map f)=(m,0))
   (λcc pre W=>cc=.ret/\Ext w W/\Box W (G+1) 3 #[.int .i64 0]/\∃r,Box W (G+1+1) 27 #[.int .i64 r]/\r≠0/\Z3 dd 1 (pre.map f)=(0,r))
   (OwnFrom.and (Wl (by rw[hG];omega)) (OwnFrom.and (Own.from (JM _ _ _) _) (OwnFrom.and (Own.from (JM _ _ _) _) (OwnFrom.and (Own.from (JM _ _ _) _) (Own.from (Ia _ _ (λm=>#[.int .i64 m]) (λ(pre:List Nat) (m:Int)=>Z3 dd 1 (pre.map f)=(m,0))) _)))))
   (λcc=>OwnFrom.and (ownFrom_pure _ _) (OwnFrom.and (Wl (by rw[hG];omega)) (OwnFrom.and (Own.from (JM _ _ _) _) (Own.from (Ia _ _ (λr=>#[.int .i64 r]) (λ(pre:List Nat) (r:Int)=>r≠0/\Z3 dd 1 (pre.map f)=(0,r))) _)))) ⟨X5,e0,e1,e2,1,pt,rfl⟩
   (λx a' W=>a'={ tmps:=#[.slice A n c,.string (Qb p),.pointer (some ⟨G,0,none⟩),undef,.pointer (some ⟨G+1,0,none⟩),.pointer (some ⟨G+1+1,0,none⟩),.pointer (some ⟨E,0,none⟩),.string (Qb (f x)),undef,undef,.string (Qb p),.bool true,.bool false,.string (Qb p),.func (.func 111) #[] #[.pointer (some ⟨E+1,0,none⟩)],.string (Qb (f x)),undef,undef,undef,undef,undef,undef,undef,undef,undef,undef,undef,undef],defers:=[] })
   (λx a' _ X Y row hs hg hr=>hs) ?assign ?body ?done ?stop
  case assign => rintro l pre x W K hi hK;gi_wp2;exact hK _ _ (Jf (Qf W)) (Vh.ext (Qf W)) hi rfl
  case body =>
   rintro l pre x a' W dL ⟨r,hr⟩ ⟨i1,i2,i3,i4,m,i5,Ko⟩ rfl hltN;have qa:=Qa (HD.o m x W (HV.o.ext i1));have Rb:=Qa (hSn.o (pre.map f) m (f x) Ko);have c0:W.cell? ⟨G,0,none⟩=some (.slice A n c):=i2.cell 0;have c6:W.cell? ⟨E,0,none⟩=some (.int .i64 m):=i5.cell 0;generalize dd m (f x)=R at *;by_cases h0:R.2=0
   ·rw[Qr (λh=>h h0)]at Rb;rw[h0]at qa
    gi_wp2_with (first
     | (refine⟨trivial,?_⟩;gi_at_call 58;refine(CallsIn.inRound l (Pp.2 qa.o)).mono ?_;rintro e W2 ⟨rfl,x2⟩;have j5:=i5.ext x2;have c5:W2.cell? ⟨E,0,none⟩=some (.int .i64 m):=j5.cell 0;have c5f:=j5.frozen 0))
    refine⟨(Jf x2).trans ((KeepsOthers.setCell _ _ _).from _),(Vh.ext x2).set ⟨E,0,none⟩ (by show E+1≠E;omega) (by show E+1≠E;omega) _,(i1.trans x2).setCell (p:=⟨E,0,none⟩) (by show w.heap.size<=E;omega) _,(i2.ext x2).far (p:=⟨E,0,none⟩) (by show G≠E;omega) _,(i3.ext x2).far (p:=⟨E,0,none⟩) (by show G+1≠E;omega) _,(i4.ext x2).far (p:=⟨E,0,none⟩) (by show G+1+1≠E;omega) _,R.1,j5.set 0 _,?_⟩;rw[fM];exact Rb.o
   ·have d0:(R.2 != 0)=true:=by simpa using h0
    rw[Qv h0]at Rb
    gi_wp2_with (first
     | (refine⟨trivial,?_⟩;gi_at_call 58;refine(CallsIn.inRound l (Pp.2 qa.o)).mono ?_;rintro e W2 ⟨rfl,x2⟩;have j3:=i3.ext x2;have j4:=i4.ext x2;have c3:W2.cell? ⟨G+1,0,none⟩=some (.int .i64 0):=j3.cell 0;have uv:=j3.frozen 0;have c4:W2.cell? ⟨G+1+1,0,none⟩=some (.int .i64 0):=j4.cell 0;have c4f:=j4.frozen 0))
    refine⟨((Jf x2).trans ((KeepsOthers.setCell _ _ _).from _)).trans ((KeepsOthers.setCell _ _ _).from _),rfl,((i1.trans x2).setCell (p:=⟨G+1,0,none⟩) (by show w.heap.size<=G+1;omega) _).setCell (p:=⟨G+1+1,0,none⟩) (by show w.heap.size<=G+1+1;omega) _,(j3.set 0 _).far (p:=⟨G+1+1,0,none⟩) (by show G+1≠G+1+1;omega) _,R.2,(j4.far (p:=⟨G+1,0,none⟩) (by show G+1+1≠G+1;omega) _).set 0 _,h0,?_⟩;rw[fM];exact Rb.o
  case done =>
   rintro D ys W hD rfl ⟨i1,i2,i3,i4,m,i5,Ko⟩ hK;have c5:W.cell? ⟨E,0,none⟩=some (.int .i64 m):=i5.cell 0;have c3:W.cell? ⟨G+1,0,none⟩=some (.int .i64 0):=i3.cell 0;have uv:=i3.frozen 0;have c4:W.cell? ⟨G+1+1,0,none⟩=some (.int .i64 0):=i4.cell 0;have c4f:=i4.frozen 0;gi_wp2_with fail;go_wp2_with fail;have hK1:=(KeepsOthers.setCell W ⟨G+1,0,none⟩ (.int .i64 m)).same D _ hK rfl;have Ky:=(KeepsOthers.setCell (W.setCell ⟨G+1,0,none⟩ (.int .i64 m)) ⟨G+1+1,0,none⟩ (.int .i64 0)).same D _ hK1 rfl;have k1:=((i3.set 0 (.int .i64 m)).far (p:=⟨G+1+1,0,none⟩) (by show G+1≠G+1+1;omega) (.int .i64 0)).grown (grownBy_putObj' _ D (.deferred none)) (λe=>by injection e with e;omega);have k2:=((i4.far (p:=⟨G+1,0,none⟩) (by show G+1+1≠G+1;omega) (.int .i64 m)).set 0 (.int .i64 0)).grown (grownBy_putObj' _ D (.deferred none)) (λe=>by injection e with e;omega);have US:=k1.cell 0;have Bj:=k2.cell 0;refine⟨by simp,.inl ⟨_,_,rfl,run_takeDeferred Ky,?_⟩⟩;refine⟨.tuple #[.int .i64 m,.int .i64 0],?_,?_,((i1.setCell (p:=⟨G+1,0,none⟩) (by show w.heap.size<=G+1;omega) _).setCell (p:=⟨G+1+1,0,none⟩) (by show w.heap.size<=G+1+1;omega) _).putObj (.deferred none) Ky (by omega)⟩
   ·simp at US Bj;simp[results,Tryz.results23,go_sem,US,Bj]
   ·rw[vR.o _ (QW _),L9]at Ko;rw[HP.o,Ko]
  case stop =>
   rintro D cc pre W hD ⟨k,hk,rfl⟩ ⟨rfl,h1,h2,r,h3,h4,h5⟩ hK;gi_wp2;have k1:=h2.grown (grownBy_putObj' _ D (.deferred none)) (λe=>by injection e with e;omega);have k2:=h3.grown (grownBy_putObj' _ D (.deferred none)) (λe=>by injection e with e;omega);have US:=k1.cell 0;have Bj:=k2.cell 0;refine⟨by simp,.inl ⟨_,_,rfl,run_takeDeferred hK,?_⟩⟩;refine⟨.tuple #[.int .i64 0,.int .i64 r],?_,?_,h1.putObj (.deferred none) hK (by omega)⟩
   ·simp at US Bj;simp[results,Tryz.results23,go_sem,US,Bj]
   ·rw[vR.o _ hk]at h5;have:=sJ.o k _ h5 h4;rw[Ga.o]at this;rw[HP.o,this]
end Go.Proofs.YtfaplefkakpgcaaGreatDoor
namespace Go.Proofs.YtfaplefkakpgcaaGreatDoor
open Go.RowKit
theorem co {v:List (List UInt8)}{I k:Int}(h:XQ v I k=0):1<=k/\k<=I:=by
 unfold XQ at h;split at h
 ·cases h
 ·omega
end Go.Proofs.YtfaplefkakpgcaaGreatDoor
namespace Go.Proofs.YtfaplefkakpgcaaGreatDoor
open Go.Proofs.Tryz
open Go.RowKit Go.Shelf
theorem TP (A:Option Addr) (n c:Nat) (v:List (List UInt8)) (k:Int) (w:World) (hv:Strs w A n v) (hn:n<=9223372036854775807) (hb:∀I,¬Ji v I) :
  Calls prog 107 #[.slice A n c,.int .i64 k] w λe w'=>e=.returned (.tuple #[.slice none 0 0,.int .i64 3])/\Ext w w':=by
 have HG:=Qa (λw h=>Re A n c v k w h hn hb);go_enter func107,ntmps107
 go_wp2_with (first
  | (go_at_call 69;refine(HG.o _ hv).mono ?_;rintro e w1 ⟨rfl,x1⟩)
  | (refine QR (.tmp 6) (.tmp 15) rfl rfl w1.heap.size _ QE 121 rfl rfl (QA _ _ _) rfl rfl ?_;intro w2 b2 g2))
 go_ret2;exact⟨rfl,(x1.alloc _).grown g2 (λk e=>by cases e;exact x1.size)⟩
theorem FU (A:Option Addr) (n c:Nat) (v:List (List UInt8)) (k:Int) (name:List UInt8) (w:World) (hv:Strs w A n v) (hn:n<=9223372036854775807) (hb:∀I,¬Ji v I) (Sj:name.length<=1000000000) :
  Calls prog 58 #[.slice A n c,.int .i64 k,.string (Qb name)] w λe w'=>e=.returned (.tuple #[.int .i64 (SV k name).1,.int .i64 (SV k name).2])/\Ext w w':=by
 have HM:=Qa (λw=>Wj name w Sj);have HL:=Qa (λw h=>TP A n c v k w h hn hb);unfold SV;cases hm:YG name with
 | false =>
  rw[hm]at HM;go_enter func58,ntmps58;go_wp2_with (go_at_call 110;refine(HM.o _).mono ?_;rintro e w1 ⟨rfl,x1⟩)
  go_ret2;exact⟨rfl,x1⟩
 | true =>
  rw[hm]at HM;go_enter func58,ntmps58
  go_wp2_with (first
   | (go_at_call 110;refine(HM.o _).mono ?_;rintro e w1 ⟨rfl,x1⟩)
   | (go_at_call 107;refine(HL.o _ (hv.ext x1)).mono ?_;rintro e w2 ⟨rfl,x2⟩))
  go_ret2;exact⟨rfl,x1.trans x2⟩
def QT (v:List (List UInt8)) (I:Option Int) (p:List UInt8):Int × Int:=match I with
 | some I=>NE (Xv v I) p
 | none=>NE SV p
def Wf (v:List (List UInt8)):Option Int->Prop
 | some I=>Ji v I
 | none=>∀I,¬Ji v I
theorem P5 (A:Option Addr) (n c:Nat) (v:List (List UInt8)) (I:Option Int) (p:List UInt8) (w:World) (hv:Strs w A n v) (hn:n<=9223372036854775807) (hg:Wf v I) (hp:p.length<=100000000) :
  Calls prog 23 #[.slice A n c,.string (Qb p)] w λe w'=>e=.returned (.tuple #[.int .i64 (QT v I p).1,.int .i64 (QT v I p).2])/\Ext w w':=by
 cases I with
 | some I=>exact Hu (Xv v I) A n c v p w hv (λk x w h hx=>CS A n c v I k x w h hg hx) hp
 | none=>exact Hu SV A n c v p w hv (λk x w h hx=>FU A n c v k x w h hn hg hx) hp
def ZO (v:List (List UInt8)) (I:Option Int) (k off size:Int):List UInt8 × Int:=match I with
 | some I=>if XQ v I k≠0 then ([],XQ v I k) else NQ v I k off size
 | none=>([],3)
theorem MC (A:Option Addr) (n c:Nat) (v:List (List UInt8)) (I:Option Int) (k off size:Int) (w:World) (hv:Strs w A n v) (hn:n<=9223372036854775807) (hg:Wf v I) (ho:off<=9223372036854775807) (hs:size<=9223372036854775807) :
  Calls prog 24 #[.slice A n c,.int .i64 k,.int .i64 off,.int .i64 size] w λe w'=>e=.returned (.tuple #[.string (Qb (ZO v I k off size).1),.int .i64 (ZO v I k off size).2])/\Ext w w':=by
 cases I with
 | none =>
  have HF:=Qa (λw h=>CW A n c v k w h hn hg);unfold ZO;go_enter func24,ntmps24
  go_wp2_with (first
   | (go_at_call 59;refine(HF.o _ hv).mono ?_;rintro e w1 ⟨rfl,x1⟩))
  go_ret2;exact⟨rfl,x1⟩
 | some I =>
 have HF:=Qa (λw h=>CV A n c v I k w h hg);by_cases h0:XQ v I k=0
 ·rw[h0]at HF;rw[show ZO v (some I) k off size=NQ v I k off size by unfold ZO;simp only;rw[Qr (λh=>h h0)]];obtain⟨k1,k2⟩:=co h0;have HR:=Qa (λw h=>Bc A n c v I k off size w h hg k1 k2 ho hs);generalize NQ v I k off size=R at *;go_enter func24,ntmps24
  go_wp2_with (first
   | (go_at_call 59;refine(HF.o _ hv).mono ?_;rintro e w1 ⟨rfl,x1⟩)
   | (go_at_call 60;refine(HR.o _ (hv.ext x1)).mono ?_;rintro e w2 ⟨rfl,x2⟩))
  go_ret2;exact⟨rfl,x1.trans x2⟩
 ·rw[show ZO v (some I) k off size=([],XQ v I k) by unfold ZO;simp only;rw[Qv h0]];generalize XQ v I k=z at *;have d0:(z != 0)=true:=by simpa using h0
  go_enter func24,ntmps24
  go_wp2_with (first
   | (go_at_call 59;refine(HF.o _ hv).mono ?_;rintro e w1 ⟨rfl,x1⟩))
  go_ret2;exact⟨rfl,x1⟩
structure JL where
 paths:List (List UInt8)
 gone:List Int
def VI (v:List (List UInt8)) (I n:Int):Bool:=decide (1<=n/\n<=I)&&decide ((QV v n).getD 0 0=2)
def Xe (v:List (List UInt8)) (I:Int) (path:List UInt8) (k:Option (JL->Int->List UInt8->JL)) (s:JL) (x:XJ):JL :=
 match k with
 | none=>⟨s.paths++[path++47::x.1],s.gone⟩
 | some f=>if VI v I x.2&&!s.gone.contains x.2 then f ⟨s.paths++[path++47::x.1],s.gone⟩ x.2 (path++47::x.1) else ⟨s.paths++[path++47::x.1],s.gone⟩
def Vp (v:List (List UInt8)) (I:Int):Nat->JL->Int->List UInt8->JL
 | 0,s,n,path=>(QF v I n).1.foldl (Xe v I path none) ⟨s.paths,s.gone++[n]⟩
 | r+1,s,n,path=>(QF v I n).1.foldl (Xe v I path (some (Vp v I r))) ⟨s.paths,s.gone++[n]⟩
def aT (v:List (List UInt8)) (I:Int):List (List UInt8):=(Vp v I 7 ⟨[],[]⟩ 1 []).paths
def D9 (g:List Int):Nat:=(List.range 65).countP λi:Nat=>!g.contains (i:Int)
def Z1 (s:JL):Nat:=s.paths.length+280*D9 s.gone
theorem Il {α:Type} {p q:α->Bool}{l:List α}(h:∀x∈l,q x=true->p x=true) {a:α}(ha:a∈l) (h1:p a=true) (h2:q a=false):l.countP q+1<=l.countP p:=by
 induction l with
 | nil=>exact absurd ha Td
 | cons y l ih =>
  have Fx:l.countP q<=l.countP p:=List.countP_mono_left λx hx=>h x (LX _ hx);rcases TA.1 ha with rfl|ha
  ·rw[rS h1,List.countP_cons_of_neg (by rw[h2];simp)];omega
  ·have ih:=ih (λx hx=>h x (LX _ hx)) ha;by_cases hq:q y=true
   ·rw[rS hq,rS (h y LY hq)];omega
   ·rw[List.countP_cons_of_neg hq,List.countP_cons];omega
theorem dV {g:List Int}{n:Int}(hn:n∉g) (h0:0<=n) (h1:n<=64):D9 (g++[n])+1<=D9 g:=by
 unfold D9;refine Il (a:=n.toNat) (λi _ hq=>?_) (Pw.2 (by omega)) ?_ ?_
 ·simp at hq ⊢;exact hq.1
 ·rw[show((n.toNat:Nat):Int)=n by omega];simpa using hn
 ·rw[show((n.toNat:Nat):Int)=n by omega];simp
theorem EI {s:JL}{n:Int}(hn:n∉s.gone) (h0:0<=n) (h1:n<=64):Z1 ⟨s.paths,s.gone++[n]⟩+280<=Z1 s:=by
 have:=dV hn h0 h1;unfold Z1;simp only;omega
theorem Oz {v:List (List UInt8)}{I:Int}{path:List UInt8}{k:Option (JL->Int->List UInt8->JL)}
  (hk:∀f,k=some f->∀s n p,n∉s.gone->0<=n->n<=64->Z1 (f s n p)<=Z1 s) {s:JL}{x:XJ}(hI:I<=64):Z1 (Xe v I path k s x)<=Z1 s+1:=by
 have h1:Z1 ⟨s.paths++[path++47::x.1],s.gone⟩=Z1 s+1:=by unfold Z1;simp;omega
 unfold Xe;cases k with
 | none=>exact gx h1
 | some f =>
  simp only;split
  ·rename_i c;rw[VB]at c;have c1:=c.1;unfold VI at c1;simp at c1;refine Y6 (hk f rfl _ _ _ ?_ (by omega) (by omega)) (gx h1);simpa using c.2
  ·exact gx h1
theorem RE {v:List (List UInt8)}{I:Int}{path:List UInt8}{k:Option (JL->Int->List UInt8->JL)}
  (hk:∀f,k=some f->∀s n p,n∉s.gone->0<=n->n<=64->Z1 (f s n p)<=Z1 s) (hI:I<=64) (l:List XJ):∀s,Z1 (l.foldl (Xe v I path k) s)<=Z1 s+l.length:=by
 induction l with
 | nil=>intro s;exact QW _
 | cons x l ih => intro s;rw[List.foldl_cons,YV];have:=ih (Xe v I path k s x);have:=Oz (v:=v) (path:=path) hk (s:=s) (x:=x) hI;omega
theorem RG {v:List (List UInt8)}{I:Int}(hI:I<=64) (r:Nat):∀s n p,n∉s.gone->0<=n->n<=64->Z1 (Vp v I r s n p)<=Z1 s:=by
 induction r with
 | zero => intro s n p hn h0 h1;have e1:=EI hn h0 h1;have e2:=RE (v:=v) (I:=I) (path:=p) (k:=none) (λf e=>by cases e) hI (QF v I n).1 ⟨s.paths,s.gone++[n]⟩;have e3:=Uc v I n;unfold Vp;omega
 | succ r ih => intro s n p hn h0 h1;have e1:=EI hn h0 h1;have e2:=RE (v:=v) (I:=I) (path:=p) (k:=some (Vp v I r)) (λf e=>by cases e;exact ih) hI (QF v I n).1 ⟨s.paths,s.gone++[n]⟩;have e3:=Uc v I n;unfold Vp;omega
theorem Ce:Z1 ⟨[],[]⟩=18200:=rfl
end Go.Proofs.YtfaplefkakpgcaaGreatDoor
