import Derived.Test.YtfaplefkakpgcaaGreatDoorPl38
import Derived.Test.YtfaplefkakpgcaaGreatDoorPl34
set_option linter.unusedVariables false
set_option linter.unusedSimpArgs false
set_option maxHeartbeats 32000000
set_option maxRecDepth 100000
namespace Go.Proofs.YtfaplefkakpgcaaGreatDoor
open Go.Proofs.Tryz
open Go.RowKit
theorem En (A:Option Addr) (n c:Nat) (v:List (List UInt8)) (k:Int) (w:World) (hv:Strs w A n v) (hn:n<=9223372036854775807) (hb:∀I,¬Ji v I) :
  Calls prog 74 #[.slice A n c,.int .i64 k] w λe w'=>e=.returned (.tuple #[.agg (Qj Qy),.int .i64 3])/\Ext w w':=by
 have HO:=Qa (λw h=>(aZ A n c v w h hn).mono (λe w' h=>show e=.returned (.tuple #[JJ,.int .i64 3])/\Ext w w' from⟨by
  rcases h.1 with⟨I,hg,_⟩|h
  ·exact absurd hg (hb I)
  ·exact h,h.2⟩))
 go_enter func74,ntmps74;go_wp2_with fail;refine(HO.o _ (hv.ext ((Qg _).alloc _))).mono ?_;rintro e w1 ⟨rfl,x1⟩;rw[Ue];have x0:Ext w w1:=((Qg w).alloc _).trans x1;have bR:Box w1 w.heap.size 121 (Qj Qy):=(Qs w 121 _).ext x1;have Qn:=bR.lt;clear x1
 go_wp2_with (first
  | (refine QC (.tmp 6) (.tmp 12) rfl rfl w1.heap.size _ [0,0,0,0,0,0] 144 rfl rfl (Qs _ _ _) rfl rfl ?_;intro w2 b2 g2;have x2:Ext w w2:=(x0.alloc _).grown g2 (λk e=>by cases e;exact x0.size))
  | (refine QR (.tmp 4) (.tmp 16) rfl rfl w.heap.size Qy Qy 121 rfl rfl ((bR.ext ((Qg _).alloc _)).grown g2 (by first|(simp;done)|(simp;omega))) rfl rfl ?_;intro w4 b4 g4))
 refine Jv (Qd rfl _ _ w.heap.size _ _ _ (.int .i64 3) rfl rfl b4 underlying121 rfl VO) rfl ⟨rfl,?_⟩;exact x2.grown g4 (λk e=>by cases e;exact Q4 _)
theorem Pa (A:Option Addr) (n c:Nat) (v:List (List UInt8)) (I k:Int) (w:World) (hv:Strs w A n v) (hg:Ji v I) (hk:k<1\/I<k) :
  Calls prog 74 #[.slice A n c,.int .i64 k] w λe w'=>e=.returned (.tuple #[.agg (Qj Qy),.int .i64 2])/\Ext w w':=by
 have HO:=Qa (λw h=>MG A n c v I w h hg);have hd:decide (k<1)=true\/decide (k<1)=false/\decide (I<k)=true:=by simp;omega
 clear hk;rcases hd with d1|⟨d1,d2⟩
 all_goals
  go_enter func74,ntmps74;go_wp2_with fail;refine(HO.o _ (hv.ext ((Qg _).alloc _))).mono ?_;rintro e w1 ⟨rfl,x1⟩;rw[Xr];have x0:Ext w w1:=((Qg w).alloc _).trans x1;have bR:Box w1 w.heap.size 121 (Qj Qy):=(Qs w 121 _).ext x1;have Qn:=bR.lt;clear x1
  go_wp2_with (first
   | (refine QC (.tmp 6) (.tmp 12) rfl rfl w1.heap.size _ [0,0,0,0,0,0] 144 rfl rfl (Qs _ _ _) rfl rfl ?_;intro w2 b2 g2;have x2:Ext w w2:=(x0.alloc _).grown g2 (λk e=>by cases e;exact x0.size);have c1:w2.cell? ⟨w1.heap.size,1,none⟩=some (.int .i64 I):=b2.cell 1)
   | (refine QR (.tmp 4) (.tmp 26) rfl rfl w.heap.size Qy Qy 121 rfl rfl ((bR.ext ((Qg _).alloc _)).grown g2 (by simp;omega)) rfl rfl ?_;intro w4 b4 g4))
  refine Jv (Qd rfl _ _ w.heap.size _ _ _ (.int .i64 2) rfl rfl b4 underlying121 rfl VO) rfl ⟨rfl,?_⟩;exact x2.grown g4 (λk e=>by cases e;exact Q4 _)
theorem ad (v:List (List UInt8)) (k:Int):0<=(QI v k).getD 3 0/\(QI v k).getD 3 0<4294967296:=by
 have:=O6 (v.getD (3+(k-1)/2).toNat []) (((k-1)%2*64).toNat+4) 4;exact this
theorem lD {v:List (List UInt8)}{I k:Int}(hg:Ji v I):Ha v I k 0 ((QI v k).getD 3 0)=(XK v I k,0):=by
 obtain⟨h1,h2⟩:=ad v k;obtain⟨z,hz⟩:∃z:Nat,(QI v k).getD 3 0=(z:Int):=⟨((QI v k).getD 3 0).toNat,by omega⟩
 have hs:JL (QI v k)=min (z:Int) 8960:=by unfold JL;rw[hz]
 have e:=PE (k:=k) hg (off:=0) (size:=z);rw[hz,show(0:Int)=((0:Nat):Int) from rfl,e,hs];congr 1;by_cases h0:JL (J9 v I k).x<=0
 ·rw[Fp h0];have:JL (QI v k)<=0:=h0;rw[hs]at this;rw[show min z (min (z:Int) 8960-((0:Nat):Int)).toNat=0 by omega];rfl
 ·have hp:=PF (F:=J9 v I k) hg (off:=0) (size:=8960) (by simp only[Int.natCast_zero];omega);unfold XK;rw[show NI (J9 v I k) 0 8960=_ from hp,show JL (J9 v I k).x=min (z:Int) 8960 from hs];show _=Z4 v I (QI v k) _ _;congr 1;omega
def Yq (v:List (List UInt8)) (I:Option Int) (k:Int):List Ve × Int:=match I with
 | some I=>QV v I k
 | none=>([],3)
theorem Tb (A:Option Addr) (n c:Nat) (v:List (List UInt8)) (I:Option Int) (k:Int) (w:World) (hv:Strs w A n v) (hn:n<=9223372036854775807) (hg:ZW v I) :
  Calls prog 223 #[.slice A n c,.int .i64 k] w λe w'=>∃u,e=.returned (.tuple #[u,.int .i64 (Yq v I k).2])/\Ext w w'/\((Yq v I k).2=0->Zu w' w.heap.size u (Yq v I k).1):=by
 have x0:Ext w (w.alloc (.cells #[] 154)):=(Qg w).alloc _;have HV:=Qa (hv.ext x0);cases I with
 | none =>
  have HP:=Qa (show Yq v none k=([],3) from rfl);have HG:=Qa (λw h=>En A n c v k w h hn hg);clear hv hg;go_enter func223,ntmps223
  go_wp2_with (first
   | (go_at_call 74;refine(HG.o _ HV.o).mono ?_;rintro e w1 ⟨rfl,x1⟩)
   | (refine QR (.tmp 7) (.tmp 17) rfl rfl w1.heap.size _ Qy 121 rfl rfl (Qs _ _ _) rfl rfl ?_;intro w2 b2 g2))
  go_ret2;rw[HP.o];exact⟨_,rfl,(x0.trans (x1.alloc _)).grown g2 (λk e=>by cases e;exact(x0.trans x1).size),λh=>absurd h (by decide)⟩
 | some I =>
 have FM:Ji v I:=hg;by_cases h1:k<1\/I<k
 ·have HP:=Qa (show Yq v (some I) k=([],2) from by unfold Yq QV;simp only;rw[QN h1]);have HG:=Qa (λw h=>Pa A n c v I k w h FM h1);clear hv hg FM h1;go_enter func223,ntmps223
  go_wp2_with (first
   | (go_at_call 74;refine(HG.o _ HV.o).mono ?_;rintro e w1 ⟨rfl,x1⟩)
   | (refine QR (.tmp 7) (.tmp 17) rfl rfl w1.heap.size _ Qy 121 rfl rfl (Qs _ _ _) rfl rfl ?_;intro w2 b2 g2))
  go_ret2;rw[HP.o];exact⟨_,rfl,(x0.trans (x1.alloc _)).grown g2 (λk e=>by cases e;exact(x0.trans x1).size),λh=>absurd h (by decide)⟩
 have Vz:1<=k:=by omega
 have KN:k<=I:=by omega
 have HG:=Qa (λw h=>Nf A n c v I k w h FM Vz KN);have HX:=Qa (XU v k);have HI:=Qa (λw g (h:Box w g 121 (Qj (QI v k)))=>Wr h (XU v k) (k:=0) (by omega));have HJ:=Qa (λw g (h:Box w g 121 (Qj (QI v k)))=>Wr h (XU v k) (k:=3) (by omega));have hnn:=ad v k;have HR:=Qa (show∀w,Strs w A n v->Calls prog 76 #[.slice A n c,.int .i64 k,.int .i64 0,.int .i64 ((QI v k).getD 3 0)] w λe w'=>e=.returned (.tuple #[.string (Qb (XK v I k)),.int .i64 0])/\Ext w w' fromλw h=>by
  have:=fC A n c v I k 0 ((QI v k).getD 3 0) w h FM Vz KN (by omega) (by omega);rw[lD FM]at this;exact this)
 have HO:=Qa (λw=>eu (XK v I k) w (M5 v I k));by_cases h2:(QI v k).getD 0 0≠2
 ·have HP:=Qa (show Yq v (some I) k=([],11) from by unfold Yq QV;simp only;rw[QD h1,QN h2]);generalize (QI v k).getD 0 0=kd at *;generalize (QI v k).getD 3 0=sz at *;have d2:(kd != 2)=true:=by simpa using h2
  generalize QI v k=x at *;clear hv hg FM h1 HR HO HJ;go_enter func223,ntmps223
  go_wp2_with (first
   | (go_at_call 74;refine(HG.o _ HV.o).mono ?_;rintro e w1 ⟨rfl,x1⟩)
   | (refine QR (.tmp 7) (.tmp 17) rfl rfl w1.heap.size _ Qy 121 rfl rfl (Qs _ _ _) HX.o rfl ?_;intro w2 b2 g2;have c0:=HI.o _ _ b2))
  go_ret2;rw[HP.o];exact⟨_,rfl,(x0.trans (x1.alloc _)).grown g2 (λk e=>by cases e;exact(x0.trans x1).size),λh=>absurd h (by decide)⟩
 have h2':(QI v k).getD 0 0=2:=by omega
 have HP:=Qa (show Yq v (some I) k=match Js (XK v I k) with
  | none=>([],3)
  | some l=>(l,0) from by unfold Yq QV;simp only;rw[QD h1,QD h2];rfl)
 rw[h2']at HI;generalize (QI v k).getD 3 0=sz at *;generalize QI v k=x at *;generalize XK v I k=d at *;cases he:Js d with
 | none =>
  rw[he]at HP HO;clear hv hg FM h1 h2 h2' he;go_enter func223,ntmps223
  go_wp2_with (first
   | (go_at_call 74;refine(HG.o _ HV.o).mono ?_;rintro e w1 ⟨rfl,x1⟩)
   | (refine QR (.tmp 7) (.tmp 17) rfl rfl w1.heap.size _ Qy 121 rfl rfl (Qs _ _ _) HX.o rfl ?_;intro w2 b2 g2;have c0:=HI.o _ _ b2;have c3:=HJ.o _ _ b2;have x2:Ext w w2:=(x0.trans (x1.alloc _)).grown g2 (λk e=>by cases e;exact(x0.trans x1).size);have Y7:=HV.o.ext ((x1.alloc _).grown g2 (λk e=>by cases e;exact x1.size)))
   | (go_at_call 76;refine(HR.o _ Y7).mono ?_;rintro e w3 ⟨rfl,x3⟩)
   | (go_at_call 232;refine(HO.o _).mono ?_;rintro e w4 ⟨u4,rfl,x4,o4⟩))
  go_ret2;rw[HP.o];exact⟨_,rfl,(x2.trans x3).trans x4,λh=>absurd h (by decide)⟩
 | some l =>
  rw[he]at HP HO;clear hv hg FM h1 h2 h2' he;go_enter func223,ntmps223
  go_wp2_with (first
   | (go_at_call 74;refine(HG.o _ HV.o).mono ?_;rintro e w1 ⟨rfl,x1⟩)
   | (refine QR (.tmp 7) (.tmp 17) rfl rfl w1.heap.size _ Qy 121 rfl rfl (Qs _ _ _) HX.o rfl ?_;intro w2 b2 g2;have c0:=HI.o _ _ b2;have c3:=HJ.o _ _ b2;have x2:Ext w w2:=(x0.trans (x1.alloc _)).grown g2 (λk e=>by cases e;exact(x0.trans x1).size);have Y7:=HV.o.ext ((x1.alloc _).grown g2 (λk e=>by cases e;exact x1.size)))
   | (go_at_call 76;refine(HR.o _ Y7).mono ?_;rintro e w3 ⟨rfl,x3⟩)
   | (go_at_call 232;refine(HO.o _).mono ?_;rintro e w4 ⟨u4,rfl,x4,o4⟩;have o4':=Qa (Zu.base (o4 rfl) (x2.trans x3).size);clear o4))
  go_ret2;rw[HP.o];exact⟨_,rfl,(x2.trans x3).trans x4,λ_=>o4'.o⟩
theorem CI {l:List Ve}(hl:Rp l) {name:List UInt8}:Wn l name=l.any λx=>decide (x.1=name):=by
 rw[mW];constructor
 ·intro h;unfold Wn at h;simp only[Vg,MS]at h;rw[Yb,ZX h.1]at h;rw[Wfi];exact⟨_,NT h.1,Xd h.2⟩
 ·intro h;rw[Wfi]at h;obtain⟨x,hx,e⟩:=h;have e:=WO e;obtain⟨j,hj,rfl⟩:=Fd hx;have h1:Xw l name=j:=by
   rcases Nat.lt_trichotomy (Xw l name) j with h|h|h
   ·have hp:Xw l name<l.length:=by omega
    have h2:=List.pairwise_iff_getElem.1 hl.2 _ _ hp hj h;have h3:=Ds hl.2 (Q4 (Xw l name)) hp;rw[e]at h2;rw[h2]at h3;cases h3
   ·exact h
   ·have:=ME h hj;rw[e,N3]at this;cases this
  unfold Wn;rw[h1,Yb,ZX hj];simp[hj,e]
def Wm (l:List Ve) (name:List UInt8):Int:=if Wn l name=true then (l.getD (Xw l name) ([],0)).2 else 0
theorem BM (A:Option Addr) (n c:Nat) (l:List Ve) (name:List UInt8) (w:World) (h:aq w A n l) (hn:n<=1000000) (hl:Rp l) :
  Calls prog 224 #[.slice A n c,.string (Qb name)] w λe w'=>e=.returned (.int .i64 (Wm l name))/\w=w':=by
 obtain⟨rfl,h2⟩:=h;have Us:=Qa (show(∀(j:Nat) (h:j<l.length),l[j].1≠name)->Wm l name=0 fromλh=>by
  unfold Wm;rw[CI hl,QD];rw[Wfi];rintro⟨x,hx,e⟩;obtain⟨j,hj,rfl⟩:=Fd hx;exact h j hj (WO e))
 have NQ:=Qa (show∀(k:Nat) (hk:k<l.length),(∀(j:Nat) (h:j<l.length),j<k->l[j].1≠name)->l[k].1=name->Wm l name=l[k].2 fromλk hk h0 h1=>by
  have hh:Wn l name=true:=by rw[CI hl,Wfi];exact⟨_,NT hk,Xd h1⟩
  unfold Wm;rw[QN hh];unfold Wn at hh;simp only[Vg,MS]at hh;rw[Yb,ZX hh.1]at hh ⊢;simp only[OM]at hh ⊢;have:Xw l name=k:=by
   rcases Nat.lt_trichotomy (Xw l name) k with h|h|h
   ·exact absurd hh.2 (h0 _ hh.1 h)
   ·exact h
   ·have:=ME h hk;rw[h1,N3]at this;cases this
  subst this;rfl)
 have uE:(l.length:Int)<=1000000:=by omega
 clear hl;go_enter func224,ntmps224;go_wp2_with fail;go_loop [5,8] (λ_ t=>∃k:Nat,k<=l.length/\t=.int .i64 k/\∀(j:Nat) (h:j<l.length),j<k->l[j].1≠name) (λ_ t=>l.length-(intOf t).toNat);case atStart=>exact⟨0,by omega,rfl,λj _ h=>by omega⟩
 case round =>
  obtain⟨k,hk,rfl,Xz⟩:=hrel;have HO:=Qa Xz;clear Xz;by_cases Qn:k<l.length
  ·obtain⟨b,o,rfl,Qf⟩:=h2 (by omega);obtain⟨c0,c1⟩:=Qf k Qn;have HY:=Qa (NQ.o k Qn HO.o);have Y6:(k:Int)<(l.length:Int):=by omega
   have HN:=Qa (show l[k].1≠name->∀(j:Nat) (h:j<l.length),j<k+1->l[j].1≠name fromλh j hj Vq=>by
    by_cases e:j<k
    ·exact HO.o j hj e
    ·obtain rfl:j=k:=by omega
     exact h)
   clear Qf;generalize l[k]=y at *;by_cases hy:y.1=name
   ·have d1:(Qb y.1).toList=(Qb name).toList:=by rw[hy]
    have d2:((Qb y.1).toList==(Qb name).toList)=true:=by rw[hy];simp
    have HE:=Qa (HY.o hy);clear hy HY HN NQ Us HO;go_wp2_with fail;go_ret;rw[HE.o];exact⟨rfl,rfl⟩
   ·have d1:¬(Qb y.1).toList=(Qb name).toList:=by rw[Qe,Qe];exact hy
    have d2:((Qb y.1).toList==(Qb name).toList)=false:=by rw[Qe,Qe];simpa using hy
    have HE:=Qa (HN.o hy);clear hy HY HN NQ Us HO;go_wp2_with fail;go_round;case rel=>exact⟨k+1,by omega,by go_num,HE.o⟩
    case measure=>simp[intOf];omega
  ·obtain rfl:k=l.length:=by omega
   have HE:=Qa (Us.o (λj h=>HO.o j h h));go_wp2_with fail;go_ret;rw[HE.o];exact⟨rfl,rfl⟩
theorem Et:∀(q:List UInt8) (m:Nat),m<=q.length->(∀j,j<m->q[j]? ≠some 47)->(q[m]? =some 47\/m=q.length)->Vb q=q.take m/\Ys q=q.drop m
 | [],m,h,_,_=>by
  obtain rfl:m=0:=by simpa using h
  exact⟨rfl,rfl⟩
 | c::q,0,_,_,h=>by
  have hc:c=47:=by
   rcases h with h|h
   ·simpa using h
   ·simp at h
  subst hc;simp[Vb,Ys]
 | c::q,m+1,hm,hn,h=>by
  have hc:c≠47:=by have:=hn 0 (by omega);simpa using this
  have ih:=Et q m (by simpa using hm) (λj hj=>by have:=hn (j+1) (by omega);simpa using this) (by simpa using h);have h1:(c != 47)=true:=by simpa using hc
  unfold Vb Ys at *;rw[List.takeWhile_cons,List.dropWhile_cons,QN h1,QN h1,ih.1,ih.2];exact⟨rfl,rfl⟩
def VK (p:List UInt8) (i f:Nat) (ps:List (List UInt8)):Prop :=
 (1<=f/\i<=p.length/\f<=i/\(∀j,f<=j->j<i->p[j]? ≠some 47)/\ps++ZJ (47::p.drop f)=ZJ p)\/(i=p.length+1/\ps=ZJ p)
theorem GW {q:List UInt8}:VK (47::q) 1 1 []:=.inl ⟨by omega,by simp,by omega,λj h1 h2=>by omega,rfl⟩
theorem C9 {p:List UInt8}{i f:Nat}{ps:List (List UInt8)}(h:VK p i f ps) (hi:i<=p.length) (hs:p[i]? =some 47\/i=p.length):f<=i/\VK p (i+1) (i+1) (ps++[(p.drop f).take (i-f)]):=by
 rcases h with⟨h1,h2,h3,h4,h5⟩|⟨h1,_⟩
 ·refine⟨h3,?_⟩;obtain⟨s1,s2⟩:=Et (p.drop f) (i-f) (by simp;omega) (λj hj=>by rw[EM];exact h4 (f+j) (by omega) (by omega)) (by
   rw[EM,show f+(i-f)=i by omega,Nx];rcases hs with h|h
   ·exact .inl h
   ·exact .inr (by omega))
  rw[Kx,s1,s2,nf,show f+(i-f)=i by omega]at h5;by_cases hl:i=p.length
  ·refine .inr ⟨by omega,?_⟩;rw[←h5,hl,vr,UN]
  ·have aD:i<p.length:=by omega
   have CH:p[i]=47:=by
    rcases hs with h|h
    ·rw[ZX aD]at h;exact NU h
    ·omega
   refine .inl ⟨by omega,by omega,by omega,λj h1 h2=>by omega,?_⟩;rw[fj aD,CH]at h5;rw[←h5,iR];rfl
 ·omega
theorem Ia {p:List UInt8}{i f:Nat}{ps:List (List UInt8)}(h:VK p i f ps) (hi:i<p.length) (hs:p[i]≠47):VK p (i+1) f ps:=by
 rcases h with⟨h1,h2,h3,h4,h5⟩|⟨h1,_⟩
 ·refine .inl ⟨h1,by omega,by omega,λj j1 j2=>?_,h5⟩;by_cases e:j=i
  ·subst e;rw[ZX hi];simpa using hs
  ·exact h4 j j1 (by omega)
 ·omega
theorem Bb {p:List UInt8}{i f:Nat}{ps:List (List UInt8)}(h:VK p i f ps):ps.length<=p.length:=by
 have:=(UM p.length p (Q4 _)).1;rcases h with⟨_,_,_,_,h⟩|⟨_,h⟩
 ·have:=congrArg List.length h;rw[VL]at this;omega
 ·rw[h];exact this
theorem Ba {p:List UInt8}{i f:Nat}{ps:List (List UInt8)}(h:VK p i f ps) (hi:p.length<i):ps=ZJ p:=by
 rcases h with⟨_,h,_⟩|⟨_,h⟩
 ·omega
 ·exact h
def UJ (p:List UInt8):Bool:=decide (p.head? =some 47)&&((Q9 p).all Zt&&decide ((Q9 p).length<=8))
theorem Bj:∀(n:Nat) (q:List UInt8),q.length<=n->(∀x∈ZJ (47::q),x.length<=24)->(47::q).length<=25*(ZJ (47::q)).length
 | n,q,hn,h=>by
  rw[Kx]at h ⊢;have h1:=h _ Gq;have hs:=MH q;rcases Hb q with e|⟨r,e⟩
  ·rw[e]at hs ⊢;rw[UN];simp at hs ⊢;omega
  ·rw[e]at hs h ⊢;simp only[XN]at hs;cases n with
   | zero=>omega
   | succ n => have ih:=Bj n r (by omega) (λx hx=>h x (EL _ hx));simp only[XN]at ih ⊢;omega
theorem Bc (p:List UInt8):UJ p=Nu p:=by
 unfold UJ Nu;cases hp:decide (p.head? =some 47) with
 | false=>rfl
 | true =>
  cases ha:(Q9 p).all Zt&&decide ((Q9 p).length<=8) with
  | false=>simp
  | true =>
   rw[Vg,MS]at ha;have h1:=WO hp;have:p.length<=200:=by
    cases p with
    | nil=>simp
    | cons c q =>
     obtain rfl:c=47:=by simpa using h1
     by_cases hq:(47::q:List UInt8)=[47]
     ·rw[hq];decide
     ·unfold Q9 at ha;rw[QD hq]at ha;have:=Bj q.length q (Q4 _) (λx hx=>(TV (Rj.1 ha.1 x hx)).2);omega
   simp[this]
theorem II (p:List UInt8) (w:World) (hp:p.length<=100000) :
  Calls prog 145 #[.string (Qb p)] w λe w'=>∃u,e=.returned (.tuple #[u,.bool (Nu p)])/\Ext w w'/\(Nu p=true->w'.ownsRow w.heap.size 9 1 u (Q9 p).length (Q5 (Q9 p))):=by
 rw[←Bc];have hz:=Qh;have N5:=zU (base:=w.heap.size) (e:=9) (size:=1) w #[] 0 (Q4 _) (by unfold maxLen;omega) rfl;have x0:Ext w (w.alloc (.cells #[] 9)):=(Qg w).alloc _;by_cases h1:p=[47]
 ·have HN:=Qa (show UJ p=true by rw[h1];rfl);have HP:=Qa (show Q9 p=[] by rw[h1];rfl);have d1:(Qb p).toList=[47]:=by rw[Qe];exact h1
  have d2:((Qb p).toList==[47])=true:=by rw[d1];rfl
  have OW:=Qa N5;clear h1 N5;go_enter func145,ntmps145;go_wp2_with fail;go_ret2;rw[HN.o,HP.o];exact⟨_,rfl,x0,λ_=>OW.o⟩
 have d1:¬(Qb p).toList=[47]:=by rw[Qe];exact h1
 have d2:((Qb p).toList==[47])=false:=by rw[Qe];simpa using h1
 have HP:=Qa (show Q9 p=ZJ p by unfold Q9;rw[QD h1]);by_cases h2:p.head? =some 47;case neg =>
  have HN:=Qa (show UJ p=false by unfold UJ;rw[XI h2];rfl);clear N5;cases p with
  | nil => have d3:(Qb []).toList=[]:=Qe [];go_enter func145,ntmps145;go_wp2_with fail;go_ret2;rw[HN.o];exact⟨_,rfl,x0,λh=>(by cases h)⟩
  | cons c q =>
   have d3:¬(Qb (c::q)).toList=[]:=by rw[Qe];simp
   have d4:((Qb (c::q)).toList==[])=false:=by rw[Qe];rfl
   have d5:(Qb (c::q)).toList.isEmpty=false:=by rw[Qe];rfl
   have hb0:0<(Qb (c::q)).size:=by rw[Qh];simp
   have tz:(Qb (c::q))[0]'hb0=c:=rfl;have hc:c≠47:=by simpa using h2
   have hci:((c.toNat:Int) != 47)=true:=by have:c.toNat≠47:=λe=>hc (Wfs.1 e);simp;omega
   have gC:(0:Int)<((c::q).length:Int):=by simp only[XN];omega
   generalize hpq:c::q=p at *;clear h1 h2 hpq;go_enter func145,ntmps145;go_wp2_with fail;go_ret2;rw[HN.o];exact⟨_,rfl,x0,λh=>(by cases h)⟩
 obtain⟨q,hpq⟩:∃q,p=47::q:=by
  cases p with
  | nil=>simp at h2
  | cons c q=>exact⟨q,by simpa using h2⟩
 have P0:=Qa (show VK p 1 1 [] by rw[hpq];exact GW);have PZ:=Qa (show UJ p=((ZJ p).all Zt&&decide ((ZJ p).length<=8)) by unfold UJ;rw[HP.o,Xd h2];rfl);have d3:¬(Qb p).toList=[]:=by rw[Qe,hpq];simp
 have d4:((Qb p).toList==[])=false:=by rw[Qe,hpq];rfl
 have d5:(Qb p).toList.isEmpty=false:=by rw[Qe,hpq];rfl
 have hb0:0<(Qb p).size:=by rw[Qh,hpq];simp
 have tz:(Qb p)[0]'hb0=47:=by subst hpq;rfl
 have gC:(0:Int)<(p.length:Int):=by rw[Qh]at hb0;omega
 clear h1 h2 hpq;go_enter func145,ntmps145;go_upto_region 8 with fail;clear d1 d2 d3 d4 d5 tz hb0;generalize w.alloc (.cells #[] 9)=w1 at *;go_loopw [4,5,6] (λu ft it wx=>∃(i f:Nat) (ps:List (List UInt8)),ft=.int .i64 f/\it=.int .i64 i/\VK p i f ps/\i<=p.length+1/\f<=p.length+1/\Ext w wx/\wx.ownsRow w.heap.size 9 1 u ps.length (Q5 ps)) (λ_ _ it _=>p.length+1-(intOf it).toNat);case atStart=>exact⟨1,1,[],rfl,rfl,P0.o,by omega,by omega,x0,N5⟩
 case round =>
  clear N5 x0 P0;obtain⟨i,f,ps,rfl,rfl,Az,hi1,mg,xr,own⟩:=hrel;have HA:=Qa Az;have XS:=Bb Az;clear Az;have uP:=xr.size;by_cases Nt:i<=p.length
  ·have hii:(i:Int)<=(p.length:Int):=by omega
   have mv:=Qa (λhs=>C9 HA.o Nt hs);have Qbi:=Qa (show∀u,wr.ownsRow w.heap.size 9 1 u ps.length (Q5 ps)->∀j,u.ownBlock=some j->w.heap.size<=j fromλu h j e=>QU h e);by_cases hl:i=p.length
   ·obtain⟨hfi,HC⟩:=mv.o (.inr hl);have HN:=Qa HC;have ml:(Qb p).extract f i=Qb ((p.drop f).take (i-f)):=J6 _ _ _;have rQ:((i:Int)==(p.length:Int))=true:=by simp;omega
    have Qkg:(f:Int)<=(i:Int):=by omega
    clear HC mv hl;generalize (p.drop f).take (i-f)=s at *
    go_wp2_with (first
     | (at_builtin;refine Jy w.heap.size rfl _ _ rfl rfl rfl (Qc own ((Qg wr).alloc _)) (Nj wr s) (by omega) (by simp;omega) (by omega) ?_;intro u4 w4 Yr g4))
    have x4:Ext w w4:=(xr.alloc _).grown g4 (λj e=>Qbi.o _ own j e);go_roundw;case rel=>exact⟨i+1,i+1,ps++[s],by go_num,by go_num,HN.o,by omega,by omega,x4,by rw[VL];exact Yr⟩
    case measure=>simp[intOf];omega
   ·have Qn:i<p.length:=by omega
    have rQ:((i:Int)==(p.length:Int))=false:=by simp;omega
    have hili:(i:Int)<(p.length:Int):=by omega
    have hb:i<(Qb p).size:=by rw[Qh];exact Qn
    have hci:(Qb p)[i]'hb=p[i]:=rfl;have HS:=Qa (λh:p[i]=47=>mv.o (.inl ((ZX Qn).trans (congrArg some h))));have HO:=Qa (λh:p[i]≠47=>Ia HA.o Qn h);have GO:=p[i].toNat_lt;generalize p[i]=c at *;clear mv hl;by_cases hc:c=47
    ·obtain⟨hfi,HC⟩:=HS.o hc;have HN:=Qa HC;have ml:(Qb p).extract f i=Qb ((p.drop f).take (i-f)):=J6 _ _ _;have Qkg:(f:Int)<=(i:Int):=by omega
     have Qj9:((c.toNat:Int)==47)=true:=by rw[hc];rfl
     clear HC HS HO hc;generalize (p.drop f).take (i-f)=s at *
     go_wp2_with (first
      | (at_builtin;refine Jy w.heap.size rfl _ _ rfl rfl rfl (Qc own ((Qg wr).alloc _)) (Nj wr s) (by omega) (by simp;omega) (by omega) ?_;intro u4 w4 Yr g4))
     have x4:Ext w w4:=(xr.alloc _).grown g4 (λj e=>Qbi.o _ own j e);go_roundw;case rel=>exact⟨i+1,i+1,ps++[s],by go_num,by go_num,HN.o,by omega,by omega,x4,by rw[VL];exact Yr⟩
     case measure=>simp[intOf];omega
    ·have HN:=Qa (HO.o hc);have Qj9:((c.toNat:Int)==47)=false:=by
      have:c.toNat≠47:=λe=>hc (Wfs.1 e);simp;omega
     clear HS HO hc;go_wp2_with fail;go_roundw;case rel=>exact⟨i+1,f,ps,rfl,by go_num,HN.o,by omega,by omega,xr,own⟩
     case measure=>simp[intOf];omega
  ·have hii:¬(i:Int)<=(p.length:Int):=by omega
   have hps:=Ba HA.o (by omega);have HBd:=Qa (show∀x∈ps,x.length<=p.length fromλx hx=>(UM p.length p (Q4 _)).2 x (by rw[←hps];exact hx));rw[←hps]at PZ HP;clear HA hps;obtain⟨A4,c4,rfl⟩:∃A c,u4=.slice A ps.length c:=by
    rcases own.2 with⟨rfl,h0⟩|⟨g,cap,cur,rfl,_⟩
    ·exact⟨none,0,by rw[h0]⟩
    ·exact⟨_,_,rfl⟩
   have Kq:=GA own;have OW:=Qa own;clear own;go_upto_region 14 with fail;go_loop [7] (λt=>∃k:Nat,k<=ps.length/\t=.int .i64 k/\∀(j:Nat) (h:j<ps.length),j<k->Zt ps[j]=true) (λt=>ps.length-(intOf t).toNat);case atStart=>exact⟨0,by omega,rfl,λj _ h=>by omega⟩
   case round =>
    obtain⟨k,hk,rfl,Yj⟩:=hrel;have HO:=Qa Yj;clear Yj;by_cases Qn:k<ps.length
    ·obtain⟨b,o,rfl,Qf⟩:=Kq.2 (by omega);have ND:=Qf k Qn;have Y6:(k:Int)<(ps.length:Int):=by omega
     have og:ps[k].length<=1000000000:=by have:=HBd.o ps[k] (NT Qn);omega
     have HM:=Qa (λw=>Te ps[k] w og);have Us:=Qa (show Zt ps[k]=false->ps.all Zt=false fromλh=>List.all_eq_false.2 ⟨ps[k],NT Qn,by rw[h];decide⟩);have HN:=Qa (show Zt ps[k]=true->∀(j:Nat) (h:j<ps.length),j<k+1->Zt ps[j]=true fromλh j hj Vq=>by
      by_cases e:j<k
      ·exact HO.o j hj e
      ·obtain rfl:j=k:=by omega
       exact h)
     generalize ps[k]=s at *;cases hm:Zt s with
     | false =>
      rw[hm]at HM;have HF:=Qa (PZ.o.trans (by rw[Us.o hm,Bool.false_and]));clear hm Us HN HO Qf Kq;go_wp2_with (go_at_call 200;refine(HM.o _).mono ?_;rintro e w5 ⟨rfl,rfl⟩)
      go_ret2;rw[HF.o];exact⟨_,rfl,xr,λh=>(by cases h)⟩
     | true =>
      rw[hm]at HM;have HY:=Qa (HN.o hm);clear hm Us HN HO Qf;go_wp2_with (go_at_call 200;refine(HM.o _).mono ?_;rintro e w5 ⟨rfl,rfl⟩)
      go_round;case rel=>exact⟨k+1,by omega,by go_num,HY.o⟩
      case measure=>simp[intOf];omega
    ·obtain rfl:k=ps.length:=by omega
     have VC:ps.all Zt=true:=by rw[Rj];intro c hc;obtain⟨j,hj,rfl⟩:=Fd hc;exact HO.o j hj hj
     have HF:=Qa (PZ.o.trans (by rw[VC,Bool.true_and]));have hd8:decide ((ps.length:Int)<=8)=decide (ps.length<=8):=by rw[mW];simp;omega
     clear VC HO Kq;go_wp2_with fail;go_ret2;rw[HF.o,HP.o];exact⟨_,by rw[←hd8];rfl,xr,λ_=>OW.o⟩
def cL (v:List (List UInt8)) (I:Option Int) (k:Int) (name:List UInt8):Int × Int:=match I with
 | some I=>Xl v I k name
 | none=>Cj k name
theorem jG (v:List (List UInt8)) (I:Option Int) (p:List UInt8):JE v I p=Ks (cL v I) p:=by
 cases I<;>rfl
theorem tj (v:List (List UInt8)) (I:Option Int) (k:Int) (name:List UInt8):cL v I k name=if Zt name=false then (0,7) else if (Yq v I k).2≠0 then (0,(Yq v I k).2) else if Wm (Yq v I k).1 name=0 then (0,9) else (Wm (Yq v I k).1 name,0):=by
 cases I with
 | none =>
  unfold cL Cj Yq;by_cases hm:Zt name=false
  ·rw[QN hm,QN hm]
  ·rw[QD hm,QD hm,QN (show(3:Int)≠0 by decide)]
 | some I =>
  unfold cL Xl Yq;simp only;by_cases hm:Zt name=false
  ·rw[QN hm,QN hm]
  ·rw[QD hm,QD hm];by_cases he:(QV v I k).2≠0
   ·rw[QN he,QN he]
   ·rw[QD he,QD he];unfold Wm;by_cases hh:Wn (QV v I k).1 name=true
    ·rw[QN hh,QN hh];have hh2:=hh;unfold Wn at hh2;simp only[Vg,MS]at hh2;have:=(V6 v I k).1 _ (NT hh2.1);rw[QD];rw[Yb,ZX hh2.1];simp only[OM];omega
    ·rw[QD hh,QD hh,QN rfl]
theorem SU (v:List (List UInt8)) (I:Option Int) (k:Int):Rp (Yq v I k).1/\(Yq v I k).1.length<=280:=by
 cases I with
 | none=>exact⟨⟨λx hx=>absurd hx Rw,List.Pairwise.nil⟩,by simp[Yq]⟩
 | some I=>exact⟨V6 v I k,VW v I k⟩
theorem IE (A:Option Addr) (n c:Nat) (v:List (List UInt8)) (I:Option Int) (k:Int) (name:List UInt8) (w:World) (hv:Strs w A n v) (hn:n<=9223372036854775807) (hg:ZW v I) (Lo:name.length<=1000000000) :
  Calls prog 201 #[.slice A n c,.int .i64 k,.string (Qb name)] w λe w'=>e=.returned (.tuple #[.int .i64 (cL v I k name).1,.int .i64 (cL v I k name).2])/\Ext w w':=by
 have HM:=Qa (λw=>Te name w Lo);have HL:=Qa (λw h=>Tb A n c v I k w h hn hg);have HV:=Qa hv;obtain⟨Nt,RJ⟩:=SU v I k;have HP:=Qa (tj v I k name);cases hm:Zt name with
 | false =>
  rw[hm,QN rfl]at HP;rw[hm]at HM;go_enter func201,ntmps201;go_wp2_with (go_at_call 200;refine(HM.o _).mono ?_;rintro e w1 ⟨rfl,rfl⟩)
  go_ret2;rw[HP.o];exact⟨rfl,Qg _⟩
 | true =>
 rw[hm,QD (by simp)]at HP;rw[hm]at HM;by_cases he:(Yq v I k).2=0;case neg =>
  rw[QN he]at HP;have de:((Yq v I k).2 != 0)=true:=by simpa using he
  clear he hm Nt RJ hv;generalize Yq v I k=R at *;go_enter func201,ntmps201
  go_wp2_with (first
   | (go_at_call 200;refine(HM.o _).mono ?_;rintro e w1 ⟨rfl,rfl⟩)
   | (go_at_call 223;refine(HL.o _ HV.o).mono ?_;rintro e w2 ⟨u,rfl,x2,JP⟩;clear JP))
  go_ret2;rw[HP.o];exact⟨rfl,x2⟩
 rw[QD (λh=>h he)]at HP;rw[he]at HL;clear he hm hv;generalize (Yq v I k).1=l at *;have HF:=Qa (λA c w h=>BM A l.length c l name w h (by omega) Nt);clear Nt;by_cases h0:Wm l name=0
 ·rw[QN h0]at HP;rw[h0]at HF;clear h0;go_enter func201,ntmps201
  go_wp2_with (first
   | (go_at_call 200;refine(HM.o _).mono ?_;rintro e w1 ⟨rfl,rfl⟩)
   | (go_at_call 223;refine(HL.o _ HV.o).mono ?_;rintro e w2 ⟨u,rfl,x2,JP⟩;obtain⟨A2,cap2,rfl,st2⟩:=(JP trivial).form;have HS:=Qa st2;clear JP st2)
   | (go_at_call 224;refine(HF.o A2 cap2 _ HS.o).mono ?_;rintro e w3 ⟨rfl,rfl⟩))
  go_ret2;rw[HP.o];exact⟨rfl,x2⟩
 ·rw[QD h0]at HP;have d0:(Wm l name==0)=false:=by simpa using h0
  clear h0;generalize Wm l name=z at *;go_enter func201,ntmps201
  go_wp2_with (first
   | (go_at_call 200;refine(HM.o _).mono ?_;rintro e w1 ⟨rfl,rfl⟩)
   | (go_at_call 223;refine(HL.o _ HV.o).mono ?_;rintro e w2 ⟨u,rfl,x2,JP⟩;obtain⟨A2,cap2,rfl,st2⟩:=(JP trivial).form;have HS:=Qa st2;clear JP st2)
   | (go_at_call 224;refine(HF.o A2 cap2 _ HS.o).mono ?_;rintro e w3 ⟨rfl,rfl⟩))
  go_ret2;rw[HP.o];exact⟨rfl,x2⟩
theorem B1 (dd:Int->List UInt8->Int × Int) (l:List (List UInt8)) (k:Nat) (hk:k<l.length) (m:Int) (h:Zi dd 1 (l.take k)=(m,0)) :
  Zi dd 1 (l.take (k+1))=if (dd m l[k]).2≠0 then (0,(dd m l[k]).2) else ((dd m l[k]).1,0):=by
 rw[Gp hk];exact PI dd _ 1 m l[k] h
theorem IX (A B:Option Addr) (n c m d:Nat) (v:List (List UInt8)) (I:Option Int) (l:List (List UInt8)) (w:World) (hv:Strs w A n v) (hn:n<=9223372036854775807) (hg:ZW v I) (hl:Strs w B m l) (hm:m<=1000000) (Lo:∀x∈l,x.length<=1000000000) :
  Calls prog 146 #[.slice A n c,.slice B m d] w λe w'=>e=.returned (.tuple #[.int .i64 (Zi (cL v I) 1 l).1,.int .i64 (Zi (cL v I) 1 l).2])/\Ext w w':=by
 have HD:=Qa (λk (x:List UInt8) w h hx=>IE A n c v I k x w h hn hg hx);have HV:=Qa hv;obtain⟨rfl,Rm⟩:=hl;have HT:=Qa (B1 (cL v I) l);have P0:=Qa (λk (R:Int × Int) (h:Zi (cL v I) 1 (l.take k)=R) (h0:R.2≠0)=>PJ (cL v I) (l.take k) (l.drop k) 1 R h h0);have HTD:=Qa (λk=>vk k l);have uE:(l.length:Int)<=1000000:=by omega
 clear hg hv;generalize cL v I=dd at *;go_enter func146,ntmps146;go_upto_region 3 with fail;go_loopw [6,7,8,9] (λa t _ _ wx=>∃(k:Nat) (z:Int),k<=l.length/\t=.int .i64 k/\a=.int .i64 z/\Zi dd 1 (l.take k)=(z,0)/\Ext w wx) (λ_ t _ _ _=>l.length-(intOf t).toNat);case atStart=>exact⟨0,1,by omega,rfl,rfl,by simp[Zi],Qg _⟩
 case round =>
  obtain⟨k,z,hk,rfl,rfl,Kq,xr⟩:=hrel;have HS:=Qa Kq;clear Kq;by_cases Qn:k<l.length
  ·obtain⟨b,o,rfl,Qf⟩:=Rm (by omega);have ND:=xr.keep (Qf k Qn);have Y6:(k:Int)<(l.length:Int):=by omega
   have HN:=Qa (HT.o k Qn z HS.o);have HDk:=Qa (λw h=>HD.o z l[k] w h (Lo _ (NT Qn)));have HR:=Qa (λR h h0=>P0.o (k+1) R h h0);have HE:=Qa (HTD.o (k+1));clear Qf;generalize l[k]=x at *;generalize dd z x=R at *;by_cases h0:R.2=0
   ·rw[h0,QD (λh=>h rfl)]at HN;rw[h0]at HDk;clear h0 HR HE;go_wp2_with (go_at_call 201;refine(HDk.o _ (HV.o.ext xr)).mono ?_;rintro e w2 ⟨rfl,x2⟩)
    go_roundw;case rel=>exact⟨k+1,R.1,by omega,by go_num,rfl,HN.o,xr.trans x2⟩
    case measure=>simp[intOf];omega
   ·rw[QN h0]at HN;have d0:(R.2 != 0)=true:=by simpa using h0
    have HF:=Qa (show Zi dd 1 l=(0,R.2) by
     have:=HR.o _ HN.o h0;rw[HE.o]at this;exact this)
    clear h0 HR HE HN;go_wp2_with (go_at_call 201;refine(HDk.o _ (HV.o.ext xr)).mono ?_;rintro e w2 ⟨rfl,x2⟩)
    go_ret2;rw[HF.o];exact⟨rfl,xr.trans x2⟩
  ·obtain rfl:k=l.length:=by omega
   have HF:=Qa (show Zi dd 1 l=(z,0) by have:=HS.o;rw[Ri]at this;exact this);clear HS;go_wp2_with fail;go_ret2;rw[HF.o];exact⟨rfl,xr⟩
theorem He (A:Option Addr) (n c:Nat) (v:List (List UInt8)) (I:Option Int) (p:List UInt8) (w:World) (hv:Strs w A n v) (hn:n<=9223372036854775807) (hg:ZW v I) (hp:p.length<=100000) :
  Calls prog 73 #[.slice A n c,.string (Qb p)] w λe w'=>e=.returned (.tuple #[.int .i64 (JE v I p).1,.int .i64 (JE v I p).2])/\Ext w w':=by
 have HN:=Qa (λw=>II p w hp);have XS:=Nc p;have HV:=Qa hv;have HW:=Qa (λB d w hv h=>IX A B n c (Q9 p).length d v I (Q9 p) w hv hn hg h (by omega) (λx hx=>by have:=XS.2 x hx;omega));rw[jG];unfold Ks;cases hm:Nu p with
 | false =>
  rw[hm]at HN;rw[QN rfl];clear XS;go_enter func73,ntmps73;go_wp2_with (go_at_call 145;refine(HN.o _).mono ?_;rintro e w1 ⟨u,rfl,x1,o1⟩;clear o1)
  go_ret2;exact⟨rfl,x1⟩
 | true =>
  rw[hm]at HN;rw[QD (by simp)];clear XS;generalize Q9 p=l at *;generalize Zi (cL v I) 1 l=R at *;go_enter func73,ntmps73
  go_wp2_with (first
   | (go_at_call 145;refine(HN.o _).mono ?_;rintro e w1 ⟨u,rfl,x1,o1⟩;obtain⟨A4,c4,rfl⟩:∃A c,u=.slice A l.length c:=(by
     rcases(o1 rfl).2 with⟨rfl,h0⟩|⟨g,cap,cur,rfl,_⟩
     ·exact⟨none,0,by rw[h0]⟩
     ·exact⟨_,_,rfl⟩);have HS:=Qa (GA (o1 rfl));clear o1)
   | (go_at_call 146;refine(HW.o A4 c4 _ (HV.o.ext x1) HS.o).mono ?_;rintro e w2 ⟨rfl,x2⟩))
  go_ret2;exact⟨rfl,x1.trans x2⟩
def VG (b:Option Nat) (w w':World):Prop:=∀k o,w.heap[k]? =some o->some k≠b->(∀c fz,o≠.cells c 9 fz)->(∀c fz,o≠.cells c 3 fz)->w'.heap[k]? =some o
theorem VG.refl (b:Option Nat) (w:World):VG b w w:=λ_ _ h _ _ _=>h
theorem VG.trans {b:Option Nat}{a c d:World}(h:VG b a c) (k:VG b c d):VG b a d:=λi o hi hb h1 h2=>k i o (h i o hi hb h1 h2) hb h1 h2
theorem VG.ext {b:Option Nat}{w w':World}(h:Ext w w'):VG b w w':=λk o hk _ _ _=>(Below.block h k (Fa.1 hk).1).trans hk
theorem VG.weak {b:Option Nat}{w w':World}(h:VG none w w'):VG b w w':=λk o hk _ h1 h2=>h k o hk (by simp) h1 h2
theorem VG.set {b:Nat}{a w:World}(h:VG (some b) a w) (p:Addr) (hp:p.block=b) (v:Value):VG (some b) a (w.setCell p v):=by
 intro k x hk hb h1 h2;have h3:=h k x hk hb h1 h2;rw[vi _ _ _ _ (λe=>hb (by rw[←hp,e]))];exact h3
theorem VG.grown {b:Option Nat}{a w w':World}{row:Option Nat}(h:VG b a w) (hg:w.grownBy w' row) (hrow:∀g,row=some g->∃c t fz,w.heap[g]? =some (.cells c t fz)/\(t=9\/t=3)):VG b a w':=by
 intro k x hk hb h1 h2;have h3:=h k x hk hb h1 h2;have Qn:k<w.heap.size:=(Fa.1 h3).1;rw[hg.block k Qn ?_]
 ·exact h3
 ·intro KN;obtain⟨c,t,fz,hc,ht⟩:=hrow k KN.symm;rw[h3]at hc;rcases ht with rfl|rfl
  ·exact h1 c fz (NU hc)
  ·exact h2 c fz (NU hc)
theorem VG.new {b:Nat}{w w':World}(h:VG (some b) w w') (hb:w.heap.size<=b):VG none w w':=λk o hk _ h1 h2 =>
 h k o hk (λe=>by have:=(Fa.1 hk).1;injection e with e;omega) h1 h2
theorem aP {b:Option Nat}{B z n:Nat}{e:TypeId}{w w':World}{u:Value}{xs:List Value}(h:w.ownsRow B e z u n xs) (k:VG b w w') (Jt:∀g,b=some g->u.ownBlock≠some g) (h1:e≠9) (h2:e≠3):w'.ownsRow B e z u n xs:=by
 refine⟨h.1,?_⟩;rcases h.2 with hc|⟨g1,cap,cur,rfl,hb,hh,r⟩
 ·exact .inl hc
 ·exact .inr ⟨g1,cap,cur,rfl,hb,k g1 _ hh (λe=>Jt g1 e.symm rfl) (λc fz e=>h1 (by cases e;rfl)) (λc fz e=>h2 (by cases e;rfl)),r⟩
theorem Mq {b:Option Nat}{w w':World}{g:Nat}{t:TypeId}{cs:Array Value}(h:Box w g t cs) (k:VG b w w') (Jt:b≠some g) (h1:t≠9) (h2:t≠3):Box w' g t cs :=
 k g _ h (λe=>Jt e.symm) (λc fz e=>h1 (by cases e;rfl)) (λc fz e=>h2 (by cases e;rfl))
theorem GE {l:List Int}{n:Int}{i:Nat}(h:i<l.length) (h1:(l.take i).contains n=false) (h2:l[i]≠n):(l.take (i+1)).contains n=false:=by
 rw[Gp h];have h3:n∉l.take i:=by simpa using h1
 have:n∉l.take i++[l[i]]:=λhm=>(iO.1 hm).elim h3 (λe=>h2 (bK.1 e).symm);simpa using this
theorem qC (B:Nat) (u:Value) (l:List Int) (n:Int) (w:World) (h:w.ownsRow B 3 1 u l.length (Vr l)) (hl:l.length<=1000000) :
  Calls prog 225 #[u,.int .i64 n] w λe w'=>e=.returned (.bool (l.contains n))/\w=w':=by
 have HC:=Qa (λi (h:i<l.length) h1 h2=>GE (n:=n) h h1 h2);have HM:=Qa (λi (h:i<l.length) (e:l[i]=n)=>show l.contains n=true by rw[←e];simp);have HT:=Qa (show(l.take l.length)=l from Ri);obtain⟨A,cap,rfl,Qf⟩:∃A cap,u=.slice A l.length cap/\∀i,(hi:i<l.length)->∃b o,A=some ⟨b,o,none⟩/\w.cell? ⟨b,o+i,none⟩=some (.int .i64 l[i]):=by
  rcases h.2 with⟨rfl,h0⟩|⟨g,cap,cur,rfl,_⟩
  ·exact⟨none,0,by rw[h0],λi hi=>by omega⟩
  ·exact⟨_,cap,rfl,λi hi=>⟨g,0,rfl,by rw[Nz];exact(h.cellAt i (by omega)).trans (by simp[Vr,hi])⟩⟩
 clear h;go_enter func225,ntmps225;go_upto_region 2 with fail;go_loopw [5] (λt wx=>∃i:Nat,i<=l.length/\t=.int .i64 i/\(l.take i).contains n=false/\w=wx) (λt _=>l.length-(intOf t).toNat);case atStart=>exact⟨0,by omega,rfl,by simp,rfl⟩
 case round =>
  obtain⟨i,hi,rfl,hc,rfl⟩:=hrel;have vG:=Qa hc;clear hc;by_cases Qn:i<l.length
  ·obtain⟨b,o,rfl,hci⟩:=Qf i Qn;have hii:(i:Int)<(l.length:Int):=by omega
   have HCi:=Qa (HC.o i Qn vG.o);have HMi:=Qa (HM.o i Qn);clear Qf;generalize l[i]=y at *;by_cases hy:y=n
   ·have HR:=Qa (HMi.o hy);have d0:(y==n)=true:=by simpa using hy
    clear hy;go_wp2_with fail;go_ret;rw[HR.o];exact⟨rfl,rfl⟩
   ·have HR:=Qa (HCi.o hy);have d0:(y==n)=false:=by simpa using hy
    clear hy;go_wp2_with fail;go_roundw;case rel=>exact⟨i+1,by omega,by go_num,HR.o,trivial⟩
    case measure=>simp[intOf];omega
  ·obtain rfl:i=l.length:=by omega
   have HR:=Qa (show l.contains n=false by have:=vG.o;rw[HT.o]at this;exact this);go_wp2_with fail;go_ret;rw[HR.o];exact⟨rfl,rfl⟩
def OL (B:Nat) (w:World) (up ug:Value) (s:Jr):Prop:=w.ownsRow B 9 1 up s.paths.length (Q5 s.paths)/\w.ownsRow B 3 1 ug s.gone.length (Vr s.gone)
theorem OL.ext {B:Nat}{w w':World}{up ug:Value}{s:Jr}(h:OL B w up ug s) (x:Ext w w'):OL B w' up ug s:=⟨Qc h.1 x,Qc h.2 x⟩
structure iH (W0:World) (A:Option Addr) (n c:Nat) (v:List (List UInt8)) (I:Int) (d:Nat) (f:Jr->Int->List UInt8->Jr):Prop where
 calls:∀(s:Jr) (k:Nat) (path:List UInt8) (w:World) (up ug:Value),(k:Int)∉s.gone->k<=64->Yl s<=18200->XE s<=65->path.length<=25*d->Ext W0 w->OL W0.heap.size w up ug s->
  Calls prog 205 #[.slice A n c,.agg #[up,ug],.int .i64 (k:Int),.string (Qb path),.int .i64 (d:Int)] w λe w'=>∃up' ug',e=.returned (.agg #[up',ug'])/\OL W0.heap.size w' up' ug' (f s k path)/\Ext W0 w'/\VG none w w'
 pot:∀s k p,k∉s.gone->0<=k->k<=64->Yl (f s k p)<=Yl s
 potg:∀s k p,k∉s.gone->0<=k->k<=64->XE (f s k p)<=XE s
theorem Ko:(prog.info? 273).map (·.size)=some 2:=by kernel_rfl
theorem aR {w:World}{B z n:Nat}{e:TypeId}{u:Value}{xs:List Value}(h:w.ownsRow B e z u n xs):u.oneCell'=true:=by
 rcases h.2 with⟨rfl,_⟩|⟨g,cap,cur,rfl,_⟩<;>rfl
theorem OA {B:Nat}{w:World}{up ug:Value}{s:Jr}(h:OL B w up ug s):(#[up,ug]:Array Value).all (·.oneCell')=true:=by
 simp[aR h.1,aR h.2]
theorem VG.put {b:Nat}{a w w':World}(h:VG (some b) a w) (hg:w.grownBy w' (some b)):VG (some b) a w':=by
 intro k x hk hb h1 h2;have h3:=h k x hk hb h1 h2;have Qn:k<w.heap.size:=(Fa.1 h3).1;rw[hg.block k Qn hb];exact h3
theorem du {w:World}{B z n:Nat}{u:Value}{xs:List Value}(h:w.ownsRow B 9 z u n xs):∀g,u.ownBlock=some g->∃c t fz,w.heap[g]? =some (.cells c t fz)/\(t=9\/t=3):=λg hg=>by
 obtain⟨c,fz,h⟩:=Wy h g hg;exact⟨c,_,fz,h,.inl rfl⟩
theorem dr {w:World}{B z n:Nat}{u:Value}{xs:List Value}(h:w.ownsRow B 3 z u n xs):∀g,u.ownBlock=some g->∃c t fz,w.heap[g]? =some (.cells c t fz)/\(t=9\/t=3):=λg hg=>by
 obtain⟨c,fz,h⟩:=Wy h g hg;exact⟨c,_,fz,h,.inr rfl⟩
theorem aS {w w':World}{B B' z z' n n':Nat}{e e':TypeId}{u u':Value}{xs xs':List Value}(h:w.ownsRow B e z u n xs) (h':w.ownsRow B' e' z' u' n' xs') (Jt:e≠e') (hg:w.grownBy w' u'.ownBlock):w'.ownsRow B e z u n xs:=by
 refine h.kept hg ?_;cases hu:u.ownBlock with
 | none=>exact .inl rfl
 | some g => refine .inr (λe2=>?_);obtain⟨c,fz,h1⟩:=Wy h g hu;obtain⟨c',fz',h2⟩:=Wy h' g e2.symm;rw[h1]at h2;injection h2 with h2;injection h2 with _ h2 _;exact Jt h2
theorem Eo (W0:World) (A:Option Addr) (n c:Nat) (v:List (List UInt8)) (I:Int) (hv:Strs W0 A n v) (hn:n<=9223372036854775807) (hg:Ji v I) (kk:Option (Jr->Int->List UInt8->Jr)) (d:Nat) (hd:d<=7) (Vz:∀f,kk=some f->d<7/\iH W0 A n c v I (d+1) f) (KN:kk=none->d=7)
  (s:Jr) (k:Nat) (path:List UInt8) (w:World) (up ug:Value) (hkg:(k:Int)∉s.gone) (hk64:k<=64) (hpot:Yl s<=18200) (Ma:XE s<=65) (XS:path.length<=25*d) (hx:Ext W0 w) (hw:OL W0.heap.size w up ug s) :
  Calls prog 205 #[.slice A n c,.agg #[up,ug],.int .i64 (k:Int),.string (Qb path),.int .i64 (d:Int)] w λe w'=>∃up' ug',e=.returned (.agg #[up',ug'])/\OL W0.heap.size w' up' ug' ((QV v I k).1.foldl (Z9 v I path kk) ⟨s.paths,s.gone++[(k:Int)]⟩)/\Ext W0 w'/\VG none w w':=by
 have P7:I<=64:=(Jg hg.plan).2.2.2.1;have RL:=Du hkg (by omega) (by omega:(k:Int)<=64);have N1:=Dt hkg (by omega) (by omega:(k:Int)<=64) s.paths;have AM:=Qa (λl=>T5 (v:=v) (I:=I) (path:=path) (k:=kk) (λf e s n p a b c=>(Vz f e).2.pot s n p a b c) P7 l ⟨s.paths,s.gone++[(k:Int)]⟩);have gu:=Qa (λl=>RZ (v:=v) (I:=I) (path:=path) (k:=kk) (λf e s n p a b c=>(Vz f e).2.potg s n p a b c) P7 l ⟨s.paths,s.gone++[(k:Int)]⟩);have xh:=Qa (λl s j h=>rH v I path kk l s j h);have HL:=Qa (λw h=>Tb A n c v (some I) k w h hn hg);have RJ:=VW v I k;have Nt:=Qa (V6 v I k);have jS:=Qa (λh=>RD (v:=v) (I:=I) (k:=k) h);rw[show Yq v (some I) k=QV v I k from rfl]at HL;have HGo:=Qa (λq w h hq=>Pa A n c v I q w h hg hq);have HGy:=Qa (λq w h h1 h2=>Nf A n c v I q w h hg h1 h2);have mK:=Qa Vz;have Tr:=Qa KN;have HV:=Qa hv;have ot:s.gone.length<=65:=by have:s.gone.length<=XE s:=(by unfold XE;omega);omega
 have hX:=hx.size;obtain⟨s1,hs1⟩:∃s1:Jr,s1=⟨s.paths,s.gone++[(k:Int)]⟩:=⟨_,rfl⟩
 have wU:Yl s1+280<=18200:=by rw[hs1];omega
 have Wp:XE s1<=65:=by rw[hs1];omega
 have XH:=Qa hs1;rw[←hs1]at AM gu ⊢;have b6:=(Qs w 273 #[up,ug]).ext ((Qg _).alloc (.cells #[.slice none 0 0,.slice none 0 0] 273));have VM:=Qs (w.alloc (.cells #[up,ug] 273)) 273 #[.slice none 0 0,.slice none 0 0];rw[YB]at VM;have x2:Ext w ((w.alloc (.cells #[up,ug] 273)).alloc (.cells #[.slice none 0 0,.slice none 0 0] 273)):=((Qg w).alloc _).alloc _;clear hs1 RL N1 hkg Vz KN hpot Ma hv;generalize QV v I k=R at *;obtain⟨l,er⟩:=R;simp only at HL RJ Nt jS ⊢;go_enter func205,ntmps205;go_upto_region 1 with fail;have uJ:=hw.ext x2;have Gx:=Qa (hx.trans x2);have D0:=Qa x2;clear hx x2 hw;generalize (w.alloc (.cells #[up,ug] 273)).alloc (.cells #[.slice none 0 0,.slice none 0 0] 273)=w2 at *;obtain⟨g6,hg6e⟩:∃g6,w.heap.size=g6:=⟨_,rfl⟩
 rw[hg6e]at b6 VM ⊢;have My:W0.heap.size<=g6:=by omega
 have EJ:=Qa hg6e;clear hg6e hX;have c61:w2.cell? ⟨g6,1,none⟩=some ug:=b6.cell 1;have Bi:=Qc uJ.2 ((Qg w2).alloc (.cells #[.int .i64 (k:Int)] 3));have Qcu:=Qc uJ.1 ((Qg w2).alloc (.cells #[.int .i64 (k:Int)] 3));have Se:=b6.ext ((Qg w2).alloc (.cells #[.int .i64 (k:Int)] 3));have Sc:=VM.ext ((Qg w2).alloc (.cells #[.int .i64 (k:Int)] 3));have Qca:W0.heap.size<=(w2.alloc (.cells #[.int .i64 (k:Int)] 3)).heap.size:=by have:=Gx.o.size;simp;omega
 go_upto_region 2 with(refine UV (y:=(k:Int)) rfl (.tmp 18) (.tmp 20) rfl rfl rfl Bi (Qs _ _ _) (by omega) Qca ?_;intro un w3 ownN g3;have c3:=(Se.grown g3 (QX Bi Se (by decide))).cell 1;have f3:=(Se.grown g3 (QX Bi Se (by decide))).frozen 1;obtain⟨gn,cn,rfl,hgn⟩:=Uj ownN (by omega))
 have tP:=(Se.grown g3 (QX Bi Se (by decide)))
 have hp3:=aS Qcu Bi (by decide) g3;have zx:=tP.set 1 (.slice (some ⟨gn,0,none⟩) (s.gone.length+1) cn);have sV:=Qa (show OL W0.heap.size (w3.setCell ⟨g6,1,none⟩ (.slice (some ⟨gn,0,none⟩) (s.gone.length+1) cn)) up (.slice (some ⟨gn,0,none⟩) (s.gone.length+1) cn) s1 from by
  rw[XH.o];refine⟨YJ hp3 tP (by decide) _,?_⟩;have e:=YJ (i:=1) ownN tP (by decide) (.slice (some ⟨gn,0,none⟩) (s.gone.length+1) cn);rw[show(s.gone++[(k:Int)]).length=s.gone.length+1 by simp];exact e)
 have gV:=Qa (show Box (w3.setCell ⟨g6,1,none⟩ (.slice (some ⟨gn,0,none⟩) (s.gone.length+1) cn)) g6 273 #[up,.slice (some ⟨gn,0,none⟩) (s.gone.length+1) cn] from zx);have AP:=Qa (((Gx.o.alloc (.cells #[.int .i64 (k:Int)] 3)).grown g3 (λj e=>QU Bi e)).setCell (p:=⟨g6,1,none⟩) My (.slice (some ⟨gn,0,none⟩) (s.gone.length+1) cn));have sF:=Qa (show VG (some g6) w2 (w3.setCell ⟨g6,1,none⟩ (.slice (some ⟨gn,0,none⟩) (s.gone.length+1) cn)) from((VG.ext ((Qg w2).alloc _)).grown g3 (dr Bi)).set ⟨g6,1,none⟩ rfl _);have gU:=Qa VM;clear c61 Bi Qcu Se Sc Qca g3 c3 f3 tP hp3 zx ownN b6 VM uJ;generalize (.slice (some ⟨gn,0,none⟩) (s.gone.length+1) cn:Value)=g1 at *;generalize w3.setCell ⟨g6,1,none⟩ g1=w4 at *;by_cases her:er=0;case neg =>
  have gC:=jS.o her;subst gC;have de:(er != 0)=true:=by simpa using her
  clear her
  go_wp2_with (first
   | (go_at_call 223;refine(HL.o _ (HV.o.ext AP.o)).mono ?_;rintro e w5 ⟨u,rfl,x5,_⟩;have hb5:=gV.o.ext x5;have E5:=(Mq gU.o sF.o (by simp) (by decide) (by decide)).ext x5)
   | (refine J2 273 (.tmp 6) rfl rfl g6 _ 273 _ rfl hb5 underlying273 rfl Ko ?_)
   | (refine JU 273 (.tmp 10) (.tmp 31) rfl rfl (g6+1) #[up,g1] _ 273 rfl rfl E5 Ko rfl (OA sV.o) ?_;intro w9 b9 g9))
  have hW9:OL W0.heap.size w9 up g1 s1:=⟨(Qc sV.o.1 x5).kept g9 (.inr (QX (Qc sV.o.1 x5) E5 (by decide)).symm),(Qc sV.o.2 x5).kept g9 (.inr (QX (Qc sV.o.2 x5) E5 (by decide)).symm)⟩
  have x9:Ext W0 w9:=(AP.o.trans x5).grown g9 (λj e=>by cases e;omega);have k9:VG none w w9:=by have h1:VG (some g6) w w5:=((VG.ext D0.o).trans sF.o).trans (VG.ext x5);have h2:=h1.new (by have:=EJ.o;omega);intro q o hq h3 h4 h5;have h6:=h2 q o hq h3 h4 h5;have Qn:q<w.heap.size:=(Fa.1 hq).1;rw[g9.block q (Fa.1 h6).1 (λe=>by injection e with e;have:=EJ.o;omega)];exact h6
  refine Jv (QQ rfl _ _ (g6+1) _ _ _ rfl b9 underlying273 rfl Ko) rfl ⟨up,g1,rfl,hW9,x9,k9⟩
 subst her;clear jS;go_upto_region 5 with(go_at_call 223;refine(HL.o _ (HV.o.ext AP.o)).mono ?_;rintro e w5 ⟨u,rfl,x5,XD⟩;obtain⟨A2,cap2,rfl,st2⟩:=(XD (by first|rfl|trivial)).form;have vP:=Qa (XD (by first|rfl|trivial));clear XD st2)
 have HX5:=Qa (AP.o.trans x5);have HB5:=Qa (gV.o.ext x5);have Qgm:=Qa ((Mq gU.o sF.o (by simp) (by decide) (by decide)).ext x5);have HW5:=Qa (sV.o.ext x5);have HK5:=Qa (show VG (some g6) w w5 from((VG.ext D0.o).trans sF.o).trans (VG.ext x5));have HNe:=Qa (show(Value.slice A2 l.length cap2).ownBlock≠some g6 from(QX vP.o HB5.o (by decide)).symm);clear x5 gU sF D0 gV sV HL XH;go_upto_region 6 with fail;go_loopw [13,14,15,16] (λt _ _ _ wx=>∃(j:Nat) (uq gq:Value),j<=l.length/\t=.int .i64 j/\OL W0.heap.size wx uq gq ((l.take j).foldl (Z9 v I path kk) s1)/\Box wx g6 273 #[uq,gq]/\Ext W0 wx/\VG (some g6) w5 wx) (λt _ _ _ _=>l.length-(intOf t).toNat);case atStart=>exact⟨0,up,g1,by omega,rfl,by simpa using HW5.o,HB5.o,HX5.o,VG.refl _ _⟩
 case round =>
  obtain⟨j,uq,gq,hj,rfl,hWj,hBj,xj,kj⟩:=hrel;have bH:=Qa hWj;have HBj:=Qa hBj;have sX:=Qa xj;have nI:=Qa kj;have Qj3:W0.heap.size<=wr.heap.size:=xj.size;clear hWj hBj xj kj;by_cases Qn:j<l.length
  ·have HF:=Qa (xh.o l s1 j Qn);have hpj:=AM.o (l.take j);have Ma:=gu.o (l.take j);rw[MT,vu hj]at hpj;have mf:=Nt.o.1 _ (NT Qn);have Ke:Zu wr w4.heap.size (.slice A2 l.length cap2) l:=aP vP.o nI.o (λg e=>by cases e;exact HNe.o) (by decide) (by decide);obtain⟨A3,cap3,e3,st3⟩:=Ke.form;injection e3 with e31 _ e33;subst e31 e33;obtain⟨b,o,rfl,Qf⟩:=st3.2 (by omega);have UB:=(Qf j Qn).1;have Lk:=(Qf j Qn).2;clear Qf st3 Ke xh AM gu;obtain⟨x,hxe⟩:∃x,l[j]=x:=⟨_,rfl⟩
   rw[hxe]at UB Lk mf HF;have HEj:=Qa (show l[j]? =some x by rw[ZX Qn,hxe]);clear hxe;generalize (l.take j).foldl (Z9 v I path kk) s1=sj at *;obtain⟨q,hq⟩:∃q:Nat,x.2=(q:Int):=⟨x.2.toNat,by omega⟩
   obtain⟨name,ino⟩:=x;simp only at UB Lk mf hq;subst hq;have Lo:=TV mf.1;have CH:∀p:List UInt8,Qb p++⟨#[47]⟩=Qb (p++[47]):=λp=>JR p [47];have Lj:=JR;have hz:=Qh;have uH:q<=64:=by omega
   have CP:(path++47::name).length<=25*(d+1):=by simp;omega
   clear mf;have Kp:(j:Int)<(l.length:Int):=by omega
   have cu:wr.cell? ⟨g6,0,none⟩=some uq:=HBj.o.cell 0;have st4:=Nj wr (path++47::name);have Yr:=Qc bH.o.1 ((Qg wr).alloc (.cells #[.string (Qb (path++47::name))] 9));have Qcr:=Qc bH.o.2 ((Qg wr).alloc (.cells #[.string (Qb (path++47::name))] 9));have Cn:=HBj.o.ext ((Qg wr).alloc (.cells #[.string (Qb (path++47::name))] 9));have CR:W0.heap.size<=(wr.alloc (.cells #[.string (Qb (path++47::name))] 9)).heap.size:=by simp;omega
   have k4:VG (some g6) wr (wr.alloc (.cells #[.string (Qb (path++47::name))] 9)):=VG.ext ((Qg wr).alloc _);have X4:Ext W0 (wr.alloc (.cells #[.string (Qb (path++47::name))] 9)):=sX.o.alloc _;have hpp:sj.paths.length<=18200:=by have:sj.paths.length<=Yl sj:=(by unfold Yl;omega);omega
   have hgg:sj.gone.length<=65:=by have:sj.gone.length<=XE sj:=(by unfold XE;omega);omega
   go_upto_region 10 with(at_builtin;refine Jy W0.heap.size rfl _ _ rfl rfl rfl Yr st4 (by omega) CR (by omega) ?_;intro un wn ownN gn;have bn:=Cn.grown gn (QX Yr Cn (by decide));have c60:wn.cell? ⟨g6,0,none⟩=some uq:=bn.cell 0;have f60:=bn.frozen 0;obtain⟨gb,cb,rfl,_⟩:=Uj ownN (by omega))
   have Qcs:=aS Qcr Yr (by decide) gn;have HWn:=Qa (show OL W0.heap.size (wn.setCell ⟨g6,0,none⟩ (.slice (some ⟨gb,0,none⟩) (sj.paths.length+1) cb)) (.slice (some ⟨gb,0,none⟩) (sj.paths.length+1) cb) gq ⟨sj.paths++[path++47::name],sj.gone⟩ from by
    refine⟨?_,YJ Qcs bn (by decide) _⟩;have e:=YJ (i:=0) ownN bn (by decide) (.slice (some ⟨gb,0,none⟩) (sj.paths.length+1) cb);rw[show(sj.paths++[path++47::name]).length=sj.paths.length+1 by simp];exact e)
   have HBn:=Qa (show Box (wn.setCell ⟨g6,0,none⟩ (.slice (some ⟨gb,0,none⟩) (sj.paths.length+1) cb)) g6 273 #[.slice (some ⟨gb,0,none⟩) (sj.paths.length+1) cb,gq] from bn.set 0 _);have HXn:=Qa ((X4.grown gn (λk e=>QU Yr e)).setCell (p:=⟨g6,0,none⟩) My (.slice (some ⟨gb,0,none⟩) (sj.paths.length+1) cb));have HKn:=Qa (nI.o.trans (show VG (some g6) wr (wn.setCell ⟨g6,0,none⟩ (.slice (some ⟨gb,0,none⟩) (sj.paths.length+1) cb)) from(k4.grown gn (du Yr)).set ⟨g6,0,none⟩ rfl _));have hp6:Yl ⟨sj.paths++[path++47::name],sj.gone⟩<=18200:=by
    have:Yl ⟨sj.paths++[path++47::name],sj.gone⟩=Yl sj+1:=by unfold Yl;simp;omega
    omega
   have hp7:XE ⟨sj.paths++[path++47::name],sj.gone⟩<=65:=by have:XE ⟨sj.paths++[path++47::name],sj.gone⟩=XE sj:=rfl;omega
   have c2n:(wn.setCell ⟨g6,0,none⟩ (.slice (some ⟨gb,0,none⟩) (sj.paths.length+1) cb)).cell? ⟨b,o+j*2+1,none⟩=some (.int .i64 (q:Int)):=by have UK:Zu (wn.setCell ⟨g6,0,none⟩ (.slice (some ⟨gb,0,none⟩) (sj.paths.length+1) cb)) w4.heap.size (.slice (some ⟨b,o,none⟩) l.length cap2) l:=aP vP.o HKn.o (λg e=>by cases e;exact HNe.o) (by decide) (by decide);obtain⟨A6,cap6,e6,st6⟩:=UK.form;injection e6 with e61 _ _;subst e61;obtain⟨b',o',e',hc6⟩:=st6.2 (by omega);cases e';have h6:=(hc6 j Qn).2;rw[show l[j]=(name,(q:Int)) from NU ((ZX Qn).symm.trans HEj.o)]at h6;exact h6
   clear Yr Qcr Cn CR k4 X4 st4 cu UB Lk Qcs bn c60 f60 ownN gn;generalize (.slice (some ⟨gb,0,none⟩) (sj.paths.length+1) cb:Value)=un at *;generalize wn.setCell ⟨g6,0,none⟩ un=w6 at *;have P0:=Qa (show Z9 v I path kk sj (name,(q:Int))=match kk with
    | none=>⟨sj.paths++[path++47::name],sj.gone⟩
    | some f=>if YH v I (q:Int)&&!sj.gone.contains (q:Int) then f ⟨sj.paths++[path++47::name],sj.gone⟩ (q:Int) (path++47::name) else ⟨sj.paths++[path++47::name],sj.gone⟩ from by unfold Z9;cases kk<;>rfl)
   have AO:=HWn;have mG:=HBn;have Av:=HXn;have ay:=HKn;clear HWn HBn HXn HKn bH HBj sX nI HEj;have hwd:IntKind.i64.wrap ((d:Int)+1)=(d:Int)+1:=by rw[Wb];omega
   by_cases U7:(q:Int)<1\/I<(q:Int)
   ·have HGx:=Qa (λw h=>HGo.o (q:Int) w h U7);have jf:YH v I (q:Int)=false:=by unfold YH;rw[XI (by omega)];rfl
    have Xc:=Qa (show Z9 v I path kk sj (name,(q:Int))=⟨sj.paths++[path++47::name],sj.gone⟩ by
     rw[P0.o];cases kk with
     | none=>rfl
     | some f=>simp only[jf];simp)
    clear P0 jf U7 HGo HGy mK Tr Lj CH hz
    go_upto_region 11 with(first
     | (go_at_call 74;refine(HGx.o _ (HV.o.ext Av.o)).mono ?_;rintro e w7 ⟨rfl,x7⟩)
     | (refine QR (.tmp 15) (.tmp 60) rfl rfl w7.heap.size _ Qy 121 rfl rfl (Qs _ _ _) rfl rfl ?_;intro w8 b8 g8))
    have x8:Ext w6 w8:=(x7.alloc (.cells (Qj Qy) 121)).grown g8 (λk e=>by cases e;exact x7.size);clear x7 g8 b8;refine Qk (by kernel_rfl) (by kernel_rfl) ?_;repeat (go_big_quiet_step (fail))
    refine VI ?_;rintro w9 ⟨y,rfl⟩;have X9:=x8.trans y.ext;go_wp2_with fail;go_roundw;case rel=>exact⟨j+1,un,gq,by omega,by go_num,by rw[HF.o,Xc.o];exact AO.o.ext X9,mG.o.ext X9,Av.o.trans X9,ay.o.trans (VG.ext X9)⟩
    case measure=>simp[intOf];omega
   ·have HGx:=Qa (λw h=>HGy.o (q:Int) w h (by omega) (by omega));have Qkq:(QI v (q:Int)).length=12:=rfl;have Ls:(Qj (QI v (q:Int)))[0]? =some (.int .i64 ((QI v (q:Int)).getD 0 0)):=rfl;have HDe:=Qa (show YH v I (q:Int)=decide ((QI v (q:Int)).getD 0 0=2) by unfold YH;rw[Xd (by omega)];rfl);clear U7 HGo HGy Lj CH hz;generalize (QI v (q:Int)).getD 0 0=kd at *;generalize QI v (q:Int)=xs at *
    go_upto_region 11 with(first
     | (go_at_call 74;refine(HGx.o _ (HV.o.ext Av.o)).mono ?_;rintro e w7 ⟨rfl,x7⟩)
     | (refine QR (.tmp 15) (.tmp 60) rfl rfl w7.heap.size _ Qy 121 rfl rfl (Qs _ _ _) Qkq rfl ?_;intro w8 b8 g8))
    have x8:Ext w6 w8:=(x7.alloc (.cells (Qj Qy) 121)).grown g8 (λk e=>by cases e;exact x7.size);have ck:∀y:Qt w8,y.now.cell? ⟨w7.heap.size,0,none⟩=some (.int .i64 kd):=λy=>y.ext.keep ((b8.cell 0).trans Ls);have cq8:∀y:Qt w8,y.now.cell? ⟨b,o+j*2+1,none⟩=some (.int .i64 (q:Int)):=λy=>(x8.trans y.ext).keep c2n;have cg8:∀y:Qt w8,y.now.cell? ⟨g6,1,none⟩=some gq:=λy=>(mG.o.ext (x8.trans y.ext)).cell 1;have OD:=Qa (λy:Qt w8=>qC W0.heap.size gq sj.gone (q:Int) y.now (Qc AO.o.2 (x8.trans y.ext)) (by omega));clear x7 g8 b8 HGx;by_cases Mz:kd=2;case neg =>
     have dk:(kd==2)=false:=by simpa using Mz
     have jf:YH v I (q:Int)=false:=by rw[HDe.o];exact XI Mz
     have Xc:=Qa (show Z9 v I path kk sj (name,(q:Int))=⟨sj.paths++[path++47::name],sj.gone⟩ by
      rw[P0.o];cases kk with
      | none=>rfl
      | some f=>simp only[jf];simp)
     clear P0 jf Mz mK Tr OD;refine Qk (by kernel_rfl) (by kernel_rfl) ?_;repeat (go_big_quiet_step (fail))
     refine VI ?_;rintro w9 ⟨y,rfl⟩;clear ck cq8 cg8;have X9:=x8.trans y.ext;go_wp2_with fail;go_roundw;case rel=>exact⟨j+1,un,gq,by omega,by go_num,by rw[HF.o,Xc.o];exact AO.o.ext X9,mG.o.ext X9,Av.o.trans X9,ay.o.trans (VG.ext X9)⟩
     case measure=>simp[intOf];omega
    have dk:(kd==2)=true:=by simpa using Mz
    have jf:YH v I (q:Int)=true:=by rw[HDe.o];exact Xd Mz
    cases hc:sj.gone.contains (q:Int) with
    | true =>
     have Xc:=Qa (show Z9 v I path kk sj (name,(q:Int))=⟨sj.paths++[path++47::name],sj.gone⟩ by
      rw[P0.o];cases kk with
      | none=>rfl
      | some f=>simp only[hc];simp)
     rw[hc]at OD;clear P0 jf Mz mK Tr hc;refine Qk (by kernel_rfl) (by kernel_rfl) ?_;repeat (go_big_quiet_step (exact Jb (OD.o _)))
     refine VI ?_;rintro w9 ⟨y,rfl⟩;clear ck cq8 cg8 OD;have X9:=x8.trans y.ext;go_wp2_with fail;go_roundw;case rel=>exact⟨j+1,un,gq,by omega,by go_num,by rw[HF.o,Xc.o];exact AO.o.ext X9,mG.o.ext X9,Av.o.trans X9,ay.o.trans (VG.ext X9)⟩
     case measure=>simp[intOf];omega
    | false =>
     have hnc:(q:Int)∉sj.gone:=by simpa using hc
     rw[hc]at OD;cases kk with
     | none =>
      have hd7:=Tr.o rfl;have hd8:decide ((d:Int)<7)=false:=by rw[hd7];rfl
      have Xc:=Qa P0.o;simp only at Xc;clear P0 jf Mz mK Tr hc hd7;refine Qk (by kernel_rfl) (by kernel_rfl) ?_;repeat (go_big_quiet_step (exact Jb (OD.o _)))
      refine VI ?_;rintro w9 ⟨y,rfl⟩;clear ck cq8 cg8 OD;have X9:=x8.trans y.ext;go_wp2_with fail;go_roundw;case rel=>exact⟨j+1,un,gq,by omega,by go_num,by rw[HF.o,Xc.o];exact AO.o.ext X9,mG.o.ext X9,Av.o.trans X9,ay.o.trans (VG.ext X9)⟩
      case measure=>simp[intOf];omega
     | some f =>
      obtain⟨hd8',hF⟩:=mK.o f rfl;have hd8:decide ((d:Int)<7)=true:=Xd (Int.ofNat_lt.2 hd8');have Xc:=Qa P0.o;simp only[jf,hc,Bool.not_false,vp,if_true]at Xc;have HC:=Qa (λw uu gg h1 h2=>hF.calls ⟨sj.paths++[path++47::name],sj.gone⟩ q (path++47::name) w uu gg hnc uH hp6 hp7 (by have:=CP;simpa using this) h1 h2);rw[show((d+1:Nat):Int)=(d:Int)+1 by omega]at HC;clear P0 jf Mz mK Tr hc hd8' hF;refine Qk (by kernel_rfl) (by kernel_rfl) ?_;repeat (go_big_quiet_step (exact Jb (OD.o _)))
      refine VI ?_;rintro w9 ⟨y,rfl⟩;have X9:=Qa (x8.trans y.ext);have cq7:=cq8 y;have rq:=Qa (mG.o.ext X9.o);have yu:=Qa (AO.o.ext X9.o);have yy:=Qa (Av.o.trans X9.o);have xu:=Qa (ay.o.trans (VG.ext X9.o));clear ck cq8 cg8 OD mG AO Av ay x8 X9;generalize y.now=w9 at *;have mG:=rq;have AO:=yu;have Av:=yy;have ay:=xu;clear rq yu yy xu;go_upto_region 12 with fail;refine JN 10 [[],[],[],[],[2,3],[4],[5],[],[],[8]] [.inl (.slice A n c),.inl (.agg #[un,gq]),.inl (.slice (some ⟨b,o,none⟩) l.length cap2),.inl (.int .i64 (j:Int)),.inl (.pointer (some ⟨b,o+j*2,none⟩)),.inl (.pointer (some ⟨b,o+j*2+1,none⟩)),.inl (.int .i64 (q:Int)),.inl (.string (Qb (path++47::name))),.inl (.int .i64 (d:Int)),.inl (.int .i64 ((d:Int)+1))] (by kernel_rfl) (by kernel_rfl) rfl (λus=>?_);simp only[KG,KI,UY,KJ];refine xW (λw' hx hd=>?_) ?_
      ·go_wp2_with fail;exact Qg _
      simp only[S_];refine xW (λw' hx hd=>?_) ?_
      ·go_wp2_with (refine J2 273 (.tmp 6) rfl rfl g6 _ 273 _ rfl (mG.o.ext hx) underlying273 rfl Ko ?_)
       exact Qg _
      simp only[S_]
      iterate 8
       refine xW (λw' hx hd=>?_) ?_
       ·have cq':=hx.keep cq7;go_wp2_with fail;exact Qg _
       simp only[S_]
      rw[Vx];intro w' hx hv;clear hv;have HW7:=Qa hx;clear hx cq7
      go_wp2_with (first
       | (go_at_call 205;refine(HC.o _ _ _ (Av.o.trans HW7.o) (AO.o.ext HW7.o)).mono ?_;rintro e w8 ⟨uz,gz,rfl,hW8,x8,k8⟩;have HB8:=Qa (Mq (mG.o.ext HW7.o) k8 (by simp) (by decide) (by decide)))
       | (refine JU 273 (.tmp 6) (.tmp 94) rfl rfl g6 #[uz,gz] _ 273 rfl rfl HB8.o Ko rfl (OA hW8) ?_;intro w9 b9 g9))
      have HW9:=Qa (show OL W0.heap.size w9 uz gz _ from⟨hW8.1.kept g9 (.inr (QX hW8.1 HB8.o (by decide)).symm),hW8.2.kept g9 (.inr (QX hW8.2 HB8.o (by decide)).symm)⟩);have HX9:=Qa (x8.grown g9 (λk e=>by cases e;exact My));have HK9:=Qa (show VG (some g6) w5 w9 from((ay.o.trans (VG.ext HW7.o)).trans k8.weak).put g9);have rq:=Qa b9;go_roundw;case rel=>exact⟨j+1,uz,gz,by omega,by go_num,by rw[HF.o,Xc.o];exact HW9.o,rq.o,HX9.o,HK9.o⟩
      case measure=>simp[intOf];omega
  ·obtain rfl:j=l.length:=by omega
   rw[Ri]at bH;have E5:=Mq Qgm.o nI.o (by simp) (by decide) (by decide)
   go_wp2_with (first
    | (refine J2 273 (.tmp 6) rfl rfl g6 _ 273 _ rfl HBj.o underlying273 rfl Ko ?_)
    | (refine JU 273 (.tmp 10) (.tmp 95) rfl rfl (g6+1) #[uq,gq] _ 273 rfl rfl E5 Ko rfl (OA bH.o) ?_;intro w9 b9 g9))
   have hW9:OL W0.heap.size w9 uq gq _:=⟨bH.o.1.kept g9 (.inr (QX bH.o.1 E5 (by decide)).symm),bH.o.2.kept g9 (.inr (QX bH.o.2 E5 (by decide)).symm)⟩
   have x9:Ext W0 w9:=sX.o.grown g9 (λj e=>by cases e;omega);have k9:VG none w w9:=by have h1:VG (some g6) w wr:=HK5.o.trans nI.o;have h2:=h1.new (by have:=EJ.o;omega);intro q o hq h3 h4 h5;have h6:=h2 q o hq h3 h4 h5;have Qn:q<w.heap.size:=(Fa.1 hq).1;rw[g9.block q (Fa.1 h6).1 (λe=>by injection e with e;have:=EJ.o;omega)];exact h6
   refine Jv (QQ rfl _ _ (g6+1) _ _ _ rfl b9 underlying273 rfl Ko) rfl ⟨uq,gq,rfl,hW9,x9,k9⟩
theorem ei (W0:World) (A:Option Addr) (n c:Nat) (v:List (List UInt8)) (I:Int) (hv:Strs W0 A n v) (hn:n<=9223372036854775807) (hg:Ji v I) (r:Nat):∀d,r+d=7->iH W0 A n c v I d (V9 v I r):=by
 have P7:I<=64:=(Jg hg.plan).2.2.2.1;induction r with
 | zero => intro d hd;refine⟨λs k path w up ug a1 a2 a3 a4 a5 a6 a7=>?_,λs k p a b c=>T6 P7 0 s k p a b c,λs k p a b c=>Ec P7 0 s k p a b c⟩;exact Eo W0 A n c v I hv hn hg none d (by omega) (λf e=>by cases e) (λ_=>by omega) s k path w up ug a1 a2 a3 a4 a5 a6 a7
 | succ r ih => intro d hd;refine⟨λs k path w up ug a1 a2 a3 a4 a5 a6 a7=>?_,λs k p a b c=>T6 P7 (r+1) s k p a b c,λs k p a b c=>Ec P7 (r+1) s k p a b c⟩;exact Eo W0 A n c v I hv hn hg (some (V9 v I r)) d (by omega) (λf e=>by cases e;exact⟨by omega,ih (d+1) (by omega)⟩) (λe=>by cases e) s k path w up ug a1 a2 a3 a4 a5 a6 a7
theorem el (A:Option Addr) (n c:Nat) (v:List (List UInt8)) (w:World) (hv:Strs w A n v) (hn:n<=9223372036854775807) (og:∀I,¬Ji v I) :
  Calls prog 205 #[.slice A n c,.agg #[.slice none 0 0,.slice none 0 0],.int .i64 1,.string (Qb []),.int .i64 0] w λe w'=>∃ug',e=.returned (.agg #[.slice none 0 0,ug'])/\Ext w w':=by
 have HL:=Qa (λw h=>Tb A n c v none 1 w h hn og);rw[show Yq v none 1=([],3) from rfl]at HL;simp only at HL;have HV:=Qa hv;have b6:=(Qs w 273 #[.slice none 0 0,.slice none 0 0]).ext ((Qg _).alloc (.cells #[.slice none 0 0,.slice none 0 0] 273));have VM:=Qs (w.alloc (.cells #[.slice none 0 0,.slice none 0 0] 273)) 273 #[.slice none 0 0,.slice none 0 0];rw[YB]at VM;have x2:Ext w ((w.alloc (.cells #[.slice none 0 0,.slice none 0 0] 273)).alloc (.cells #[.slice none 0 0,.slice none 0 0] 273)):=((Qg w).alloc _).alloc _;clear hv;go_enter func205,ntmps205;go_upto_region 1 with fail;have Gx:=Qa x2;clear x2;generalize (w.alloc (.cells #[.slice none 0 0,.slice none 0 0] 273)).alloc (.cells #[.slice none 0 0,.slice none 0 0] 273)=w2 at *;obtain⟨g6,hg6e⟩:∃g6,w.heap.size=g6:=⟨_,rfl⟩
 rw[hg6e]at b6 VM ⊢;have EJ:=Qa hg6e;clear hg6e;have c61:w2.cell? ⟨g6,1,none⟩=some (.slice none 0 0):=b6.cell 1;have Se:=b6.ext ((Qg w2).alloc (.cells #[.int .i64 (1:Int)] 3));have Sc:=VM.ext ((Qg w2).alloc (.cells #[.int .i64 (1:Int)] 3));go_upto_region 2 with(refine UV (B:=(w2.alloc (.cells #[.int .i64 (1:Int)] 3)).heap.size) (l:=[]) (y:=(1:Int)) rfl (.tmp 18) (.tmp 20) rfl rfl rfl (EN _ _ _ _) (Qs _ _ _) (by omega) (Q4 _) ?_;intro un w3 ownN g3;have c3:=(Se.grown g3 (λe=>by cases e)).cell 1;have f3:=(Se.grown g3 (λe=>by cases e)).frozen 1;obtain⟨gn,cn,rfl,hgn⟩:=Uj ownN (by omega))
 have tP:=Se.grown g3 (λe=>by cases e);have iY:=Sc.grown g3 (λe=>by cases e);have zx:=tP.set 1 (.slice (some ⟨gn,0,none⟩) 1 cn);have gV:=Qa (show Box (w3.setCell ⟨g6,1,none⟩ (.slice (some ⟨gn,0,none⟩) 1 cn)) g6 273 #[.slice none 0 0,.slice (some ⟨gn,0,none⟩) 1 cn] from zx);have gU:=Qa (iY.setOther (show g6+1≠g6 by omega) (i:=1) (.slice (some ⟨gn,0,none⟩) 1 cn));have AP:=Qa (((Gx.o.alloc (.cells #[.int .i64 (1:Int)] 3)).grown g3 (λj e=>by cases e)).setCell (p:=⟨g6,1,none⟩) (show w.heap.size<=g6 from Fc EJ.o) (.slice (some ⟨gn,0,none⟩) 1 cn));clear c61 Se Sc g3 c3 f3 tP iY zx ownN b6 VM;have h1:(Value.slice (some ⟨gn,0,none⟩) 1 cn).oneCell'=true:=rfl;generalize (.slice (some ⟨gn,0,none⟩) 1 cn:Value)=g1 at *;generalize w3.setCell ⟨g6,1,none⟩ g1=w4 at *
 go_wp2_with (first
  | (go_at_call 223;refine(HL.o _ (HV.o.ext AP.o)).mono ?_;rintro e w5 ⟨u,rfl,x5,_⟩;have hb5:=gV.o.ext x5;have E5:=gU.o.ext x5)
  | (refine J2 273 (.tmp 6) rfl rfl g6 _ 273 _ rfl hb5 underlying273 rfl Ko ?_)
  | (refine JU 273 (.tmp 10) (.tmp 31) rfl rfl (g6+1) #[.slice none 0 0,g1] _ 273 rfl rfl E5 Ko rfl (by simp[h1,show(Value.slice none 0 0).oneCell'=true from rfl]) ?_;intro w9 b9 g9))
 have x9:Ext w w9:=(AP.o.trans x5).grown g9 (λj e=>by cases e;have:=EJ.o;omega);refine Jv (QQ rfl _ _ (g6+1) _ _ _ rfl b9 underlying273 rfl Ko) rfl ⟨g1,rfl,x9⟩
theorem mA (Au:Option Addr) (n c:Nat) (g:Value) (w:World):(Instr.field 273 (.agg #[.slice Au n c,g]) 0).run prog w=.ok (.slice Au n c) w:=by kernel_rfl
theorem fE (A:Option Addr) (n c:Nat) (v:List (List UInt8)) (I:Option Int) (w:World) (hv:Strs w A n v) (hn:n<=9223372036854775807) (hg:ZW v I) :
  Calls prog 152 #[.slice A n c] w λe w'=>∃u,e=.returned u/\Ext w w'/\w'.ownsRow w.heap.size 9 1 u (JW v I).length (Q5 (JW v I)):=by
 have HE:Zm (Calls prog 205 #[.slice A n c,.agg #[.slice none 0 0,.slice none 0 0],.int .i64 1,.string (Qb []),.int .i64 0] w λe w'=>∃Au cu ug,e=.returned (.agg #[.slice Au (JW v I).length cu,ug])/\Ext w w'/\w'.ownsRow w.heap.size 9 1 (.slice Au (JW v I).length cu) (JW v I).length (Q5 (JW v I))):=Qa (by
  cases I with
  | none => refine(el A n c v w hv hn hg).mono ?_;rintro e w' ⟨ug,rfl,x⟩;exact⟨none,0,_,rfl,x,EN _ _ _ _⟩
  | some I =>
   have:=(ei w A n c v I hv hn hg 7 0 rfl).calls ⟨[],[]⟩ 1 [] w (.slice none 0 0) (.slice none 0 0) (by simp) (by omega) (Fc aV) (Fc kS) (by simp) (Qg w) ⟨EN _ _ _ _,EN _ _ _ _⟩;refine this.mono ?_;rintro e w' ⟨up,ug,rfl,h,x,_⟩;obtain⟨Au,cu,rfl,_⟩:=RX h.1;exact⟨Au,cu,ug,rfl,x,h.1⟩)
 clear hv hg;generalize JW v I=P at *;have DW:=mA;go_enter func152,ntmps152;go_wp2_with (go_at_call 205;refine HE.o.mono ?_;rintro e w3 ⟨Au,cu,ug,rfl,x3,Ke⟩;have HO:=Qa Ke;clear Ke)
 go_ret;exact⟨_,rfl,x3,HO.o⟩
end Go.Proofs.YtfaplefkakpgcaaGreatDoor
