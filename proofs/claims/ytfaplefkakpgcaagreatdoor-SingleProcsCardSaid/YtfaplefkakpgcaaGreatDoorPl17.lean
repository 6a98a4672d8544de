import Derived.Test.YtfaplefkakpgcaaGreatDoorPl14
import Derived.Test.YtfaplefkakpgcaaGreatDoorPl16
set_option linter.unusedVariables false
set_option linter.unusedSimpArgs false
set_option maxHeartbeats 32000000
set_option maxRecDepth 100000
namespace Go.Proofs.YtfaplefkakpgcaaGreatDoor
open Go.Proofs.Tryz
open Go.RowKit
theorem OfR.some {v:List (List UInt8)}{e:Ending}(h:OfR v e):∃(g:Value) (n:Int),e=.returned (.tuple #[g,.int .i64 n])/\(n=0->∃I,Ji v I):=by
 rcases h with⟨I,hI,rfl⟩|rfl
 ·exact⟨_,0,rfl,λ_=>⟨I,hI⟩⟩
 ·exact⟨_,3,rfl,λh=>by omega⟩
def V4 (d:Qz):Prop:=ZR d.bl d.pe=0/\d.di.length<=32/\(∀(i:Nat) (h:i<d.di.length),0<=d.di[i].1/\d.di[i].1<((d.bl.length-33:Nat):Int)/\d.di[i].2.length=128/\(0<i->(d.di[i-1]'(by omega)).1<d.di[i].1))/\∃I,Ji (QS d.bl d.pe d.di) I
inductive KR (d:Qz):Int->Prop
 | drv:ZN d.bl d.pe≠0->KR d (ZN d.bl d.pe)
 | home:ZN d.bl d.pe=0->ZR d.bl d.pe≠0->KR d 3
 | many:ZR d.bl d.pe=0->32<d.di.length->KR d 6
 | form:ZR d.bl d.pe=0->d.di.length<=32->¬V4 d->KR d 3
 | ok:V4 d->KR d 0
def wk (d:Qz) (e:Ending):Prop:=∃n:Int,e=.returned (.int .i64 n)/\KR d n
theorem KR.zero {d:Qz}{n:Int}(h:KR d n) (h0:n=0):V4 d:=by
 cases h with
 | drv h=>exact absurd h0 h
 | home _ _=>omega
 | many _ _=>omega
 | form _ _ _=>omega
 | ok h=>exact h
theorem lO (A:Option Addr) (n c:Nat) (v:List (List UInt8)) (w:World) (hv:Strs w A n v) (hnk:n<=9223372036854775807) (hg:¬∃I,Ji v I) :
  Calls prog 99 #[.slice A n c] w λe w'=>(∃g n,e=.returned (.tuple #[g,.int .i64 n])/\n=3)/\Ext w w' :=
 (aZ A n c v w hv hnk).mono λe w' ⟨h,x⟩=>⟨by
  rcases h with⟨I,hI,_⟩|h
  ·exact absurd ⟨I,hI⟩ hg
  ·exact⟨_,_,h,rfl⟩,x⟩
theorem lP (A:Option Addr) (n c:Nat) (v:List (List UInt8)) (w:World) (hv:Strs w A n v) (hg:∃I,Ji v I) :
  Calls prog 99 #[.slice A n c] w λe w'=>(∃g n,e=.returned (.tuple #[g,.int .i64 n])/\n=0)/\Ext w w':=by
 obtain⟨I,hI⟩:=hg;exact(MG A n c v I w hv hI).mono λe w' ⟨h,x⟩=>⟨⟨_,_,h,rfl⟩,x⟩
theorem lC (m:QO) (d:Qz) (w:World) (h:Q0 w m d) :
  Calls prog 52 #[.agg m.cells] w λe w'=>wk d e/\Ext w w':=by
 obtain⟨hb,hp,hd,K8,cy,hbc⟩:=h.drv;have HC:=Qa (λw h1 h2=>PD m.bl.A m.pe.A m.bl.n m.bl.c m.pe.n m.pe.c m.dleft d.bl d.pe w h1 h2 K8);have HH:=Qa (λw h1 h2=>R9 m.bl.A m.pe.A m.bl.n m.bl.c m.pe.n m.pe.c m.dleft d.bl d.pe w h1 h2 K8);have HV:=Qa (λw h1 h2=>BW m d w h1 h2);go_enter func52,ntmps52;go_upto_region 1 with fail;have xa:Ext w (w.alloc (.cells m.cells 38)):=(Qg _).alloc _;have bm:=Qs w 38 m.cells;generalize w.alloc (.cells m.cells 38)=w1 at *;have IC:w1.cell? ⟨w.heap.size,13,none⟩=some (.slice m.bl.A m.bl.n m.bl.c):=bm.cell 13;have ID:w1.cell? ⟨w.heap.size,14,none⟩=some (.slice m.pe.A m.pe.n m.pe.c):=bm.cell 14;have kt:w1.cell? ⟨w.heap.size,15,none⟩=some (.int .i64 m.dleft):=bm.cell 15;have hs:=hb.ext xa;have hw:=hp.ext xa;have hdE:ZN d.bl d.pe≠0->ZR d.bl d.pe≠0:=λh=>by unfold ZR;rw[QN h];exact h
 by_cases h0:ZN d.bl d.pe=0
 ·rw[h0]at HC;go_upto_region 4 with(go_at_call 98;refine(HC.o _ hs hw).mono ?_;rintro e w2 ⟨rfl,x2⟩)
  have Gr:=bm.ext x2;have wh:=xa.trans x2;clear IC ID kt;have IC:w2.cell? ⟨w.heap.size,13,none⟩=some (.slice m.bl.A m.bl.n m.bl.c):=Gr.cell 13;have ID:w2.cell? ⟨w.heap.size,14,none⟩=some (.slice m.pe.A m.pe.n m.pe.c):=Gr.cell 14;have kt:w2.cell? ⟨w.heap.size,15,none⟩=some (.int .i64 m.dleft):=Gr.cell 15;by_cases hj:ZR d.bl d.pe=0
  ·have hl:=YO hj;have ja:=(Yn hj).least;have HJ:=Qa hj;clear hj hdE h0 HC;rw[hl]at HH;go_upto_region 5 with(go_at_call 72;refine(HH.o _ (hb.ext wh) (hp.ext wh)).mono ?_;rintro e w3 ⟨A1,c1,rfl,x3,Z2⟩)
   have OU:=Gr.ext x3;have mB:=wh.trans x3;clear IC ID kt Z2 HH hs hw;obtain⟨N,hN⟩:∃N:Nat,N=d.bl.length-33:=⟨_,rfl⟩
   have hN0:0<N:=by omega
   rw[←hN];have HN:=Qa hN;have eU:w3.cell? ⟨w.heap.size,16,none⟩=some (.slice m.di.A m.di.n m.di.c):=OU.cell 16;have hNe:((N:Int)==0)=false:=by simp;omega
   clear hN hl ja;obtain⟨hd1,hd2⟩:=hd;have av:=Qa hd1;clear hd1;by_cases h32:32<m.di.n
   ·go_wp2_with fail;go_ret;exact⟨⟨6,rfl,.many HJ.o (by rw[←av.o];exact h32)⟩,mB⟩
   ·go_wp2_with fail;have HM:=Qa (show Q0 w m d from h);have my:=Qa (λ(h:¬V4 d)=>show KR d 3 from .form HJ.o (by rw[←av.o];omega) h);have HDO:=Qa (show V4 d->∀(i:Nat) (h:i<d.di.length),0<=d.di[i].1/\d.di[i].1<(N:Int)/\d.di[i].2.length=128/\(0<i->(d.di[i-1]'(by omega)).1<d.di[i].1) fromλh=>by rw[HN.o];exact h.2.2.1);have xM:=Qa (show(∀(i:Nat) (h:i<d.di.length),0<=d.di[i].1/\d.di[i].1<(N:Int)/\d.di[i].2.length=128/\(0<i->(d.di[i-1]'(by omega)).1<d.di[i].1))->(∃I,Ji (QS d.bl d.pe d.di) I)->V4 d fromλh1 h2=>⟨HJ.o,by rw[←av.o];omega,by rw[←HN.o];exact h1,h2⟩);clear h eU;go_loopw [5,6,26] (λ_ _ i wx=>∃k:Nat,k<=m.di.n/\i=.int .i64 k/\Ext w3 wx/\∀(i:Nat) (h:i<d.di.length),i<k->0<=d.di[i].1/\d.di[i].1<(N:Int)/\d.di[i].2.length=128/\(0<i->(d.di[i-1]'(by omega)).1<d.di[i].1)) (λ_ _ i _=>m.di.n-(intOf i).toNat);case atStart=>exact⟨0,by omega,rfl,Qg _,λi _ h=>by omega⟩
    case round =>
     obtain⟨k,hk,rfl,xk,VC⟩:=hrel;have HA:=Qa VC;clear VC;have ky:wr.cell? ⟨w.heap.size,16,none⟩=some (.slice m.di.A m.di.n m.di.c):=(OU.ext xk).cell 16;by_cases Qn:k<m.di.n
     ·obtain⟨b,o,hA,Qf⟩:=hd2 (by omega);have P9:k<d.di.length:=by rw[←av.o];exact Qn
      have e1:=(mB.trans xk).keep (Qf k P9).1;have e2:=(mB.trans xk).keep (Qf k P9).2;have e0:0<k->wr.cell? ⟨b,o+(k-1)*2,none⟩=some (.int .i64 (d.di[k-1]'(by omega)).1):=λh=>(mB.trans xk).keep (Qf (k-1) (by omega)).1;have HS:=Qa (show(0<=d.di[k].1/\d.di[k].1<(N:Int)/\d.di[k].2.length=128/\(0<k->(d.di[k-1]'(by omega)).1<d.di[k].1))->∀(i:Nat) (h:i<d.di.length),i<k+1->0<=d.di[i].1/\d.di[i].1<(N:Int)/\d.di[i].2.length=128/\(0<i->(d.di[i-1]'(by omega)).1<d.di[i].1) fromλh i hi f9=>by
       by_cases e:i<k
       ·exact HA.o i hi e
       ·obtain rfl:i=k:=by omega
        exact h)
      have qV:=Qa (show V4 d->(0<=d.di[k].1/\d.di[k].1<(N:Int)/\d.di[k].2.length=128/\(0<k->(d.di[k-1]'(by omega)).1<d.di[k].1)) fromλh=>HDO.o h k P9);clear HA Qf;have hz:=Qh;have Gu:(k:Int)<(m.di.n:Int):=by omega
      generalize d.di[k]=y at *;generalize hprv:d.di[k-1]'(by omega)=prv at *;clear hprv;rw[hA]at ky;go_upto_region 12 with fail;have E1:(wr.alloc (.cells #[.int .i64 y.1,.string (Qb y.2)] 92)).cell? ⟨w.heap.size,16,none⟩=some (.slice (some ⟨b,o,none⟩) m.di.n m.di.c):=((Qg wr).alloc _).keep ky;have E0:0<k->(wr.alloc (.cells #[.int .i64 y.1,.string (Qb y.2)] 92)).cell? ⟨b,o+(k-1)*2,none⟩=some (.int .i64 prv.1):=λh=>((Qg wr).alloc _).keep (e0 h);clear e0 e1 e2 ky;by_cases n0:y.1<0
      ·have d0:decide (y.1<0)=true:=Xd n0;have HX:=Qa n0;clear E0;go_quiet (fail);go_wp2_with fail;go_ret;exact⟨⟨3,rfl,my.o (λh=>by have:=(qV.o h).1;have:=HX.o;omega)⟩,mB.trans ((xk.alloc _).drewN _)⟩
      ·have d0:decide (y.1<0)=false:=XI n0;by_cases n1:(N:Int)<=y.1
       ·have d1:decide ((N:Int)<=y.1)=true:=Xd n1;have HX:=Qa n1;clear E0;go_quiet (fail);go_wp2_with fail;go_ret;exact⟨⟨3,rfl,my.o (λh=>by have:=(qV.o h).2.1;have:=HX.o;omega)⟩,mB.trans ((xk.alloc _).drewN _)⟩
       ·have d1:decide ((N:Int)<=y.1)=false:=XI n1;by_cases n2:y.2.length=128
        ·have d2:((y.2.length:Int) != 128)=false:=by rw[n2];rfl
         by_cases n3:0<k
         ·have d3:decide ((0:Int)<(k:Int))=true:=by simp;omega
          have E0':=E0 n3;have k1:(k:Int)-1=((k-1:Nat):Int):=by omega
          have k2:IntKind.i64.wrap ((k:Int)-1)=((k-1:Nat):Int):=by rw[Wb];omega
          have k3:((k-1:Nat):Int)<(m.di.n:Int):=by omega
          clear E0;by_cases n4:y.1<=prv.1
          ·have d4:decide (y.1<=prv.1)=true:=Xd n4;have HX:=Qa n4;have OG:=Qa n3;go_quiet (fail);go_wp2_with fail;go_ret;exact⟨⟨3,rfl,my.o (λh=>by have:=(qV.o h).2.2.2 OG.o;have:=HX.o;omega)⟩,mB.trans ((xk.alloc _).drewN _)⟩
          ·have d4:decide (y.1<=prv.1)=false:=XI n4;go_quiet (fail);go_wp2_with fail;go_roundw;case rel=>exact⟨k+1,by omega,by go_num,(xk.alloc _).drewN _,HS.o ⟨by omega,by omega,n2,λ_=>by omega⟩⟩
           case measure=>simp[intOf];omega
         ·have d3:decide ((0:Int)<(k:Int))=false:=by simp;omega
          clear E0;go_quiet (fail);go_wp2_with fail;go_roundw;case rel=>exact⟨k+1,by omega,by go_num,(xk.alloc _).drewN _,HS.o ⟨by omega,by omega,n2,λh=>absurd h n3⟩⟩
          case measure=>simp[intOf];omega
        ·have d2:((y.2.length:Int) != 128)=true:=by simp;omega
         have HX:=Qa n2;clear E0;go_quiet (fail);go_wp2_with fail;go_ret;exact⟨⟨3,rfl,my.o (λh=>HX.o (qV.o h).2.2.1)⟩,mB.trans ((xk.alloc _).drewN _)⟩
     ·obtain rfl:k=m.di.n:=by omega
      have Qgk:=Qa (λ(i:Nat) (h:i<d.di.length)=>HA.o i h (by rw[av.o];exact h));clear HA ky;have Ry:=OU.ext xk;have ov:=HM.o.ext (mB.trans xk);have hvk:(QS d.bl d.pe d.di).length<=9223372036854775807:=by have:=fS (d:=d.di) HJ.o;have:=(Yn HJ.o).most;omega
      have HVK:=Qa hvk;clear hvk;by_cases hg:∃I,Ji (QS d.bl d.pe d.di) I
      ·have HG:=Qa hg;clear hg
       go_wp2_with (first
        | (refine Qo (.tmp 1) rfl rfl w.heap.size _ 38 rfl Ry rfl ?_)
        | (go_at_call 100;refine(HV.o _ ov HJ.o).mono ?_;rintro e w4 ⟨A4,c4,rfl,x4,Yr⟩;have s4:=GA Yr)
        | (go_at_call 99;refine(lP _ _ _ _ _ s4 HG.o).mono ?_;rintro e w5 ⟨⟨g5,n5,rfl,uF⟩,x5⟩;have HN5:=Qa uF;clear uF))
       go_ret;exact⟨⟨n5,rfl,by rw[HN5.o];exact .ok (xM.o Qgk.o HG.o)⟩,(mB.trans xk).trans (x4.trans x5)⟩
      ·have HG:=Qa hg;clear hg
       go_wp2_with (first
        | (refine Qo (.tmp 1) rfl rfl w.heap.size _ 38 rfl Ry rfl ?_)
        | (go_at_call 100;refine(HV.o _ ov HJ.o).mono ?_;rintro e w4 ⟨A4,c4,rfl,x4,Yr⟩;have s4:=GA Yr)
        | (go_at_call 99;refine(lO _ _ _ _ _ s4 (by rw[s4.1];exact HVK.o) HG.o).mono ?_;rintro e w5 ⟨⟨g5,n5,rfl,uF⟩,x5⟩;have HN5:=Qa uF;clear uF))
       go_ret;exact⟨⟨n5,rfl,by rw[HN5.o];exact my.o (λh=>HG.o h.2.2.2)⟩,(mB.trans xk).trans (x4.trans x5)⟩
  ·have my:=Qa (show KR d 3 from .home h0 hj);have HE:=Qa (show Jl d.bl d.pe=[] by unfold Jl;rw[QN hj]);rw[HE.o]at HH;clear hdE hj HC;go_wp2_with (go_at_call 72;refine(HH.o _ (hb.ext wh) (hp.ext wh)).mono ?_;rintro e w3 ⟨A1,c1,rfl,x3,Z2⟩)
   go_ret;exact⟨⟨3,rfl,my.o⟩,wh.trans x3⟩
 ·have d1:(ZN d.bl d.pe != 0)=true:=by simpa using h0
  have HZ:=Qa (show KR d (ZN d.bl d.pe) from .drv h0);clear h0;obtain⟨dd,rN⟩:∃dd,dd=ZN d.bl d.pe:=⟨_,rfl⟩
  rw[←rN]at HC d1 HZ;clear rN;go_wp2_with (go_at_call 98;refine(HC.o _ hs hw).mono ?_;rintro e w2 ⟨rfl,x2⟩)
  go_ret;exact⟨⟨dd,rfl,HZ.o⟩,xa.trans x2⟩
def XM (l:List QF) (pid:Int):Prop:=∃y∈l,y.pid=pid/\(y.state=1\/y.state=2)
def Zw (y:QF) (fr:Int):Nat->Nat
 | 0=>0
 | j+1=>Zw y fr j+(if y.pis j=true/\y.pfr j=fr then 1 else 0)
def Q7 (l:List QF) (fr:Int):Nat->Nat
 | 0=>0
 | k+1=>Q7 l fr k+Zw (l.getD k default) fr 16
def Gm (pi:List ZY) (k n p:Int):Prop :=
 ((k=0\/k=1\/k=2)/\n=0/\p=0)\/(k=3/\1<=n/\n<=64/\0<=p/\p<=8960)\/((k=4\/k=5)/\p=0/\∃y∈pi,y.1=n)
def KV (m:QO) (d:Qz) (y:QF) (j:Nat):Prop :=
 (y.pis j=false/\y.pwr j=false/\y.pfr j=0)\/(y.pis j=true/\y.state≠3/\0<=y.pfr j/\y.pfr j<(m.fr.n:Int)/\Q7 d.pr (y.pfr j) d.pr.length=1)
structure Xa (m:QO) (d:Qz) (y:QF):Prop where
 pid:1<=y.pid/\y.pid<m.next
 state:y.state=1\/y.state=2\/y.state=3
 reg:y.reg 0=0
 par:XM d.pr y.parent\/(y.state≠3/\y.parent=0)
 why:(y.state=2/\1<=y.why/\y.why<=5)\/(y.state≠2/\y.why=0/\y.num=0)
 code:y.state=3\/y.code=0
 page:∀j<16,KV m d y j
 fd:∀j<8,Gm d.pi (y.fk j) (y.fn j) (y.fp j)/\(y.state=3->y.fk j=0)
structure YU (m:QO):Prop where
 quantum:1<=m.quantum/\m.quantum<=1000
 left:0<=m.left/\m.left<=m.quantum
 cur:0<=m.cur
 next:1<=m.next/\m.next<=1000000000
 newPipe:1<=m.newPipe/\m.newPipe<=1000000000
def Zo (m:QO) (l:List ZY) (k:Nat):Prop:=∀(i:Nat) (h:i<l.length),i<k->1<=l[i].1/\l[i].1<m.newPipe/\l[i].2.length<=64/\(0<i->(l[i-1]'(by omega)).1<l[i].1)
def Zg (m:QO) (d:Qz) (k:Nat):Prop:=∀(i:Nat) (h:i<d.pr.length),i<k->Xa m d d.pr[i]/\(0<i->(d.pr[i-1]'(by omega)).pid<d.pr[i].pid)
structure iI (m:QO) (d:Qz):Prop where
 nums:YU m
 frn:1<=m.fr.n/\m.fr.n<=64
 fr:∀b∈d.fr,b.length=128
 prn:m.pr.n<=8
 pr:Zg m d d.pr.length
 pin:m.pi.n<=64
 pi:Zo m d.pi d.pi.length
 texts:m.inn.length<=65536/\m.init.length<=128
structure Z3 (m:QO) (d:Qz):Prop where
 rest:iI m d
 disk:V4 d
theorem Cr (y:QF) (fr:Int):∀{i j:Nat},i<=j->Zw y fr i<=Zw y fr j:=by
 intro i j h;induction h with
 | refl=>exact Q4 _
 | step _ ih=>exact YR ih (Nat.le_add_right _ _)
theorem Hz (l:List QF) (fr:Int):∀{i j:Nat},i<=j->Q7 l fr i<=Q7 l fr j:=by
 intro i j h;induction h with
 | refl=>exact Q4 _
 | step _ ih=>exact YR ih (Nat.le_add_right _ _)
def Ml (l:List QF) (k j:Nat) (fr:Int):Prop:=0<Q7 l fr k+Zw (l.getD k default) fr j
theorem pQ {l:List QF}{k j:Nat}{fr:Int}(hk:k<l.length) (hj:j<16) (h:(l.getD k default).pis j=true) (hf:(l.getD k default).pfr j=fr) (hu:Q7 l fr l.length=1):¬Ml l k j fr:=by
 intro hm;unfold Ml at hm;have h1:Q7 l fr (k+1)<=Q7 l fr l.length:=Hz l fr hk;have h2:Zw (l.getD k default) fr (j+1)<=Zw (l.getD k default) fr 16:=Cr _ _ hj;rw[Q7]at h1;rw[Zw,QN ⟨h,hf⟩]at h2;omega
theorem LG {l:List QF}{k j:Nat}{fr:Int}(h:(l.getD k default).pis j=true):Ml l k (j+1) fr↔Ml l k j fr\/fr=(l.getD k default).pfr j:=by
 unfold Ml;rw[Zw];by_cases e:(l.getD k default).pfr j=fr
 ·rw[QN ⟨h,e⟩];exact⟨λ_=>.inr e.symm,λ_=>by omega⟩
 ·rw[QD (λh=>e h.2)];exact⟨λh=>.inl (by omega),λh=>h.elim (λh=>by omega) (λh=>absurd h.symm e)⟩
theorem C8 {l:List QF}{k j:Nat}{fr:Int}(h:(l.getD k default).pis j=false):Ml l k (j+1) fr↔Ml l k j fr:=by
 unfold Ml;rw[Zw,QD (λh2=>by rw[h]at h2;cases h2.1)];omega
theorem C7 {l:List QF}{k:Nat}{fr:Int}:Ml l (k+1) 0 fr↔Ml l k 16 fr:=by
 unfold Ml;rw[Q7,Zw];omega
theorem kE {l:List QF}{fr:Int}:¬Ml l 0 0 fr:=by unfold Ml;rw[Q7,Zw];omega
end Go.Proofs.YtfaplefkakpgcaaGreatDoor
