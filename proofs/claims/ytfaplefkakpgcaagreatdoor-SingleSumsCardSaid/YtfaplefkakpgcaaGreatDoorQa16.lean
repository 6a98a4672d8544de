import Derived.Test.YtfaplefkakpgcaaGreatDoorQa13
import Derived.Test.YtfaplefkakpgcaaGreatDoorQa15
set_option linter.unusedVariables false
set_option linter.unusedSimpArgs false
set_option maxHeartbeats 32000000
set_option maxRecDepth 100000
namespace Go.Proofs.YtfaplefkakpgcaaGreatDoor
open Go.Proofs.Tryz
open Go.RowKit
theorem pW.some {v:List (List UInt8)}{e:Ending}(h:pW v e):∃(g:Value) (n:Int),e=.returned (.tuple #[g,.int .i64 n])/\(n=0->∃I,Ji v I):=by
 rcases h with⟨I,hI,rfl⟩|rfl
 ·exact⟨_,0,rfl,λ_=>⟨I,hI⟩⟩
 ·exact⟨_,3,rfl,λh=>by omega⟩
def Y5 (d:QL):Prop:=Za d.bl d.pe=0/\d.di.length<=32/\(∀(i:Nat) (h:i<d.di.length),0<=d.di[i].1/\d.di[i].1<((d.bl.length-33:Nat):Int)/\d.di[i].2.length=128/\(0<i->(d.di[i-1]'(by omega)).1<d.di[i].1))/\∃I,Ji (QH d.bl d.pe d.di) I
inductive Vg (d:QL):Int->Prop
 | drv:J4 d.bl d.pe≠0->Vg d (J4 d.bl d.pe)
 | home:J4 d.bl d.pe=0->Za d.bl d.pe≠0->Vg d 3
 | many:Za d.bl d.pe=0->32<d.di.length->Vg d 6
 | form:Za d.bl d.pe=0->d.di.length<=32->¬Y5 d->Vg d 3
 | ok:Y5 d->Vg d 0
def km (d:QL) (e:Ending):Prop:=∃n:Int,e=.returned (.int .i64 n)/\Vg d n
theorem Vg.zero {d:QL}{n:Int}(h:Vg d n) (h0:n=0):Y5 d:=by
 cases h with
 | drv h=>exact absurd h0 h
 | home _ _=>omega
 | many _ _=>omega
 | form _ _ _=>omega
 | ok h=>exact h
theorem OQ (A:Option Addr) (n c:Nat) (v:List (List UInt8)) (w:World) (hv:Strs w A n v) (hnk:n<=9223372036854775807) (hg:¬∃I,Ji v I) :
  Calls prog 99 #[.slice A n c] w λe w'=>(∃g n,e=.returned (.tuple #[g,.int .i64 n])/\n=3)/\Ext w w' :=
 (eG A n c v w hv hnk).mono λe w' ⟨h,x⟩=>⟨by
  rcases h with⟨I,hI,_⟩|h
  ·exact absurd ⟨I,hI⟩ hg
  ·exact⟨_,_,h,rfl⟩,x⟩
theorem OR (A:Option Addr) (n c:Nat) (v:List (List UInt8)) (w:World) (hv:Strs w A n v) (hg:∃I,Ji v I) :
  Calls prog 99 #[.slice A n c] w λe w'=>(∃g n,e=.returned (.tuple #[g,.int .i64 n])/\n=0)/\Ext w w':=by
 obtain⟨I,hI⟩:=hg;exact(eH A n c v I w hv hI).mono λe w' ⟨h,x⟩=>⟨⟨_,_,h,rfl⟩,x⟩
theorem OL (m:Q1) (d:QL) (w:World) (h:Jg w m d) :
  Calls prog 52 #[.agg m.cells] w λe w'=>km d e/\Ext w w':=by
 obtain⟨hb,hp,hd,Kz,Bl,hbc⟩:=h.drv;have HC:=Qa (λw h1 h2=>NP m.bl.A m.pe.A m.bl.n m.bl.c m.pe.n m.pe.c m.dleft d.bl d.pe w h1 h2 Kz);have HH:=Qa (λw h1 h2=>MG m.bl.A m.pe.A m.bl.n m.bl.c m.pe.n m.pe.c m.dleft d.bl d.pe w h1 h2 Kz);have HV:=Qa (λw h1 h2=>GT m d w h1 h2);go_enter func52,ntmps52;go_upto_region 1 with fail;have xa:Ext w (w.alloc (.cells m.cells 38)):=(Qf _).alloc _;have bm:=QA w 38 m.cells;generalize w.alloc (.cells m.cells 38)=w1 at *;have fo:w1.cell? ⟨w.heap.size,13,none⟩=some (.slice m.bl.A m.bl.n m.bl.c):=bm.cell 13;have fq:w1.cell? ⟨w.heap.size,14,none⟩=some (.slice m.pe.A m.pe.n m.pe.c):=bm.cell 14;have jS:w1.cell? ⟨w.heap.size,15,none⟩=some (.int .i64 m.dleft):=bm.cell 15;have hs:=hb.ext xa;have hw:=hp.ext xa;have va:J4 d.bl d.pe≠0->Za d.bl d.pe≠0:=λh=>by unfold Za;rw[Qv h];exact h
 by_cases h0:J4 d.bl d.pe=0
 ·rw[h0]at HC;go_upto_region 4 with(go_at_call 98;refine(HC.o _ hs hw).mono ?_;rintro e w2 ⟨rfl,x2⟩)
  have Hg:=bm.ext x2;have ki:=xa.trans x2;clear fo fq jS;have fo:w2.cell? ⟨w.heap.size,13,none⟩=some (.slice m.bl.A m.bl.n m.bl.c):=Hg.cell 13;have fq:w2.cell? ⟨w.heap.size,14,none⟩=some (.slice m.pe.A m.pe.n m.pe.c):=Hg.cell 14;have jS:w2.cell? ⟨w.heap.size,15,none⟩=some (.int .i64 m.dleft):=Hg.cell 15;by_cases hj:Za d.bl d.pe=0
  ·have hl:=Z7 hj;have im:=(Zw hj).least;have HJ:=Qa hj;clear hj va h0 HC;rw[hl]at HH;go_upto_region 5 with(go_at_call 72;refine(HH.o _ (hb.ext ki) (hp.ext ki)).mono ?_;rintro e w3 ⟨A1,c1,rfl,x3,Zu⟩)
   have cD:=Hg.ext x3;have ac:=ki.trans x3;clear fo fq jS Zu HH hs hw;obtain⟨N,hN⟩:∃N:Nat,N=d.bl.length-33:=⟨_,rfl⟩
   have hN0:0<N:=by omega
   rw[←hN];have HN:=Qa hN;have kg:w3.cell? ⟨w.heap.size,16,none⟩=some (.slice m.di.A m.di.n m.di.c):=cD.cell 16;have hNe:((N:Int)==0)=false:=by simp;omega
   clear hN hl im;obtain⟨DY,Ef⟩:=hd;have Su:=Qa DY;clear DY;by_cases h32:32<m.di.n
   ·go_wp2_with fail;go_ret;exact⟨⟨6,rfl,.many HJ.o (by rw[←Su.o];exact h32)⟩,ac⟩
   ·go_wp2_with fail;have HM:=Qa (show Jg w m d from h);have gQ:=Qa (λ(h:¬Y5 d)=>show Vg d 3 from .form HJ.o (by rw[←Su.o];omega) h);have HDO:=Qa (show Y5 d->∀(i:Nat) (h:i<d.di.length),0<=d.di[i].1/\d.di[i].1<(N:Int)/\d.di[i].2.length=128/\(0<i->(d.di[i-1]'(by omega)).1<d.di[i].1) fromλh=>by rw[HN.o];exact h.2.2.1);have HDK:=Qa (show(∀(i:Nat) (h:i<d.di.length),0<=d.di[i].1/\d.di[i].1<(N:Int)/\d.di[i].2.length=128/\(0<i->(d.di[i-1]'(by omega)).1<d.di[i].1))->(∃I,Ji (QH d.bl d.pe d.di) I)->Y5 d fromλh1 h2=>⟨HJ.o,by rw[←Su.o];omega,by rw[←HN.o];exact h1,h2⟩);clear h kg;go_loopw [5,6,26] (λ_ _ i wx=>∃k:Nat,k<=m.di.n/\i=.int .i64 k/\Ext w3 wx/\∀(i:Nat) (h:i<d.di.length),i<k->0<=d.di[i].1/\d.di[i].1<(N:Int)/\d.di[i].2.length=128/\(0<i->(d.di[i-1]'(by omega)).1<d.di[i].1)) (λ_ _ i _=>m.di.n-(intOf i).toNat);case atStart=>exact⟨0,by omega,rfl,Qf _,λi _ h=>by omega⟩
    case round =>
     obtain⟨k,hk,rfl,xk,UR⟩:=hrel;have HA:=Qa UR;clear UR;have kh:wr.cell? ⟨w.heap.size,16,none⟩=some (.slice m.di.A m.di.n m.di.c):=(cD.ext xk).cell 16;by_cases Qo:k<m.di.n
     ·obtain⟨b,o,hA,Qd⟩:=Ef (by omega);have Tj:k<d.di.length:=by rw[←Su.o];exact Qo
      have e1:=(ac.trans xk).keep (Qd k Tj).1;have e2:=(ac.trans xk).keep (Qd k Tj).2;have e0:0<k->wr.cell? ⟨b,o+(k-1)*2,none⟩=some (.int .i64 (d.di[k-1]'(by omega)).1):=λh=>(ac.trans xk).keep (Qd (k-1) (by omega)).1;have HS:=Qa (show(0<=d.di[k].1/\d.di[k].1<(N:Int)/\d.di[k].2.length=128/\(0<k->(d.di[k-1]'(by omega)).1<d.di[k].1))->∀(i:Nat) (h:i<d.di.length),i<k+1->0<=d.di[i].1/\d.di[i].1<(N:Int)/\d.di[i].2.length=128/\(0<i->(d.di[i-1]'(by omega)).1<d.di[i].1) fromλh i hi Br=>by
       by_cases e:i<k
       ·exact HA.o i hi e
       ·obtain rfl:i=k:=by omega
        exact h)
      have pD:=Qa (show Y5 d->(0<=d.di[k].1/\d.di[k].1<(N:Int)/\d.di[k].2.length=128/\(0<k->(d.di[k-1]'(by omega)).1<d.di[k].1)) fromλh=>HDO.o h k Tj);clear HA Qd;have hz:=Qh;have Fv:(k:Int)<(m.di.n:Int):=by omega
      generalize d.di[k]=y at *;generalize hprv:d.di[k-1]'(by omega)=prv at *;clear hprv;rw[hA]at kh;go_upto_region 12 with fail;have E1:(wr.alloc (.cells #[.int .i64 y.1,.string (Qb y.2)] 92)).cell? ⟨w.heap.size,16,none⟩=some (.slice (some ⟨b,o,none⟩) m.di.n m.di.c):=((Qf wr).alloc _).keep kh;have E0:0<k->(wr.alloc (.cells #[.int .i64 y.1,.string (Qb y.2)] 92)).cell? ⟨b,o+(k-1)*2,none⟩=some (.int .i64 prv.1):=λh=>((Qf wr).alloc _).keep (e0 h);clear e0 e1 e2 kh;by_cases n0:y.1<0
      ·have d0:decide (y.1<0)=true:=Ve n0;have HX:=Qa n0;clear E0;go_quiet (fail);go_wp2_with fail;go_ret;exact⟨⟨3,rfl,gQ.o (λh=>by have:=(pD.o h).1;have:=HX.o;omega)⟩,ac.trans ((xk.alloc _).drewN _)⟩
      ·have d0:decide (y.1<0)=false:=XI n0;by_cases n1:(N:Int)<=y.1
       ·have d1:decide ((N:Int)<=y.1)=true:=Ve n1;have HX:=Qa n1;clear E0;go_quiet (fail);go_wp2_with fail;go_ret;exact⟨⟨3,rfl,gQ.o (λh=>by have:=(pD.o h).2.1;have:=HX.o;omega)⟩,ac.trans ((xk.alloc _).drewN _)⟩
       ·have d1:decide ((N:Int)<=y.1)=false:=XI n1;by_cases n2:y.2.length=128
        ·have d2:((y.2.length:Int) != 128)=false:=by rw[n2];rfl
         by_cases n3:0<k
         ·have d3:decide ((0:Int)<(k:Int))=true:=by simp;omega
          have pC:=E0 n3;have k1:(k:Int)-1=((k-1:Nat):Int):=by omega
          have k2:IntKind.i64.wrap ((k:Int)-1)=((k-1:Nat):Int):=by rw[ZU];omega
          have k3:((k-1:Nat):Int)<(m.di.n:Int):=by omega
          clear E0;by_cases n4:y.1<=prv.1
          ·have d4:decide (y.1<=prv.1)=true:=Ve n4;have HX:=Qa n4;have lw:=Qa n3;go_quiet (fail);go_wp2_with fail;go_ret;exact⟨⟨3,rfl,gQ.o (λh=>by have:=(pD.o h).2.2.2 lw.o;have:=HX.o;omega)⟩,ac.trans ((xk.alloc _).drewN _)⟩
          ·have d4:decide (y.1<=prv.1)=false:=XI n4;go_quiet (fail);go_wp2_with fail;go_roundw;case rel=>exact⟨k+1,by omega,by go_num,(xk.alloc _).drewN _,HS.o ⟨by omega,by omega,n2,λ_=>by omega⟩⟩
           case measure=>simp[intOf];omega
         ·have d3:decide ((0:Int)<(k:Int))=false:=by simp;omega
          clear E0;go_quiet (fail);go_wp2_with fail;go_roundw;case rel=>exact⟨k+1,by omega,by go_num,(xk.alloc _).drewN _,HS.o ⟨by omega,by omega,n2,λh=>absurd h n3⟩⟩
          case measure=>simp[intOf];omega
        ·have d2:((y.2.length:Int) != 128)=true:=by simp;omega
         have HX:=Qa n2;clear E0;go_quiet (fail);go_wp2_with fail;go_ret;exact⟨⟨3,rfl,gQ.o (λh=>HX.o (pD.o h).2.2.1)⟩,ac.trans ((xk.alloc _).drewN _)⟩
     ·obtain rfl:k=m.di.n:=by omega
      have qU:=Qa (λ(i:Nat) (h:i<d.di.length)=>HA.o i h (by rw[Su.o];exact h));clear HA kh;have DK:=cD.ext xk;have Fy:=HM.o.ext (ac.trans xk);have L3:(QH d.bl d.pe d.di).length<=9223372036854775807:=by have:=AH (d:=d.di) HJ.o;have:=(Zw HJ.o).most;omega
      have HVK:=Qa L3;clear L3;by_cases hg:∃I,Ji (QH d.bl d.pe d.di) I
      ·have HG:=Qa hg;clear hg
       go_wp2_with (first
        | (refine QI (.tmp 1) rfl rfl w.heap.size _ 38 rfl DK rfl ?_)
        | (go_at_call 100;refine(HV.o _ Fy HJ.o).mono ?_;rintro e w4 ⟨A4,c4,rfl,x4,Vw⟩;have s4:=Cz Vw)
        | (go_at_call 99;refine(OR _ _ _ _ _ s4 HG.o).mono ?_;rintro e w5 ⟨⟨g5,n5,rfl,io⟩,x5⟩;have qu:=Qa io;clear io))
       go_ret;exact⟨⟨n5,rfl,by rw[qu.o];exact .ok (HDK.o qU.o HG.o)⟩,(ac.trans xk).trans (x4.trans x5)⟩
      ·have HG:=Qa hg;clear hg
       go_wp2_with (first
        | (refine QI (.tmp 1) rfl rfl w.heap.size _ 38 rfl DK rfl ?_)
        | (go_at_call 100;refine(HV.o _ Fy HJ.o).mono ?_;rintro e w4 ⟨A4,c4,rfl,x4,Vw⟩;have s4:=Cz Vw)
        | (go_at_call 99;refine(OQ _ _ _ _ _ s4 (by rw[s4.1];exact HVK.o) HG.o).mono ?_;rintro e w5 ⟨⟨g5,n5,rfl,io⟩,x5⟩;have qu:=Qa io;clear io))
       go_ret;exact⟨⟨n5,rfl,by rw[qu.o];exact gQ.o (λh=>HG.o h.2.2.2)⟩,(ac.trans xk).trans (x4.trans x5)⟩
  ·have gQ:=Qa (show Vg d 3 from .home h0 hj);have HE:=Qa (show Q9 d.bl d.pe=[] by unfold Q9;rw[Qv hj]);rw[HE.o]at HH;clear va hj HC;go_wp2_with (go_at_call 72;refine(HH.o _ (hb.ext ki) (hp.ext ki)).mono ?_;rintro e w3 ⟨A1,c1,rfl,x3,Zu⟩)
   go_ret;exact⟨⟨3,rfl,gQ.o⟩,ki.trans x3⟩
 ·have d1:(J4 d.bl d.pe != 0)=true:=by simpa using h0
  have HZ:=Qa (show Vg d (J4 d.bl d.pe) from .drv h0);clear h0;obtain⟨dd,IL⟩:∃dd,dd=J4 d.bl d.pe:=⟨_,rfl⟩
  rw[←IL]at HC d1 HZ;clear IL;go_wp2_with (go_at_call 98;refine(HC.o _ hs hw).mono ?_;rintro e w2 ⟨rfl,x2⟩)
  go_ret;exact⟨⟨dd,rfl,HZ.o⟩,xa.trans x2⟩
def VC (l:List QN) (pid:Int):Prop:=∃y∈l,y.pid=pid/\(y.state=1\/y.state=2)
def Yk (y:QN) (fr:Int):Nat->Nat
 | 0=>0
 | j+1=>Yk y fr j+(if y.pis j=true/\y.pfr j=fr then 1 else 0)
def JV (l:List QN) (fr:Int):Nat->Nat
 | 0=>0
 | k+1=>JV l fr k+Yk (l.getD k default) fr 16
def FH (pi:List Zs) (k n p:Int):Prop :=
 ((k=0\/k=1\/k=2)/\n=0/\p=0)\/(k=3/\1<=n/\n<=64/\0<=p/\p<=8960)\/((k=4\/k=5)/\p=0/\∃y∈pi,y.1=n)
def Uw (m:Q1) (d:QL) (y:QN) (j:Nat):Prop :=
 (y.pis j=false/\y.pwr j=false/\y.pfr j=0)\/(y.pis j=true/\y.state≠3/\0<=y.pfr j/\y.pfr j<(m.fr.n:Int)/\JV d.pr (y.pfr j) d.pr.length=1)
structure Yy (m:Q1) (d:QL) (y:QN):Prop where
 pid:1<=y.pid/\y.pid<m.next
 state:y.state=1\/y.state=2\/y.state=3
 reg:y.reg 0=0
 par:VC d.pr y.parent\/(y.state≠3/\y.parent=0)
 why:(y.state=2/\1<=y.why/\y.why<=5)\/(y.state≠2/\y.why=0/\y.num=0)
 code:y.state=3\/y.code=0
 page:∀j<16,Uw m d y j
 fd:∀j<8,FH d.pi (y.fk j) (y.fn j) (y.fp j)/\(y.state=3->y.fk j=0)
structure Yx (m:Q1):Prop where
 quantum:1<=m.quantum/\m.quantum<=1000
 left:0<=m.left/\m.left<=m.quantum
 cur:0<=m.cur
 next:1<=m.next/\m.next<=1000000000
 newPipe:1<=m.newPipe/\m.newPipe<=1000000000
def ZX (m:Q1) (l:List Zs) (k:Nat):Prop:=∀(i:Nat) (h:i<l.length),i<k->1<=l[i].1/\l[i].1<m.newPipe/\l[i].2.length<=64/\(0<i->(l[i-1]'(by omega)).1<l[i].1)
def J3 (m:Q1) (d:QL) (k:Nat):Prop:=∀(i:Nat) (h:i<d.pr.length),i<k->Yy m d d.pr[i]/\(0<i->(d.pr[i-1]'(by omega)).pid<d.pr[i].pid)
structure SG (m:Q1) (d:QL):Prop where
 nums:Yx m
 frn:1<=m.fr.n/\m.fr.n<=64
 fr:∀b∈d.fr,b.length=128
 prn:m.pr.n<=8
 pr:J3 m d d.pr.length
 pin:m.pi.n<=64
 pi:ZX m d.pi d.pi.length
 texts:m.inn.length<=65536/\m.init.length<=128
structure YR (m:Q1) (d:QL):Prop where
 rest:SG m d
 disk:Y5 d
theorem Ik (y:QN) (fr:Int):∀{i j:Nat},i<=j->Yk y fr i<=Yk y fr j:=by
 intro i j h;obtain⟨k,rfl⟩:=Nat.exists_eq_add_of_le h;clear h;induction k with
 | zero=>exact QW _
 | succ k ih=>exact Y6 ih (Nat.le_add_right _ _)
theorem Df (l:List QN) (fr:Int):∀{i j:Nat},i<=j->JV l fr i<=JV l fr j:=by
 intro i j h;obtain⟨k,rfl⟩:=Nat.exists_eq_add_of_le h;clear h;induction k with
 | zero=>exact QW _
 | succ k ih=>exact Y6 ih (Nat.le_add_right _ _)
def FK (l:List QN) (k j:Nat) (fr:Int):Prop:=0<JV l fr k+Yk (l.getD k default) fr j
theorem dh {l:List QN}{k j:Nat}{fr:Int}(hk:k<l.length) (hj:j<16) (h:(l.getD k default).pis j=true) (hf:(l.getD k default).pfr j=fr) (hu:JV l fr l.length=1):¬FK l k j fr:=by
 intro hm;unfold FK at hm;have h1:JV l fr (k+1)<=JV l fr l.length:=Df l fr hk;have h2:Yk (l.getD k default) fr (j+1)<=Yk (l.getD k default) fr 16:=Ik _ _ hj;rw[JV]at h1;rw[Yk,Qv ⟨h,hf⟩]at h2;omega
theorem Rr {l:List QN}{k j:Nat}{fr:Int}(h:(l.getD k default).pis j=true):FK l k (j+1) fr↔FK l k j fr\/fr=(l.getD k default).pfr j:=by
 unfold FK;rw[Yk];by_cases e:(l.getD k default).pfr j=fr
 ·rw[Qv ⟨h,e⟩];exact⟨λ_=>.inr e.symm,λ_=>by omega⟩
 ·rw[Qr (λh=>e h.2)];exact⟨λh=>.inl (by omega),λh=>h.elim (λh=>by omega) (λh=>absurd h.symm e)⟩
theorem Gr {l:List QN}{k j:Nat}{fr:Int}(h:(l.getD k default).pis j=false):FK l k (j+1) fr↔FK l k j fr:=by
 unfold FK;rw[Yk,Qr (λh2=>by rw[h]at h2;cases h2.1)];omega
theorem Gq {l:List QN}{k:Nat}{fr:Int}:FK l (k+1) 0 fr↔FK l k 16 fr:=by
 unfold FK;rw[JV,Yk];omega
theorem Oh {l:List QN}{fr:Int}:¬FK l 0 0 fr:=by unfold FK;rw[JV,Yk];omega
end Go.Proofs.YtfaplefkakpgcaaGreatDoor
