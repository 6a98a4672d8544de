/- The document's machines: disk. -/
import Derived.Test.YtfaplefkakpgcaaGreatDoorXf20
import Derived.Test.YtfaplefkakpgcaaGreatDoorXf14
import Derived.Test.YtfaplefkakpgcaaGreatDoorXf23
import Derived.Test.YtfaplefkakpgcaaGreatDoorXf15
import Derived.Test.YtfaplefkakpgcaaGreatDoorXf17
import Derived.Test.YtfaplefkakpgcaaGreatDoorXf21
import Derived.BigQuiet
import Derived.Test.YtfaplefkakpgcaaGreatDoorXf5
set_option linter.unusedVariables false
set_option linter.unusedSimpArgs false
set_option maxHeartbeats 32000000
set_option maxRecDepth 100000
namespace Go.Proofs.YtfaplefkakpgcaaGreatDoor
open Go.Proofs.Tryz
open Go.RowKit
theorem OfR.some {v:List (List UInt8)}{e:Ending}(h:OfR v e):∃(g:Value) (n:Int),e=.returned (.tuple #[g,.int .i64 n])/\(n=0->∃I,Good v I):=by
 rcases h with⟨I,hI,rfl⟩|rfl
 ·exact⟨_,0,rfl,λ_=>⟨I,hI⟩⟩
 ·exact⟨_,3,rfl,λh=>by omega⟩
def DiskOk (d:MacD):Prop:=jrnE d.bl d.pe=0/\d.di.length<=32/\(∀(i:Nat) (h:i<d.di.length),0<=d.di[i].1/\d.di[i].1<((d.bl.length-33:Nat):Int)/\d.di[i].2.length=128/\(0<i->(d.di[i-1]'(by omega)).1<d.di[i].1))/\∃I,Good (viewP d.bl d.pe d.di) I
inductive DiskC (d:MacD):Int->Prop
 | drv:drvE d.bl d.pe≠0->DiskC d (drvE d.bl d.pe)
 | home:drvE d.bl d.pe=0->jrnE d.bl d.pe≠0->DiskC d 3
 | many:jrnE d.bl d.pe=0->32<d.di.length->DiskC d 6
 | form:jrnE d.bl d.pe=0->d.di.length<=32->¬DiskOk d->DiskC d 3
 | ok:DiskOk d->DiskC d 0
def DiskX (d:MacD) (e:Ending):Prop:=∃n:Int,e=.returned (.int .i64 n)/\DiskC d n
theorem DiskC.zero {d:MacD}{n:Int}(h:DiskC d n) (h0:n=0):DiskOk d:=by
 cases h with
 | drv h=>exact absurd h0 h
 | home _ _=>omega
 | many _ _=>omega
 | form _ _ _=>omega
 | ok h=>exact h
theorem rof_none (A:Option Addr) (n c:Nat) (v:List (List UInt8)) (w:World) (hv:Strs w A n v) (hnk:n<=9223372036854775807) (hg:¬∃I,Good v I) :
  Calls prog 99 #[.slice A n c] w λe w'=>(∃g n,e=.returned (.tuple #[g,.int .i64 n])/\n=3)/\Ext w w' :=
 (rof_any A n c v w hv hnk).mono λe w' ⟨h,x⟩=>⟨by
  rcases h with⟨I,hI,_⟩|h
  ·exact absurd ⟨I,hI⟩ hg
  ·exact⟨_,_,h,rfl⟩,x⟩
theorem rof_some (A:Option Addr) (n c:Nat) (v:List (List UInt8)) (w:World) (hv:Strs w A n v) (hg:∃I,Good v I) :
  Calls prog 99 #[.slice A n c] w λe w'=>(∃g n,e=.returned (.tuple #[g,.int .i64 n])/\n=0)/\Ext w w':=by
 obtain⟨I,hI⟩:=hg;exact(rof_yes A n c v I w hv hI).mono λe w' ⟨h,x⟩=>⟨⟨_,_,h,rfl⟩,x⟩
theorem rdisk_ex (m:Mac) (d:MacD) (w:World) (h:MacIn w m d) :
  Calls prog 52 #[.agg m.cells] w λe w'=>DiskX d e/\Ext w w':=by
 obtain⟨hb,hp,hd,hpn,hdn,hbc⟩:=h.drv;have HC:=lh_ (λw h1 h2=>rdcheck_any m.bl.A m.pe.A m.bl.n m.bl.c m.pe.n m.pe.c m.dleft d.bl d.pe w h1 h2 hpn);have HH:=lh_ (λw h1 h2=>rhome_any m.bl.A m.pe.A m.bl.n m.bl.c m.pe.n m.pe.c m.dleft d.bl d.pe w h1 h2 hpn);have HV:=lh_ (λw h1 h2=>rvolume_any m d w h1 h2);go_enter func52,ntmps52;go_upto_region 1 with fail;have xa:Ext w (w.alloc (.cells m.cells 38)):=(Ext.refl _).alloc _;have bm:=Box.new w 38 m.cells;generalize w.alloc (.cells m.cells 38)=w1 at *;have q13:w1.cell? ⟨w.heap.size,13,none⟩=some (.slice m.bl.A m.bl.n m.bl.c):=bm.cell 13;have q14:w1.cell? ⟨w.heap.size,14,none⟩=some (.slice m.pe.A m.pe.n m.pe.c):=bm.cell 14;have q15:w1.cell? ⟨w.heap.size,15,none⟩=some (.int .i64 m.dleft):=bm.cell 15;have hs:=hb.ext xa;have hw:=hp.ext xa;have hdE:drvE d.bl d.pe≠0->jrnE d.bl d.pe≠0:=λh=>by unfold jrnE;rw[if_pos h];exact h
 by_cases h0:drvE d.bl d.pe=0
 ·rw[h0]at HC;go_upto_region 4 with(go_at_call 98;refine(HC.out _ hs hw).mono ?_;rintro e w2 ⟨rfl,x2⟩)
  have bm2:=bm.ext x2;have x2a:=xa.trans x2;clear q13 q14 q15;have q13:w2.cell? ⟨w.heap.size,13,none⟩=some (.slice m.bl.A m.bl.n m.bl.c):=bm2.cell 13;have q14:w2.cell? ⟨w.heap.size,14,none⟩=some (.slice m.pe.A m.pe.n m.pe.c):=bm2.cell 14;have q15:w2.cell? ⟨w.heap.size,15,none⟩=some (.int .i64 m.dleft):=bm2.cell 15;by_cases hj:jrnE d.bl d.pe=0
  ·have hl:=homeP_len hj;have hlst:=(drvOk_of hj).least;have HJ:=lh_ hj;clear hj hdE h0 HC;rw[hl]at HH;go_upto_region 5 with(go_at_call 72;refine(HH.out _ (hb.ext x2a) (hp.ext x2a)).mono ?_;rintro e w3 ⟨A1,c1,rfl,x3,own1⟩)
   have bm3:=bm2.ext x3;have x3a:=x2a.trans x3;clear q13 q14 q15 own1 HH hs hw;obtain⟨N,hN⟩:∃N:Nat,N=d.bl.length-33:=⟨_,rfl⟩
   have hN0:0<N:=by omega
   rw[← hN];have HN:=lh_ hN;have q16:w3.cell? ⟨w.heap.size,16,none⟩=some (.slice m.di.A m.di.n m.di.c):=bm3.cell 16;have hNe:((N:Int)==0)=false:=by simp;omega
   clear hN hl hlst;obtain⟨hd1,hd2⟩:=hd;have HD1:=lh_ hd1;clear hd1;by_cases h32:32<m.di.n
   ·go_wp2_with fail;go_ret;exact⟨⟨6,rfl,.many HJ.out (by rw[← HD1.out];exact h32)⟩,x3a⟩
   ·go_wp2_with fail;have HM:=lh_ (show MacIn w m d from h);have HF3:=lh_ (λ(h:¬DiskOk d)=>show DiskC d 3 from .form HJ.out (by rw[← HD1.out];omega) h);have HDO:=lh_ (show DiskOk d->∀(i:Nat) (h:i<d.di.length),0<=d.di[i].1/\d.di[i].1<(N:Int)/\d.di[i].2.length=128/\(0<i->(d.di[i-1]'(by omega)).1<d.di[i].1) fromλh=>by rw[HN.out];exact h.2.2.1);have HDK:=lh_ (show(∀(i:Nat) (h:i<d.di.length),0<=d.di[i].1/\d.di[i].1<(N:Int)/\d.di[i].2.length=128/\(0<i->(d.di[i-1]'(by omega)).1<d.di[i].1))->(∃I,Good (viewP d.bl d.pe d.di) I)->DiskOk d fromλh1 h2=>⟨HJ.out,by rw[← HD1.out];omega,by rw[← HN.out];exact h1,h2⟩);clear h q16;go_loopw [5,6,26] (λ_ _ i wx=>∃k:Nat,k<=m.di.n/\i=.int .i64 k/\Ext w3 wx/\∀(i:Nat) (h:i<d.di.length),i<k->0<=d.di[i].1/\d.di[i].1<(N:Int)/\d.di[i].2.length=128/\(0<i->(d.di[i-1]'(by omega)).1<d.di[i].1)) (λ_ _ i _=>m.di.n-(intOf i).toNat);case atStart=>exact⟨0,by omega,rfl,Ext.refl _,λi _ h=>by omega⟩
    case round =>
     obtain⟨k,hk,rfl,xk,hall⟩:=hrel;have HA:=lh_ hall;clear hall;have r16:wr.cell? ⟨w.heap.size,16,none⟩=some (.slice m.di.A m.di.n m.di.c):=(bm3.ext xk).cell 16;by_cases hlt:k<m.di.n
     ·obtain⟨b,o,hA,hcell⟩:=hd2 (by omega);have hlk:k<d.di.length:=by rw[← HD1.out];exact hlt
      have e1:=(x3a.trans xk).keep (hcell k hlk).1;have e2:=(x3a.trans xk).keep (hcell k hlk).2;have e0:0<k->wr.cell? ⟨b,o+(k-1)*2,none⟩=some (.int .i64 (d.di[k-1]'(by omega)).1):=λh=>(x3a.trans xk).keep (hcell (k-1) (by omega)).1;have HS:=lh_ (show(0<=d.di[k].1/\d.di[k].1<(N:Int)/\d.di[k].2.length=128/\(0<k->(d.di[k-1]'(by omega)).1<d.di[k].1))->∀(i:Nat) (h:i<d.di.length),i<k+1->0<=d.di[i].1/\d.di[i].1<(N:Int)/\d.di[i].2.length=128/\(0<i->(d.di[i-1]'(by omega)).1<d.di[i].1) fromλh i hi hik=>by
       by_cases e:i<k
       ·exact HA.out i hi e
       ·obtain rfl:i=k:=by omega
        exact h)
      have HDN:=lh_ (show DiskOk d->(0<=d.di[k].1/\d.di[k].1<(N:Int)/\d.di[k].2.length=128/\(0<k->(d.di[k-1]'(by omega)).1<d.di[k].1)) fromλh=>HDO.out h k hlk);clear HA hcell;have hz:=str_size;have hkn:(k:Int)<(m.di.n:Int):=by omega
      generalize d.di[k]=y at *;generalize hprv:d.di[k-1]'(by omega)=prv at *;clear hprv;rw[hA]at r16;go_upto_region 12 with fail;have E1:(wr.alloc (.cells #[.int .i64 y.1,.string (str y.2)] 92)).cell? ⟨w.heap.size,16,none⟩=some (.slice (some ⟨b,o,none⟩) m.di.n m.di.c):=((Ext.refl wr).alloc _).keep r16;have E0:0<k->(wr.alloc (.cells #[.int .i64 y.1,.string (str y.2)] 92)).cell? ⟨b,o+(k-1)*2,none⟩=some (.int .i64 prv.1):=λh=>((Ext.refl wr).alloc _).keep (e0 h);clear e0 e1 e2 r16;by_cases n0:y.1<0
      ·have d0:decide (y.1<0)=true:=decide_eq_true n0;have HX:=lh_ n0;clear E0;go_quiet (fail);go_wp2_with fail;go_ret;exact⟨⟨3,rfl,HF3.out (λh=>by have:=(HDN.out h).1;have:=HX.out;omega)⟩,x3a.trans ((xk.alloc _).drewN _)⟩
      ·have d0:decide (y.1<0)=false:=decide_eq_false n0;by_cases n1:(N:Int)<=y.1
       ·have d1:decide ((N:Int)<=y.1)=true:=decide_eq_true n1;have HX:=lh_ n1;clear E0;go_quiet (fail);go_wp2_with fail;go_ret;exact⟨⟨3,rfl,HF3.out (λh=>by have:=(HDN.out h).2.1;have:=HX.out;omega)⟩,x3a.trans ((xk.alloc _).drewN _)⟩
       ·have d1:decide ((N:Int)<=y.1)=false:=decide_eq_false n1;by_cases n2:y.2.length=128
        ·have d2:((y.2.length:Int) != 128)=false:=by rw[n2];rfl
         by_cases n3:0<k
         ·have d3:decide ((0:Int)<(k:Int))=true:=by simp;omega
          have E0':=E0 n3;have k1:(k:Int)-1=((k-1:Nat):Int):=by omega
          have k2:IntKind.i64.wrap ((k:Int)-1)=((k-1:Nat):Int):=by rw[IntKind.wrap_i64];omega
          have k3:((k-1:Nat):Int)<(m.di.n:Int):=by omega
          clear E0;by_cases n4:y.1<=prv.1
          ·have d4:decide (y.1<=prv.1)=true:=decide_eq_true n4;have HX:=lh_ n4;have HX3:=lh_ n3;go_quiet (fail);go_wp2_with fail;go_ret;exact⟨⟨3,rfl,HF3.out (λh=>by have:=(HDN.out h).2.2.2 HX3.out;have:=HX.out;omega)⟩,x3a.trans ((xk.alloc _).drewN _)⟩
          ·have d4:decide (y.1<=prv.1)=false:=decide_eq_false n4;go_quiet (fail);go_wp2_with fail;go_roundw;case rel=>exact⟨k+1,by omega,by go_num,(xk.alloc _).drewN _,HS.out ⟨by omega,by omega,n2,λ_=>by omega⟩⟩
           case measure=>simp[intOf];omega
         ·have d3:decide ((0:Int)<(k:Int))=false:=by simp;omega
          clear E0;go_quiet (fail);go_wp2_with fail;go_roundw;case rel=>exact⟨k+1,by omega,by go_num,(xk.alloc _).drewN _,HS.out ⟨by omega,by omega,n2,λh=>absurd h n3⟩⟩
          case measure=>simp[intOf];omega
        ·have d2:((y.2.length:Int) != 128)=true:=by simp;omega
         have HX:=lh_ n2;clear E0;go_quiet (fail);go_wp2_with fail;go_ret;exact⟨⟨3,rfl,HF3.out (λh=>HX.out (HDN.out h).2.2.1)⟩,x3a.trans ((xk.alloc _).drewN _)⟩
     ·obtain rfl:k=m.di.n:=by omega
      have HAll:=lh_ (λ(i:Nat) (h:i<d.di.length)=>HA.out i h (by rw[HD1.out];exact h));clear HA r16;have bmk:=bm3.ext xk;have hmk:=HM.out.ext (x3a.trans xk);have hvk:(viewP d.bl d.pe d.di).length<=9223372036854775807:=by have:=viewP_len (d:=d.di) HJ.out;have:=(drvOk_of HJ.out).most;omega
      have HVK:=lh_ hvk;clear hvk;by_cases hg:∃I,Good (viewP d.bl d.pe d.di) I
      ·have HG:=lh_ hg;clear hg
       go_wp2_with (first
        | (refine wp_ld_mac (.tmp 1) rfl rfl w.heap.size _ 38 rfl bmk rfl ?_)
        | (go_at_call 100;refine(HV.out _ hmk HJ.out).mono ?_;rintro e w4 ⟨A4,c4,rfl,x4,own4⟩;have s4:=Strs.own own4)
        | (go_at_call 99;refine(rof_some _ _ _ _ _ s4 HG.out).mono ?_;rintro e w5 ⟨⟨g5,n5,rfl,hn5⟩,x5⟩;have HN5:=lh_ hn5;clear hn5))
       go_ret;exact⟨⟨n5,rfl,by rw[HN5.out];exact .ok (HDK.out HAll.out HG.out)⟩,(x3a.trans xk).trans (x4.trans x5)⟩
      ·have HG:=lh_ hg;clear hg
       go_wp2_with (first
        | (refine wp_ld_mac (.tmp 1) rfl rfl w.heap.size _ 38 rfl bmk rfl ?_)
        | (go_at_call 100;refine(HV.out _ hmk HJ.out).mono ?_;rintro e w4 ⟨A4,c4,rfl,x4,own4⟩;have s4:=Strs.own own4)
        | (go_at_call 99;refine(rof_none _ _ _ _ _ s4 (by rw[s4.1];exact HVK.out) HG.out).mono ?_;rintro e w5 ⟨⟨g5,n5,rfl,hn5⟩,x5⟩;have HN5:=lh_ hn5;clear hn5))
       go_ret;exact⟨⟨n5,rfl,by rw[HN5.out];exact HF3.out (λh=>HG.out h.2.2.2)⟩,(x3a.trans xk).trans (x4.trans x5)⟩
  ·have HF3:=lh_ (show DiskC d 3 from .home h0 hj);have HE:=lh_ (show homeP d.bl d.pe=[] by unfold homeP;rw[if_pos hj]);rw[HE.out]at HH;clear hdE hj HC;go_wp2_with (go_at_call 72;refine(HH.out _ (hb.ext x2a) (hp.ext x2a)).mono ?_;rintro e w3 ⟨A1,c1,rfl,x3,own1⟩)
   go_ret;exact⟨⟨3,rfl,HF3.out⟩,x2a.trans x3⟩
 ·have d1:(drvE d.bl d.pe != 0)=true:=by simpa using h0
  have HZ:=lh_ (show DiskC d (drvE d.bl d.pe) from .drv h0);clear h0;obtain⟨dd,hdd⟩:∃dd,dd=drvE d.bl d.pe:=⟨_,rfl⟩
  rw[← hdd]at HC d1 HZ;clear hdd;go_wp2_with (go_at_call 98;refine(HC.out _ hs hw).mono ?_;rintro e w2 ⟨rfl,x2⟩)
  go_ret;exact⟨⟨dd,rfl,HZ.out⟩,xa.trans x2⟩
def LivesP (l:List PrT) (pid:Int):Prop:=∃y∈l,y.pid=pid/\(y.state=1\/y.state=2)
def cntFr (y:PrT) (fr:Int):Nat->Nat
 | 0=>0
 | j+1=>cntFr y fr j+(if y.pis j=true/\y.pfr j=fr then 1 else 0)
def usersK (l:List PrT) (fr:Int):Nat->Nat
 | 0=>0
 | k+1=>usersK l fr k+cntFr (l.getD k default) fr 16
def FdP (pi:List WrT) (k n p:Int):Prop :=
 ((k=0\/k=1\/k=2)/\n=0/\p=0)\/(k=3/\1<=n/\n<=64/\0<=p/\p<=8960)\/((k=4\/k=5)/\p=0/\∃y∈pi,y.1=n)
def PageP (m:Mac) (d:MacD) (y:PrT) (j:Nat):Prop :=
 (y.pis j=false/\y.pwr j=false/\y.pfr j=0)\/(y.pis j=true/\y.state≠3/\0<=y.pfr j/\y.pfr j<(m.fr.n:Int)/\usersK d.pr (y.pfr j) d.pr.length=1)
structure ProcOk (m:Mac) (d:MacD) (y:PrT):Prop where
 pid:1<=y.pid/\y.pid<m.next
 state:y.state=1\/y.state=2\/y.state=3
 reg:y.reg 0=0
 par:LivesP d.pr y.parent\/(y.state≠3/\y.parent=0)
 why:(y.state=2/\1<=y.why/\y.why<=5)\/(y.state≠2/\y.why=0/\y.num=0)
 code:y.state=3\/y.code=0
 page:∀j<16,PageP m d y j
 fd:∀j<8,FdP d.pi (y.fk j) (y.fn j) (y.fp j)/\(y.state=3->y.fk j=0)
structure NumsOk (m:Mac):Prop where
 quantum:1<=m.quantum/\m.quantum<=1000
 left:0<=m.left/\m.left<=m.quantum
 cur:0<=m.cur
 next:1<=m.next/\m.next<=1000000000
 newPipe:1<=m.newPipe/\m.newPipe<=1000000000
def PipesK (m:Mac) (l:List WrT) (k:Nat):Prop:=∀(i:Nat) (h:i<l.length),i<k->1<=l[i].1/\l[i].1<m.newPipe/\l[i].2.length<=64/\(0<i->(l[i-1]'(by omega)).1<l[i].1)
def ProcsK (m:Mac) (d:MacD) (k:Nat):Prop:=∀(i:Nat) (h:i<d.pr.length),i<k->ProcOk m d d.pr[i]/\(0<i->(d.pr[i-1]'(by omega)).pid<d.pr[i].pid)
structure RestOk (m:Mac) (d:MacD):Prop where
 nums:NumsOk m
 frn:1<=m.fr.n/\m.fr.n<=64
 fr:∀b∈d.fr,b.length=128
 prn:m.pr.n<=8
 pr:ProcsK m d d.pr.length
 pin:m.pi.n<=64
 pi:PipesK m d.pi d.pi.length
 texts:m.inn.length<=65536/\m.init.length<=128
structure StateOk (m:Mac) (d:MacD):Prop where
 rest:RestOk m d
 disk:DiskOk d
theorem cnt_mono (y:PrT) (fr:Int):∀{i j:Nat},i<=j->cntFr y fr i<=cntFr y fr j:=by
 intro i j h;induction h with
 | refl=>exact Nat.le_refl _
 | step _ ih=>exact Nat.le_trans ih (Nat.le_add_right _ _)
theorem users_mono (l:List PrT) (fr:Int):∀{i j:Nat},i<=j->usersK l fr i<=usersK l fr j:=by
 intro i j h;induction h with
 | refl=>exact Nat.le_refl _
 | step _ ih=>exact Nat.le_trans ih (Nat.le_add_right _ _)
def Met (l:List PrT) (k j:Nat) (fr:Int):Prop:=0<usersK l fr k+cntFr (l.getD k default) fr j
theorem met_one {l:List PrT}{k j:Nat}{fr:Int}(hk:k<l.length) (hj:j<16) (h:(l.getD k default).pis j=true) (hf:(l.getD k default).pfr j=fr) (hu:usersK l fr l.length=1):¬Met l k j fr:=by
 intro hm;unfold Met at hm;have h1:usersK l fr (k+1)<=usersK l fr l.length:=users_mono l fr hk;have h2:cntFr (l.getD k default) fr (j+1)<=cntFr (l.getD k default) fr 16:=cnt_mono _ _ hj;rw[usersK]at h1;rw[cntFr,if_pos ⟨h,hf⟩]at h2;omega
theorem met_next {l:List PrT}{k j:Nat}{fr:Int}(h:(l.getD k default).pis j=true):Met l k (j+1) fr↔Met l k j fr\/fr=(l.getD k default).pfr j:=by
 unfold Met;rw[cntFr];by_cases e:(l.getD k default).pfr j=fr
 ·rw[if_pos ⟨h,e⟩];exact⟨λ_=>.inr e.symm,λ_=>by omega⟩
 ·rw[if_neg (λh=>e h.2)];exact⟨λh=>.inl (by omega),λh=>h.elim (λh=>by omega) (λh=>absurd h.symm e)⟩
theorem met_skip {l:List PrT}{k j:Nat}{fr:Int}(h:(l.getD k default).pis j=false):Met l k (j+1) fr↔Met l k j fr:=by
 unfold Met;rw[cntFr,if_neg (λh2=>by rw[h]at h2;cases h2.1)];omega
theorem met_proc {l:List PrT}{k:Nat}{fr:Int}:Met l (k+1) 0 fr↔Met l k 16 fr:=by
 unfold Met;rw[usersK,cntFr];omega
theorem met_zero {l:List PrT}{fr:Int}:¬Met l 0 0 fr:=by unfold Met;rw[usersK,cntFr];omega
def writeT (x:WrT):List UInt8:=rowL [Lib.itoa x.1,x.2]
def writesT (l:List WrT):List UInt8:=rowL (l.map writeT)
def cpuT (y:PrT):List UInt8:=(List.range 16).flatMap (λi=>putL (y.reg i) 4)++putL y.pc 4
def pteT (y:PrT) (i:Nat):List UInt8:=if y.pis i=false then [0,0] else if y.pwr i=true then [2,b8 (y.pfr i)] else [1,b8 (y.pfr i)]
def spaceT (y:PrT):List UInt8:=(List.range 16).flatMap (pteT y)
def fdT (y:PrT) (i:Nat):List UInt8:=b8 (y.fk i)::(putL (y.fn i) 8++putL (y.fp i) 8)
def fdsT (y:PrT):List UInt8:=(List.range 8).flatMap (fdT y)
def procL (y:PrT):List (List UInt8):=[Lib.itoa y.pid,Lib.itoa y.parent,Lib.itoa y.state,cpuT y,spaceT y,fdsT y,flagT y.mask,putL y.code 4,Lib.itoa y.why,putL y.num 8]
def procT (y:PrT):List UInt8:=rowL (procL y)
def restL (m:Mac) (d:MacD):List (List UInt8) :=
 [[104,105,98,50],putL m.clock 8,Lib.itoa m.quantum,Lib.itoa m.cur,Lib.itoa m.left,Lib.itoa m.next,m.init,Lib.itoa m.newPipe,m.inn,flagT m.fin,putL m.told 8,Lib.itoa m.dleft,writesT d.pe,writesT d.di,writesT d.pi,rowL (d.pr.map procT)]
def restT (m:Mac) (d:MacD):List UInt8:=rowL (restL m d)
theorem flatMap_len {α:Type} (l:List α) (f:α->List UInt8) (z:Nat) (h:∀x∈l,(f x).length=z):(l.flatMap f).length=l.length*z:=by
 induction l with
 | nil=>simp
 | cons x l ih=>rw[List.flatMap_cons,List.length_append,h x List.mem_cons_self,ih (λy hy=>h y (List.mem_cons_of_mem _ hy)),List.length_cons,Nat.succ_mul];omega
theorem cpuT_len (y:PrT):(cpuT y).length=68:=by
 unfold cpuT;rw[List.length_append,flatMap_len _ _ 4 (λi _=>putL_len _ _),putL_len];rfl
theorem pteT_len (y:PrT) (i:Nat):(pteT y i).length=2:=by unfold pteT;split;rfl;split<;>rfl
theorem spaceT_len (y:PrT):(spaceT y).length=32:=by
 unfold spaceT;rw[flatMap_len _ _ 2 (λi _=>pteT_len y i)];rfl
theorem fdT_len (y:PrT) (i:Nat):(fdT y i).length=17:=by simp[fdT,putL_len]
theorem fdsT_len (y:PrT):(fdsT y).length=136:=by
 unfold fdsT;rw[flatMap_len _ _ 17 (λi _=>fdT_len y i)];rfl

def writeQ (s:List UInt8):Option WrT:=(openT (some 2) s).bind λl=>(intP (l.getD 0 [])).map λn=>(n,l.getD 1 [])
def writesP (s:List UInt8):Option (List WrT):=(openT none s).bind (allP writeQ)
def mkProc (pid par st:Int) (cpu sp fds:List UInt8) (mask:Bool) (code why num:Int):PrT where
 pid:=pid
 parent:=par
 state:=st
 reg i:=numAtT cpu (4*i) 4
 pc:=numAtT cpu 64 4
 pis i:= !(byteAt sp (2*i)==0)
 pwr i:=byteAt sp (2*i)==2
 pfr i:=if byteAt sp (2*i)=0 then 0 else byteAt sp (2*i+1)
 fk i:=byteAt fds (17*i)
 fn i:=wrap64 (numAtT fds (17*i+1) 8)
 fp i:=wrap64 (numAtT fds (17*i+9) 8)
 mask:=mask
 code:=code
 why:=why
 num:=num
def procP (s:List UInt8):Option PrT:=(openT (some 10) s).bind λl =>
 (intP (l.getD 0 [])).bind λpid=>(intP (l.getD 1 [])).bind λpar=>(intP (l.getD 2 [])).bind λst =>
 (fixP 68 (l.getD 3 [])).bind λcpu=>(spaceP (l.getD 4 [])).bind λsp=>(fixP 136 (l.getD 5 [])).bind λfds =>
 (flagP (l.getD 6 [])).bind λmask=>(numP 4 (l.getD 7 [])).bind λcode=>(intP (l.getD 8 [])).bind λwhy=>(numP 8 (l.getD 9 [])).map λnum =>
 mkProc pid par st cpu sp fds mask code why num
def procsP (s:List UInt8):Option (List PrT):=(openT none s).bind (allP procP)
def sl0:Sl:=⟨none,0,0⟩
def restQ (s:List UInt8):Option (Mac × MacD):=(openT (some 16) s).bind λl =>
 if l.getD 0 []=[104,105,98,50] then
  (numP 8 (l.getD 1 [])).bind λclock=>(intP (l.getD 2 [])).bind λquantum=>(intP (l.getD 3 [])).bind λcur=>(intP (l.getD 4 [])).bind λleft=>(intP (l.getD 5 [])).bind λnext =>
  (intP (l.getD 7 [])).bind λnewPipe=>(flagP (l.getD 9 [])).bind λfin=>(numP 8 (l.getD 10 [])).bind λtold=>(intP (l.getD 11 [])).bind λdleft =>
  (writesP (l.getD 12 [])).bind λpe=>(writesP (l.getD 13 [])).bind λdi=>(writesP (l.getD 14 [])).bind λpi=>(procsP (l.getD 15 [])).map λpr =>
  (⟨clock,quantum,cur,left,sl0,sl0,next,l.getD 6 [],sl0,newPipe,l.getD 8 [],fin,told,sl0,sl0,dleft,sl0⟩,⟨[],pr,pi,[],pe,di⟩)
 else none

def WrFit (l:List WrT):Prop:=∀x∈l,N64 x.1/\x.2.length<=1000
theorem lenL_few (n:Nat) (h:n<268435456):(lenL n).length<=4:=by
 rw[lenL];split;· simp
 rw[lenL];split;· simp
 rw[lenL];split;· simp
 rw[lenL];split;· simp
 omega
theorem writeT_len {x:WrT}(h:N64 x.1) (hl:x.2.length<=1000):(writeT x).length<=1028:=by
 unfold writeT;have:=itoa_len h.1 h.2;have h1:=lenL_few (Lib.itoa x.1).length (by omega);have h2:=lenL_few x.2.length (by omega);simp only[rowL_cons,rowL_nil,List.append_nil,List.length_append];omega
structure PrFit (y:PrT):Prop where
 pid:N64 y.pid
 parent:N64 y.parent
 state:N64 y.state
 why:N64 y.why
 reg:∀i<16,0<=y.reg i/\y.reg i<4294967296
 pc:0<=y.pc/\y.pc<4294967296
 code:0<=y.code/\y.code<4294967296
 num:0<=y.num/\y.num<18446744073709551616
 page:∀i<16,0<=y.pfr i/\y.pfr i<256/\(y.pis i=false->y.pwr i=false/\y.pfr i=0)
 fk:∀i<8,0<=y.fk i/\y.fk i<256
 fn:∀i<8,0<=y.fn i/\y.fn i<9223372036854775808
 fp:∀i<8,0<=y.fp i/\y.fp i<9223372036854775808
theorem b8_natT {n:Int}(h0:0<=n) (h1:n<256):((b8 n).toNat:Int)=n:=by
 have:=b8_toNat n h0 (by omega);omega
theorem procL_len (y:PrT):(procL y).length=10:=rfl
theorem flagT_len (b:Bool):(flagT b).length=1:=by cases b<;>rfl
theorem procL_few {y:PrT}(h:PrFit y):∀s∈procL y,s.length<=136:=by
 intro s hs;have a1:=itoa_len h.pid.1 h.pid.2;have a2:=itoa_len h.parent.1 h.parent.2;have a3:=itoa_len h.state.1 h.state.2;have a4:=itoa_len h.why.1 h.why.2;simp only[procL,List.mem_cons,List.not_mem_nil,or_false]at hs;rcases hs with rfl|rfl|rfl|rfl|rfl|rfl|rfl|rfl|rfl|rfl
 ·omega
 ·omega
 ·omega
 ·rw[cpuT_len];omega
 ·rw[spaceT_len];omega
 ·rw[fdsT_len];exact Nat.le_refl _
 ·rw[flagT_len];omega
 ·rw[putL_len];omega
 ·omega
 ·rw[putL_len];omega
theorem procT_len {y:PrT}(h:PrFit y):(procT y).length<=1400:=by
 have:=procL_few h;unfold procT;have k:∀l:List (List UInt8),(∀s∈l,s.length<=136)->(rowL l).length<=l.length*140:=by
  intro l;induction l with
  | nil=>intro _;simp[rowL_nil]
  | cons s l ih => intro hl;have h1:=hl s List.mem_cons_self;have h2:=ih (λx hx=>hl x (List.mem_cons_of_mem _ hx));have h3:=lenL_few s.length (by omega);rw[rowL_cons,List.length_append,List.length_append,List.length_cons,Nat.succ_mul];omega
 have k2:=k _ this;rw[procL_len]at k2;omega
theorem map_congr16 {α:Type} {f g:Nat->α}(n:Nat) (h:∀i<n,f i=g i):(List.range n).map f=(List.range n).map g :=
 List.map_congr_left (λi hi=>h i (List.mem_range.1 hi))
theorem prL_congr {y z:PrT}(h1:y.pid=z.pid) (h2:y.parent=z.parent) (h3:y.state=z.state) (h4:∀i<16,y.reg i=z.reg i) (h5:y.pc=z.pc)
  (h6:∀i<16,y.pis i=z.pis i/\y.pwr i=z.pwr i/\y.pfr i=z.pfr i) (h7:∀i<8,y.fk i=z.fk i/\y.fn i=z.fn i/\y.fp i=z.fp i)
  (h8:y.mask=z.mask) (h9:y.code=z.code) (h10:y.why=z.why) (h11:y.num=z.num):prL y=prL z:=by
 have e1:(List.range 16).map (λi=>Value.int .u32 (y.reg i))=(List.range 16).map (λi=>Value.int .u32 (z.reg i)):=map_congr16 16 (λi hi=>by rw[h4 i hi]);have e2:(List.range 16).flatMap (pteL y)=(List.range 16).flatMap (pteL z):=by rw[List.flatMap_def,List.flatMap_def,map_congr16 (g:=pteL z) 16 (λi hi=>by unfold pteL;rw[(h6 i hi).1,(h6 i hi).2.1,(h6 i hi).2.2])]
 have e3:(List.range 8).flatMap (fdL y)=(List.range 8).flatMap (fdL z):=by rw[List.flatMap_def,List.flatMap_def,map_congr16 (g:=fdL z) 8 (λi hi=>by unfold fdL;rw[(h7 i hi).1,(h7 i hi).2.1,(h7 i hi).2.2])]
 unfold prL;rw[e1,e2,e3,h1,h2,h3,h5,h8,h9,h10,h11]
structure SameSc (m z:Mac):Prop where
 clock:m.clock=z.clock
 quantum:m.quantum=z.quantum
 cur:m.cur=z.cur
 left:m.left=z.left
 next:m.next=z.next
 init:m.init=z.init
 newPipe:m.newPipe=z.newPipe
 inn:m.inn=z.inn
 fin:m.fin=z.fin
 told:m.told=z.told
 dleft:m.dleft=z.dleft
structure RestFit (m:Mac) (d:MacD):Prop where
 clock:0<=m.clock/\m.clock<18446744073709551616
 told:0<=m.told/\m.told<18446744073709551616
 quantum:N64 m.quantum
 cur:N64 m.cur
 left:N64 m.left
 next:N64 m.next
 newPipe:N64 m.newPipe
 dleft:N64 m.dleft
 init:m.init.length<=100000
 inn:m.inn.length<=100000
 pe:WrFit d.pe
 di:WrFit d.di
 pi:WrFit d.pi
 pr:∀y∈d.pr,PrFit y
 pel:d.pe.length<=1000
 dil:d.di.length<=1000
 pil:d.pi.length<=1000
 prl:d.pr.length<=1000
theorem row_few (z:Nat) (hz:z<=100000) (l:List (List UInt8)) (h:∀s∈l,s.length<=z):(rowL l).length<=l.length*(z+4):=by
 induction l with
 | nil=>simp[rowL_nil]
 | cons s l ih => have h1:=h s List.mem_cons_self;have h2:=ih (λx hx=>h x (List.mem_cons_of_mem _ hx));have h3:=lenL_few s.length (by omega);rw[rowL_cons,List.length_append,List.length_append,List.length_cons,Nat.succ_mul];omega
theorem writesT_len {l:List WrT}(h:WrFit l) (hl:l.length<=1000):(writesT l).length<=1032000:=by
 have:=row_few 1028 (by omega) (l.map writeT) (λs hs=>by
  obtain⟨x,hx,rfl⟩:=List.mem_map.1 hs;exact writeT_len (h x hx).1 (h x hx).2)
 rw[List.length_map]at this;unfold writesT;omega
theorem procsT_len {l:List PrT}(h:∀y∈l,PrFit y) (hl:l.length<=1000):(rowL (l.map procT)).length<=1404000:=by
 have:=row_few 1400 (by omega) (l.map procT) (λs hs=>by
  obtain⟨x,hx,rfl⟩:=List.mem_map.1 hs;exact procT_len (h x hx))
 rw[List.length_map]at this;omega
theorem restL_few {m:Mac}{d:MacD}(h:RestFit m d):∀s∈restL m d,s.length<=1404000:=by
 intro s hs;have a1:=itoa_len h.quantum.1 h.quantum.2;have a2:=itoa_len h.cur.1 h.cur.2;have a3:=itoa_len h.left.1 h.left.2;have a4:=itoa_len h.next.1 h.next.2;have a5:=itoa_len h.newPipe.1 h.newPipe.2;have a6:=itoa_len h.dleft.1 h.dleft.2;have b1:=writesT_len h.pe h.pel;have b2:=writesT_len h.di h.dil;have b3:=writesT_len h.pi h.pil;have b4:=procsT_len h.pr h.prl;have c1:=h.init;have c2:=h.inn;simp only[restL,List.mem_cons,List.not_mem_nil,or_false]at hs;rcases hs with rfl|rfl|rfl|rfl|rfl|rfl|rfl|rfl|rfl|rfl|rfl|rfl|rfl|rfl|rfl|rfl
 ·simp
 ·rw[putL_len];omega
 ·omega
 ·omega
 ·omega
 ·omega
 ·omega
 ·omega
 ·omega
 ·rw[flagT_len];omega
 ·rw[putL_len];omega
 ·omega
 ·omega
 ·omega
 ·omega
 ·exact b4
def spQ (s:List UInt8) (k:Nat):PrT:={ (default:PrT) with
 pis:=λi=>if i<k then !(byteAt s (2*i)==0) else false
 pwr:=λi=>if i<k then byteAt s (2*i)==2 else false
 pfr:=λi=>if i<k then (if byteAt s (2*i)=0 then 0 else byteAt s (2*i+1)) else 0 }
def spC (s:List UInt8) (k:Nat):Array Value:=(spaceL (spQ s k)).toArray
def spZ:Array Value:=(spaceL default).toArray
theorem upto16 {k:Nat}(h:k<16):k=0\/k=1\/k=2\/k=3\/k=4\/k=5\/k=6\/k=7\/k=8\/k=9\/k=10\/k=11\/k=12\/k=13\/k=14\/k=15:=by omega
theorem spC_size (s:List UInt8) (k:Nat):(spC s k).size=48:=rfl
theorem spC_put (s:List UInt8) {k:Nat}(h:k<16):(((spC s k).setIfInBounds (k*3) (.bool (!(byteAt s (2*k)==0)))).setIfInBounds (k*3+1) (.bool (byteAt s (2*k)==2))).setIfInBounds (k*3+2) (.int .i64 (if byteAt s (2*k)=0 then 0 else byteAt s (2*k+1)))=spC s (k+1):=by
 rcases upto16 h with rfl|rfl|rfl|rfl|rfl|rfl|rfl|rfl|rfl|rfl|rfl|rfl|rfl|rfl|rfl|rfl<;>kernel_rfl
theorem spC_skip (s:List UInt8) {k:Nat}(h:k<16) (h0:byteAt s (2*k)=0):spC s k=spC s (k+1):=by
 have e:∀i<16,pteL (spQ s k) i=pteL (spQ s (k+1)) i:=by
  intro i _;unfold pteL spQ;by_cases hk:i<k
  ·simp[hk,show i<k+1 by omega]
  ·by_cases hi:i=k
   ·subst hi;simp[h0]
   ·simp[hk,show¬i<k+1 by omega]
 unfold spC spaceL;rw[List.flatMap_def,List.flatMap_def,map_congr16 16 e]
section
variable {ops:Array Oper}{rest:List Oper}{o:Oper}{a:Act}{w:World}{Q:Exit->Act->World->Prop}
theorem wp_st_three (T:TypeId) (x y:Operand) (hgd:o.guard=none) (ho:o.op=.store T x y) (g off:Nat) (cs ds:Array Value) (v0 v1 v2:Value) (t:TypeId) (hx:a.eval x=.pointer (some ⟨g,off,none⟩)) (hy:a.eval y=.agg #[v0,v1,v2])
  (hi:(prog.info? T).map (·.size)=some 3) (o0:v0.oneCell'=true) (o1:v1.oneCell'=true) (o2:v2.oneCell'=true) (hb:Box w g t cs) (hof:off+3<=cs.size) (hds:((cs.setIfInBounds off v0).setIfInBounds (off+1) v1).setIfInBounds (off+2) v2=ds)
  (hK:∀w',Box w' g t ds->w.grownBy w' (some g)->wpList prog ops Q rest (a.put o.dst undef) w'):wpList prog ops Q (o::rest) a w:=by
 refine wpList_store_mid hgd _ x y ho g off #[v0,v1,v2] hx hy (λj hj=>?_) hi (all_oneCell_toArray (cs:=[v0,v1,v2]) (λv hv=>by simp only[List.mem_cons,List.not_mem_nil,or_false]at hv;rcases hv with rfl|rfl|rfl<;>assumption)) (hK _ ?_ (grown_cells _ off w))
 ·refine⟨?_,hb.frozen (off+j)⟩;rw[hb.cell (off+j)];have hj3:j<3:=hj;rw[Array.getElem?_eq_getElem (by omega)];rfl
 ·rw[← hds];exact((hb.set off v0).set (off+1) v1).set (off+2) v2
end
theorem i64_byte {n:Int}(h0:0<=n) (h1:n<256):IntKind.i64.wrap n=n:=by
 have:n%2^64=n:=Int.emod_eq_of_lt h0 (by omega);unfold IntKind.wrap;simp only[IntKind.bits,IntKind.signed,this];rw[if_neg];simp;omega
theorem idx_byte (l:List UInt8) (k:Nat) (h:k<l.length) (w:World):(Instr.index 9 (.string (str l)) (.int .i64 (k:Int))).run prog w=.ok (.int .u8 (byteAt l k)) w:=by
 rw[run_index_string w 9 (str l) .i64 (k:Int) underlying9,dif_pos ⟨by omega,by rw[str_size];omega⟩];unfold byteAt;rw[List.getD_eq_getElem?_getD,List.getElem?_eq_getElem h];rfl
theorem byteAt_is (s:List UInt8) (i:Nat):0<=byteAt s i/\byteAt s i<256:=by
 unfold byteAt;have:=(s.getD i 0).toNat_lt;omega
theorem spaceB_of {s:List UInt8}(h:∀i<16,pteB (byteAt s (2*i)) (byteAt s (2*i+1))=true):spaceB s=true:=by
 unfold spaceB;rw[List.all_eq_true]
 exactλi hi=>h i (List.mem_range.1 hi)
theorem spaceB_not {s:List UInt8}{i:Nat}(hi:i<16) (h:pteB (byteAt s (2*i)) (byteAt s (2*i+1))=false):spaceB s=false:=by
 cases hq:spaceB s
 ·rfl
 ·unfold spaceB at hq;rw[List.all_eq_true]at hq;rw[hq i (List.mem_range.2 hi)]at h;cases h
def SpaceR (s:List UInt8) (w:World) (e:Ending) (w':World):Prop:=((spaceB s=true/\e=.returned (.agg (spC s 16)))\/(spaceB s=false/\e=Bent))/\Ext w w'
theorem spaceSz:(prog.info? 52).map (·.size)=some (spC [] 16).size:=spaceSize
theorem spC_one {s:List UInt8}{k:Nat}:(spC s k).all (·.oneCell')=true:=all_oneCell_toArray (λv hv=>by
 simp only[spaceL,pteL,List.mem_flatMap,List.mem_cons,List.not_mem_nil,or_false]at hv;obtain⟨i,_,h|h|h⟩:=hv<;>(subst h;rfl))
theorem readSpace_any (s:List UInt8) (w:World) (hs:s.length=32) :
  Calls prog 192 #[.string (str s)] w (SpaceR s w):=by
 go_enter func192,ntmps192;go_upto_region 2 with fail;have b0:=Box.new w 52 spZ;have x0:Ext w (w.alloc (.cells spZ 52)):=(Ext.refl w).alloc _;have z0:(w.alloc (.cells spZ 52)).heap.size=w.heap.size+1:=World.size_alloc _ _;change Code.wp _ _ _ _ ((w.alloc (.cells spZ 52)).alloc (.cells spZ 52));generalize w.alloc (.cells spZ 52)=wa at b0 x0 z0 ⊢;have b1:=Box.new wa 52 spZ;have x1:Ext w (wa.alloc (.cells spZ 52)):=x0.alloc _;have b2:=b0.ext ((Ext.refl wa).alloc (.cells spZ 52));rw[z0]at b1;generalize wa.alloc (.cells spZ 52)=W0 at b1 x1 b2 ⊢;clear b0 x0 z0;clear wa;go_wp2_with fail;go_loopw [4,5,6,7,22,29] (λ_ _ _ i _ _ wx=>∃k:Nat,k<=16/\i=.int .i64 k/\Box wx (w.heap.size+1) 52 (spC s k)/\Box wx w.heap.size 52 spZ/\Ext w wx/\Hid (∀j<k,pteB (byteAt s (2*j)) (byteAt s (2*j+1))=true)) (λ_ _ _ i _ _ _=>16-(intOf i).toNat);case atStart=>exact⟨0,by omega,rfl,b1,b2,x1,lh_ (λj h=>by omega)⟩
 case round =>
  clear b1 b2 x1;obtain⟨k,hk,rfl,bs,br,xk,hok⟩:=hrel;by_cases hlt:k<16
  ·have hki:(k:Int)<16:=by omega
   have i1:∀w,(Instr.index 9 (.string (str s)) (.int .i64 (2*(k:Int)))).run prog w=.ok (.int .u8 (byteAt s (2*k))) w:=λw=>idx_byte s (2*k) (by omega) w;have i2:∀w,(Instr.index 9 (.string (str s)) (.int .i64 (2*(k:Int)+1))).run prog w=.ok (.int .u8 (byteAt s (2*k+1))) w:=λw=>idx_byte s (2*k+1) (by omega) w;have HP:=lh_ (spC_put s hlt);have HS:=lh_ (spC_skip s hlt);have q1:=byteAt_is s (2*k);have q2:=byteAt_is s (2*k+1);have HN:=lh_ (λh=>spaceB_not (s:=s) hlt h);have HO:=lh_ (show pteB (byteAt s (2*k)) (byteAt s (2*k+1))=true->∀j<k+1,pteB (byteAt s (2*j)) (byteAt s (2*j+1))=true fromλh j hj=>by
    by_cases hjk:j=k
    ·subst hjk;exact h
    ·exact hok.out j (by omega))
   generalize byteAt s (2*k)=c at *;generalize byteAt s (2*k+1)=f at *;have hw1:=i64_byte q2.1 q2.2;clear hs;go_wp2_with fail;go_quiet (fail);have xq:=xk.drewN nq;have bs2:=bs.ext ((Ext.refl wr).drewN nq);have br2:=br.ext ((Ext.refl wr).drewN nq);clear bs br xk i1 i2;generalize wr.drewN nq=w2 at *;by_cases h0:c=0/\f=0
   ·obtain⟨rfl,rfl⟩:=h0;clear q1 q2 hw1;go_wp2_with fail;go_roundw;case rel=>exact⟨k+1,by omega,by go_num,by rw[← HS.out rfl];exact bs2,br2,xq,lh_ (HO.out rfl)⟩
    case measure=>simp[intOf];omega
   ·by_cases h1:c=1
    ·subst h1;go_wp2_with (refine wp_st_three _ (.tmp 41) (.tmp 40) rfl rfl (w.heap.size+1) (k*3) _ _ _ _ _ _ rfl rfl pteSize rfl rfl rfl bs2 (by rw[spC_size];omega) HP.out ?_;intro w3 b3 g3)
     go_roundw;case rel=>exact⟨k+1,by omega,by go_num,b3,br2.grown g3 (by simp),xq.grown g3 (λj e=>by cases e;omega),lh_ (HO.out rfl)⟩
     case measure=>simp[intOf];omega
    ·by_cases h2:c=2
     ·subst h2;go_wp2_with (refine wp_st_three _ (.tmp 41) (.tmp 40) rfl rfl (w.heap.size+1) (k*3) _ _ _ _ _ _ rfl rfl pteSize rfl rfl rfl bs2 (by rw[spC_size];omega) HP.out ?_;intro w3 b3 g3)
      go_roundw;case rel=>exact⟨k+1,by omega,by go_num,b3,br2.grown g3 (by simp),xq.grown g3 (λj e=>by cases e;omega),lh_ (HO.out rfl)⟩
      case measure=>simp[intOf];omega
     ·have k1:(c==1)=false:=by simpa using h1
      have k2:(c==2)=false:=by simpa using h2
      have hb:Hid (spaceB s=false):=lh_ (HN.out (by
       unfold pteB;rw[k1,k2];cases e0:(c==0)
       ·rfl
       ·have e1:c=0:=by simpa using e0
        have e2:(f==0)=false:=by simp;intro e3;exact h0 ⟨e1,e3⟩
        rw[e2];rfl))
      cases e0:(c==0)
      ·go_wp2_with fail;exact⟨rfl,.inr ⟨hb.out,rfl⟩,xq⟩
      ·have e2:(f==0)=false:=by
        have e1:c=0:=by simpa using e0
        simp;intro e3;exact h0 ⟨e1,e3⟩
       go_wp2_with fail;exact⟨rfl,.inr ⟨hb.out,rfl⟩,xq⟩
  ·obtain rfl:k=16:=by omega
   have hb:=lh_ (spaceB_of (s:=s) hok.out)
   go_wp2_with (first
    | (refine wp_ld _ (.tmp 3) rfl rfl (w.heap.size+1) _ _ _ rfl bs underlying52 rfl spaceSz ?_)
    | (refine wp_st _ (.tmp 2) (.tmp 43) rfl rfl w.heap.size _ _ _ rfl rfl br spaceSz rfl spC_one ?_;intro w3 b3 g3))
   exact bodyPost_ret (results_cell1 rfl _ _ w.heap.size _ _ _ rfl b3 underlying52 rfl spaceSz) rfl ⟨.inl ⟨hb.out,rfl⟩,xk.grown g3 (λj e=>by cases e;exact Nat.le_refl _)⟩
theorem wp_app_w {ops:Array Oper}{rest:List Oper}{o:Oper}{a:Act}{w:World}{Q:Exit->Act->World->Prop}{B g n:Nat}{u:Value}{l:List WrT}(y:WrT) (hgd:o.guard=none) (sl x:Operand)
  (ho:o.op=.call { callee:=.builtin .append,args:=#[sl,x],argTypes:=#[34,34] }) (hs:a.eval sl=u) (hx:a.eval x=.slice (some ⟨g,0,none⟩) 1 1)
  (h0:w.ownsRow B 92 2 u n (l.flatMap wrL)) (hb:Box w g 92 (wrL y).toArray) (hn:n<=1000000000) (hB:B<=w.heap.size)
  (hK:∀u' w',w'.ownsRow B 92 2 u' (n+1) ((l++[y]).flatMap wrL)->w.grownBy w' u.ownBlock->wpList prog ops Q rest (a.put o.dst u') w'):wpList prog ops Q (o::rest) a w:=by
 refine wpList_plain hgd λK hK'=>?_;obtain⟨i,hi,hz,h1,h2⟩:=info_parts wrInfo;obtain⟨v',w',hr,ho2,hg,_,_⟩:=run_append_own_at (P:=prog) w B 34 o.type 92 i _ 2 24 underlying34 hi hz h1 h2 rfl (by decide) u n (l.flatMap wrL) h0 ⟨g,0,none⟩ 1 1 (wrL y) rfl (λj u hj=>by
  have ha:(⟨g,0,none⟩:Addr).add j=⟨g,j,none⟩:=by unfold Addr.add;split<;>simp_all
  rw[ha,hb.cell j];simpa using hj) (wrL_one y) (by unfold maxLen;omega) (by omega) hB
 unfold Oper.wp execOp;simp only[ho,resolve,invoke,builtin,Sem.run_bind,Sem.run_pure,Result.andThen_ok,List.map_toArray,List.map_cons,List.map_nil,hs,hx,hr];refine hK' _ _ (hK v' w' ?_ hg);rw[List.flatMap_append];simpa using ho2
theorem trow_grown {w w':World}{A:Option Addr}{n m base z:Nat}{ss:List (List UInt8)}{u:Value}{xs:List Value}{t:TypeId}(h:TRow w A n ss) (hg:w.grownBy w' u.ownBlock) (o:w.ownsRow base t z u m xs) (ht:9≠t):TRow w' A n ss:=⟨h.1,λhn=>by
 obtain⟨g,i,cur,fz,e,h1,hc⟩:=h.2 hn;have hlt:g<w.heap.size:=(Array.getElem?_eq_some_iff.1 h1).1;have hne:some g≠u.ownBlock:=λe2=>by
  rcases o.2 with⟨rfl,_⟩|⟨g',cap,cur',rfl,_,hh,_⟩
  ·simp[Value.ownBlock]at e2
  ·have:g=g':=by simpa[Value.ownBlock]using e2
   subst this;rw[h1]at hh;injection hh with hh;injection hh with _ hh;exact ht hh
 refine⟨g,i,cur,fz,e,(hg.block g hlt hne).trans h1,λj hj=>?_⟩;rw[← hc j hj];exact World.cell?_of_block (w:=w) (hg.block g hlt hne)⟩
theorem CurIn.grown {w w':World}{b m base z:Nat}{L:List (List UInt8)}{u:Value}{xs:List Value}{t:TypeId}(h:CurIn w b L) (hg:w.grownBy w' u.ownBlock) (o:w.ownsRow base t z u m xs) (h1:9≠t) (h2:t≠253):CurIn w' b L:=by
 obtain⟨A,n,c,k1,k2,k3⟩:=h;exact⟨A,n,c,k1.grown hg (own_ne o k1 h2),trow_grown k2 hg o h1,k3⟩
theorem CurIn.but {w w':World}{b b':Nat}{L L':List (List UInt8)}(h:CurIn w b L) (hk:But b' w w') (h':CurIn w b' L') (hne:b≠b'):CurIn w' b L:=by
 obtain⟨A,n,c,k1,k2,k3⟩:=h;obtain⟨_,_,_,j1,_,_⟩:=h';exact⟨A,n,c,hk.box k1 hne,k2.but hk j1 (by decide),k3⟩
theorem CurIn.own {w w':World}{b base z n:Nat}{u:Value}{xs:List Value}{t:TypeId}{L:List (List UInt8)}(h:CurIn w b L) (hk:But b w w') (o:w.ownsRow base t z u n xs) (ht:t≠253):w'.ownsRow base t z u n xs:=by
 obtain⟨_,_,_,j1,_,_⟩:=h;exact own_but o hk j1 ht
theorem CurIn.lt {w:World}{b:Nat}{L:List (List UInt8)}(h:CurIn w b L):b<w.heap.size:=by
 obtain⟨_,_,_,j1,_,_⟩:=h;exact j1.lt
theorem openT_len {z:Nat}{s:List UInt8}{l:List (List UInt8)}(h:openT (some z) s=some l):l.length=z:=by
 unfold openT at h;split at h
 ·rename_i h1;injection h with h;subst h;exact h1.2 z rfl
 ·cases h
theorem openT_few {z:Option Nat}{s:List UInt8}{l:List (List UInt8)}(h:openT z s=some l):∀t∈l,t.length<=s.length:=by
 unfold openT at h;split at h
 ·injection h with h;subst h;exact(textsP_len s).2
 ·cases h
theorem two_of {α:Type} {l:List α}(h:l.length=2):∃a b,l=[a,b]:=by
 match l,h with
 | [a,b],_=>exact⟨a,b,rfl⟩
def lenS:Value->Nat|.slice _ n _=>n|_=>0
theorem own_lenS {w:World}{base z n:Nat}{u:Value}{xs:List Value}{t:TypeId}(o:w.ownsRow base t z u n xs):lenS u=n:=by
 rcases o.2 with⟨rfl,h⟩|⟨_,_,_,rfl,_⟩
 ·exact h.symm
 ·rfl
theorem own_isSl {w:World}{base z n:Nat}{u:Value}{xs:List Value}{t:TypeId}(o:w.ownsRow base t z u n xs):∃A c,u=.slice A n c:=by
 rcases o.2 with⟨rfl,rfl⟩|⟨g,cap,_,rfl,_⟩
 ·exact⟨none,0,rfl⟩
 ·exact⟨_,cap,rfl⟩
def WritesR (s:List UInt8) (w:World) (e:Ending) (w':World):Prop :=
 (∃l u,writesP s=some l/\e=.returned u/\w'.ownsRow w.heap.size 92 2 u l.length (l.flatMap wrL)/\Ext w w')\/(writesP s=none/\e=Bent/\Ext w w')
theorem readWrites_any (s:List UInt8) (w:World) (hs:s.length<=100000000) (hD:Dec10 w) :
  Calls prog 130 #[.string (str s)] w (WritesR s w):=by
 have HO:=lh_ (open_any s none w (by omega) (λn h=>by cases h));have hsl:=textsP_len s;go_enter func130,ntmps130;go_upto_region 2 with fail;cases hP:openT none s with
 | none =>
  have HO2:=lh_ (HO.out.mono (λe w' h=>by
   rcases h with⟨l,b,h,_⟩|⟨_,h1,h2⟩
   ·rw[hP]at h;cases h
   ·exact(⟨h1,h2⟩:e=Bent/\Ext w w')))
  have hR:writesP s=none:=by unfold writesP;rw[hP];rfl
  clear HO hP;go_wp2_with (go_at_call 125;refine HO2.out.mono ?_;rintro e w1 ⟨he,x1⟩;simp only[Bent]at he;subst he)
  exact⟨rfl,.inr ⟨hR,rfl,x1⟩⟩
 | some T =>
  have hT:T=(textsP s).1:=by
   unfold openT at hP;split at hP
   ·injection hP with hP;exact hP.symm
   ·cases hP
  have hTl:∀x∈T,x.length<=100000000:=λx hx=>Nat.le_trans (hsl.2 x (hT▸hx)) hs;have hTn:T.length<=100000000:=by rw[hT];exact Nat.le_trans hsl.1 hs
  have HO2:=lh_ (HO.out.mono (λe w' h=>by
   rcases h with⟨l,b,h,h1,h2,h3,h4⟩|⟨h,_⟩
   ·have h:=Option.some.inj (hP.symm.trans h);subst h;exact(⟨b,h1,h2,h3,h4⟩:∃b,e=.returned (.pointer (some ⟨b,0,none⟩))/\w.heap.size<=b/\CurIn w' b T/\Ext w w')
   ·exact absurd (hP.symm.trans h) (by simp)))
  have hR:Hid (writesP s=allP writeQ T):=lh_ (by unfold writesP;rw[hP];rfl);clear HO hP hT hsl hs;have HTl:=lh_ hTl;clear hTl;go_wp2_with (go_at_call 125;refine HO2.out.mono ?_;rintro e w1 ⟨cb,rfl,hcb,hc1,x1⟩)
  have HC1:=lh_ hc1;have HX1:=lh_ x1;clear hc1 x1 HO2;go_loopw [3,5,6] (λl _ _ wx=>∃done rest,wx.ownsRow w.heap.size 92 2 l done.length (done.flatMap wrL)/\CurIn wx cb rest/\Ext w wx/\Hid (allP writeQ T=(allP writeQ rest).map (done++·))/\Hid (done.length+rest.length=T.length)/\Hid (∀x∈rest,x.length<=100000000)) (λl _ _ _=>T.length-lenS l);case atStart=>exact⟨[],T,⟨rfl,.inl ⟨rfl,rfl⟩⟩,HC1.out,HX1.out,lh_ (allP_start writeQ T),lh_ (by simp),HTl⟩
  case round =>
   obtain⟨done,rest,o1,hc1,x1,hA,hl1,hb1⟩:=hrel;have HM:=lh_ (more_any cb rest wr hc1);have HTx:=lh_ (text_any cb rest wr hc1);have hL3:=lh_ (own_lenS o1);have HO1:=lh_ o1;have HX:=lh_ x1;have HCb:=lh_ hc1;have hD1:=lh_ hD;have hlt:=lh_ hc1.lt;clear HC1 HX1 hD;cases rest with
   | nil =>
    have hE:Hid (WritesR s w (.returned u3) wr):=lh_ (.inl ⟨done,_,by rw[hR.out];exact allP_stop hA.out,rfl,o1,x1⟩);clear o1 hc1 x1 hcb hTn;go_wp2_with (go_at_call 131;refine HM.out.mono ?_;rintro e w2 ⟨rfl,rfl⟩)
    go_ret;exact hE.out
   | cons x rest =>
    have HT2:=lh_ (HTx.out.mono (λe w' h=>(⟨h.1,h.2.1,h.2.2⟩:e=.returned (.string (str x))/\CurIn w' cb rest/\But cb wr w')));have hx:x.length<=100000000:=hb1.out x List.mem_cons_self;have HOx:=lh_ (λw=>open_any x (some 2) w (by omega) (λn h=>by cases h;decide));have hF:Hid (writeQ x=none->∀w',Ext w w'->WritesR s w Bent w'):=lh_ (λh w' x=>.inr ⟨by rw[hR.out];exact allP_fail hA.out h,rfl,x⟩);clear HTx o1 hc1 x1;cases hP:openT (some 2) x with
    | none =>
     have hw:Hid (writeQ x=none):=lh_ (by unfold writeQ;rw[hP];rfl);have HOy:=lh_ (λw=>(HOx.out w).mono (λe w' h=>by
      rcases h with⟨l,b,h,_⟩|⟨_,h1,h2⟩
      ·rw[hP]at h;cases h
      ·exact(⟨h1,h2⟩:e=Bent/\Ext w w')))
     clear hP HOx hx hTn
     go_wp2_with (first
      | (go_at_call 131;refine HM.out.mono ?_;rintro e w2 ⟨rfl,rfl⟩)
      | (go_at_call 126;refine HT2.out.mono ?_;rintro e w2 ⟨rfl,k1,k2⟩)
      | (go_at_call 125;refine(HOy.out _).mono ?_;rintro e w3 ⟨he,x3⟩;simp only[Bent]at he;subst he))
     exact⟨rfl,hF.out hw.out _ ((k2.past HX.out hcb).trans x3)⟩
    | some l =>
     have hl2:l.length=2:=openT_len hP;obtain⟨t0,t1,rfl⟩:=two_of hl2;have hq0:t0.length<=281474976710656:=by have:=openT_few hP t0 (by simp);omega
     have hW:Hid (writeQ x=(intP t0).map λn=>(n,t1)):=lh_ (by unfold writeQ;rw[hP];rfl);have HOy:=lh_ (λw=>(HOx.out w).mono (λe w' h=>by
      rcases h with⟨l,b,h,h1,h2,h3,h4⟩|⟨h,_⟩
      ·have h:=Option.some.inj (hP.symm.trans h);subst h;exact(⟨b,h1,h2,h3,h4⟩:∃b,e=.returned (.pointer (some ⟨b,0,none⟩))/\w.heap.size<=b/\CurIn w' b [t0,t1]/\Ext w w')
      ·exact absurd (hP.symm.trans h) (by simp)))
     have HDec:=lh_ (λb w' h hD'=>cdec_any b [t0,t1] w' h hD' (by
      intro s hs;rcases List.mem_cons.1 hs with rfl|hs
      ·exact hq0
      ·rw[List.mem_singleton.1 hs];have:=openT_few hP t1 (by simp);omega))
     clear hP HOx hq0 hl2;cases hi:intP t0 with
     | none =>
      have hw:Hid (writeQ x=none):=lh_ (by rw[hW.out,hi];rfl);have HDy:=lh_ (λb w' h hD'=>(HDec.out b w' h hD').mono (λe w2 h=>(⟨h.1.trans (by rw[hi]),h.2.1,h.2.2⟩:e=Bent/\CurIn w2 b [t1]/\But b w' w2)));clear hi HDec hx hTn
      go_wp2_with (first
       | (go_at_call 131;refine HM.out.mono ?_;rintro e w2 ⟨rfl,rfl⟩)
       | (go_at_call 126;refine HT2.out.mono ?_;rintro e w2 ⟨rfl,k1,k2⟩)
       | (go_at_call 125;refine(HOy.out _).mono ?_;rintro e w3 ⟨ob,rfl,hob,hc3,x3⟩;have y3:=lh_ ((k2.past HX.out hcb).trans x3);have hob2:=lh_ (Nat.le_trans (k2.past HX.out hcb).size hob))
       | (go_at_call 128;refine(HDy.out ob _ hc3 (λw' k=>hD1.out.ext (k.past y3.out hob2.out))).mono ?_;rintro e w4 ⟨he,k4,b4⟩;simp only[Bent]at he;subst he))
      exact⟨rfl,hF.out hw.out _ (b4.past y3.out hob2.out)⟩
     | some n =>
      have hw:Hid (writeQ x=some (n,t1)):=lh_ (by rw[hW.out,hi];rfl);have HDy:=lh_ (λb w' h hD'=>(HDec.out b w' h hD').mono (λe w2 h=>(⟨h.1.trans (by rw[hi]),h.2.1,h.2.2⟩:e=.returned (.int .i64 n)/\CurIn w2 b [t1]/\But b w' w2)));have HT3:=lh_ (λb w' h=>(text_any b [t1] w' h).mono (λe w2 h=>(⟨h.1,h.2.1,h.2.2⟩:e=.returned (.string (str t1))/\CurIn w2 b []/\But b w' w2)));have hdn:done.length<=1000000000:=by have:=hl1.out;omega
      have HDn:=lh_ hdn;have HCb2:=lh_ hcb;clear hi HDec hx hTn hdn hcb
      go_wp2_with (first
       | (go_at_call 131;refine HM.out.mono ?_;rintro e w2 ⟨rfl,rfl⟩)
       | (go_at_call 126;refine(HT3.out ob _ k4).mono ?_;rintro e w5 ⟨rfl,k5,b5⟩;have HO5:=lh_ (k4.own b5 HO4.out (by decide));have HC5:=lh_ (HC4.out.but b5 k4 hne.out);have y5:=lh_ (b5.past (b4.past y3.out hob2.out) hob2.out))
       | (go_at_call 126;refine HT2.out.mono ?_;rintro e w2 ⟨rfl,k1,k2⟩;have HO2:=lh_ (HCb.out.own k2 HO1.out (by decide)))
       | (go_at_call 125;refine(HOy.out _).mono ?_;rintro e w3 ⟨ob,rfl,hob,hc3,x3⟩;have y3:=lh_ ((k2.past HX.out HCb2.out).trans x3);have hob2:=lh_ (Nat.le_trans (k2.past HX.out HCb2.out).size hob);have HO3:=lh_ (own_ext HO2.out x3);have HC3:=lh_ (k1.ext x3);have hne:=lh_ (Nat.ne_of_lt (Nat.lt_of_lt_of_le k1.lt hob)))
       | (go_at_call 128;refine(HDy.out ob _ hc3 (λw' k=>hD1.out.ext (k.past y3.out hob2.out))).mono ?_;rintro e w4 ⟨rfl,k4,b4⟩;have HO4:=lh_ (hc3.own b4 HO3.out (by decide));have HC4:=lh_ (HC3.out.but b4 hc3 hne.out))
       | (refine wp_app_w (n,t1) rfl (.tmp 16) (.tmp 21) rfl rfl rfl (own_ext HO5.out ((Ext.refl _).alloc _)) (Box.new _ _ _) HDn.out (y5.out.alloc _).size ?_;intro u6 w6 o6 g6))
      have oz:=own_ext HO5.out ((Ext.refl _).alloc (.cells #[.int .i64 n,.string (str t1)] 92));have y6:=lh_ (Below.grown (y5.out.alloc _) g6 (y5.out.alloc _).size (λk hk=>own_low oz hk));have HC6:=lh_ ((HC5.out.ext ((Ext.refl _).alloc _)).grown g6 oz (by decide) (by decide));go_roundw;case rel=>exact⟨done++[(n,t1)],rest,(by rw[List.length_append];exact o6),HC6.out,y6.out,lh_ (allP_step hA.out hw.out),lh_ (by have:=hl1.out;simp only[List.length_append,List.length_cons,List.length_nil]at *;omega),lh_ (λx hx=>hb1.out x (List.mem_cons_of_mem _ hx))⟩
      case measure => have e1:=own_lenS o6;have e2:=hL3.out;have e3:=hl1.out;simp only[List.length_cons]at e3;omega
theorem cdec_yes {b:Nat}{w:World}{t:List UInt8}{L:List (List UInt8)}{n:Int}(h:CurIn w b (t::L)) (hi:intP t=some n) (hD:∀w',But b w w'->Dec10 w') (hL:∀s∈t::L,s.length<=281474976710656) :
  Calls prog 128 #[.pointer (some ⟨b,0,none⟩)] w λe w'=>e=.returned (.int .i64 n)/\CurIn w' b L/\But b w w' :=
 (cdec_any b (t::L) w h hD hL).mono (λe w' h=>⟨h.1.trans (by rw[hi]),h.2⟩)
theorem text_yes {b:Nat}{w:World}{t:List UInt8}{L:List (List UInt8)}(h:CurIn w b (t::L)) :
  Calls prog 126 #[.pointer (some ⟨b,0,none⟩)] w λe w'=>e=.returned (.string (str t))/\CurIn w' b L/\But b w w' :=
 (text_any b (t::L) w h).mono (λe w' h=>⟨h.1,h.2⟩)
theorem fixed_yes {b z:Nat}{w:World}{t t':List UInt8}{L:List (List UInt8)}(h:CurIn w b (t::L)) (hz:z<=1000) (hi:fixP z t=some t') :
  Calls prog 190 #[.pointer (some ⟨b,0,none⟩),.int .i64 z] w λe w'=>e=.returned (.string (str t'))/\CurIn w' b L/\But b w w' :=
 (fixed_any z b (t::L) w h hz).mono (λe w' h=>⟨h.1.trans (by rw[hi]),h.2⟩)
theorem bytes_yes {b z:Nat}{w:World}{t:List UInt8}{L:List (List UInt8)}{n:Int}(h:CurIn w b (t::L)) (hz:z=4\/z=8) (hi:numP z t=some n) :
  Calls prog 127 #[.pointer (some ⟨b,0,none⟩),.int .i64 z] w λe w'=>e=.returned (.int .u64 n)/\CurIn w' b L/\But b w w' :=
 (bytes_any z b (t::L) w h hz).mono (λe w' h=>⟨h.1.trans (by rw[hi]),h.2⟩)
theorem cflag_yes {b:Nat}{w:World}{t:List UInt8}{L:List (List UInt8)}{n:Bool}(h:CurIn w b (t::L)) (hi:flagP t=some n) :
  Calls prog 129 #[.pointer (some ⟨b,0,none⟩)] w λe w'=>e=.returned (.bool n)/\CurIn w' b L/\But b w w' :=
 (cflag_any b (t::L) w h).mono (λe w' h=>⟨h.1.trans (by rw[hi]),h.2⟩)
theorem open_yes {s:List UInt8}{z:Option Nat}{l:List (List UInt8)}(h:openT z s=some l) (w:World) (hs:s.length<=1000000000) (hz:∀n,z=some n->n<=1000) :
  Calls prog 125 #[.string (str s),.int .i64 (zI z)] w λe w'=>∃b,e=.returned (.pointer (some ⟨b,0,none⟩))/\w.heap.size<=b/\CurIn w' b l/\Ext w w' :=
 (open_any s z w hs hz).mono (λe w' k=>by
  rcases k with⟨l',b,h1,h2,h3,h4,h5⟩|⟨h1,_⟩
  ·have h6:=Option.some.inj (h.symm.trans h1);subst h6;exact⟨b,h2,h3,h4,h5⟩
  ·rw[h]at h1;cases h1)
theorem space_yes {s s':List UInt8}(h:spaceP s=some s') (w:World):s'=s/\Calls prog 192 #[.string (str s)] w λe w'=>e=.returned (.agg (spC s 16))/\Ext w w':=by
 unfold spaceP at h;split at h
 ·rename_i k;injection h with h;refine⟨h.symm,(readSpace_any s w k.1).mono (λe w' q=>⟨?_,q.2⟩)⟩;rcases q.1 with⟨_,q⟩|⟨q,_⟩
  ·exact q
  ·rw[k.2]at q;cases q
 ·cases h
theorem CurIn.butT {w w':World}{b b':Nat}{L:List (List UInt8)}{T:TypeId}{cs:Array Value}(h:CurIn w b L) (hk:But b' w w') (hb:Box w b' T cs) (h1:9≠T) (hne:b≠b'):CurIn w' b L:=by
 obtain⟨A,n,c,k1,k2,k3⟩:=h;exact⟨A,n,c,hk.box k1 hne,k2.but hk hb h1,k3⟩
abbrev prZ:PrT:=default
structure PS (w W:World) (rb pb cb:Nat) (y:PrT) (L:List (List UInt8)):Prop where
 box:Box W pb 57 (prL y).toArray
 res:Box W rb 57 (prL prZ).toArray
 cur:CurIn W cb L
 ext:Ext w W
 ne:rb≠pb
 nec:pb≠cb
 ner:rb≠cb
 lr:w.heap.size<=rb
 lp:w.heap.size<=pb
 lc:w.heap.size<=cb
namespace PS
variable {w W W':World}{rb pb cb:Nat}{y:PrT}{L L':List (List UInt8)}
theorem call (h:PS w W rb pb cb y L) (k:CurIn W' cb L') (b:But cb W W'):PS w W' rb pb cb y L' :=
 ⟨b.box h.box h.nec,b.box h.res h.ner,k,b.past h.ext h.lc,h.ne,h.nec,h.ner,h.lr,h.lp,h.lc⟩
theorem more (h:PS w W rb pb cb y L) (x:Ext W W'):PS w W' rb pb cb y L :=
 ⟨h.box.ext x,h.res.ext x,h.cur.ext x,h.ext.trans x,h.ne,h.nec,h.ner,h.lr,h.lp,h.lc⟩
theorem but (h:PS w W rb pb cb y L) (b:But pb W W') (y':PrT) (hb:Box W' pb 57 (prL y').toArray):PS w W' rb pb cb y' L :=
 ⟨hb,b.box h.res h.ne,h.cur.butT b h.box (by decide) (Ne.symm h.nec),b.past h.ext h.lp,h.ne,h.nec,h.ner,h.lr,h.lp,h.lc⟩
theorem set (h:PS w W rb pb cb y L) (i:Nat) (v:Value) (y':PrT) (e:(prL y).toArray.setIfInBounds i v=(prL y').toArray):PS w (W.setCell ⟨pb,i,none⟩ v) rb pb cb y' L :=
 h.but ((But.refl pb W).setCell i v) y' (e▸h.box.set i v)
theorem dec (h:PS w W rb pb cb y L) (hD:Dec10 w):∀W',But cb W W'->Dec10 W':=λW' b=>hD.ext (b.past h.ext h.lc)
end PS
theorem ten_of {l:List (List UInt8)}(h:l.length=10):∃a b c d e f g i j k,l=[a,b,c,d,e,f,g,i,j,k]:=by
 match l,h with
 | [a,b,c,d,e,f,g,i,j,k],_=>exact⟨a,b,c,d,e,f,g,i,j,k,rfl⟩
theorem procP_parts {s:List UInt8}{y:PrT}(h:procP s=some y):∃t0 t1 t2 t3 t4 t5 t6 t7 t8 t9 pid par st mask code why num,openT (some 10) s=some [t0,t1,t2,t3,t4,t5,t6,t7,t8,t9]/\intP t0=some pid/\intP t1=some par/\intP t2=some st/\fixP 68 t3=some t3/\spaceP t4=some t4/\fixP 136 t5=some t5/\flagP t6=some mask/\numP 4 t7=some code/\intP t8=some why/\numP 8 t9=some num/\y=mkProc pid par st t3 t4 t5 mask code why num:=by
 unfold procP at h;cases h1:openT (some 10) s with
 | none=>rw[h1]at h;cases h
 | some l =>
  obtain⟨t0,t1,t2,t3,t4,t5,t6,t7,t8,t9,rfl⟩:=ten_of (openT_len h1);rw[h1]at h;simp only[Option.bind_some,List.getD_cons_zero,List.getD_cons_succ]at h;cases e0:intP t0 with|none=>rw[e0]at h;cases h|some pid =>
  cases e1:intP t1 with|none=>rw[e0,e1]at h;cases h|some par =>
  cases e2:intP t2 with|none=>rw[e0,e1,e2]at h;cases h|some st =>
  cases e3:fixP 68 t3 with|none=>rw[e0,e1,e2,e3]at h;cases h|some cpu =>
  cases e4:spaceP t4 with|none=>rw[e0,e1,e2,e3,e4]at h;cases h|some sp =>
  cases e5:fixP 136 t5 with|none=>rw[e0,e1,e2,e3,e4,e5]at h;cases h|some fds =>
  cases e6:flagP t6 with|none=>rw[e0,e1,e2,e3,e4,e5,e6]at h;cases h|some mask =>
  cases e7:numP 4 t7 with|none=>rw[e0,e1,e2,e3,e4,e5,e6,e7]at h;cases h|some code =>
  cases e8:intP t8 with|none=>rw[e0,e1,e2,e3,e4,e5,e6,e7,e8]at h;cases h|some why =>
  cases e9:numP 8 t9 with|none=>rw[e0,e1,e2,e3,e4,e5,e6,e7,e8,e9]at h;cases h|some num =>
  rw[e0,e1,e2,e3,e4,e5,e6,e7,e8,e9]at h;simp only[Option.bind_some,Option.map_some]at h;injection h with h;have f3:cpu=t3:=by unfold fixP at e3;split at e3<;>first|(injection e3 with e3;exact e3.symm)|cases e3
  have f5:fds=t5:=by unfold fixP at e5;split at e5<;>first|(injection e5 with e5;exact e5.symm)|cases e5
  have f4:sp=t4:=by unfold spaceP at e4;split at e4<;>first|(injection e4 with e4;exact e4.symm)|cases e4
  subst f3 f4 f5;exact⟨t0,t1,t2,cpu,sp,fds,t6,t7,t8,t9,pid,par,st,mask,code,why,num,rfl,e0,e1,e2,e3,e4,e5,e6,e7,e8,e9,h.symm⟩
def prR (y:PrT) (f:Nat->Int) (k:Nat):PrT:={ y with reg:=λi=>if i<k then f i else 0 }
def prF (y:PrT) (f g h:Nat->Int) (k:Nat):PrT:={ y with
 fk:=λi=>if i<k then f i else 0
 fn:=λi=>if i<k then g i else 0
 fp:=λi=>if i<k then h i else 0 }
theorem upto8 {k:Nat}(h:k<8):k=0\/k=1\/k=2\/k=3\/k=4\/k=5\/k=6\/k=7:=by omega
theorem prR_put (y:PrT) (f:Nat->Int) {k:Nat}(h:k<16):(prL (prR y f k)).toArray.setIfInBounds (3+k) (.int .u32 (f k))=(prL (prR y f (k+1))).toArray:=by
 rcases upto16 h with rfl|rfl|rfl|rfl|rfl|rfl|rfl|rfl|rfl|rfl|rfl|rfl|rfl|rfl|rfl|rfl<;>kernel_rfl
theorem set_app {α:Type} (a b:List α) (i:Nat) (v:α) (h:a.length=i) (j:Nat):(a++b).toArray.setIfInBounds (i+j) v=(a++(b.toArray.setIfInBounds j v).toList).toArray:=by
 apply Array.toList_inj.1;rw[Array.toList_setIfInBounds,List.set_append_right _ _ (by omega),Array.toList_setIfInBounds,show i+j-a.length=j by omega]
theorem fds_put (y:PrT) (f g h:Nat->Int) {k:Nat}(hk:k<8):(((fdsL (prF y f g h k)).toArray.setIfInBounds (k*3) (.int .i64 (f k))).setIfInBounds (k*3+1) (.int .i64 (g k))).setIfInBounds (k*3+2) (.int .i64 (h k))=(fdsL (prF y f g h (k+1))).toArray:=by
 rcases upto8 hk with rfl|rfl|rfl|rfl|rfl|rfl|rfl|rfl<;>kernel_rfl
theorem set_left {α:Type} (a b:List α) (j:Nat) (v:α) (h:j<a.length):(a++b).toArray.setIfInBounds j v=((a.toArray.setIfInBounds j v).toList++b).toArray:=by
 apply Array.toList_inj.1;rw[Array.toList_setIfInBounds,List.set_append_left _ _ h,Array.toList_setIfInBounds]
theorem prL_cut (y:PrT):(prL y).toArray=((prL y).take 68++(fdsL y++[Value.bool y.mask,Value.int .u32 y.code,Value.int .i64 y.why,Value.int .u64 y.num])).toArray:=by
 conv=>lhs;rw[← List.take_append_drop 68 (prL y)]
 rfl
theorem prF_put (y:PrT) (f g h:Nat->Int) {k:Nat}(hk:k<8):(((prL (prF y f g h k)).toArray.setIfInBounds (68+k*3) (.int .i64 (f k))).setIfInBounds (68+k*3+1) (.int .i64 (g k))).setIfInBounds (68+k*3+2) (.int .i64 (h k))=(prL (prF y f g h (k+1))).toArray:=by
 have hl:((prL y).take 68).length=68:=rfl;have hf:(fdsL (prF y f g h k)).length=24:=rfl;rw[prL_cut,prL_cut (prF y f g h (k+1)),show(prL (prF y f g h k)).take 68=(prL y).take 68 from rfl,show(prL (prF y f g h (k+1))).take 68=(prL y).take 68 from rfl];rw[show 68+k*3+1=68+(k*3+1) from rfl,show 68+k*3+2=68+(k*3+2) from rfl,set_app _ _ 68 _ hl,set_app _ _ 68 _ hl,set_app _ _ 68 _ hl];simp only[Array.toArray_toList];rw[set_left _ _ _ _ (by rw[hf];omega),set_left _ _ _ _ (by rw[Array.length_toList,Array.size_setIfInBounds,List.size_toArray,hf];omega)];simp only[Array.toArray_toList];rw[set_left _ _ _ _ (by rw[Array.length_toList,Array.size_setIfInBounds,Array.size_setIfInBounds,List.size_toArray,hf];omega)];simp only[Array.toArray_toList];rw[fds_put y f g h hk];rfl
theorem PS.eq {w W:World}{rb pb cb:Nat}{y y':PrT}{L:List (List UInt8)}(h:PS w W rb pb cb y L) (e:prL y=prL y'):PS w W rb pb cb y' L :=
 ⟨e▸h.box,h.res,h.cur,h.ext,h.ne,h.nec,h.ner,h.lr,h.lp,h.lc⟩
section
variable {ops:Array Oper}{rest:List Oper}{o:Oper}{a:Act}{w0 W:World}{Q:Exit->Act->World->Prop}{rb pb cb:Nat}{y:PrT}{L:List (List UInt8)}
theorem wp_st_ps (S:PS w0 W rb pb cb y L) (y':PrT) (T:TypeId) (x z:Operand) (hgd:o.guard=none) (ho:o.op=.store T x z) (i:Nat) (v:Value) (hx:a.eval x=.pointer (some ⟨pb,i,none⟩)) (hy:a.eval z=v) (hv:v.oneCell'=true)
  (hi:(prog.info? T).map (·.size)=some 1) (hlt:i<96) (he:(prL y).toArray.setIfInBounds i v=(prL y').toArray)
  (hK:∀W',PS w0 W' rb pb cb y' L->wpList prog ops Q rest (a.put o.dst undef) W'):wpList prog ops Q (o::rest) a W :=
 wp_st_cell T x z hgd ho pb i v _ _ _ hx hy hv hi S.box hlt he (λW' b d=>hK W' (S.but d y' b))
end
theorem extract_at (s:List UInt8) (i z:Nat):(str s).extract i (i+z)=str ((s.drop i).take z):=by rw[str_ext,show i+z-i=z by omega]
theorem get_at (s:List UInt8) (i z:Nat) (hz:z=4\/z=8) (h:i+z<=s.length) (w:World) :
  Calls prog 164 #[.string ((str s).extract i (i+z))] w λe w'=>e=.returned (.int .u64 (numAtT s i z))/\w=w':=by
 rw[extract_at];have hl:((s.drop i).take z).length=z:=by rw[List.length_take,List.length_drop];omega
 exact get_48 _ w (by rw[hl];exact hz)
theorem numL_few:∀l:List UInt8,numL l<256^l.length
 | []=>by decide
 | c::l=>by have:=numL_few l;have h2:=c.toNat_lt;rw[List.length_cons,Nat.pow_succ];show c.toNat+256*numL l<_;omega
theorem numAt_fits (s:List UInt8) (i z:Nat):0<=numAtT s i z/\numAtT s i z<((256^z:Nat):Int):=by
 unfold numAtT;refine⟨Int.natCast_nonneg _,?_⟩;have h:=numL_few ((s.drop i).take z);have h2:256^((s.drop i).take z).length<=256^z:=Nat.pow_le_pow_right (by decide) (by rw[List.length_take];exact Nat.min_le_left _ _);omega
theorem numAt_piece (s:List UInt8) (o n i z:Nat) (h:i+z<=n):numAtT ((s.drop o).take n) i z=numAtT s (o+i) z:=by
 unfold numAtT;rw[List.drop_take,List.take_take,List.drop_drop,Nat.min_eq_left (by omega)]
theorem byteAt_piece (s:List UInt8) (o n i:Nat) (h:i<n):byteAt ((s.drop o).take n) i=byteAt s (o+i):=by
 unfold byteAt;simp[List.getD_eq_getElem?_getD,List.getElem?_take,List.getElem?_drop,h]
theorem prF_zero (y:PrT) (hz:∀i,y.fk i=0/\y.fn i=0/\y.fp i=0) (f g h:Nat->Int):prL y=prL (prF y f g h 0) :=
 prL_congr rfl rfl rfl (λ_ _=>rfl) rfl (λ_ _=>⟨rfl,rfl,rfl⟩) (λi _=>⟨by simp[prF,(hz i).1],by simp[prF,(hz i).2.1],by simp[prF,(hz i).2.2]⟩) rfl rfl rfl rfl
theorem space_fix {s:List UInt8}(h:spaceP s=some s):fixP 32 s=some s:=by
 unfold spaceP at h;split at h
 ·rename_i k;exact if_pos k.1
 ·cases h
theorem num_u32 {t:List UInt8}{n:Int}(h:numP 4 t=some n):IntKind.u32.wrap n=n:=by
 unfold numP at h;split at h
 ·rename_i hl;injection h with h;subst h;have:=numL_few t;rw[hl]at this;rw[IntKind.wrap_u32'];have h2:(256:Nat)^4=4294967296:=by decide
  omega
 ·cases h
theorem but_grown {w w':World}{g:Nat}(h:w.grownBy w' (some g)):But g w w':=⟨h.os,h.tape,h.output,h.size,λk hk hne=>h.block k hk (λe=>hne (by injection e))⟩
theorem proc_done (pid par st:Int) (t3 t4 t5:List UInt8) (mask:Bool) (code why num:Int) :
  prL { (prF (({ (prR { prZ with pid:=pid,parent:=par,state:=st } (λi=>numAtT t3 (4*i) 4) 16) with pc:=numAtT t3 64 4 }:PrT).pages (spQ t4 16)) (λi=>byteAt t5 (17*i)) (λi=>wrap64 (numAtT t5 (17*i+1) 8)) (λi=>wrap64 (numAtT t5 (17*i+9) 8)) 8) with mask:=mask,code:=code,why:=why,num:=num }
   = prL (mkProc pid par st t3 t4 t5 mask code why num) :=
 prL_congr rfl rfl rfl (λi hi=>by simp[prF,PrT.pages,prR,mkProc,hi]) rfl (λi hi=>⟨by simp[prF,PrT.pages,spQ,mkProc,hi],by simp[prF,PrT.pages,spQ,mkProc,hi],by simp[prF,PrT.pages,spQ,mkProc,hi]⟩) (λi hi=>⟨by simp[prF,mkProc,hi],by simp[prF,mkProc,hi],by simp[prF,mkProc,hi]⟩) rfl rfl rfl rfl
theorem u32_at (s:List UInt8) (i:Nat):IntKind.u32.wrap (numAtT s i 4)=numAtT s i 4:=by
 have h:=numAt_fits s i 4;rw[IntKind.wrap_u32'];omega
theorem cdec_no {b:Nat}{w:World}{t:List UInt8}{L:List (List UInt8)}(h:CurIn w b (t::L)) (hi:intP t=none) (hD:∀w',But b w w'->Dec10 w') (hL:∀s∈t::L,s.length<=281474976710656) :
  Calls prog 128 #[.pointer (some ⟨b,0,none⟩)] w λe w'=>e=Bent/\CurIn w' b L/\But b w w' :=
 (cdec_any b (t::L) w h hD hL).mono (λe w' h=>⟨h.1.trans (by rw[hi]),h.2⟩)
theorem fixed_no {b z:Nat}{w:World}{t:List UInt8}{L:List (List UInt8)}(h:CurIn w b (t::L)) (hz:z<=1000) (hi:fixP z t=none) :
  Calls prog 190 #[.pointer (some ⟨b,0,none⟩),.int .i64 z] w λe w'=>e=Bent/\CurIn w' b L/\But b w w' :=
 (fixed_any z b (t::L) w h hz).mono (λe w' h=>⟨h.1.trans (by rw[hi]),h.2⟩)
theorem bytes_no {b z:Nat}{w:World}{t:List UInt8}{L:List (List UInt8)}(h:CurIn w b (t::L)) (hz:z=4\/z=8) (hi:numP z t=none) :
  Calls prog 127 #[.pointer (some ⟨b,0,none⟩),.int .i64 z] w λe w'=>e=Bent/\CurIn w' b L/\But b w w' :=
 (bytes_any z b (t::L) w h hz).mono (λe w' h=>⟨h.1.trans (by rw[hi]),h.2⟩)
theorem cflag_no {b:Nat}{w:World}{t:List UInt8}{L:List (List UInt8)}(h:CurIn w b (t::L)) (hi:flagP t=none) :
  Calls prog 129 #[.pointer (some ⟨b,0,none⟩)] w λe w'=>e=Bent/\CurIn w' b L/\But b w w' :=
 (cflag_any b (t::L) w h).mono (λe w' h=>⟨h.1.trans (by rw[hi]),h.2⟩)
theorem open_no {s:List UInt8}{z:Option Nat}(h:openT z s=none) (w:World) (hs:s.length<=1000000000) (hz:∀n,z=some n->n<=1000) :
  Calls prog 125 #[.string (str s),.int .i64 (zI z)] w λe w'=>e=Bent/\Ext w w' :=
 (open_any s z w hs hz).mono (λe w' k=>by
  rcases k with⟨l',b,h1,_⟩|⟨_,h1,h2⟩
  ·rw[h]at h1;cases h1
  ·exact⟨h1,h2⟩)
theorem fix_is {z:Nat}{s t:List UInt8}(h:fixP z s=some t):t=s:=by
 unfold fixP at h;split at h
 ·injection h with h;exact h.symm
 ·cases h
theorem space_no {s:List UInt8}(h:fixP 32 s=some s) (h2:spaceP s=none) (w:World):Calls prog 192 #[.string (str s)] w λe w'=>e=Bent/\Ext w w':=by
 have hl:s.length=32:=by
  unfold fixP at h;split at h
  ·assumption
  ·cases h
 refine(readSpace_any s w hl).mono (λe w' q=>⟨?_,q.2⟩);rcases q.1 with⟨q,_⟩|⟨_,q⟩
 ·unfold spaceP at h2;rw[if_pos ⟨hl,q⟩]at h2;cases h2
 ·exact q
theorem space_fixN {s:List UInt8}(h:fixP 32 s=none):spaceP s=none:=by
 unfold fixP at h;split at h
 ·cases h
 ·rename_i k;unfold spaceP;rw[if_neg (λq=>k q.1)]
theorem bind_go {α β:Type} {o:Option α}{f:α->Option β}{y:α}{r:Option β}(h:o.bind f=r) (ho:o=some y):f y=r:=by rw[ho]at h;exact h
theorem bind_end {α β:Type} {o:Option α}{f:α->Option β}{r:Option β}(h:o.bind f=r) (ho:o=none):r=none:=by rw[ho]at h;exact h.symm
theorem map_go {α β:Type} {o:Option α}{f:α->β}{y:α}{r:Option β}(h:o.map f=r) (ho:o=some y):r=some (f y):=by rw[ho]at h;exact h.symm
theorem map_end {α β:Type} {o:Option α}{f:α->β}{r:Option β}(h:o.map f=r) (ho:o=none):r=none:=by rw[ho]at h;exact h.symm
def ProcE:Option PrT->Ending
 | some y=>.returned (.agg (prL y).toArray)
 | none=>Bent
theorem readProc_any (s:List UInt8) (w:World) (hs:s.length<=100000000) (hD:Dec10 w) :
  Calls prog 132 #[.string (str s)] w λe w'=>e=ProcE (procP s)/\Ext w w':=by
 generalize hP:procP s=r;cases h10:openT (some 10) s with
 | none =>
  have HO:=lh_ (λw=>open_no h10 w (by omega) (λn h=>by cases h;decide));obtain rfl:r=none:=by unfold procP at hP;rw[h10]at hP;exact hP.symm
  clear hP hs hD h10;go_enter func132,ntmps132;go_upto_region 1 with fail;have x0:Ext w (w.alloc (.cells (prL prZ).toArray 57)):=(Ext.refl w).alloc _;change Code.wp _ _ _ _ (w.alloc (.cells (prL prZ).toArray 57));generalize w.alloc (.cells (prL prZ).toArray 57)=w0 at x0 ⊢;go_wp2_with (go_at_call 125;refine(HO.out _).mono ?_;rintro e w1 ⟨he,x1⟩;simp only[Bent]at he;subst he)
  exact⟨rfl,rfl,x0.trans x1⟩
 | some l =>
 obtain⟨t0,t1,t2,t3,t4,t5,t6,t7,t8,t9,rfl⟩:=ten_of (openT_len h10);unfold procP at hP;rw[h10]at hP;simp only[Option.bind_some,List.getD_cons_zero,List.getD_cons_succ]at hP;have hfew:∀t∈[t0,t1,t2,t3,t4,t5,t6,t7,t8,t9],t.length<=281474976710656:=λt ht=>by have:=openT_few h10 t ht;omega
 have HO:=lh_ (λw=>open_yes h10 w (by omega) (λn h=>by cases h;decide));have HL0:=lh_ hfew;have HL1:=lh_ (λt ht=>hfew t (List.mem_cons_of_mem _ ht));have HL2:=lh_ (λt ht=>HL1.out t (List.mem_cons_of_mem _ ht));have HL8:=lh_ (show∀t∈[t8,t9],t.length<=281474976710656 fromλt ht=>hfew t (by simp only[List.mem_cons,List.not_mem_nil,or_false]at ht ⊢;rcases ht with rfl|rfl<;>simp));have HDD:=lh_ hD;have HPN:=lh_ hP;clear h10 hfew hs hD hP;go_enter func132,ntmps132;go_upto_region 1 with fail;have b0:=Box.new w 57 (prL prZ).toArray;have x0:Ext w (w.alloc (.cells (prL prZ).toArray 57)):=(Ext.refl w).alloc _;have z0:(w.alloc (.cells (prL prZ).toArray 57)).heap.size=w.heap.size+1:=World.size_alloc _ _;change Code.wp _ _ _ _ (w.alloc (.cells (prL prZ).toArray 57));generalize w.alloc (.cells (prL prZ).toArray 57)=w0 at b0 x0 z0 ⊢;go_upto_region 2 with(go_at_call 125;refine(HO.out _).mono ?_;rintro e w1 ⟨cb,rfl,hcb,hc1,x1⟩)
 have b1:=b0.ext x1;have x1':=x0.trans x1;have hw1:w.heap.size+1<=w1.heap.size:=by rw[← z0];exact x1.size
 have hcb1:=hc1.lt;rw[z0]at hcb;clear b0 x0 z0 x1 HO;clear w0;go_upto_region 3 with fail
 have S:PS w (w1.alloc (.cells (prL prZ).toArray 57)) w.heap.size w1.heap.size cb prZ [t0,t1,t2,t3,t4,t5,t6,t7,t8,t9] :=
  ⟨Box.new w1 _ _,b1.ext ((Ext.refl _).alloc _),hc1.ext ((Ext.refl _).alloc _),x1'.alloc _,by omega,by omega,by omega,Nat.le_refl _,by omega,by omega⟩
 change Code.wp _ _ _ _ (w1.alloc (.cells (prL prZ).toArray 57));generalize w1.alloc (.cells (prL prZ).toArray 57)=W0 at S ⊢;generalize w1.heap.size=pb at S ⊢;generalize hrb:w.heap.size=rb at S ⊢;clear b1 x1' hw1 hcb hcb1 hc1;clear w1;cases e0:intP t0 with
 | none =>
  obtain rfl:=bind_end HPN.out e0;have HN:=lh_ e0;clear e0 HPN
  go_wp2_with (first
   | (go_at_call 128;refine(cdec_no S.cur HN.out (S.dec HDD.out) HL0.out).mono ?_;rintro e wz ⟨he,kz,dz⟩;simp only[Bent]at he;subst he))
  exact⟨rfl,rfl,dz.past S.ext S.lc⟩
 | some pid =>
 have H0:=lh_ e0;replace HPN:=lh_ (bind_go HPN.out e0);clear e0;cases e0:intP t1 with
 | none =>
  obtain rfl:=bind_end HPN.out e0;have HN:=lh_ e0;clear e0 HPN
  go_wp2_with (first
   | (go_at_call 128;refine(cdec_no S1.cur HN.out (S1.dec HDD.out) HL1.out).mono ?_;rintro e wz ⟨he,kz,dz⟩;simp only[Bent]at he;subst he)
   | (go_at_call 128;refine(cdec_yes S.cur H0.out (S.dec HDD.out) HL0.out).mono ?_;rintro e w1 ⟨rfl,k1,d1⟩;have S1:=S.call k1 d1))
  exact⟨rfl,rfl,dz.past S1.ext S1.lc⟩
 | some par =>
 have H1:=lh_ e0;replace HPN:=lh_ (bind_go HPN.out e0);clear e0;cases e0:intP t2 with
 | none =>
  obtain rfl:=bind_end HPN.out e0;have HN:=lh_ e0;clear e0 HPN
  go_wp2_with (first
   | (go_at_call 128;refine(cdec_no S2.cur HN.out (S2.dec HDD.out) HL2.out).mono ?_;rintro e wz ⟨he,kz,dz⟩;simp only[Bent]at he;subst he)
   | (go_at_call 128;refine(cdec_yes S1.cur H1.out (S1.dec HDD.out) HL1.out).mono ?_;rintro e w2 ⟨rfl,k2,d2⟩;have S2:=S1.call k2 d2)
   | (go_at_call 128;refine(cdec_yes S.cur H0.out (S.dec HDD.out) HL0.out).mono ?_;rintro e w1 ⟨rfl,k1,d1⟩;have S1:=S.call k1 d1))
  exact⟨rfl,rfl,dz.past S2.ext S2.lc⟩
 | some st =>
 have H2:=lh_ e0;replace HPN:=lh_ (bind_go HPN.out e0);clear e0
 go_upto_region 4 with(first
  | (go_at_call 128;refine(cdec_yes S2.cur H2.out (S2.dec HDD.out) HL2.out).mono ?_;rintro e w3 ⟨rfl,k3,d3⟩;have S3:=S2.call k3 d3)
  | (go_at_call 128;refine(cdec_yes S1.cur H1.out (S1.dec HDD.out) HL1.out).mono ?_;rintro e w2 ⟨rfl,k2,d2⟩;have S2:=S1.call k2 d2)
  | (go_at_call 128;refine(cdec_yes S.cur H0.out (S.dec HDD.out) HL0.out).mono ?_;rintro e w1 ⟨rfl,k1,d1⟩;have S1:=S.call k1 d1)
  | (refine wp_st_ps S3 { prZ with pid:=pid } _ _ _ rfl rfl 0 _ rfl rfl rfl szInt (by decide) rfl ?_;intro w4 S4)
  | (refine wp_st_ps S4 { prZ with pid:=pid,parent:=par } _ _ _ rfl rfl 1 _ rfl rfl rfl szInt (by decide) rfl ?_;intro w5 S5)
  | (refine wp_st_ps S5 { prZ with pid:=pid,parent:=par,state:=st } _ _ _ rfl rfl 2 _ rfl rfl rfl szInt (by decide) rfl ?_;intro w6 S6))
 clear S S1 S2 S3 S4 S5 k1 k2 k3 d1 d2 d3 H0 H1 H2 HL0 HL1 HL2;clear w1 w2 w3 w4 w5;clear W0;cases e0:fixP 68 t3 with
 | none =>
  obtain rfl:=bind_end HPN.out e0;have HN:=lh_ e0;clear e0 HPN
  go_wp2_with (first
   | (go_at_call 190;refine(fixed_no S6.cur (by decide) HN.out).mono ?_;rintro e wz ⟨he,kz,dz⟩;simp only[Bent]at he;subst he))
  exact⟨rfl,rfl,dz.past S6.ext S6.lc⟩
 | some cpu =>
 have H3:=lh_ e0;replace HPN:=lh_ (bind_go HPN.out e0);clear e0;obtain rfl:=fix_is H3.out;go_upto_region 5 with(go_at_call 190;refine(fixed_yes S6.cur (by decide) H3.out).mono ?_;rintro e w7 ⟨rfl,k7,d7⟩;have S7:=S6.call k7 d7)
 have S8:=S7.eq (show _=prL (prR { prZ with pid:=pid,parent:=par,state:=st } (λi=>numAtT cpu (4*i) 4) 0) from rfl);clear S6 S7 k7 d7;clear w6;generalize hy3:({ prZ with pid:=pid,parent:=par,state:=st }:PrT)=y3 at S8;have HY3:=lh_ hy3;clear hy3;have hl3:(str cpu).size=68:=by
  rw[str_size];have:=H3.out;unfold fixP at this;split at this
  ·assumption
  ·cases this
 have hn3:cpu.length=68:=by rw[str_size]at hl3;exact hl3
 go_wp2_with fail;go_loopw [6,23] (λ_ i wx=>∃k:Nat,k<=16/\i=.int .i64 k/\PS w wx rb pb cb (prR y3 (λi=>numAtT cpu (4*i) 4) k) [t4,t5,t6,t7,t8,t9]) (λ_ i _=>16-(intOf i).toNat);case atStart=>exact⟨0,by omega,rfl,S8⟩
 case round =>
  clear S8;obtain⟨k,hk,rfl,S1⟩:=hrel;by_cases hlt:k<16
  ·have hki:(k:Int)<16:=by omega
   have HP:Hid ((prL (prR y3 (λi=>numAtT cpu (4*i) 4) k)).toArray.setIfInBounds (3+k) (.int .u32 (numAtT cpu (4*k) 4))=(prL (prR y3 (λi=>numAtT cpu (4*i) 4) (k+1))).toArray):=lh_ (prR_put y3 (λi=>numAtT cpu (4*i) 4) hlt);have HG:=lh_ (get_at cpu (4*k) 4 (.inl rfl) (by omega));have hu:=u32_at cpu (4*k);generalize numAtT cpu (4*k) 4=r at *;clear hn3
   go_wp2_with (first
    | (go_at_call 164;refine(HG.out _).mono ?_;rintro e w2 ⟨rfl,rfl⟩)
    | (refine wp_st_ps S1 _ _ _ _ rfl rfl (3+k) _ rfl rfl rfl szU32 (by omega) HP.out ?_;intro w3 S2))
   go_roundw;case rel=>exact⟨k+1,by omega,by go_num,S2⟩
   case measure=>simp[intOf];omega
  ·obtain rfl:k=16:=by omega
   have HG:=lh_ (get_at cpu 64 4 (.inl rfl) (by omega));have hu:=u32_at cpu 64;have HPC:Hid ((prL (prR y3 (λi=>numAtT cpu (4*i) 4) 16)).toArray.setIfInBounds 19 (.int .u32 (numAtT cpu 64 4))=(prL { (prR y3 (λi=>numAtT cpu (4*i) 4) 16) with pc:=numAtT cpu 64 4 }).toArray):=lh_ rfl;generalize hpc:numAtT cpu 64 4=pc at *;generalize hyR:prR y3 (λi=>numAtT cpu (4*i) 4) 16=yR at *;have HPc:=lh_ hpc;have HYR:=lh_ hyR;clear hpc hyR hn3
   go_upto_region 11 with(first
    | (go_at_call 164;refine(HG.out _).mono ?_;rintro e w2 ⟨rfl,rfl⟩)
    | (refine wp_st_ps S1 { yR with pc:=pc } _ _ _ rfl rfl 19 _ rfl rfl rfl szU32 (by decide) HPC.out ?_;intro w3 S2))
   generalize hyP:({ yR with pc:=pc }:PrT)=yP at *;have HYP:=lh_ hyP;clear hyP S1 HG hu HPC hlt hk;clear wr;cases e1:fixP 32 t4 with
   | none =>
    obtain rfl:=bind_end HPN.out (space_fixN e1);have HN:=lh_ e1;clear e1 HPN;go_wp2_with (go_at_call 190;refine(fixed_no S2.cur (by decide) HN.out).mono ?_;rintro e wz ⟨he,kz,dz⟩;simp only[Bent]at he;subst he)
    exact⟨rfl,rfl,dz.past S2.ext S2.lc⟩
   | some sp0 =>
   obtain rfl:=fix_is e1;cases e0:spaceP sp0 with
   | none =>
    obtain rfl:=bind_end HPN.out e0;have HSp:=lh_ (λw=>space_no e1 e0 w);have HF4:=lh_ e1;clear e0 e1 HPN
    go_wp2_with (first
     | (go_at_call 190;refine(fixed_yes S2.cur (by decide) HF4.out).mono ?_;rintro e w4 ⟨rfl,k4,d4⟩;have S4:=S2.call k4 d4)
     | (go_at_call 192;refine(HSp.out _).mono ?_;rintro e w5 ⟨he,x5⟩;simp only[Bent]at he;subst he))
    exact⟨rfl,rfl,S4.ext.trans x5⟩
   | some sp =>
   replace HPN:=lh_ (bind_go HPN.out e0);obtain rfl:sp=sp0:=(space_yes e0 w).1;have H4:=lh_ e0;clear e0 e1;have HSp:=lh_ (λw=>(space_yes H4.out w).2);have HF4:=lh_ (space_fix H4.out);unfold spC at HSp;generalize hyq:spQ sp 16=q at *;have HQ:=lh_ hyq;clear hyq
   go_upto_region 12 with(first
    | (go_at_call 190;refine(fixed_yes S2.cur (by decide) HF4.out).mono ?_;rintro e w4 ⟨rfl,k4,d4⟩;have S4:=S2.call k4 d4)
    | (go_at_call 192;refine(HSp.out _).mono ?_;rintro e w5 ⟨rfl,x5⟩;have S5:=S4.more x5)
    | (refine wp_st_space _ _ rfl rfl pb yP q _ rfl rfl S5.box ?_;intro w6 b6 d6;have S6:=S5.but d6 _ b6))
   generalize hyS:yP.pages q=yS at *;have HYS:=lh_ hyS;clear hyS S2 S4 S5 k4 d4 x5 d6 b6 HSp HF4;clear w3 w4 w5;have HZ:=lh_ (show∀i,yS.fk i=0/\yS.fn i=0/\yS.fp i=0 fromλi=>by rw[← HYS.out,← HYP.out,← HYR.out,← HY3.out];exact⟨rfl,rfl,rfl⟩);cases e0:fixP 136 t5 with
   | none =>
    obtain rfl:=bind_end HPN.out e0;have HN:=lh_ e0;clear e0 HPN
    go_wp2_with (first
     | (go_at_call 190;refine(fixed_no S6.cur (by decide) HN.out).mono ?_;rintro e wz ⟨he,kz,dz⟩;simp only[Bent]at he;subst he))
    exact⟨rfl,rfl,dz.past S6.ext S6.lc⟩
   | some fds =>
   have H5:=lh_ e0;replace HPN:=lh_ (bind_go HPN.out e0);clear e0;obtain rfl:=fix_is H5.out;have hl5:(str fds).size=136:=by
    rw[str_size];have:=H5.out;unfold fixP at this;split at this
    ·assumption
    ·cases this
   have hn5:fds.length=136:=by rw[str_size]at hl5;exact hl5
   go_upto_region 13 with(go_at_call 190;refine(fixed_yes S6.cur (by decide) H5.out).mono ?_;rintro e w7 ⟨rfl,k7,d7⟩;have S7:=S6.call k7 d7)
   have S8:=S7.eq (prF_zero yS HZ.out (λi=>byteAt fds (17*i)) (λi=>wrap64 (numAtT fds (17*i+1) 8)) (λi=>wrap64 (numAtT fds (17*i+9) 8)));clear S6 S7 k7 d7;clear w6;go_wp2_with fail;go_loopw [8,9,52] (λ_ _ i wx=>∃k:Nat,k<=8/\i=.int .i64 k/\PS w wx rb pb cb (prF yS (λi=>byteAt fds (17*i)) (λi=>wrap64 (numAtT fds (17*i+1) 8)) (λi=>wrap64 (numAtT fds (17*i+9) 8)) k) [t6,t7,t8,t9]) (λ_ _ i _=>8-(intOf i).toNat);case atStart=>exact⟨0,by omega,rfl,S8⟩
   case round =>
    clear S8;obtain⟨k,hk,rfl,S1⟩:=hrel;by_cases hlt:k<8
    ·have hki:(k:Int)<8:=by omega
     have HP:Hid ((((prL (prF yS (λi=>byteAt fds (17*i)) (λi=>wrap64 (numAtT fds (17*i+1) 8)) (λi=>wrap64 (numAtT fds (17*i+9) 8)) k)).toArray.setIfInBounds (68+k*3) (.int .i64 (byteAt fds (17*k)))).setIfInBounds (68+k*3+1) (.int .i64 (wrap64 (numAtT fds (17*k+1) 8)))).setIfInBounds (68+k*3+2) (.int .i64 (wrap64 (numAtT fds (17*k+9) 8)))=(prL (prF yS (λi=>byteAt fds (17*i)) (λi=>wrap64 (numAtT fds (17*i+1) 8)) (λi=>wrap64 (numAtT fds (17*i+9) 8)) (k+1))).toArray):=lh_ (prF_put yS (λi=>byteAt fds (17*i)) (λi=>wrap64 (numAtT fds (17*i+1) 8)) (λi=>wrap64 (numAtT fds (17*i+9) 8)) hlt);have HX:(str fds).extract (17*k) (17*(k+1))=str ((fds.drop (17*k)).take 17):=by rw[str_ext,show 17*(k+1)-17*k=17 by omega]
     have e0:=byteAt_piece fds (17*k) 17 0 (by decide);have e1:=numAt_piece fds (17*k) 17 1 8 (by decide);have e2:=numAt_piece fds (17*k) 17 9 8 (by decide);have hpl:((fds.drop (17*k)).take 17).length=17:=by rw[List.length_take,List.length_drop];omega
     go_wp2_with fail;rw[HX];clear HX;generalize (fds.drop (17*k)).take 17=p at *;rw[Nat.add_zero]at e0;rw[← e0,← e1,← e2]at HP;clear e0 e1 e2;have hps:(str p).size=17:=by rw[str_size];exact hpl
     have i0:∀w,(Instr.index 9 (.string (str p)) (.int .i64 0)).run prog w=.ok (.int .u8 (byteAt p 0)) w:=λw=>idx_byte p 0 (by omega) w;have HG1:=lh_ (λw=>get_at p 1 8 (.inr rfl) (by omega) w);have HG2:=lh_ (λw=>get_at p 9 8 (.inr rfl) (by omega) w);have q0:=byteAt_is p 0;have hw0:=i64_byte q0.1 q0.2;clear q0;generalize byteAt p 0=c0 at *;generalize numAtT p 1 8=c1 at *;generalize numAtT p 9 8=c2 at *;refine wp_region_later_tail 15 (by kernel_rfl) (by kernel_rfl) ?_;simp only[List.take_succ_cons,List.take_zero,List.drop_succ_cons,List.drop_zero];repeat (go_big_quiet_step ((first|(with_reducible exact later_of_same (HG1.out _))|(with_reducible exact later_of_same (HG2.out _)))))
     refine wpQuiet_nil ?_;rintro w2 ⟨x2,rfl⟩;have S2:=S1.more x2.ext;generalize x2.now=w2 at *;go_wp2_with (refine wp_st_three _ _ _ rfl rfl pb (68+k*3) _ _ _ _ _ _ rfl rfl fdSize rfl rfl rfl S2.box (by rw[List.size_toArray,prL_len];omega) HP.out ?_;intro w3 b3 g3)
     go_roundw;case rel=>exact⟨k+1,by omega,by go_num,S2.but (but_grown g3) _ b3⟩
     case measure=>simp[intOf];omega
    ·obtain rfl:k=8:=by omega
     have HDone:=lh_ (λmask code why num=>proc_done pid par st cpu sp fds mask code why num);rw[HY3.out,HYR.out,HPc.out,HYP.out,HQ.out,HYS.out]at HDone;generalize hyF:prF yS (λi=>byteAt fds (17*i)) (λi=>wrap64 (numAtT fds (17*i+1) 8)) (λi=>wrap64 (numAtT fds (17*i+9) 8)) 8=yF at *;clear hyF HY3 HYR HPc HYP HQ HYS HZ hl3 hl5 hn5 hlt hk;cases e0:flagP t6 with
     | none =>
      obtain rfl:=bind_end HPN.out e0;have HN:=lh_ e0;clear e0 HPN
      go_wp2_with (first
       | (go_at_call 129;refine(cflag_no S1.cur HN.out).mono ?_;rintro e wz ⟨he,kz,dz⟩;simp only[Bent]at he;subst he))
      exact⟨rfl,rfl,dz.past S1.ext S1.lc⟩
     | some mask =>
     have H6:=lh_ e0;replace HPN:=lh_ (bind_go HPN.out e0);clear e0
     go_upto_region 20 with(first
      | (go_at_call 129;refine(cflag_yes S1.cur H6.out).mono ?_;rintro e w2 ⟨rfl,k2,d2⟩;have S2:=S1.call k2 d2)
      | (refine wp_st_ps S2 { yF with mask:=mask } _ _ _ rfl rfl 92 _ rfl rfl rfl szBool (by decide) rfl ?_;intro w3 S3))
     cases e0:numP 4 t7 with
     | none =>
      obtain rfl:=bind_end HPN.out e0;have HN:=lh_ e0;clear e0 HPN
      go_wp2_with (first
       | (go_at_call 127;refine(bytes_no S3.cur (.inl rfl) HN.out).mono ?_;rintro e wz ⟨he,kz,dz⟩;simp only[Bent]at he;subst he))
      exact⟨rfl,rfl,dz.past S3.ext S3.lc⟩
     | some code =>
     have H7:=lh_ e0;replace HPN:=lh_ (bind_go HPN.out e0);clear e0;have hcu:=num_u32 H7.out
     go_upto_region 21 with(first
      | (go_at_call 127;refine(bytes_yes S3.cur (.inl rfl) H7.out).mono ?_;rintro e w4 ⟨rfl,k4,d4⟩;have S4:=S3.call k4 d4)
      | (refine wp_st_ps S4 { yF with mask:=mask,code:=code } _ _ _ rfl rfl 93 _ rfl rfl rfl szU32 (by decide) rfl ?_;intro w5 S5))
     cases e0:intP t8 with
     | none =>
      obtain rfl:=bind_end HPN.out e0;have HN:=lh_ e0;clear e0 HPN
      go_wp2_with (first
       | (go_at_call 128;refine(cdec_no S5.cur HN.out (S5.dec HDD.out) HL8.out).mono ?_;rintro e wz ⟨he,kz,dz⟩;simp only[Bent]at he;subst he))
      exact⟨rfl,rfl,dz.past S5.ext S5.lc⟩
     | some why =>
     have H8:=lh_ e0;replace HPN:=lh_ (bind_go HPN.out e0);clear e0
     go_upto_region 22 with(first
      | (go_at_call 128;refine(cdec_yes S5.cur H8.out (S5.dec HDD.out) HL8.out).mono ?_;rintro e w6 ⟨rfl,k6,d6⟩;have S6:=S5.call k6 d6)
      | (refine wp_st_ps S6 { yF with mask:=mask,code:=code,why:=why } _ _ _ rfl rfl 94 _ rfl rfl rfl szInt (by decide) rfl ?_;intro w7 S7))
     cases e0:numP 8 t9 with
     | none =>
      obtain rfl:=map_end HPN.out e0;have HN:=lh_ e0;clear e0 HPN
      go_wp2_with (first
       | (go_at_call 127;refine(bytes_no S7.cur (.inr rfl) HN.out).mono ?_;rintro e wz ⟨he,kz,dz⟩;simp only[Bent]at he;subst he))
      exact⟨rfl,rfl,dz.past S7.ext S7.lc⟩
     | some num =>
     have H9:=lh_ e0;obtain rfl:=map_go HPN.out e0;clear e0
     go_upto_region 23 with(first
      | (go_at_call 127;refine(bytes_yes S7.cur (.inr rfl) H9.out).mono ?_;rintro e w8 ⟨rfl,k8,d8⟩;have S8:=S7.call k8 d8)
      | (refine wp_st_ps S8 { yF with mask:=mask,code:=code,why:=why,num:=num } _ _ _ rfl rfl 95 _ rfl rfl rfl szU64 (by decide) rfl ?_;intro w9 S9))
     generalize hyZ:({ yF with mask:=mask,code:=code,why:=why,num:=num }:PrT)=yZ at *;have HYZ:=lh_ hyZ;clear hyZ;have h0:=S9.lr
     go_wp2_with (first
      | (refine wp_ld_pr _ rfl rfl pb 0 yZ rfl (box_range S9.box (λj v h=>by rw[Nat.zero_add,List.getElem?_toArray];exact h)) ?_)
      | (refine wp_st_pr _ _ rfl rfl rb yZ _ _ rfl rfl S9.res (by rw[List.size_toArray,prL_len]) ?_;intro w10 b10 g10))
     refine bodyPost_ret (results_cell1 rfl _ _ rb _ _ _ rfl b10 underlying57 rfl (by rw[List.size_toArray,prL_len];exact prSize)) rfl ⟨by show _=Ending.returned (.agg (prL _).toArray);rw[← HDone.out mask code why num,HYZ.out],S9.ext.grown g10 (λj e=>by cases e;exact h0)⟩
theorem readProc_yes (s:List UInt8) (y:PrT) (w:World) (hP:procP s=some y) (hs:s.length<=100000000) (hD:Dec10 w) :
  Calls prog 132 #[.string (str s)] w λe w'=>e=.returned (.agg (prL y).toArray)/\Ext w w' :=
 (readProc_any s w hs hD).mono (λe w' h=>⟨h.1.trans (by rw[hP];rfl),h.2⟩)
def ToSpaceR (s:List UInt8) (w:World) (e:Ending) (w':World):Prop :=
 (∃q:PrT,e=.returned (.tuple #[.agg (spaceL q).toArray,.bool (spaceB s)])/\(spaceB s=true->q=spQ s 16))/\Ext w w'
theorem rtoSpace_any (s:List UInt8) (w:World) (hs:s.length=32) :
  Calls prog 198 #[.string (str s)] w (ToSpaceR s w):=by
 go_enter func198,ntmps198;go_upto_region 1 with fail;have b0:=Box.new w 52 spZ;have x0:Ext w (w.alloc (.cells spZ 52)):=(Ext.refl w).alloc _;have z0:(w.alloc (.cells spZ 52)).heap.size=w.heap.size+1:=World.size_alloc _ _;change Code.wp _ _ _ _ (w.alloc (.cells spZ 52));generalize w.alloc (.cells spZ 52)=wa at b0 x0 z0 ⊢;go_upto_region 2 with(refine wp_st _ (.tmp 4) (.tmp 7) rfl rfl (w.heap.size+1) _ _ _ rfl rfl (by rw[← z0];exact Box.new wa 52 _) (by kernel_rfl) rfl (by kernel_rfl) ?_;intro w1 b1 g1)
 have b1':Box w1 (w.heap.size+1) 52 spZ:=b1;have x1:Ext w w1:=(x0.alloc _).grown g1 (λj e=>by cases e;omega);have b2:Box w1 w.heap.size 52 spZ:=(b0.ext ((Ext.refl wa).alloc _)).grown g1 (by simp);clear b0 x0 z0 b1 g1;go_upto_region 3 with fail;go_loopw [5] (λi wx=>∃k:Nat,k<=16/\i=.int .i64 k/\Box wx (w.heap.size+1) 52 (spC s k)/\Box wx w.heap.size 52 spZ/\Ext w wx/\Hid (∀j<k,pteB (byteAt s (2*j)) (byteAt s (2*j+1))=true)) (λi _=>16-(intOf i).toNat);case atStart=>exact⟨0,by omega,rfl,b1',b2,x1,lh_ (λj h=>by omega)⟩
 case round =>
  clear b1' b2 x1;obtain⟨k,hk,rfl,bs,br,xk,hok⟩:=hrel;by_cases hlt:k<16
  ·have hki:(k:Int)<16:=by omega
   have i1:∀w,(Instr.index 9 (.string (str s)) (.int .i64 (2*(k:Int)))).run prog w=.ok (.int .u8 (byteAt s (2*k))) w:=λw=>idx_byte s (2*k) (by omega) w;have i2:∀w,(Instr.index 9 (.string (str s)) (.int .i64 (2*(k:Int)+1))).run prog w=.ok (.int .u8 (byteAt s (2*k+1))) w:=λw=>idx_byte s (2*k+1) (by omega) w;have HP:=lh_ (spC_put s hlt);have q1:=byteAt_is s (2*k);have q2:=byteAt_is s (2*k+1);have HN:=lh_ (λh=>spaceB_not (s:=s) hlt h);have HO:=lh_ (show pteB (byteAt s (2*k)) (byteAt s (2*k+1))=true->∀j<k+1,pteB (byteAt s (2*j)) (byteAt s (2*j+1))=true fromλh j hj=>by
    by_cases hjk:j=k
    ·subst hjk;exact h
    ·exact hok.out j (by omega))
   generalize byteAt s (2*k)=c at *;generalize byteAt s (2*k+1)=f at *;have hw1:=i64_byte q2.1 q2.2;have hw2:=i64_byte q1.1 q1.2;have HX:=lh_ xk;clear hs xk;by_cases h0:c=0/\f=0
   ·obtain⟨rfl,rfl⟩:=h0;clear q1 q2 hw1;go_wp2_with (refine wp_st_three _ (.tmp 44) (.tmp 43) rfl rfl (w.heap.size+1) (k*3) _ _ _ _ _ _ rfl rfl pteSize rfl rfl rfl bs (by rw[spC_size];omega) HP.out ?_;intro w3 b3 g3)
    go_roundw;case rel=>exact⟨k+1,by omega,by go_num,b3,br.grown g3 (by simp),HX.out.grown g3 (λj e=>by cases e;omega),lh_ (HO.out rfl)⟩
    case measure=>simp[intOf];omega
   ·by_cases h1:c=1
    ·subst h1;go_wp2_with (refine wp_st_three _ (.tmp 44) (.tmp 43) rfl rfl (w.heap.size+1) (k*3) _ _ _ _ _ _ rfl rfl pteSize rfl rfl rfl bs (by rw[spC_size];omega) HP.out ?_;intro w3 b3 g3)
     go_roundw;case rel=>exact⟨k+1,by omega,by go_num,b3,br.grown g3 (by simp),HX.out.grown g3 (λj e=>by cases e;omega),lh_ (HO.out rfl)⟩
     case measure=>simp[intOf];omega
    ·by_cases h2:c=2
     ·subst h2;go_wp2_with (refine wp_st_three _ (.tmp 44) (.tmp 43) rfl rfl (w.heap.size+1) (k*3) _ _ _ _ _ _ rfl rfl pteSize rfl rfl rfl bs (by rw[spC_size];omega) HP.out ?_;intro w3 b3 g3)
      go_roundw;case rel=>exact⟨k+1,by omega,by go_num,b3,br.grown g3 (by simp),HX.out.grown g3 (λj e=>by cases e;omega),lh_ (HO.out rfl)⟩
      case measure=>simp[intOf];omega
     ·have k1:(c==1)=false:=by simpa using h1
      have k2:(c==2)=false:=by simpa using h2
      have hb:Hid (spaceB s=false):=lh_ (HN.out (by
       unfold pteB;rw[k1,k2];cases e0:(c==0)
       ·rfl
       ·have e1:c=0:=by simpa using e0
        have e2:(f==0)=false:=by simp;intro e3;exact h0 ⟨e1,e3⟩
        rw[e2];rfl))
      clear HO hok HP HN;cases e0:(c==0)
      ·have e3:2<c:=by
        have:c≠0:=by simpa using e0
        omega
       clear k1 k2 h0 h1 h2
       go_wp2_with (first
        | (refine wp_ld _ (.tmp 4) rfl rfl (w.heap.size+1) _ _ _ rfl bs underlying52 rfl spaceSz ?_)
        | (refine wp_st _ (.tmp 2) (.tmp 31) rfl rfl w.heap.size _ _ _ rfl rfl br spaceSz rfl spC_one ?_;intro w3 b3 g3))
       exact bodyPost_ret (results_cell2 rfl _ _ w.heap.size _ _ _ _ rfl rfl b3 underlying52 rfl spaceSz) rfl ⟨⟨_,by rw[hb.out];rfl,λh=>by rw[hb.out]at h;cases h⟩,HX.out.grown g3 (λj e=>by cases e;exact Nat.le_refl _)⟩
      ·have e1:c=0:=by simpa using e0
       subst e1;have e2:(f != 0)=true:=by simp;intro e3;exact h0 ⟨rfl,e3⟩
       clear k1 k2 h0 h1 h2 e0
       go_wp2_with (first
        | (refine wp_ld _ (.tmp 4) rfl rfl (w.heap.size+1) _ _ _ rfl bs underlying52 rfl spaceSz ?_)
        | (refine wp_st _ (.tmp 2) (.tmp 31) rfl rfl w.heap.size _ _ _ rfl rfl br spaceSz rfl spC_one ?_;intro w3 b3 g3))
       exact bodyPost_ret (results_cell2 rfl _ _ w.heap.size _ _ _ _ rfl rfl b3 underlying52 rfl spaceSz) rfl ⟨⟨_,by rw[hb.out];rfl,λh=>by rw[hb.out]at h;cases h⟩,HX.out.grown g3 (λj e=>by cases e;exact Nat.le_refl _)⟩
  ·obtain rfl:k=16:=by omega
   have hb:=lh_ (spaceB_of (s:=s) hok.out)
   go_wp2_with (first
    | (refine wp_ld _ (.tmp 4) rfl rfl (w.heap.size+1) _ _ _ rfl bs underlying52 rfl spaceSz ?_)
    | (refine wp_st _ (.tmp 2) (.tmp 45) rfl rfl w.heap.size _ _ _ rfl rfl br spaceSz rfl spC_one ?_;intro w3 b3 g3))
   exact bodyPost_ret (results_cell2 rfl _ _ w.heap.size _ _ _ _ rfl rfl b3 underlying52 rfl spaceSz) rfl ⟨⟨_,by rw[hb.out];rfl,λ_=>rfl⟩,xk.grown g3 (λj e=>by cases e;exact Nat.le_refl _)⟩
theorem rget_at (s:List UInt8) (i z:Nat) (hz:z<=8) (w:World) :
  Calls prog 169 #[.string ((str s).extract i (i+z))] w λe w'=>e=.returned (.int .u64 (numAtT s i z))/\w=w':=by
 rw[extract_at];exact rget_any _ w (by rw[List.length_take];omega)
def fdRd (s:List UInt8) (k:Nat):PrT:=prF default (λi=>byteAt s (17*i)) (λi=>wrap64 (numAtT s (17*i+1) 8)) (λi=>wrap64 (numAtT s (17*i+9) 8)) k
def fdC (s:List UInt8) (k:Nat):Array Value:=(fdsL (fdRd s k)).toArray
def fdZ:Array Value:=(fdsL default).toArray
theorem fdC_size (s:List UInt8) (k:Nat):(fdC s k).size=24:=rfl
theorem fdC_sz {s:List UInt8}{k:Nat}:(prog.info? 55).map (·.size)=some (fdC s k).size:=fdsSize
theorem fdC_one {s:List UInt8}{k:Nat}:(fdC s k).all (·.oneCell')=true:=all_oneCell_toArray (λv hv=>by
 simp only[fdsL,fdL,List.mem_flatMap,List.mem_cons,List.not_mem_nil,or_false]at hv;obtain⟨i,_,h|h|h⟩:=hv<;>(subst h;rfl))
theorem rtoFds_any (s:List UInt8) (w:World) (hs:s.length=136) :
  Calls prog 199 #[.string (str s)] w λe w'=>e=.returned (.agg (fdC s 8))/\Ext w w':=by
 have hsz:(str s).size=136:=by rw[str_size];exact hs
 go_enter func199,ntmps199;go_upto_region 1 with fail;have b0:=Box.new w 55 fdZ;have x0:Ext w (w.alloc (.cells fdZ 55)):=(Ext.refl w).alloc _;have z0:(w.alloc (.cells fdZ 55)).heap.size=w.heap.size+1:=World.size_alloc _ _;change Code.wp _ _ _ _ (w.alloc (.cells fdZ 55));generalize w.alloc (.cells fdZ 55)=wa at b0 x0 z0 ⊢;go_upto_region 2 with(refine wp_st _ (.tmp 3) (.tmp 6) rfl rfl (w.heap.size+1) _ _ _ rfl rfl (by rw[← z0];exact Box.new wa 55 _) (by kernel_rfl) rfl (by kernel_rfl) ?_;intro w1 b1 g1)
 have b1':Box w1 (w.heap.size+1) 55 fdZ:=b1;have x1:Ext w w1:=(x0.alloc _).grown g1 (λj e=>by cases e;omega);have b2:Box w1 w.heap.size 55 fdZ:=(b0.ext ((Ext.refl wa).alloc _)).grown g1 (by simp);clear b0 x0 z0 b1 g1;go_upto_region 3 with fail;go_loopw [4] (λi wx=>∃k:Nat,k<=8/\i=.int .i64 k/\Box wx (w.heap.size+1) 55 (fdC s k)/\Box wx w.heap.size 55 fdZ/\Ext w wx) (λi _=>8-(intOf i).toNat);case atStart=>exact⟨0,by omega,rfl,b1',b2,x1⟩
 case round =>
  clear b1' b2 x1;obtain⟨k,hk,rfl,bs,br,xk⟩:=hrel;by_cases hlt:k<8
  ·have hki:(k:Int)<8:=by omega
   have HP:Hid ((((fdC s k).setIfInBounds (k*3) (.int .i64 (byteAt s (17*k)))).setIfInBounds (k*3+1) (.int .i64 (wrap64 (numAtT s (17*k+1) 8)))).setIfInBounds (k*3+2) (.int .i64 (wrap64 (numAtT s (17*k+9) 8)))=fdC s (k+1)):=lh_ (fds_put default (λi=>byteAt s (17*i)) (λi=>wrap64 (numAtT s (17*i+1) 8)) (λi=>wrap64 (numAtT s (17*i+9) 8)) hlt);have HX:(str s).extract (17*k) (17*k+17)=str ((s.drop (17*k)).take 17):=extract_at s (17*k) 17;have e0:=byteAt_piece s (17*k) 17 0 (by decide);have e1:=numAt_piece s (17*k) 17 1 8 (by decide);have e2:=numAt_piece s (17*k) 17 9 8 (by decide);have hpl:((s.drop (17*k)).take 17).length=17:=by rw[List.length_take,List.length_drop];omega
   go_upto_region 6 with fail;rw[HX];clear HX;generalize (s.drop (17*k)).take 17=p at *;rw[Nat.add_zero]at e0;rw[← e0,← e1,← e2]at HP;clear e0 e1 e2;have hps:(str p).size=17:=by rw[str_size];exact hpl
   have i0:∀w,(Instr.index 9 (.string (str p)) (.int .i64 0)).run prog w=.ok (.int .u8 (byteAt p 0)) w:=λw=>idx_byte p 0 (by omega) w;have HG1:=lh_ (λw=>rget_at p 1 8 (by decide) w);have HG2:=lh_ (λw=>rget_at p 9 8 (by decide) w);have q0:=byteAt_is p 0;have hw0:=i64_byte q0.1 q0.2;clear q0;generalize byteAt p 0=c0 at *;generalize numAtT p 1 8=c1 at *;generalize numAtT p 9 8=c2 at *;refine wp_region_later_tail 14 (by kernel_rfl) (by kernel_rfl) ?_;simp only[List.take_succ_cons,List.take_zero,List.drop_succ_cons,List.drop_zero];repeat (go_big_quiet_step ((first|(with_reducible exact later_of_same (HG1.out _))|(with_reducible exact later_of_same (HG2.out _)))))
   refine wpQuiet_nil ?_;rintro w2 ⟨x2,rfl⟩;have bs2:=bs.ext x2.ext;have br2:=br.ext x2.ext;have xk2:=xk.trans x2.ext;generalize x2.now=w2 at *;go_wp2_with (refine wp_st_three _ _ _ rfl rfl (w.heap.size+1) (k*3) _ _ _ _ _ _ rfl rfl fdSize rfl rfl rfl bs2 (by rw[fdC_size];omega) HP.out ?_;intro w3 b3 g3)
   go_roundw;case rel=>exact⟨k+1,by omega,by go_num,b3,br2.grown g3 (by simp),xk2.grown g3 (λj e=>by cases e;omega)⟩
   case measure=>simp[intOf];omega
  ·obtain rfl:k=8:=by omega
   go_wp2_with (first
    | (refine wp_ld _ (.tmp 3) rfl rfl (w.heap.size+1) _ _ _ rfl bs underlying55 rfl fdC_sz ?_)
    | (refine wp_st _ (.tmp 2) (.tmp 32) rfl rfl w.heap.size _ _ _ rfl rfl br fdC_sz rfl fdC_one ?_;intro w3 b3 g3))
   exact bodyPost_ret (results_cell1 rfl _ _ w.heap.size _ _ _ rfl b3 underlying55 rfl fdC_sz) rfl ⟨rfl,xk.grown g3 (λj e=>by cases e;exact Nat.le_refl _)⟩
section
variable {P:Program}{C:World->Prop}{o:Oper}{a:Act}{K:Act->Prop}
theorem quiet_load_mid (ty:TypeId) (x:Operand) (h:o.op=.load ty x) (b i:Nat) (hx:a.eval x=.pointer (some ⟨b,i,none⟩)) (cs:List Value) (d:TypeDesc) (hc:∀w,C w->w.rangeAt b i cs)
  (hu:P.underlying ty=some d) (hd:d.isRow=true) (hi:(P.info? ty).map (·.size)=some cs.length) (hk:K (a.put o.dst (.agg cs.toArray))):o.quiet P a C K :=
 ⟨_,λw hw=>by
  unfold Oper.quietAt execOp;simp only[h,hx,Instr.loadAt,Instr.sureAddr,Sem.run_bind,Sem.run_pure,Result.andThen_ok,run_loadVar_mid w b i ty cs d (hc w hw) hu hd hi];exact⟨rfl,rfl⟩,hk⟩
end
theorem mac_range {w:World}{g:Nat}{t:TypeId}{m:Mac}(h:Box w g t m.cells):w.rangeAt g 0 m.cells.toList:=λj v hj=>by
 rw[Nat.zero_add];exact(h.cell j).trans (by rw[← hj];simp)
theorem pr_range0 {w:World}{g:Nat}{t:TypeId}{p:PrT}(h:Box w g t (prL p).toArray):w.rangeAt g 0 (prL p):=λj v hj=>by
 rw[Nat.zero_add];exact(h.cell j).trans (by rw[← hj];simp)
section
variable {C:World->Prop}{o:Oper}{a:Act}{K:Act->Prop}
theorem quiet_ld_mac (x:Operand) (h:o.op=.load 38 x) (b:Nat) (hx:a.eval x=.pointer (some ⟨b,0,none⟩)) (m:Mac) (hc:∀w,C w->w.rangeAt b 0 m.cells.toList) (hk:K (a.put o.dst (.agg m.cells))):o.quiet prog a C K :=
 quiet_load_mid _ x h b 0 hx _ _ hc underlying38 rfl macSize hk
theorem quiet_ld_pr (x:Operand) (h:o.op=.load 57 x) (b:Nat) (hx:a.eval x=.pointer (some ⟨b,0,none⟩)) (p:PrT) (hc:∀w,C w->w.rangeAt b 0 (prL p)) (hk:K (a.put o.dst (.agg (prL p).toArray))):o.quiet prog a C K :=
 quiet_load_mid _ x h b 0 hx _ _ hc underlying57 rfl (by rw[prL_len];exact prSize) hk
end
end Go.Proofs.YtfaplefkakpgcaaGreatDoor
