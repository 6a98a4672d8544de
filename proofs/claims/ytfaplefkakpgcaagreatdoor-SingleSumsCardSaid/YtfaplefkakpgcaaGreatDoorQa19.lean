import Derived.Test.YtfaplefkakpgcaaGreatDoorQa16
import Derived.Test.YtfaplefkakpgcaaGreatDoorQa18
set_option linter.unusedVariables false
set_option linter.unusedSimpArgs false
set_option maxHeartbeats 32000000
set_option maxRecDepth 100000
namespace Go.Proofs.YtfaplefkakpgcaaGreatDoor
open Go.RowKit
def Q2 (x:Zs):List UInt8:=Zi [Lib.itoa x.1,x.2]
def J2 (l:List Zs):List UInt8:=Zi (l.map Q2)
def N4 (y:QN):List UInt8:=(List.range 16).flatMap (λi=>JA (y.reg i) 4)++JA y.pc 4
def WH (y:QN) (i:Nat):List UInt8:=if y.pis i=false then [0,0] else if y.pwr i=true then [2,b8 (y.pfr i)] else [1,b8 (y.pfr i)]
def YK (y:QN):List UInt8:=(List.range 16).flatMap (WH y)
def cW (y:QN) (i:Nat):List UInt8:=b8 (y.fk i)::(JA (y.fn i) 8++JA (y.fp i) 8)
def UQ (y:QN):List UInt8:=(List.range 8).flatMap (cW y)
def UC (y:QN):List (List UInt8):=[Lib.itoa y.pid,Lib.itoa y.parent,Lib.itoa y.state,N4 y,YK y,UQ y,Kv y.mask,JA y.code 4,Lib.itoa y.why,JA y.num 8]
def ZN (y:QN):List UInt8:=Zi (UC y)
def V9 (m:Q1) (d:QL):List (List UInt8) :=
 [[104,105,98,50],JA m.clock 8,Lib.itoa m.quantum,Lib.itoa m.cur,Lib.itoa m.left,Lib.itoa m.next,m.init,Lib.itoa m.newPipe,m.inn,Kv m.fin,JA m.told 8,Lib.itoa m.dleft,J2 d.pe,J2 d.di,J2 d.pi,Zi (d.pr.map ZN)]
def Jy (m:Q1) (d:QL):List UInt8:=Zi (V9 m d)
theorem YX {α:Type} (l:List α) (f:α->List UInt8) (z:Nat) (h:∀x∈l,(f x).length=z):(l.flatMap f).length=l.length*z:=by
 induction l with
 | nil=>simp
 | cons x l ih=>rw[AV,Kh,h x LY,ih (λy hy=>h y (LX _ hy)),YV,SL];omega
theorem Py {α:Type} (f:α->List UInt8) (z:Nat):∀(l:List α) (r:List UInt8) (i:Nat) (hi:i<l.length),(∀x∈l,(f x).length=z)->∃t,(l.flatMap f++r).drop (z*i)=f l[i]++t:=by
 intro l;induction l with
 | nil=>intro r i hi _;exact absurd hi (by simp)
 | cons x l ih =>
  intro r i hi h;cases i with
  | zero=>exact⟨l.flatMap f++r,by simp[ar]⟩
  | succ i =>
   obtain⟨t,ht⟩:=ih r i (by simpa using hi) (λy hy=>h y (LX _ hy));refine⟨t,?_⟩;have hx:=h x LY;have e:((x::l).flatMap f++r).drop z=l.flatMap f++r:=by rw[AV,ar,←hx,List.drop_left]
   rw[Nat.mul_succ,Nat.add_comm,←hU,e];simpa using ht
theorem LA (f:Nat->List UInt8) (z n:Nat) (r:List UInt8) (i:Nat) (hi:i<n) (h:∀i,(f i).length=z):∃t,((List.range n).flatMap f++r).drop (z*i)=f i++t:=by
 obtain⟨t,ht⟩:=Py f z (List.range n) r i (by simpa using hi) (λx _=>h x);exact⟨t,by simpa using ht⟩
theorem Hn (y:QN):(N4 y).length=68:=by
 unfold N4;rw[Kh,YX _ _ 4 (λi _=>QO _ _),QO];rfl
theorem GE (y:QN) (i:Nat):(WH y i).length=2:=by unfold WH;split;rfl;split<;>rfl
theorem RZ (y:QN):(YK y).length=32:=by
 unfold YK;rw[YX _ _ 2 (λi _=>GE y i)];rfl
theorem DP (y:QN) (i:Nat):(cW y i).length=17:=by simp[cW,QO]
theorem Hs (y:QN):(UQ y).length=136:=by
 unfold UQ;rw[YX _ _ 17 (λi _=>DP y i)];rfl

def JG (s:List UInt8):Option Zs:=(Jm (some 2) s).bind λl=>(Zd (l.getD 0 [])).map λn=>(n,l.getD 1 [])
def JB (s:List UInt8):Option (List Zs):=(Jm none s).bind (ZR JG)
def Xy (pid par st:Int) (cpu sp fds:List UInt8) (mask:Bool) (code why num:Int):QN where
 pid:=pid
 parent:=par
 state:=st
 reg i:=Qz cpu (4*i) 4
 pc:=Qz cpu 64 4
 pis i:= !(Qw sp (2*i)==0)
 pwr i:=Qw sp (2*i)==2
 pfr i:=if Qw sp (2*i)=0 then 0 else Qw sp (2*i+1)
 fk i:=Qw fds (17*i)
 fn i:=wrap64 (Qz fds (17*i+1) 8)
 fp i:=wrap64 (Qz fds (17*i+9) 8)
 mask:=mask
 code:=code
 why:=why
 num:=num
def XD (s:List UInt8):Option QN:=(Jm (some 10) s).bind λl =>
 (Zd (l.getD 0 [])).bind λpid=>(Zd (l.getD 1 [])).bind λpar=>(Zd (l.getD 2 [])).bind λst =>
 (Y8 68 (l.getD 3 [])).bind λcpu=>(XG (l.getD 4 [])).bind λsp=>(Y8 136 (l.getD 5 [])).bind λfds =>
 (Vl (l.getD 6 [])).bind λmask=>(VL 4 (l.getD 7 [])).bind λcode=>(Zd (l.getD 8 [])).bind λwhy=>(VL 8 (l.getD 9 [])).map λnum =>
 Xy pid par st cpu sp fds mask code why num
def UZ (s:List UInt8):Option (List QN):=(Jm none s).bind (ZR XD)
def Jr:Sl:=⟨none,0,0⟩
def RO (s:List UInt8):Option (Q1 × QL):=(Jm (some 16) s).bind λl =>
 if l.getD 0 []=[104,105,98,50] then
  (VL 8 (l.getD 1 [])).bind λclock=>(Zd (l.getD 2 [])).bind λquantum=>(Zd (l.getD 3 [])).bind λcur=>(Zd (l.getD 4 [])).bind λleft=>(Zd (l.getD 5 [])).bind λnext =>
  (Zd (l.getD 7 [])).bind λnewPipe=>(Vl (l.getD 9 [])).bind λfin=>(VL 8 (l.getD 10 [])).bind λtold=>(Zd (l.getD 11 [])).bind λdleft =>
  (JB (l.getD 12 [])).bind λpe=>(JB (l.getD 13 [])).bind λdi=>(JB (l.getD 14 [])).bind λpi=>(UZ (l.getD 15 [])).map λpr =>
  (⟨clock,quantum,cur,left,Jr,Jr,next,l.getD 6 [],Jr,newPipe,l.getD 8 [],fin,told,Jr,Jr,dleft,Jr⟩,⟨[],pr,pi,[],pe,di⟩)
 else none

theorem PL {x:Zs}(h:Pu x.1) (hl:x.2.length<268435456):JG (Q2 x)=some x:=by
 unfold JG Q2;rw[Vu (some 2) [Lib.itoa x.1,x.2] (by
  intro s hs;rcases TA.1 hs with rfl|hs
  ·have:=JR h.1 h.2;omega
  ·rw[SJ.1 hs];exact hl) (λn hn=>by cases hn;rfl)]
 simp[J5 h]
def PR (l:List Zs):Prop:=∀x∈l,Pu x.1/\x.2.length<=1000
theorem Ww (n:Nat) (h:n<268435456):(Yo n).length<=4:=by
 rw[Yo];split;· simp
 rw[Yo];split;· simp
 rw[Yo];split;· simp
 rw[Yo];split;· simp
 omega
theorem VW {x:Zs}(h:Pu x.1) (hl:x.2.length<=1000):(Q2 x).length<=1028:=by
 unfold Q2;have:=JR h.1 h.2;have h1:=Ww (Lib.itoa x.1).length (by omega);have h2:=Ww x.2.length (by omega);simp only[YJ,RQ,SO,Kh];omega
theorem Xc {l:List Zs}(h:PR l):JB (J2 l)=some l:=by
 unfold JB J2;rw[Vu none _ (by
  intro s hs;obtain⟨x,hx,rfl⟩:=Pq.1 hs;have:=VW (h x hx).1 (h x hx).2;omega) (λn hn=>by cases hn)]
 exact SS JG Q2 l (λx hx=>PL (h x hx).1 (by have:=(h x hx).2;omega))
structure VX (y:QN):Prop where
 pid:Pu y.pid
 parent:Pu y.parent
 state:Pu y.state
 why:Pu y.why
 reg:∀i<16,0<=y.reg i/\y.reg i<4294967296
 pc:0<=y.pc/\y.pc<4294967296
 code:0<=y.code/\y.code<4294967296
 num:0<=y.num/\y.num<18446744073709551616
 page:∀i<16,0<=y.pfr i/\y.pfr i<256/\(y.pis i=false->y.pwr i=false/\y.pfr i=0)
 fk:∀i<8,0<=y.fk i/\y.fk i<256
 fn:∀i<8,0<=y.fn i/\y.fn i<9223372036854775808
 fp:∀i<8,0<=y.fp i/\y.fp i<9223372036854775808
theorem Uj {b t:List UInt8}{n:Int}{i z:Nat}(h:b.drop i=JA n z++t) (h0:0<=n) (h1:n<256^z):Qz b i z=n:=by
 unfold Qz;rw[h,List.take_append_of_le_length (by rw[QO];exact QW _),AX (by rw[QO];exact QW _),Mp n z h0 h1]
theorem YD {b t:List UInt8}{c:UInt8}{i:Nat}(h:b.drop i=c::t):Qw b i=(c.toNat:Int):=by
 unfold Qw;have:b[i]? =some c:=by
  have h2:(b.drop i)[0]? =some c:=by rw[h];rfl
  rwa [Fm,fO]at h2
 rw[ZG,this];rfl
theorem Te {n:Int}(h0:0<=n) (h1:n<256):((b8 n).toNat:Int)=n:=by
 have:=Kr n h0 (by omega);omega
theorem cM {y:QN}(h:VX y) {i:Nat}(hi:i<16):Qz (N4 y) (4*i) 4=y.reg i:=by
 obtain⟨t,ht⟩:=LA (λi=>JA (y.reg i) 4) 4 16 (JA y.pc 4) i hi (λi=>QO _ _);exact Uj ht (h.reg i hi).1 (h.reg i hi).2
theorem iR {y:QN}(h:VX y):Qz (N4 y) 64 4=y.pc:=by
 refine Uj (t:=[]) ?_ h.pc.1 h.pc.2;unfold N4;rw[List.drop_append_of_le_length (by rw[YX _ _ 4 (λi _=>QO _ _)];simp),List.drop_of_length_le (by rw[YX _ _ 4 (λi _=>QO _ _)];simp)];simp
theorem O4 (y:QN) {i:Nat}(hi:i<16):∃t,(YK y).drop (2*i)=WH y i++t:=by
 obtain⟨t,ht⟩:=LA (WH y) 2 16 [] i hi (GE y);exact⟨t,by rw[SO]at ht;exact ht⟩
theorem Vj {b:List UInt8}{p t:List UInt8}{i j:Nat}(h:b.drop i=p++t) (hj:p.length=j):b.drop (i+j)=t:=by
 rw[←hU,h,←hj,List.drop_left]
theorem R0 {y:QN}(h:VX y) {i:Nat}(hi:i<16):Qw (YK y) (2*i)=(if y.pis i=false then 0 else if y.pwr i=true then 2 else 1)/\Qw (YK y) (2*i+1)=y.pfr i:=by
 obtain⟨t,ht⟩:=O4 y hi;obtain⟨h0,h1,h2⟩:=h.page i hi;unfold WH at ht;split at ht
 ·rename_i e;rw[Qv e,(h2 e).2];exact⟨YD ht,YD (c:=0) (t:=t) (Vj (p:=[0]) ht rfl)⟩
 ·rename_i e;rw[Qr e];split at ht
  ·rename_i e2;rw[Qv e2];exact⟨YD ht,(YD (t:=t) (Vj (p:=[2]) ht rfl)).trans (Te h0 h1)⟩
  ·rename_i e2;rw[Qr e2];exact⟨YD ht,(YD (t:=t) (Vj (p:=[1]) ht rfl)).trans (Te h0 h1)⟩
theorem O6 {y:QN}(h:VX y):XF (YK y)=true:=by
 unfold XF;rw[Pv];intro i hi;obtain⟨e1,e2⟩:=R0 h (Pw.1 hi);rw[e1,e2];unfold GD;by_cases p:y.pis i=false
 ·rw[Qv p,((h.page i (Pw.1 hi)).2.2 p).2];rfl
 ·rw[Qr p];split<;>simp
theorem mq (y:QN) {i:Nat}(hi:i<8):∃t,(UQ y).drop (17*i)=cW y i++t:=by
 obtain⟨t,ht⟩:=LA (cW y) 17 8 [] i hi (DP y);exact⟨t,by rw[SO]at ht;exact ht⟩
theorem Fk {n:Int}(h0:0<=n) (h1:n<9223372036854775808):wrap64 n=n:=by unfold wrap64;omega
theorem cX {y:QN}(h:VX y) {i:Nat}(hi:i<8):Qw (UQ y) (17*i)=y.fk i/\wrap64 (Qz (UQ y) (17*i+1) 8)=y.fn i/\wrap64 (Qz (UQ y) (17*i+9) 8)=y.fp i:=by
 obtain⟨t,ht⟩:=mq y hi;unfold cW at ht;have k1:=h.fk i hi;have k2:=h.fn i hi;have k3:=h.fp i hi;have e1:(UQ y).drop (17*i+1)=JA (y.fn i) 8++(JA (y.fp i) 8++t):=by have:=Vj (p:=[b8 (y.fk i)]) (j:=1) (t:=JA (y.fn i) 8++(JA (y.fp i) 8++t)) (by simpa using ht) rfl;exact this
 have e2:(UQ y).drop (17*i+9)=JA (y.fp i) 8++t:=Vj (j:=8) e1 (QO _ _);refine⟨(YD (by simpa using ht)).trans (Te k1.1 k1.2),?_,?_⟩
 ·rw[Uj e1 k2.1 (by have:=k2.2;omega),Fk k2.1 k2.2]
 ·rw[Uj e2 k3.1 (by have:=k3.2;omega),Fk k3.1 k3.2]
theorem Mx (y:QN):(UC y).length=10:=rfl
theorem P8 (b:Bool):(Kv b).length=1:=by cases b<;>rfl
theorem Np {y:QN}(h:VX y):∀s∈UC y,s.length<=136:=by
 intro s hs;have a1:=JR h.pid.1 h.pid.2;have a2:=JR h.parent.1 h.parent.2;have a3:=JR h.state.1 h.state.2;have a4:=JR h.why.1 h.why.2;simp only[UC,TA,Td,L1]at hs;rcases hs with rfl|rfl|rfl|rfl|rfl|rfl|rfl|rfl|rfl|rfl
 ·omega
 ·omega
 ·omega
 ·rw[Hn];omega
 ·rw[RZ];omega
 ·rw[Hs];exact QW _
 ·rw[P8];omega
 ·rw[QO];omega
 ·omega
 ·rw[QO];omega
theorem Nq {y:QN}(h:VX y):(ZN y).length<=1400:=by
 have:=Np h;unfold ZN;have k:∀l:List (List UInt8),(∀s∈l,s.length<=136)->(Zi l).length<=l.length*140:=by
  intro l;induction l with
  | nil=>intro _;simp[RQ]
  | cons s l ih => intro hl;have h1:=hl s LY;have h2:=ih (λx hx=>hl x (LX _ hx));have h3:=Ww s.length (by omega);rw[YJ,Kh,Kh,YV,SL];omega
 have k2:=k _ this;rw[Mx]at k2;omega
theorem XU {α:Type} {f g:Nat->α}(n:Nat) (h:∀i<n,f i=g i):(List.range n).map f=(List.range n).map g :=
 List.map_congr_left (λi hi=>h i (Pw.1 hi))
theorem Nn {y z:QN}(h1:y.pid=z.pid) (h2:y.parent=z.parent) (h3:y.state=z.state) (h4:∀i<16,y.reg i=z.reg i) (h5:y.pc=z.pc)
  (h6:∀i<16,y.pis i=z.pis i/\y.pwr i=z.pwr i/\y.pfr i=z.pfr i) (h7:∀i<8,y.fk i=z.fk i/\y.fn i=z.fn i/\y.fp i=z.fp i)
  (h8:y.mask=z.mask) (h9:y.code=z.code) (DV:y.why=z.why) (mv:y.num=z.num):QJ y=QJ z:=by
 have e1:(List.range 16).map (λi=>Value.int .u32 (y.reg i))=(List.range 16).map (λi=>Value.int .u32 (z.reg i)):=XU 16 (λi hi=>by rw[h4 i hi]);have e2:(List.range 16).flatMap (WG y)=(List.range 16).flatMap (WG z):=by rw[A0,A0,XU (g:=WG z) 16 (λi hi=>by unfold WG;rw[(h6 i hi).1,(h6 i hi).2.1,(h6 i hi).2.2])]
 have e3:(List.range 8).flatMap (cU y)=(List.range 8).flatMap (cU z):=by rw[A0,A0,XU (g:=cU z) 8 (λi hi=>by unfold cU;rw[(h7 i hi).1,(h7 i hi).2.1,(h7 i hi).2.2])]
 unfold QJ;rw[e1,e2,e3,h1,h2,h3,h5,h8,h9,DV,mv]
theorem GC {y:QN}(h:VX y):∃z,XD (ZN y)=some z/\QJ z=QJ y:=by
 refine⟨Xy y.pid y.parent y.state (N4 y) (YK y) (UQ y) y.mask y.code y.why y.num,?_,?_⟩
 ·unfold XD ZN;rw[Vu (some 10) (UC y) (λs hs=>by have:=Np h s hs;omega) (λn hn=>by cases hn;rfl)];have e3:Y8 68 (N4 y)=some (N4 y):=Qv (Hn y);have e4:XG (YK y)=some (YK y):=Qv ⟨RZ y,O6 h⟩;have e5:Y8 136 (UQ y)=some (UQ y):=Qv (Hs y);simp[UC,J5 h.pid,J5 h.parent,J5 h.state,J5 h.why,e3,e4,e5,NG,Uk (z:=4) h.code.1 h.code.2,Uk (z:=8) h.num.1 h.num.2]
 ·refine Nn rfl rfl rfl (λi hi=>cM h hi) (iR h) (λi hi=>?_) (λi hi=>cX h hi) rfl rfl rfl rfl;obtain⟨e1,e2⟩:=R0 h hi;obtain⟨_,_,p3⟩:=h.page i hi;simp only[Xy,e1,e2];by_cases p:y.pis i=false
  ·obtain⟨p4,p5⟩:=p3 p;simp[p,p4,p5]
  ·rw[Qr p];have p':y.pis i=true:=by simpa using p
   by_cases q:y.pwr i=true
   ·simp[p',q]
   ·simp[p',q]
structure WT (m z:Q1):Prop where
 clock:m.clock=z.clock
 quantum:m.quantum=z.quantum
 cur:m.cur=z.cur
 left:m.left=z.left
 next:m.next=z.next
 init:m.init=z.init
 newPipe:m.newPipe=z.newPipe
 inn:m.inn=z.inn
 fin:m.fin=z.fin
 told:m.told=z.told
 dleft:m.dleft=z.dleft
structure Xf (m:Q1) (d:QL):Prop where
 clock:0<=m.clock/\m.clock<18446744073709551616
 told:0<=m.told/\m.told<18446744073709551616
 quantum:Pu m.quantum
 cur:Pu m.cur
 left:Pu m.left
 next:Pu m.next
 newPipe:Pu m.newPipe
 dleft:Pu m.dleft
 init:m.init.length<=100000
 inn:m.inn.length<=100000
 pe:PR d.pe
 di:PR d.di
 pi:PR d.pi
 pr:∀y∈d.pr,VX y
 pel:d.pe.length<=1000
 dil:d.di.length<=1000
 pil:d.pi.length<=1000
 prl:d.pr.length<=1000
theorem Ci (z:Nat) (hz:z<=100000) (l:List (List UInt8)) (h:∀s∈l,s.length<=z):(Zi l).length<=l.length*(z+4):=by
 induction l with
 | nil=>simp[RQ]
 | cons s l ih => have h1:=h s LY;have h2:=ih (λx hx=>h x (LX _ hx));have h3:=Ww s.length (by omega);rw[YJ,Kh,Kh,YV,SL];omega
theorem KZ {l:List Zs}(h:PR l) (hl:l.length<=1000):(J2 l).length<=1032000:=by
 have:=Ci 1028 (by omega) (l.map Q2) (λs hs=>by
  obtain⟨x,hx,rfl⟩:=Pq.1 hs;exact VW (h x hx).1 (h x hx).2)
 rw[Fo]at this;unfold J2;omega
theorem EK {l:List QN}(h:∀y∈l,VX y) (hl:l.length<=1000):(Zi (l.map ZN)).length<=1404000:=by
 have:=Ci 1400 (by omega) (l.map ZN) (λs hs=>by
  obtain⟨x,hx,rfl⟩:=Pq.1 hs;exact Nq (h x hx))
 rw[Fo]at this;omega
theorem Nr {m:Q1}{d:QL}(h:Xf m d):∀s∈V9 m d,s.length<=1404000:=by
 intro s hs;have a1:=JR h.quantum.1 h.quantum.2;have a2:=JR h.cur.1 h.cur.2;have a3:=JR h.left.1 h.left.2;have a4:=JR h.next.1 h.next.2;have a5:=JR h.newPipe.1 h.newPipe.2;have a6:=JR h.dleft.1 h.dleft.2;have b1:=KZ h.pe h.pel;have b2:=KZ h.di h.dil;have b3:=KZ h.pi h.pil;have b4:=EK h.pr h.prl;have c1:=h.init;have c2:=h.inn;simp only[V9,TA,Td,L1]at hs;rcases hs with rfl|rfl|rfl|rfl|rfl|rfl|rfl|rfl|rfl|rfl|rfl|rfl|rfl|rfl|rfl|rfl
 ·simp
 ·rw[QO];omega
 ·omega
 ·omega
 ·omega
 ·omega
 ·omega
 ·omega
 ·omega
 ·rw[P8];omega
 ·rw[QO];omega
 ·omega
 ·omega
 ·omega
 ·omega
 ·exact b4
theorem GN {m:Q1}{d:QL}(h:Xf m d):∃z e,RO (Jy m d)=some (z,e)/\WT z m/\e.pr.map QJ=d.pr.map QJ/\e.pi=d.pi/\e.pe=d.pe/\e.di=d.di:=by
 obtain⟨l',h1,h2⟩:=SU XD ZN QJ d.pr (λx hx=>GC (h.pr x hx));refine⟨⟨m.clock,m.quantum,m.cur,m.left,Jr,Jr,m.next,m.init,Jr,m.newPipe,m.inn,m.fin,m.told,Jr,Jr,m.dleft,Jr⟩,⟨[],l',d.pi,[],d.pe,d.di⟩,?_,⟨rfl,rfl,rfl,rfl,rfl,rfl,rfl,rfl,rfl,rfl,rfl⟩,h2,rfl,rfl,rfl⟩;unfold RO Jy;rw[Vu (some 16) (V9 m d) (λs hs=>by have:=Nr h s hs;omega) (λn hn=>by cases hn;rfl)];have e1:UZ (Zi (d.pr.map ZN))=some l':=by
  unfold UZ;rw[Vu none _ (λs hs=>by
   obtain⟨x,hx,rfl⟩:=Pq.1 hs;have:=Nq (h.pr x hx);omega) (λn hn=>by cases hn)]
  exact h1
 simp[V9,Uk (z:=8) h.clock.1 h.clock.2,Uk (z:=8) h.told.1 h.told.2,J5 h.quantum,J5 h.cur,J5 h.left,J5 h.next,J5 h.newPipe,J5 h.dleft,NG,Xc h.pe,Xc h.di,Xc h.pi,e1]
end Go.Proofs.YtfaplefkakpgcaaGreatDoor
