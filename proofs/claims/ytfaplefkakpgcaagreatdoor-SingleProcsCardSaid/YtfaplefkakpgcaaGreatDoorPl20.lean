import Derived.Test.YtfaplefkakpgcaaGreatDoorPl17
import Derived.Test.YtfaplefkakpgcaaGreatDoorPl19
set_option linter.unusedVariables false
set_option linter.unusedSimpArgs false
set_option maxHeartbeats 32000000
set_option maxRecDepth 100000
namespace Go.Proofs.YtfaplefkakpgcaaGreatDoor
open Go.RowKit
def Q3 (x:ZY):List UInt8:=Yt [Lib.itoa x.1,x.2]
def Jq (l:List ZY):List UInt8:=Yt (l.map Q3)
def GF (y:QF):List UInt8:=(List.range 16).flatMap (λi=>Jh (y.reg i) 4)++Jh y.pc 4
def UP (y:QF) (i:Nat):List UInt8:=if y.pis i=false then [0,0] else if y.pwr i=true then [2,b8 (y.pfr i)] else [1,b8 (y.pfr i)]
def KQ (y:QF):List UInt8:=(List.range 16).flatMap (UP y)
def O0 (y:QF) (i:Nat):List UInt8:=b8 (y.fk i)::(Jh (y.fn i) 8++Jh (y.fp i) 8)
def GJ (y:QF):List UInt8:=(List.range 8).flatMap (O0 y)
def U3 (y:QF):List (List UInt8):=[Lib.itoa y.pid,Lib.itoa y.parent,Lib.itoa y.state,GF y,KQ y,GJ y,Vo y.mask,Jh y.code 4,Lib.itoa y.why,Jh y.num 8]
def ZB (y:QF):List UInt8:=Yt (U3 y)
def NL (m:QO) (d:Qz):List (List UInt8) :=
 [[104,105,98,50],Jh m.clock 8,Lib.itoa m.quantum,Lib.itoa m.cur,Lib.itoa m.left,Lib.itoa m.next,m.init,Lib.itoa m.newPipe,m.inn,Vo m.fin,Jh m.told 8,Lib.itoa m.dleft,Jq d.pe,Jq d.di,Jq d.pi,Yt (d.pr.map ZB)]
def Z7 (m:QO) (d:Qz):List UInt8:=Yt (NL m d)
theorem YG {α:Type} (l:List α) (f:α->List UInt8) (z:Nat) (h:∀x∈l,(f x).length=z):(l.flatMap f).length=l.length*z:=by
 induction l with
 | nil=>simp
 | cons x l ih=>rw[bL,VL,h x Gq,ih (λy hy=>h y (EL _ hy)),XN,tF];omega
theorem ix (y:QF):(GF y).length=68:=by
 unfold GF;rw[VL,YG _ _ 4 (λi _=>Jo _ _),Jo];rfl
theorem Bz (y:QF) (i:Nat):(UP y i).length=2:=by unfold UP;split;rfl;split<;>rfl
theorem I8 (y:QF):(KQ y).length=32:=by
 unfold KQ;rw[YG _ _ 2 (λi _=>Bz y i)];rfl
theorem O1 (y:QF) (i:Nat):(O0 y i).length=17:=by simp[O0,Jo]
theorem jE (y:QF):(GJ y).length=136:=by
 unfold GJ;rw[YG _ _ 17 (λi _=>O1 y i)];rfl

def Jm (s:List UInt8):Option ZY:=(Ql (some 2) s).bind λl=>(QZ (l.getD 0 [])).map λn=>(n,l.getD 1 [])
def QK (s:List UInt8):Option (List ZY):=(Ql none s).bind (Zp Jm)
def XY (pid par st:Int) (cpu sp fds:List UInt8) (mask:Bool) (code why num:Int):QF where
 pid:=pid
 parent:=par
 state:=st
 reg i:=QE cpu (4*i) 4
 pc:=QE cpu 64 4
 pis i:= !(QG sp (2*i)==0)
 pwr i:=QG sp (2*i)==2
 pfr i:=if QG sp (2*i)=0 then 0 else QG sp (2*i+1)
 fk i:=QG fds (17*i)
 fn i:=wrap64 (QE fds (17*i+1) 8)
 fp i:=wrap64 (QE fds (17*i+9) 8)
 mask:=mask
 code:=code
 why:=why
 num:=num
def JV (s:List UInt8):Option QF:=(Ql (some 10) s).bind λl =>
 (QZ (l.getD 0 [])).bind λpid=>(QZ (l.getD 1 [])).bind λpar=>(QZ (l.getD 2 [])).bind λst =>
 (Zx 68 (l.getD 3 [])).bind λcpu=>(JQ (l.getD 4 [])).bind λsp=>(Zx 136 (l.getD 5 [])).bind λfds =>
 (ZH (l.getD 6 [])).bind λmask=>(ZF 4 (l.getD 7 [])).bind λcode=>(QZ (l.getD 8 [])).bind λwhy=>(ZF 8 (l.getD 9 [])).map λnum =>
 XY pid par st cpu sp fds mask code why num
def VE (s:List UInt8):Option (List QF):=(Ql none s).bind (Zp JV)
def Q1:Sl:=⟨none,0,0⟩
def Ye (s:List UInt8):Option (QO × Qz):=(Ql (some 16) s).bind λl =>
 if l.getD 0 []=[104,105,98,50] then
  (ZF 8 (l.getD 1 [])).bind λclock=>(QZ (l.getD 2 [])).bind λquantum=>(QZ (l.getD 3 [])).bind λcur=>(QZ (l.getD 4 [])).bind λleft=>(QZ (l.getD 5 [])).bind λnext =>
  (QZ (l.getD 7 [])).bind λnewPipe=>(ZH (l.getD 9 [])).bind λfin=>(ZF 8 (l.getD 10 [])).bind λtold=>(QZ (l.getD 11 [])).bind λdleft =>
  (QK (l.getD 12 [])).bind λpe=>(QK (l.getD 13 [])).bind λdi=>(QK (l.getD 14 [])).bind λpi=>(VE (l.getD 15 [])).map λpr =>
  (⟨clock,quantum,cur,left,Q1,Q1,next,l.getD 6 [],Q1,newPipe,l.getD 8 [],fin,told,Q1,Q1,dleft,Q1⟩,⟨[],pr,pi,[],pe,di⟩)
 else none

def MV (l:List ZY):Prop:=∀x∈l,Up x.1/\x.2.length<=1000
theorem TS (n:Nat) (h:n<268435456):(Xt n).length<=4:=by
 rw[Xt];split;· simp
 rw[Xt];split;· simp
 rw[Xt];split;· simp
 rw[Xt];split;· simp
 omega
theorem Km {x:ZY}(h:Up x.1) (hl:x.2.length<=1000):(Q3 x).length<=1028:=by
 unfold Q3;have:=JG h.1 h.2;have h1:=TS (Lib.itoa x.1).length (by omega);have h2:=TS x.2.length (by omega);simp only[Ng,Hh,iP,VL];omega
structure Wg (y:QF):Prop where
 pid:Up y.pid
 parent:Up y.parent
 state:Up y.state
 why:Up y.why
 reg:∀i<16,0<=y.reg i/\y.reg i<4294967296
 pc:0<=y.pc/\y.pc<4294967296
 code:0<=y.code/\y.code<4294967296
 num:0<=y.num/\y.num<18446744073709551616
 page:∀i<16,0<=y.pfr i/\y.pfr i<256/\(y.pis i=false->y.pwr i=false/\y.pfr i=0)
 fk:∀i<8,0<=y.fk i/\y.fk i<256
 fn:∀i<8,0<=y.fn i/\y.fn i<9223372036854775808
 fp:∀i<8,0<=y.fp i/\y.fp i<9223372036854775808
theorem ns {n:Int}(h0:0<=n) (h1:n<256):((b8 n).toNat:Int)=n:=by
 have:=Tw n h0 (by omega);omega
theorem R6 (y:QF):(U3 y).length=10:=rfl
theorem Fx (b:Bool):(Vo b).length=1:=by cases b<;>rfl
theorem R4 {y:QF}(h:Wg y):∀s∈U3 y,s.length<=136:=by
 intro s hs;have a1:=JG h.pid.1 h.pid.2;have a2:=JG h.parent.1 h.parent.2;have a3:=JG h.state.1 h.state.2;have a4:=JG h.why.1 h.why.2;simp only[U3,Pm,Rw,Fe]at hs;rcases hs with rfl|rfl|rfl|rfl|rfl|rfl|rfl|rfl|rfl|rfl
 ·omega
 ·omega
 ·omega
 ·rw[ix];omega
 ·rw[I8];omega
 ·rw[jE];exact Q4 _
 ·rw[Fx];omega
 ·rw[Jo];omega
 ·omega
 ·rw[Jo];omega
theorem R7 {y:QF}(h:Wg y):(ZB y).length<=1400:=by
 have:=R4 h;unfold ZB;have k:∀l:List (List UInt8),(∀s∈l,s.length<=136)->(Yt l).length<=l.length*140:=by
  intro l;induction l with
  | nil=>intro _;simp[Hh]
  | cons s l ih => intro hl;have h1:=hl s Gq;have h2:=ih (λx hx=>hl x (EL _ hx));have h3:=TS s.length (by omega);rw[Ng,VL,VL,XN,tF];omega
 have k2:=k _ this;rw[R6]at k2;omega
theorem Kv {α:Type} {f g:Nat->α}(n:Nat) (h:∀i<n,f i=g i):(List.range n).map f=(List.range n).map g :=
 zQ (λi hi=>h i (Mo.1 hi))
theorem Ed {y z:QF}(h1:y.pid=z.pid) (h2:y.parent=z.parent) (h3:y.state=z.state) (h4:∀i<16,y.reg i=z.reg i) (h5:y.pc=z.pc)
  (h6:∀i<16,y.pis i=z.pis i/\y.pwr i=z.pwr i/\y.pfr i=z.pfr i) (h7:∀i<8,y.fk i=z.fk i/\y.fn i=z.fn i/\y.fp i=z.fp i)
  (h8:y.mask=z.mask) (h9:y.code=z.code) (GL:y.why=z.why) (oY:y.num=z.num):Qq y=Qq z:=by
 have e1:(List.range 16).map (λi=>Value.int .u32 (y.reg i))=(List.range 16).map (λi=>Value.int .u32 (z.reg i)):=Kv 16 (λi hi=>by rw[h4 i hi]);have e2:(List.range 16).flatMap (Kf y)=(List.range 16).flatMap (Kf z):=by rw[fq,fq,Kv (g:=Kf z) 16 (λi hi=>by unfold Kf;rw[(h6 i hi).1,(h6 i hi).2.1,(h6 i hi).2.2])]
 have e3:(List.range 8).flatMap (GH y)=(List.range 8).flatMap (GH z):=by rw[fq,fq,Kv (g:=GH z) 8 (λi hi=>by unfold GH;rw[(h7 i hi).1,(h7 i hi).2.1,(h7 i hi).2.2])]
 unfold Qq;rw[e1,e2,e3,h1,h2,h3,h5,h8,h9,GL,oY]
structure Zv (m z:QO):Prop where
 clock:m.clock=z.clock
 quantum:m.quantum=z.quantum
 cur:m.cur=z.cur
 left:m.left=z.left
 next:m.next=z.next
 init:m.init=z.init
 newPipe:m.newPipe=z.newPipe
 inn:m.inn=z.inn
 fin:m.fin=z.fin
 told:m.told=z.told
 dleft:m.dleft=z.dleft
structure Y4 (m:QO) (d:Qz):Prop where
 clock:0<=m.clock/\m.clock<18446744073709551616
 told:0<=m.told/\m.told<18446744073709551616
 quantum:Up m.quantum
 cur:Up m.cur
 left:Up m.left
 next:Up m.next
 newPipe:Up m.newPipe
 dleft:Up m.dleft
 init:m.init.length<=100000
 inn:m.inn.length<=100000
 pe:MV d.pe
 di:MV d.di
 pi:MV d.pi
 pr:∀y∈d.pr,Wg y
 pel:d.pe.length<=1000
 dil:d.di.length<=1000
 pil:d.pi.length<=1000
 prl:d.pr.length<=1000
theorem aa (z:Nat) (hz:z<=100000) (l:List (List UInt8)) (h:∀s∈l,s.length<=z):(Yt l).length<=l.length*(z+4):=by
 induction l with
 | nil=>simp[Hh]
 | cons s l ih => have h1:=h s Gq;have h2:=ih (λx hx=>h x (EL _ hx));have h3:=TS s.length (by omega);rw[Ng,VL,VL,XN,tF];omega
theorem WL {l:List ZY}(h:MV l) (hl:l.length<=1000):(Jq l).length<=1032000:=by
 have:=aa 1028 (by omega) (l.map Q3) (λs hs=>by
  obtain⟨x,hx,rfl⟩:=AV.1 hs;exact Km (h x hx).1 (h x hx).2)
 rw[AR]at this;unfold Jq;omega
theorem Iy {l:List QF}(h:∀y∈l,Wg y) (hl:l.length<=1000):(Yt (l.map ZB)).length<=1404000:=by
 have:=aa 1400 (by omega) (l.map ZB) (λs hs=>by
  obtain⟨x,hx,rfl⟩:=AV.1 hs;exact R7 (h x hx))
 rw[AR]at this;omega
theorem Ek {m:QO}{d:Qz}(h:Y4 m d):∀s∈NL m d,s.length<=1404000:=by
 intro s hs;have a1:=JG h.quantum.1 h.quantum.2;have a2:=JG h.cur.1 h.cur.2;have a3:=JG h.left.1 h.left.2;have a4:=JG h.next.1 h.next.2;have a5:=JG h.newPipe.1 h.newPipe.2;have a6:=JG h.dleft.1 h.dleft.2;have b1:=WL h.pe h.pel;have b2:=WL h.di h.dil;have b3:=WL h.pi h.pil;have b4:=Iy h.pr h.prl;have c1:=h.init;have c2:=h.inn;simp only[NL,Pm,Rw,Fe]at hs;rcases hs with rfl|rfl|rfl|rfl|rfl|rfl|rfl|rfl|rfl|rfl|rfl|rfl|rfl|rfl|rfl|rfl
 ·simp
 ·rw[Jo];omega
 ·omega
 ·omega
 ·omega
 ·omega
 ·omega
 ·omega
 ·omega
 ·rw[Fx];omega
 ·rw[Jo];omega
 ·omega
 ·omega
 ·omega
 ·omega
 ·exact b4
end Go.Proofs.YtfaplefkakpgcaaGreatDoor
