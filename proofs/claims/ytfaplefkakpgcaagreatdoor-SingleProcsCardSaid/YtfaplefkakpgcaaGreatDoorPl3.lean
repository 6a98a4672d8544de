import Derived.Test.YtfaplefkakpgcaaGreatDoorPl2
import Derived.SizedLaws
import Derived.Deep.Slices
import Derived.DeepKeys
import Derived.Deep.Quiet
set_option linter.unusedVariables false
set_option linter.unusedSimpArgs false
set_option maxHeartbeats 32000000
set_option maxRecDepth 100000
namespace Go.Proofs.YtfaplefkakpgcaaGreatDoor
open Go.ChangeShapes Go.WideShapes Go.ChangeAt Go.RowKit
def Zl (P:Program):Nat->TypeId->List (Nat × TypeId)
 | 0,_=>[]
 | n+1,t=>match P.underlying t with
  | some (.struct fs)=>fs.toList.flatMap λf=>(Zl P n f.type).filterMap λp=>if p.1<P.cellsOf f.type then some (f.offset+p.1,p.2) else none
  | some (.array k e)=>(List.range k).flatMap λi=>(Zl P n e).filterMap λp=>if p.1<P.cellsOf e then some (i*P.cellsOf e+p.1,p.2) else none
  | _=>[(0,t)]
section
variable {H:Type}{enc:TypeId × Value->H}{P:Program}{w:World}{base:Nat}{spare:Nat->Bool}{held:Bool}
theorem Xf:∀(n:Nat) {t t':TypeId}{o fuel:Nat}{cs:List Value}{x:DataW H × List MemPlace}{v:Value},(o,t')∈Zl P n t->DataW.trod enc P w base spare held fuel t cs=some x->cs[o]? =some v->
  ∃fuel' cs' x',DataW.trod enc P w base spare held fuel' t' cs'=some x'/\cs'[0]? =some v
 | 0,_,_,_,_,_,_,_,h,_,_=>by simp[Zl]at h
 | n+1,t,t',o,fuel,cs,x,v,h,ht,hv=>by
  rw[Zl]at h;split at h
  ·rename_i fs hu;obtain⟨xs,m,_,_,_,mn,hf⟩:=DataW.trod_struct hu ht;obtain⟨f,hfm,hp⟩:=nc.1 h;obtain⟨p,RL,N1⟩:=List.mem_filterMap.1 hp;obtain⟨i,hi,hif⟩:=Fd hfm;have hi':i<fs.size:=by simpa using hi
   have h1:=hf i f (by rw[Wd4 hi'];exact congrArg some (by simpa using hif));rw[ZX (by omega)]at h1;split at N1
   ·rename_i Qn;injection N1 with N1;injection N1 with e1 e2;subst e1;refine Xf n (t:=f.type) (o:=p.1) (by rw[←e2];exact RL) h1 ?_;rw[Cb,QN Qn,EM];exact hv
   ·cases N1
  ·rename_i k e hu;obtain⟨xs,m,_,_,_,mn,hf⟩:=DataW.trod_array hu ht;obtain⟨i,him,hp⟩:=nc.1 h;obtain⟨p,RL,N1⟩:=List.mem_filterMap.1 hp;have hi:i<k:=Mo.1 him;have h1:=hf i hi;rw[ZX (by omega)]at h1;split at N1
   ·rename_i Qn;injection N1 with N1;injection N1 with e1 e2;subst e1;refine Xf n (t:=e) (o:=p.1) (by rw[←e2];exact RL) h1 ?_;rw[Cb,QN Qn,EM];exact hv
   ·cases N1
  ·obtain⟨rfl,rfl⟩:o=0/\t'=t:=by simpa using h
   exact⟨fuel,cs,x,ht,hv⟩
theorem Ub {n:Nat}{t t':TypeId}{o fuel:Nat}{cs:List Value}{x:DataW H × List MemPlace}{k:IntKind}(hu:P.underlying t'=some (.int k)) (h:(Zl P n t).contains (o,t')=true) (ht:DataW.trod enc P w base spare held fuel t cs=some x) (hl:o<cs.length) :
  ∃m,cs[o]? =some (.int k m)/\(Lit.int k m).wf=true:=by
 obtain⟨f',cs',x',h1,h2⟩:=Xf n (nW.1 h) ht (ZX hl);obtain⟨m,rfl,_,hw⟩:=DataW.trod_int hu h1;exact⟨m,(ZX hl).trans h2.symm,hw⟩
theorem dU {n:Nat}{t t':TypeId}{o fuel:Nat}{cs:List Value}{x:DataW H × List MemPlace}(hu:P.underlying t'=some .bool) (h:(Zl P n t).contains (o,t')=true) (ht:DataW.trod enc P w base spare held fuel t cs=some x) (hl:o<cs.length) :
  ∃m,cs[o]? =some (.bool m):=by
 obtain⟨f',cs',x',h1,h2⟩:=Xf n (nW.1 h) ht (ZX hl);obtain⟨m,rfl,_⟩:=DataW.trod_bool hu h1;exact⟨m,(ZX hl).trans h2.symm⟩
theorem Wu {n:Nat}{t t':TypeId}{o fuel:Nat}{cs:List Value}{x:DataW H × List MemPlace}(hu:P.underlying t'=some .string) (h:(Zl P n t).contains (o,t')=true) (ht:DataW.trod enc P w base spare held fuel t cs=some x) (hl:o<cs.length) :
  ∃m:List UInt8,cs[o]? =some (.string (Qb m))/\m.length<=maxLen:=by
 obtain⟨f',cs',x',h1,h2⟩:=Xf n (nW.1 h) ht (ZX hl);obtain⟨m,rfl,_,hw⟩:=DataW.trod_string hu h1;exact⟨m.data.toList,(ZX hl).trans h2.symm,by have:=Qh m.data.toList;rw[←ux]at this;omega⟩
def Q6 {α:Type} (f:α->List Value) (w:World) (A:Option Addr) (n:Nat) (l:List α):Prop :=
 n=l.length/\(0<n->∃b o,A=some ⟨b,o,none⟩/\∀j v,(l.flatMap f)[j]? =some v->w.cell? ⟨b,o+j,none⟩=some v)
theorem Q6.ext {α:Type} {f:α->List Value}{w w':World}{A:Option Addr}{n:Nat}{l:List α}(h:Q6 f w A n l) (k:Ext w w'):Q6 f w' A n l :=
 ⟨h.1,λhn=>by obtain⟨b,o,e,hc⟩:=h.2 hn;exact⟨b,o,e,λj v hj=>k.keep (hc j v hj)⟩⟩
theorem TE {α:Type} (f:α->List Value) (z:Nat):∀(l:List α),(∀x∈l,(f x).length=z)->(l.flatMap f).length=l.length*z
 | [],_=>by simp
 | x::l,h=>by rw[bL,VL,h x (by simp),TE f z l (λy hy=>h y (by simp[hy])),XN,tF];omega
theorem VN {α:Type} (f:α->List Value) (z:Nat):∀(l:List α),(∀x∈l,(f x).length=z)->∀(j:Nat) (h:j<l.length) (i:Nat),i<z->(l.flatMap f)[j*z+i]? =(f l[j])[i]?
 | x::l,hz,0,_,i,hi=>by rw[bL,Nat.zero_mul,Nz,iM (by rw[hz x (by simp)];exact hi)];rfl
 | x::l,hz,j+1,h,i,hi=>by have hx:=hz x (by simp);rw[bL,Wdt (by rw[hx,tF];omega),hx,show(j+1)*z+i-z=j*z+i by rw[tF];omega];exact VN f z l (λy hy=>hz y (by simp[hy])) j (by simpa using h) i hi
theorem Q6.cell {α:Type} {f:α->List Value}{w:World}{b o n:Nat}{l:List α}{z:Nat}(hc:∀j v,(l.flatMap f)[j]? =some v->w.cell? ⟨b,o+j,none⟩=some v) (hz:∀x∈l,(f x).length=z) {k:Nat}(hk:k<l.length) {i:Nat}(hi:i<z) {v:Value}(hv:(f l[k])[i]? =some v) :
  w.cell? ⟨b,o+(k*z+i),none⟩=some v:=hc _ _ ((VN f z l hz k hk i hi).trans hv)
theorem DA {α:Type} [Inhabited α] (f:α->List Value) {z:Nat}{T E:TypeId}{fuel:Nat}{v:Value}{x:DataW H × List MemPlace}(hT:P.underlying T=some (.slice E)) (hE:P.cellsOf E=z) (hz0:0<z)
  (U7:∀(m:Nat) (cs:List Value) (y:DataW H × List MemPlace),cs.length=z->DataW.trod enc P w base spare held m E cs=some y->∃a:α,cs=f a)
  (h:DataW.trod enc P w base spare held fuel T [v]=some x) :
  ∃A n c l,v=.slice A n c/\(A=none->n=0/\c=0)/\(n<=maxLen/\n<=c)/\Q6 f w A n l/\∀a∈l,(f a).length=z:=by
 rcases Deep.open_slice hT h with⟨Ll,hx⟩|⟨a,len,cap,m,n,D,Pl,Ll,hb,hl,hm,hmm,hx,hel⟩
 ·injection Ll with Ll _;exact⟨none,0,0,[],Ll,λ_=>⟨rfl,rfl⟩,⟨by unfold maxLen;omega,by omega⟩,⟨rfl,λh=>by omega⟩,λa h=>by cases h⟩
 ·injection Ll with Ll _;have hlm:len<=m:=by rw[hmm];split<;>omega
  have each:∀i,i<len->∃y:α,w.cells? base (a.add (i*z)) z=some (f y):=λi hi=>by obtain⟨cs',h1,h2⟩:=hel i (by omega);rw[hE]at h1;obtain⟨y,rfl⟩:=U7 _ _ _ (zV h1).2.1 h2;exact⟨y,h1⟩
  obtain⟨q,hq⟩:=Deep.choose_lt each;have YW:∀y∈(List.range len).map q,(f y).length=z:=λy hy=>by obtain⟨i,hi,rfl⟩:=AV.1 hy;exact(zV (hq i (Mo.1 hi))).2.1
  refine⟨some a,len,cap,(List.range len).map q,Ll,(λh=>by cases h),⟨by omega,by omega⟩,⟨by simp,λhn=>?_⟩,YW⟩;obtain⟨b,off,spot⟩:=a;have Qb8:spot=none:=by have:=(zV (hq 0 hn)).2.2 0 (by omega);rw[ZX (by rw[(zV (hq 0 hn)).2.1];omega)]at this;simpa[Addr.add]using World.cell?_spot this
  subst Qb8;refine⟨b,off,rfl,λj u hj=>?_⟩;have wQ:j<len*z:=by have:=(Ax.1 hj).1;rw[TE f z _ YW]at this;simpa using this
  have hk:j/z<len:=Nat.div_lt_of_lt_mul (by rw[Nat.mul_comm];exact wQ);have hr:j%z<z:=Nat.mod_lt _ hz0;have ej:j/z*z+j%z=j:=by rw[Nat.mul_comm];exact Nat.div_add_mod j z
  have e:=VN f z ((List.range len).map q) YW (j/z) (by simpa using hk) (j%z) hr;rw[ej,hj]at e;have hc:=(zV (hq (j/z) hk)).2.2 (j%z) hr;rw[Deep.add_add,add_plain]at hc;rw[show off+j=off+(j/z*z+j%z) by rw[ej],hc];simp at e;exact e.symm
end
end Go.Proofs.YtfaplefkakpgcaaGreatDoor
namespace Go.Proofs.YtfaplefkakpgcaaGreatDoor
open Go.Proofs.Tryz
open Go.ChangeShapes Go.WideShapes Go.ChangeAt Go.RowKit
def O8:Value->Int
 | .int _ m=>m
 | _=>0
def gbV:Value->Bool
 | .bool b=>b
 | _=>false
def Kh:Option IntKind->Value->Value
 | some k,v=>.int k (O8 v)
 | none,v=>.bool (gbV v)
def SM (P:Program) (t:TypeId):Option (Option IntKind):=match P.underlying t with
 | some (.int k)=>some (some k)
 | some .bool=>some none
 | _=>none
section
variable {H:Type}{enc:TypeId × Value->H}{P:Program}{w:World}{base:Nat}{spare:Nat->Bool}{held:Bool}
theorem dV {n:Nat}{t t':TypeId}{o fuel:Nat}{cs:List Value}{x:DataW H × List MemPlace}{q:Option IntKind}(hu:SM P t'=some q) (h:(o,t')∈Zl P n t) (ht:DataW.trod enc P w base spare held fuel t cs=some x) (hl:o<cs.length) :
  cs[o]? =some (Kh q (cs.getD o undef)):=by
 obtain⟨f',cs',x',h1,h2⟩:=Xf n h ht (ZX hl);rw[Yb,ZX hl];unfold SM at hu;split at hu
 ·rename_i k hk;injection hu with hu;subst hu;obtain⟨m,rfl,_,hw⟩:=DataW.trod_int hk h1;have e:cs[o]=.int k m:=by simpa using h2.symm
  rw[e];rfl
 ·rename_i hk;injection hu with hu;subst hu;obtain⟨m,rfl,_⟩:=DataW.trod_bool hk h1;have e:cs[o]=.bool m:=by simpa using h2.symm
  rw[e];rfl
 ·cases hu
def aK (P:Program) (n:Nat) (t:TypeId) (ks:List (Option IntKind)):Bool :=
 (List.range ks.length).all λi=>match (Zl P n t)[i]?,ks[i]? with
  | some (o,t'),some q=>o==i&&(match SM P t' with|some q'=>q'==q|none=>false)
  | _,_=>false
theorem jw {n:Nat}{t:TypeId}{fuel:Nat}{cs:List Value}{x:DataW H × List MemPlace}(ks:List (Option IntKind)) (hk:aK P n t ks=true) (ht:DataW.trod enc P w base spare held fuel t cs=some x) (hl:cs.length=ks.length) :
  cs=(List.range ks.length).map λi=>Kh (ks.getD i none) (cs.getD i undef):=by
 apply zX;intro i;by_cases hi:i<ks.length
 ·have h1:=Rj.1 hk i (Mo.2 hi);rw[fo,mS hi];split at h1
  ·rename_i o t' q e1 e2;simp only[Vg,ng]at h1;obtain⟨rfl,h2⟩:=h1;split at h2
   ·rename_i q' e3;have h3:q'=q:=by simpa using h2
    subst h3;have:=dV e3 (Wfm e1) ht (by omega);rw[this];simp[Yb,e2]
   ·cases h2
  ·cases h1
 ·rw[mQ (by omega),mQ (by simp;omega)]
end
structure QF where
 pid:Int
 parent:Int
 state:Int
 reg:Nat->Int
 pc:Int
 pis:Nat->Bool
 pwr:Nat->Bool
 pfr:Nat->Int
 fk:Nat->Int
 fn:Nat->Int
 fp:Nat->Int
 mask:Bool
 code:Int
 why:Int
 num:Int
instance prInh:Inhabited QF:=⟨⟨0,0,0,λ_=>0,0,λ_=>false,λ_=>false,λ_=>0,λ_=>0,λ_=>0,λ_=>0,false,0,0,0⟩⟩
def Kf (p:QF) (i:Nat):List Value:=[.bool (p.pis i),.bool (p.pwr i),.int .i64 (p.pfr i)]
def GH (p:QF) (i:Nat):List Value:=[.int .i64 (p.fk i),.int .i64 (p.fn i),.int .i64 (p.fp i)]
def Qq (p:QF):List Value:=[.int .i64 p.pid,.int .i64 p.parent,.int .i64 p.state]++(List.range 16).map (λi=>.int .u32 (p.reg i))++[.int .u32 p.pc]++(List.range 16).flatMap (Kf p)++(List.range 8).flatMap (GH p)++[.bool p.mask,.int .u32 p.code,.int .i64 p.why,.int .u64 p.num]
def Bu:List (Option IntKind):=[some .i64,some .i64,some .i64]++List.replicate 17 (some .u32)++(List.range 16).flatMap (λ_=>[none,none,some .i64])++List.replicate 24 (some .i64)++[none,some .u32,some .i64,some .u64]
def Qcn (cs:List Value):QF where
 pid:=O8 (cs.getD 0 undef)
 parent:=O8 (cs.getD 1 undef)
 state:=O8 (cs.getD 2 undef)
 reg:=λi=>O8 (cs.getD (3+i) undef)
 pc:=O8 (cs.getD 19 undef)
 pis:=λi=>gbV (cs.getD (20+3*i) undef)
 pwr:=λi=>gbV (cs.getD (21+3*i) undef)
 pfr:=λi=>O8 (cs.getD (22+3*i) undef)
 fk:=λi=>O8 (cs.getD (68+3*i) undef)
 fn:=λi=>O8 (cs.getD (69+3*i) undef)
 fp:=λi=>O8 (cs.getD (70+3*i) undef)
 mask:=gbV (cs.getD 92 undef)
 code:=O8 (cs.getD 93 undef)
 why:=O8 (cs.getD 94 undef)
 num:=O8 (cs.getD 95 undef)
theorem Q2 (p:QF):(Qq p).length=96:=rfl
theorem Ky (p:QF):∀v∈Qq p,v.oneCell'=true:=by
 intro v hv;simp only[Qq,Kf,GH,iO,Pm,Rw,Fe,AV,nc]at hv;rcases hv with(((((h|h|h)|⟨i,_,h⟩)|h)|⟨i,_,h|h|h⟩)|⟨i,_,h|h|h⟩)|(h|h|h|h)<;>(subst h;rfl)
theorem pR (cs:List Value):Qq (Qcn cs)=(List.range Bu.length).map λi=>Kh (Bu.getD i none) (cs.getD i undef):=by kernel_rfl
theorem pd:prog.cellsOf 57=96:=by kernel_rfl
theorem R0:(prog.info? 57).map (·.size)=some 96:=by kernel_rfl
theorem pj:aK prog 6 57 Bu=true:=by kernel_rfl
theorem qL:prog.cellsOf 92=2:=by kernel_rfl
theorem pY:prog.cellsOf 95=2:=by kernel_rfl
theorem qG:prog.cellsOf 9=1:=by kernel_rfl
theorem j8:prog.cellsOf 38=17:=by kernel_rfl
theorem vE:Zl prog 6 92=[(0,3),(1,9)]:=by kernel_rfl
theorem uh:Zl prog 6 95=[(0,3),(1,9)]:=by kernel_rfl
def C5:List (Nat × TypeId):=[(0,31),(1,3),(2,3),(3,3),(4,22),(5,32),(6,3),(7,9),(8,33),(9,3),(10,9),(11,4),(12,31),(13,22),(14,34),(15,3),(16,34)]
theorem MB:Zl prog 6 38=C5:=by kernel_rfl
def Nv (s:List UInt8):List Value:=[.string (Qb s)]
instance wrInh:Inhabited ZY:=⟨(0,[])⟩
structure Sl where
 A:Option Addr
 n:Nat
 c:Nat
structure QO where
 clock:Int
 quantum:Int
 cur:Int
 left:Int
 fr:Sl
 pr:Sl
 next:Int
 init:List UInt8
 pi:Sl
 newPipe:Int
 inn:List UInt8
 fin:Bool
 told:Int
 bl:Sl
 pe:Sl
 dleft:Int
 di:Sl
def QO.cells (m:QO):Array Value:=#[.int .u64 m.clock,.int .i64 m.quantum,.int .i64 m.cur,.int .i64 m.left,.slice m.fr.A m.fr.n m.fr.c,.slice m.pr.A m.pr.n m.pr.c,.int .i64 m.next,.string (Qb m.init),.slice m.pi.A m.pi.n m.pi.c,.int .i64 m.newPipe,.string (Qb m.inn),.bool m.fin,.int .u64 m.told,.slice m.bl.A m.bl.n m.bl.c,.slice m.pe.A m.pe.n m.pe.c,.int .i64 m.dleft,.slice m.di.A m.di.n m.di.c]
structure Qz where
 fr:List (List UInt8)
 pr:List QF
 pi:List ZY
 bl:List (List UInt8)
 pe:List ZY
 di:List ZY
def Sl.ok (s:Sl):Prop:=(s.A=none->s.n=0/\s.c=0)/\s.n<=maxLen/\s.n<=s.c
structure Q0 (w:World) (m:QO) (d:Qz):Prop where
 fr:Q6 Nv w m.fr.A m.fr.n d.fr
 pr:Q6 Qq w m.pr.A m.pr.n d.pr
 pi:Q6 Zn w m.pi.A m.pi.n d.pi
 bl:Q6 Nv w m.bl.A m.bl.n d.bl
 pe:Q6 Zn w m.pe.A m.pe.n d.pe
 di:Q6 Zn w m.di.A m.di.n d.di
 frk:m.fr.ok
 prk:m.pr.ok
 pik:m.pi.ok
 blk:m.bl.ok
 pek:m.pe.ok
 dik:m.di.ok
 initk:m.init.length<=maxLen
 innk:m.inn.length<=maxLen
 leftk:(Lit.int .i64 m.dleft).wf=true
theorem Q0.ext {w w':World}{m:QO}{d:Qz}(h:Q0 w m d) (k:Ext w w'):Q0 w' m d :=
 ⟨h.fr.ext k,h.pr.ext k,h.pi.ext k,h.bl.ext k,h.pe.ext k,h.di.ext k,h.frk,h.prk,h.pik,h.blk,h.pek,h.dik,h.initk,h.innk,h.leftk⟩
section
variable {H:Type}{enc:TypeId × Value->H}{w:World}{base:Nat}{spare:Nat->Bool}{held:Bool}
theorem Qcv {m:Nat}{cs:List Value}{y:DataW H × List MemPlace}(hl:cs.length=96) (h:DataW.trod enc prog w base spare held m 57 cs=some y):∃a:QF,cs=Qq a :=
 ⟨Qcn cs,(jw Bu pj h (by rw[hl];rfl)).trans (pR cs).symm⟩
theorem ll {T:TypeId}(hT:Zl prog 6 T=[(0,3),(1,9)]) {m:Nat}{cs:List Value}{y:DataW H × List MemPlace}(hl:cs.length=2) (h:DataW.trod enc prog w base spare held m T cs=some y):∃a:ZY,cs=Zn a:=by
 obtain⟨a,ha,_⟩:=Ub (n:=6) (o:=0) underlying3 (by rw[hT];kernel_rfl) h (by omega);obtain⟨b,hb,_⟩:=Wu (n:=6) (o:=1) underlying9 (by rw[hT];kernel_rfl) h (by omega);match cs,hl with
 | [v0,v1],_ => have e0:v0=_:=NU ha;have e1:v1=_:=NU hb;exact⟨(a,b),by rw[e0,e1];rfl⟩
theorem Qdd {m:Nat}{cs:List Value}{y:DataW H × List MemPlace}(hl:cs.length=1) (h:DataW.trod enc prog w base spare held m 9 cs=some y):∃a:List UInt8,cs=Nv a:=by
 obtain⟨s,rfl,_⟩:=DataW.trod_string underlying9 h;exact⟨s.data.toList,rfl⟩
theorem MK {fuel:Nat}{v:Value}{x:DataW H × List MemPlace}(h:DataW.trod enc prog w base spare held fuel 22 [v]=some x) :
  ∃(s:Sl) (l:List (List UInt8)),v=.slice s.A s.n s.c/\s.ok/\Q6 Nv w s.A s.n l:=by
 obtain⟨A,n,c,l,e,h0,h1,h2,_⟩:=DA Nv underlying22 qG (by omega) (λm cs y=>Qdd) h;exact⟨⟨A,n,c⟩,l,e,⟨h0,h1⟩,h2⟩
theorem ui {fuel:Nat}{v:Value}{x:DataW H × List MemPlace}(h:DataW.trod enc prog w base spare held fuel 33 [v]=some x) :
  ∃(s:Sl) (l:List ZY),v=.slice s.A s.n s.c/\s.ok/\Q6 Zn w s.A s.n l:=by
 obtain⟨A,n,c,l,e,h0,h1,h2,_⟩:=DA Zn underlying33 pY (by omega) (λm cs y=>ll uh) h;exact⟨⟨A,n,c⟩,l,e,⟨h0,h1⟩,h2⟩
theorem l9 {fuel:Nat}{v:Value}{x:DataW H × List MemPlace}(h:DataW.trod enc prog w base spare held fuel 34 [v]=some x) :
  ∃(s:Sl) (l:List ZY),v=.slice s.A s.n s.c/\s.ok/\Q6 Zn w s.A s.n l:=by
 obtain⟨A,n,c,l,e,h0,h1,h2,_⟩:=DA Zn underlying34 qL (by omega) (λm cs y=>ll vE) h;exact⟨⟨A,n,c⟩,l,e,⟨h0,h1⟩,h2⟩
theorem FZ {T E:TypeId}{fuel:Nat}{cs:List Value}{x:DataW H × List MemPlace}(hT:prog.underlying T=some (.slice E)) (h:DataW.trod enc prog w base spare held fuel T cs=some x):∃v,cs=[v]:=by
 rcases Deep.open_slice hT h with⟨Ll,hx⟩|⟨a,len,cap,m,n,D,Pl,Ll,_⟩
 ·exact⟨_,Ll⟩
 ·exact⟨_,Ll⟩
theorem VZ {o fuel:Nat}{t' E:TypeId}{cs:List Value}{x:DataW H × List MemPlace}(hT:prog.underlying t'=some (.slice E)) (h:C5.contains (o,t')=true) (ht:DataW.trod enc prog w base spare held fuel 38 cs=some x) (hl:o<cs.length) :
  ∃fuel' v x',cs[o]? =some v/\DataW.trod enc prog w base spare held fuel' t' [v]=some x':=by
 obtain⟨f',cs',x',h1,h2⟩:=Xf 6 (by rw[MB];exact nW.1 h) ht (ZX hl);obtain⟨v,rfl⟩:=FZ hT h1;exact⟨f',v,x',(ZX hl).trans h2.symm,h1⟩
theorem Ku {o fuel:Nat}{k:IntKind}{t':TypeId}{cs:List Value}{x:DataW H × List MemPlace}(hT:prog.underlying t'=some (.int k)) (h:C5.contains (o,t')=true) (ht:DataW.trod enc prog w base spare held fuel 38 cs=some x) (hl:o<cs.length) :
  ∃m,cs[o]? =some (.int k m)/\(Lit.int k m).wf=true:=Ub (n:=6) hT (by rw[MB];exact h) ht hl
theorem LE {o fuel:Nat}{cs:List Value}{x:DataW H × List MemPlace}(h:C5.contains (o,9)=true) (ht:DataW.trod enc prog w base spare held fuel 38 cs=some x) (hl:o<cs.length) :
  ∃m:List UInt8,cs[o]? =some (.string (Qb m))/\m.length<=maxLen:=Wu (n:=6) underlying9 (by rw[MB];exact h) ht hl
theorem kA {o fuel:Nat}{cs:List Value}{x:DataW H × List MemPlace}(h:C5.contains (o,4)=true) (ht:DataW.trod enc prog w base spare held fuel 38 cs=some x) (hl:o<cs.length) :
  ∃m,cs[o]? =some (.bool m):=dU (n:=6) underlying4 (by rw[MB];exact h) ht hl
theorem uW {cs:List Value}(hl:cs.length=17):cs=(List.range 17).map λi=>cs.getD i undef:=by
 apply zX;intro i;by_cases hi:i<17
 ·rw[fo,mS hi,ZX (by omega)];simp[Yb,ZX (show i<cs.length by omega)]
 ·rw[mQ (by omega),mQ (by simp;omega)]
theorem ZP {cs:List Value}{i:Nat}{v:Value}(h:cs[i]? =some v):cs.getD i undef=v:=by rw[Yb,h];rfl
end
end Go.Proofs.YtfaplefkakpgcaaGreatDoor
namespace Go.Proofs.YtfaplefkakpgcaaGreatDoor
open Go.Proofs.Tryz
open Go.RowKit
def NR (P:Program):Nat->TypeId->List (Option IntKind)->Bool
 | 0,_,_=>false
 | d+1,t,ks=>match P.underlying t with
  | some .bool=>ks==[none]
  | some (.int q)=>ks==[some q]
  | some (.array n e)=>ks.length==P.cellsOf t&&(List.range n).all λi=>NR P d e ((ks.drop (i*P.cellsOf e)).take (P.cellsOf e))
  | some (.struct fs)=>ks.length==P.cellsOf t&&fs.toList.all λf=>NR P d f.type ((ks.drop f.offset).take (P.cellsOf f.type))
  | _=>false
def Vw (P:Program) (t:TypeId) (cs:List Value):Value:=match P.underlying t with
 | some (.array _ _)=>.agg cs.toArray
 | some (.struct _)=>.agg cs.toArray
 | _=>cs.headD undef
section
variable {P:Program}(w:World)
theorem LQ {d:Nat}{e:TypeId}{ks:List (Option IntKind)}{vs:List Value}{xs:Array Value}{off:Nat}(hk:NR P d e ks=true) (hl:vs.length=ks.length) (hc:(xs.toList.drop off).take (P.cellsOf e)=List.zipWith Kh ks vs) :
  (part e xs off).run P w=.ok (Vw P e (List.zipWith Kh ks vs)) w:=by
 cases d with
 | zero=>cases hk
 | succ d =>
  rw[NR]at hk;have agg:∀kd,P.underlying e=some kd->((∃n e',kd=.array n e')\/∃fs,kd=.struct fs)->(part e xs off).run P w=.ok (Vw P e (List.zipWith Kh ks vs)) w:=by
   intro kd hu hk;obtain⟨i,hi⟩:=info_of_underlying hu;have hl:xs.extract off (off+P.cellsOf e)=(List.zipWith Kh ks vs).toArray:=by rw[←hc];apply tA.1;rw[Array.toList_extract];simp[List.extract]
   rcases hk with⟨n,e',rfl⟩|⟨fs,rfl⟩<;>simp[part,isAgg,nd hu,run_sizeOf w hi,Vw,hu,hl]
  split at hk
  ·rename_i hu;obtain rfl:ks=[none]:=by simpa using hk
   obtain⟨v,rfl⟩:∃v,vs=[v]:=by
    match vs,hl with
    | [v],_=>exact⟨v,rfl⟩
   have h1:=getElem?_of_chunk (a:=Kh none v) hc;rw[run_part_plain w (by simp[Program.plainKey,hu]) h1];simp[Vw,hu]
  ·rename_i q hu;obtain rfl:ks=[some q]:=by simpa using hk
   obtain⟨v,rfl⟩:∃v,vs=[v]:=by
    match vs,hl with
    | [v],_=>exact⟨v,rfl⟩
   have h1:=getElem?_of_chunk (a:=Kh (some q) v) hc;rw[run_part_plain w (by simp[Program.plainKey,hu]) h1];simp[Vw,hu]
  ·rename_i n e' hu;exact agg _ hu (.inl ⟨n,e',rfl⟩)
  ·rename_i fs hu;exact agg _ hu (.inr ⟨fs,rfl⟩)
  ·cases hk
theorem Fm {ks:List (Option IntKind)}{vs:List Value}(o c:Nat):((List.zipWith Kh ks vs).toArray.toList.drop o).take c=List.zipWith Kh ((ks.drop o).take c) ((vs.drop o).take c):=by
 rw[List.toList_toArray,List.drop_zipWith,List.take_zipWith]
theorem WU {ks:List (Option IntKind)}{vs:List Value}(hl:vs.length=ks.length) (o c:Nat):((vs.drop o).take c).length=((ks.drop o).take c).length:=by
 simp only[MT,Nx,hl]
theorem DD:∀(m:Nat) (t:TypeId) (ks:List (Option IntKind)) (vs:List Value) (d:Nat),P.keyTypeAt m t=true->NR P m t ks=true->vs.length=ks.length->
  (Op.equalIn (d+m) t (Vw P t (List.zipWith Kh ks vs)) (Vw P t (List.zipWith Kh ks vs))).run P w=.ok true w
 | 0,_,_,_,_,h,_,_=>by simp[Program.keyTypeAt]at h
 | m+1,t,ks,vs,d,ht,hk,hl=>by
  rw[Program.keyTypeAt]at ht;rw[NR]at hk;cases hu:P.underlying t with
  | none=>simp[hu]at ht
  | some kd =>
   cases kd;case bool =>
    simp only[hu]at hk;obtain rfl:ks=[none]:=by simpa using hk
    obtain⟨v,rfl⟩:∃v,vs=[v]:=by
     match vs,hl with
     | [v],_=>exact⟨v,rfl⟩
    have e:Vw P t (List.zipWith Kh [none] [v])=.bool (gbV v):=by simp[Vw,hu,Kh]
    rw[e];exact(run_equalIn_bool w (d+m) t _ _ hu).trans (by simp)
   case int q =>
    simp only[hu]at hk;obtain rfl:ks=[some q]:=by simpa using hk
    obtain⟨v,rfl⟩:∃v,vs=[v]:=by
     match vs,hl with
     | [v],_=>exact⟨v,rfl⟩
    have e:Vw P t (List.zipWith Kh [some q] [v])=.int q (O8 v):=by simp[Vw,hu,Kh]
    rw[e];exact(run_equalIn_int w (d+m) t q q _ _ hu).trans (by simp)
   case array n e =>
    simp only[hu,Vg,ng]at hk ht;have ev:Vw P t (List.zipWith Kh ks vs)=.agg (List.zipWith Kh ks vs).toArray:=by simp[Vw,hu]
    have U8:∃i,P.info? e=some i:=by
     cases m with
     | zero=>simp[Program.keyTypeAt]at ht
     | succ m' =>
      unfold Program.keyTypeAt at ht;cases hue:P.underlying e with
      | none=>simp[hue]at ht
      | some _=>exact info_of_underlying hue
    obtain⟨i,hi⟩:=U8;rw[ev,show d+(m+1)=(d+m)+1 from rfl,run_equalIn_array w (d+m) _ _ hu hi];have all:=Rj.1 hk.2;generalize List.range n=is at all;induction is with
    | nil=>simp[Op.eqItems]
    | cons j is ih => have hj:=all j Gq;have hp:=LQ w hj (WU hl (j*P.cellsOf e) (P.cellsOf e)) (Fm (ks:=ks) (vs:=vs) _ _);have hs:=DD m e _ _ d ht hj (WU hl (j*P.cellsOf e) (P.cellsOf e));simp only[Op.eqItems,Ny,hp,hs,Mm];simpa using ih (λx hx=>all x (EL _ hx))
   case struct fs =>
    simp only[hu,Vg,zZ,ng]at hk ht;have ev:Vw P t (List.zipWith Kh ks vs)=.agg (List.zipWith Kh ks vs).toArray:=by simp[Vw,hu]
    have dD:P.fieldsOf t=fs:=by simp[Program.fieldsOf,hu]
    rw[ev,show d+(m+1)=(d+m)+1 from rfl,run_equalIn_struct w (d+m) t _ _ (by rw[dD];exact hu) ht.2,dD];have all:=Rj.1 hk.2;have kG:∀f∈fs.toList,(f.name != "_")=true/\P.keyTypeAt m f.type=true:=λf hf=>by have:=Wd5.1 ht.1.1 f (Array.mem_toList_iff.1 hf);simpa only[Vg]using this
    generalize fs.toList=l at all kG;induction l with
    | nil=>simp[Op.eqFields]
    | cons f l ih =>
     have hj:=all f Gq;obtain⟨hn,hkt⟩:=kG f Gq;have FN:f.name≠"_":=by simpa using hn
     have hp:=LQ w hj (WU hl f.offset (P.cellsOf f.type)) (Fm (ks:=ks) (vs:=vs) _ _);have hs:=DD m f.type _ _ d hkt hj (WU hl f.offset (P.cellsOf f.type));simp only[Op.eqFields,FN,ne_eq,not_false_eq_true,if_true,Ny,hp,hs,Mm];simpa using ih (λx hx=>all x (EL _ hx)) (λx hx=>kG x (EL _ hx))
   all_goals first|(simp[hu]at ht;done)|(simp[hu]at hk;done)
end
theorem pm (p:QF):Qq p=List.zipWith Kh Bu (Qq p):=by kernel_rfl
theorem po:NR prog 10 57 Bu=true:=by kernel_rfl
theorem uj:prog.keyTypeAt 10 57=true:=by kernel_rfl
theorem ph:prog.eqGuardType prog.depth 57=false:=by kernel_rfl
theorem pu (p:QF) (w:World):(Op.equalIn 10000 57 (.agg (Qq p).toArray) (.agg (Qq p).toArray)).run prog w=.ok true w:=by
 have h:=DD (P:=prog) w 10 57 Bu (Qq p) 9990 uj po rfl;have e:Vw prog 57 (List.zipWith Kh Bu (Qq p))=.agg (Qq p).toArray:=by rw[←pm];simp[Vw,underlying57]
 rw[e]at h;exact h
theorem IW (p:QF) (w:World):(binOp .neq 57 (.agg (Qq p).toArray) (.agg (Qq p).toArray)).run prog w=.ok (.bool false) w:=by
 rw[run_neq_struct,pu];rfl
theorem Dw {C:World->Prop}{o:Oper}{a:Act}{K:Act->Prop}(x y:Operand) (h:o.op=.binOp .neq 57 x y 57) (p:QF) (hx:a.eval x=.agg (Qq p).toArray) (hy:a.eval y=.agg (Qq p).toArray) (hk:K (a.put o.dst (.bool false))):o.quiet prog a C K :=
 ⟨_,λw hw=>by
  unfold Oper.quietAt execOp;simp only[h,hx,hy,Ny,run_eqGuard_agg w .neq 57 x y _ _ ph,Mm,IW p w];exact⟨rfl,rfl⟩,hk⟩
end Go.Proofs.YtfaplefkakpgcaaGreatDoor
