import Derived.Test.YtfaplefkakpgcaaGreatDoorQa9
import Derived.SizedLaws
import Derived.Deep.Slices
import Derived.DeepKeys
import Derived.Deep.Quiet
set_option linter.unusedVariables false
set_option linter.unusedSimpArgs false
set_option maxHeartbeats 32000000
set_option maxRecDepth 100000
namespace Go.Proofs.YtfaplefkakpgcaaGreatDoor
open Go.ChangeShapes Go.WideShapes Go.ChangeAt Go.RowKit
def JE (P:Program):Nat->TypeId->List (Nat × TypeId)
 | 0,_=>[]
 | n+1,t=>match P.underlying t with
  | some (.struct fs)=>fs.toList.flatMap λf=>(JE P n f.type).filterMap λp=>if p.1<P.cellsOf f.type then some (f.offset+p.1,p.2) else none
  | some (.array k e)=>(List.range k).flatMap λi=>(JE P n e).filterMap λp=>if p.1<P.cellsOf e then some (i*P.cellsOf e+p.1,p.2) else none
  | _=>[(0,t)]
section
variable {H:Type}{enc:TypeId × Value->H}{P:Program}{w:World}{base:Nat}{spare:Nat->Bool}{held:Bool}
theorem YF:∀(n:Nat) {t t':TypeId}{o fuel:Nat}{cs:List Value}{x:DataW H × List MemPlace}{v:Value},(o,t')∈JE P n t->DataW.trod enc P w base spare held fuel t cs=some x->cs[o]? =some v->
  ∃fuel' cs' x',DataW.trod enc P w base spare held fuel' t' cs'=some x'/\cs'[0]? =some v
 | 0,_,_,_,_,_,_,_,h,_,_=>by simp[JE]at h
 | n+1,t,t',o,fuel,cs,x,v,h,ht,hv=>by
  rw[JE]at h;split at h
  ·rename_i fs hu;obtain⟨xs,m,_,_,_,Sn,hf⟩:=DataW.trod_struct hu ht;obtain⟨f,vb,hp⟩:=mE.1 h;obtain⟨p,Mi,hp2⟩:=List.mem_filterMap.1 hp;obtain⟨i,hi,hif⟩:=aj vb;have hi':i<fs.size:=by simpa using hi
   have h1:=hf i f (by rw[pg hi'];exact congrArg some (by simpa using hif));rw[JZ (by omega)]at h1;split at hp2
   ·rename_i Qo;injection hp2 with hp2;injection hp2 with e1 e2;subst e1;refine YF n (t:=f.type) (o:=p.1) (by rw[←e2];exact Mi) h1 ?_;rw[Ty,Qv Qo,Fm];exact hv
   ·cases hp2
  ·rename_i k e hu;obtain⟨xs,m,_,_,_,Sn,hf⟩:=DataW.trod_array hu ht;obtain⟨i,him,hp⟩:=mE.1 h;obtain⟨p,Mi,hp2⟩:=List.mem_filterMap.1 hp;have hi:i<k:=Pw.1 him;have h1:=hf i hi;rw[JZ (by omega)]at h1;split at hp2
   ·rename_i Qo;injection hp2 with hp2;injection hp2 with e1 e2;subst e1;refine YF n (t:=e) (o:=p.1) (by rw[←e2];exact Mi) h1 ?_;rw[Ty,Qv Qo,Fm];exact hv
   ·cases hp2
  ·obtain⟨rfl,rfl⟩:o=0/\t'=t:=by simpa using h
   exact⟨fuel,cs,x,ht,hv⟩
theorem Vr {n:Nat}{t t':TypeId}{o fuel:Nat}{cs:List Value}{x:DataW H × List MemPlace}{k:IntKind}(hu:P.underlying t'=some (.int k)) (h:(JE P n t).contains (o,t')=true) (ht:DataW.trod enc P w base spare held fuel t cs=some x) (hl:o<cs.length) :
  ∃m,cs[o]? =some (.int k m)/\(Lit.int k m).wf=true:=by
 obtain⟨f',cs',x',h1,h2⟩:=YF n (fI.1 h) ht (JZ hl);obtain⟨m,rfl,_,hw⟩:=DataW.trod_int hu h1;exact⟨m,(JZ hl).trans h2.symm,hw⟩
theorem BO {n:Nat}{t t':TypeId}{o fuel:Nat}{cs:List Value}{x:DataW H × List MemPlace}(hu:P.underlying t'=some .bool) (h:(JE P n t).contains (o,t')=true) (ht:DataW.trod enc P w base spare held fuel t cs=some x) (hl:o<cs.length) :
  ∃m,cs[o]? =some (.bool m):=by
 obtain⟨f',cs',x',h1,h2⟩:=YF n (fI.1 h) ht (JZ hl);obtain⟨m,rfl,_⟩:=DataW.trod_bool hu h1;exact⟨m,(JZ hl).trans h2.symm⟩
theorem NJ {n:Nat}{t t':TypeId}{o fuel:Nat}{cs:List Value}{x:DataW H × List MemPlace}(hu:P.underlying t'=some .string) (h:(JE P n t).contains (o,t')=true) (ht:DataW.trod enc P w base spare held fuel t cs=some x) (hl:o<cs.length) :
  ∃m:List UInt8,cs[o]? =some (.string (Qb m))/\m.length<=maxLen:=by
 obtain⟨f',cs',x',h1,h2⟩:=YF n (fI.1 h) ht (JZ hl);obtain⟨m,rfl,_,hw⟩:=DataW.trod_string hu h1;exact⟨m.data.toList,(JZ hl).trans h2.symm,by have:=Qh m.data.toList;rw[←jd]at this;omega⟩
def Q8 {α:Type} (f:α->List Value) (w:World) (A:Option Addr) (n:Nat) (l:List α):Prop :=
 n=l.length/\(0<n->∃b o,A=some ⟨b,o,none⟩/\∀j v,(l.flatMap f)[j]? =some v->w.cell? ⟨b,o+j,none⟩=some v)
theorem Q8.ext {α:Type} {f:α->List Value}{w w':World}{A:Option Addr}{n:Nat}{l:List α}(h:Q8 f w A n l) (k:Ext w w'):Q8 f w' A n l :=
 ⟨h.1,λhn=>by obtain⟨b,o,e,hc⟩:=h.2 hn;exact⟨b,o,e,λj v hj=>k.keep (hc j v hj)⟩⟩
theorem Kw {α:Type} (f:α->List Value) (z:Nat):∀(l:List α),(∀x∈l,(f x).length=z)->(l.flatMap f).length=l.length*z
 | [],_=>by simp
 | x::l,h=>by rw[AV,Kh,h x (by simp),Kw f z l (λy hy=>h y (by simp[hy])),YV,SL];omega
theorem Ue {α:Type} (f:α->List Value) (z:Nat):∀(l:List α),(∀x∈l,(f x).length=z)->∀(j:Nat) (h:j<l.length) (i:Nat),i<z->(l.flatMap f)[j*z+i]? =(f l[j])[i]?
 | x::l,hz,0,_,i,hi=>by rw[AV,Nat.zero_mul,Ux,AW (by rw[hz x (by simp)];exact hi)];rfl
 | x::l,hz,j+1,h,i,hi=>by have hx:=hz x (by simp);rw[AV,fF (by rw[hx,SL];omega),hx,show(j+1)*z+i-z=j*z+i by rw[SL];omega];exact Ue f z l (λy hy=>hz y (by simp[hy])) j (by simpa using h) i hi
theorem Q8.cell {α:Type} {f:α->List Value}{w:World}{b o n:Nat}{l:List α}{z:Nat}(hc:∀j v,(l.flatMap f)[j]? =some v->w.cell? ⟨b,o+j,none⟩=some v) (hz:∀x∈l,(f x).length=z) {k:Nat}(hk:k<l.length) {i:Nat}(hi:i<z) {v:Value}(hv:(f l[k])[i]? =some v) :
  w.cell? ⟨b,o+(k*z+i),none⟩=some v:=hc _ _ ((Ue f z l hz k hk i hi).trans hv)
theorem LJ {α:Type} [Inhabited α] (f:α->List Value) {z:Nat}{T E:TypeId}{fuel:Nat}{v:Value}{x:DataW H × List MemPlace}(hT:P.underlying T=some (.slice E)) (hE:P.cellsOf E=z) (hz0:0<z)
  (UT:∀(m:Nat) (cs:List Value) (y:DataW H × List MemPlace),cs.length=z->DataW.trod enc P w base spare held m E cs=some y->∃a:α,cs=f a)
  (h:DataW.trod enc P w base spare held fuel T [v]=some x) :
  ∃A n c l,v=.slice A n c/\(A=none->n=0/\c=0)/\(n<=maxLen/\n<=c)/\Q8 f w A n l/\∀a∈l,(f a).length=z:=by
 rcases Deep.open_slice hT h with⟨hcs,hx⟩|⟨a,len,cap,m,n,D,Pl,hcs,hb,hl,hm,hmm,hx,hel⟩
 ·injection hcs with hcs _;exact⟨none,0,0,[],hcs,λ_=>⟨rfl,rfl⟩,⟨by unfold maxLen;omega,by omega⟩,⟨rfl,λh=>by omega⟩,λa h=>by cases h⟩
 ·injection hcs with hcs _;have hlm:len<=m:=by rw[hmm];split<;>omega
  have each:∀i,i<len->∃y:α,w.cells? base (a.add (i*z)) z=some (f y):=λi hi=>by obtain⟨cs',h1,h2⟩:=hel i (by omega);rw[hE]at h1;obtain⟨y,rfl⟩:=UT _ _ _ (mN h1).2.1 h2;exact⟨y,h1⟩
  obtain⟨q,hq⟩:=Deep.choose_lt each;have Vb:∀y∈(List.range len).map q,(f y).length=z:=λy hy=>by obtain⟨i,hi,rfl⟩:=Pq.1 hy;exact(mN (hq i (Pw.1 hi))).2.1
  refine⟨some a,len,cap,(List.range len).map q,hcs,(λh=>by cases h),⟨by omega,by omega⟩,⟨by simp,λhn=>?_⟩,Vb⟩;obtain⟨b,off,spot⟩:=a;have ns:spot=none:=by have:=(mN (hq 0 hn)).2.2 0 (by omega);rw[JZ (by rw[(mN (hq 0 hn)).2.1];omega)]at this;simpa[Addr.add]using World.cell?_spot this
  subst ns;refine⟨b,off,rfl,λj u hj=>?_⟩;have kS:j<len*z:=by have:=(PO.1 hj).1;rw[Kw f z _ Vb]at this;simpa using this
  have hk:j/z<len:=Nat.div_lt_of_lt_mul (by rw[bh];exact kS);have hr:j%z<z:=kE _ hz0;have ej:j/z*z+j%z=j:=by rw[bh];exact Nat.div_add_mod j z
  have e:=Ue f z ((List.range len).map q) Vb (j/z) (by simpa using hk) (j%z) hr;rw[ej,hj]at e;have hc:=(mN (hq (j/z) hk)).2.2 (j%z) hr;rw[Deep.add_add,add_plain]at hc;rw[show off+j=off+(j/z*z+j%z) by rw[ej],hc];simp at e;exact e.symm
end
end Go.Proofs.YtfaplefkakpgcaaGreatDoor
namespace Go.Proofs.YtfaplefkakpgcaaGreatDoor
open Go.Proofs.Tryz
open Go.ChangeShapes Go.WideShapes Go.ChangeAt Go.RowKit
def DU:Value->Int
 | .int _ m=>m
 | _=>0
def mt:Value->Bool
 | .bool b=>b
 | _=>false
def XE:Option IntKind->Value->Value
 | some k,v=>.int k (DU v)
 | none,v=>.bool (mt v)
def Em (P:Program) (t:TypeId):Option (Option IntKind):=match P.underlying t with
 | some (.int k)=>some (some k)
 | some .bool=>some none
 | _=>none
section
variable {H:Type}{enc:TypeId × Value->H}{P:Program}{w:World}{base:Nat}{spare:Nat->Bool}{held:Bool}
theorem BP {n:Nat}{t t':TypeId}{o fuel:Nat}{cs:List Value}{x:DataW H × List MemPlace}{q:Option IntKind}(hu:Em P t'=some q) (h:(o,t')∈JE P n t) (ht:DataW.trod enc P w base spare held fuel t cs=some x) (hl:o<cs.length) :
  cs[o]? =some (XE q (cs.getD o undef)):=by
 obtain⟨f',cs',x',h1,h2⟩:=YF n h ht (JZ hl);rw[ZG,JZ hl];unfold Em at hu;split at hu
 ·rename_i k hk;injection hu with hu;subst hu;obtain⟨m,rfl,_,hw⟩:=DataW.trod_int hk h1;have e:cs[o]=.int k m:=by simpa using h2.symm
  rw[e];rfl
 ·rename_i hk;injection hu with hu;subst hu;obtain⟨m,rfl,_⟩:=DataW.trod_bool hk h1;have e:cs[o]=.bool m:=by simpa using h2.symm
  rw[e];rfl
 ·cases hu
def D8 (P:Program) (n:Nat) (t:TypeId) (ks:List (Option IntKind)):Bool :=
 (List.range ks.length).all λi=>match (JE P n t)[i]?,ks[i]? with
  | some (o,t'),some q=>o==i&&(match Em P t' with|some q'=>q'==q|none=>false)
  | _,_=>false
theorem I3 {n:Nat}{t:TypeId}{fuel:Nat}{cs:List Value}{x:DataW H × List MemPlace}(ks:List (Option IntKind)) (hk:D8 P n t ks=true) (ht:DataW.trod enc P w base spare held fuel t cs=some x) (hl:cs.length=ks.length) :
  cs=(List.range ks.length).map λi=>XE (ks.getD i none) (cs.getD i undef):=by
 apply go;intro i;by_cases hi:i<ks.length
 ·have h1:=Pv.1 hk i (Pw.2 hi);rw[LZ,DA hi];split at h1
  ·rename_i o t' q e1 e2;simp only[VB,beq_iff_eq]at h1;obtain⟨rfl,h2⟩:=h1;split at h2
   ·rename_i q' e3;have h3:q'=q:=by simpa using h2
    subst h3;have:=BP e3 (rV e1) ht (by omega);rw[this];simp[ZG,e2]
   ·cases h2
  ·cases h1
 ·rw[Fl (by omega),Fl (by simp;omega)]
end
structure QN where
 pid:Int
 parent:Int
 state:Int
 reg:Nat->Int
 pc:Int
 pis:Nat->Bool
 pwr:Nat->Bool
 pfr:Nat->Int
 fk:Nat->Int
 fn:Nat->Int
 fp:Nat->Int
 mask:Bool
 code:Int
 why:Int
 num:Int
instance prInh:Inhabited QN:=⟨⟨0,0,0,λ_=>0,0,λ_=>false,λ_=>false,λ_=>0,λ_=>0,λ_=>0,λ_=>0,false,0,0,0⟩⟩
def WG (p:QN) (i:Nat):List Value:=[.bool (p.pis i),.bool (p.pwr i),.int .i64 (p.pfr i)]
def cU (p:QN) (i:Nat):List Value:=[.int .i64 (p.fk i),.int .i64 (p.fn i),.int .i64 (p.fp i)]
def QJ (p:QN):List Value:=[.int .i64 p.pid,.int .i64 p.parent,.int .i64 p.state]++(List.range 16).map (λi=>.int .u32 (p.reg i))++[.int .u32 p.pc]++(List.range 16).flatMap (WG p)++(List.range 8).flatMap (cU p)++[.bool p.mask,.int .u32 p.code,.int .i64 p.why,.int .u64 p.num]
def dy:List (Option IntKind):=[some .i64,some .i64,some .i64]++List.replicate 17 (some .u32)++(List.range 16).flatMap (λ_=>[none,none,some .i64])++List.replicate 24 (some .i64)++[none,some .u32,some .i64,some .u64]
def oM (cs:List Value):QN where
 pid:=DU (cs.getD 0 undef)
 parent:=DU (cs.getD 1 undef)
 state:=DU (cs.getD 2 undef)
 reg:=λi=>DU (cs.getD (3+i) undef)
 pc:=DU (cs.getD 19 undef)
 pis:=λi=>mt (cs.getD (20+3*i) undef)
 pwr:=λi=>mt (cs.getD (21+3*i) undef)
 pfr:=λi=>DU (cs.getD (22+3*i) undef)
 fk:=λi=>DU (cs.getD (68+3*i) undef)
 fn:=λi=>DU (cs.getD (69+3*i) undef)
 fp:=λi=>DU (cs.getD (70+3*i) undef)
 mask:=mt (cs.getD 92 undef)
 code:=DU (cs.getD 93 undef)
 why:=DU (cs.getD 94 undef)
 num:=DU (cs.getD 95 undef)
theorem Zo (p:QN):(QJ p).length=96:=rfl
theorem Cg (p:QN):∀v∈QJ p,v.oneCell'=true:=by
 intro v hv;simp only[QJ,WG,cU,SN,TA,Td,L1,Pq,mE]at hv;rcases hv with(((((h|h|h)|⟨i,_,h⟩)|h)|⟨i,_,h|h|h⟩)|⟨i,_,h|h|h⟩)|(h|h|h|h)<;>(subst h;rfl)
theorem dj (cs:List Value):QJ (oM cs)=(List.range dy.length).map λi=>XE (dy.getD i none) (cs.getD i undef):=by kernel_rfl
theorem dv:prog.cellsOf 57=96:=by kernel_rfl
theorem RH:(prog.info? 57).map (·.size)=some 96:=by kernel_rfl
theorem dx:D8 prog 6 57 dy=true:=by kernel_rfl
theorem eX:prog.cellsOf 92=2:=by kernel_rfl
theorem du:prog.cellsOf 95=2:=by kernel_rfl
theorem eP:prog.cellsOf 9=1:=by kernel_rfl
theorem Oc:prog.cellsOf 38=17:=by kernel_rfl
theorem jl:JE prog 6 92=[(0,3),(1,9)]:=by kernel_rfl
theorem jM:JE prog 6 95=[(0,3),(1,9)]:=by kernel_rfl
def Gn:List (Nat × TypeId):=[(0,31),(1,3),(2,3),(3,3),(4,22),(5,32),(6,3),(7,9),(8,33),(9,3),(10,9),(11,4),(12,31),(13,22),(14,34),(15,3),(16,34)]
theorem Tm:JE prog 6 38=Gn:=by kernel_rfl
def FE (s:List UInt8):List Value:=[.string (Qb s)]
instance wrInh:Inhabited Zs:=⟨(0,[])⟩
structure Sl where
 A:Option Addr
 n:Nat
 c:Nat
structure Q1 where
 clock:Int
 quantum:Int
 cur:Int
 left:Int
 fr:Sl
 pr:Sl
 next:Int
 init:List UInt8
 pi:Sl
 newPipe:Int
 inn:List UInt8
 fin:Bool
 told:Int
 bl:Sl
 pe:Sl
 dleft:Int
 di:Sl
def Q1.cells (m:Q1):Array Value:=#[.int .u64 m.clock,.int .i64 m.quantum,.int .i64 m.cur,.int .i64 m.left,.slice m.fr.A m.fr.n m.fr.c,.slice m.pr.A m.pr.n m.pr.c,.int .i64 m.next,.string (Qb m.init),.slice m.pi.A m.pi.n m.pi.c,.int .i64 m.newPipe,.string (Qb m.inn),.bool m.fin,.int .u64 m.told,.slice m.bl.A m.bl.n m.bl.c,.slice m.pe.A m.pe.n m.pe.c,.int .i64 m.dleft,.slice m.di.A m.di.n m.di.c]
structure QL where
 fr:List (List UInt8)
 pr:List QN
 pi:List Zs
 bl:List (List UInt8)
 pe:List Zs
 di:List Zs
def Sl.ok (s:Sl):Prop:=(s.A=none->s.n=0/\s.c=0)/\s.n<=maxLen/\s.n<=s.c
structure Jg (w:World) (m:Q1) (d:QL):Prop where
 fr:Q8 FE w m.fr.A m.fr.n d.fr
 pr:Q8 QJ w m.pr.A m.pr.n d.pr
 pi:Q8 Yd w m.pi.A m.pi.n d.pi
 bl:Q8 FE w m.bl.A m.bl.n d.bl
 pe:Q8 Yd w m.pe.A m.pe.n d.pe
 di:Q8 Yd w m.di.A m.di.n d.di
 frk:m.fr.ok
 prk:m.pr.ok
 pik:m.pi.ok
 blk:m.bl.ok
 pek:m.pe.ok
 dik:m.di.ok
 initk:m.init.length<=maxLen
 innk:m.inn.length<=maxLen
 leftk:(Lit.int .i64 m.dleft).wf=true
theorem Jg.ext {w w':World}{m:Q1}{d:QL}(h:Jg w m d) (k:Ext w w'):Jg w' m d :=
 ⟨h.fr.ext k,h.pr.ext k,h.pi.ext k,h.bl.ext k,h.pe.ext k,h.di.ext k,h.frk,h.prk,h.pik,h.blk,h.pek,h.dik,h.initk,h.innk,h.leftk⟩
section
variable {H:Type}{enc:TypeId × Value->H}{w:World}{base:Nat}{spare:Nat->Bool}{held:Bool}
theorem oT {m:Nat}{cs:List Value}{y:DataW H × List MemPlace}(hl:cs.length=96) (h:DataW.trod enc prog w base spare held m 57 cs=some y):∃a:QN,cs=QJ a :=
 ⟨oM cs,(I3 dy dx h (by rw[hl];rfl)).trans (dj cs).symm⟩
theorem aL {T:TypeId}(hT:JE prog 6 T=[(0,3),(1,9)]) {m:Nat}{cs:List Value}{y:DataW H × List MemPlace}(hl:cs.length=2) (h:DataW.trod enc prog w base spare held m T cs=some y):∃a:Zs,cs=Yd a:=by
 obtain⟨a,ha,_⟩:=Vr (n:=6) (o:=0) underlying3 (by rw[hT];kernel_rfl) h (by omega);obtain⟨b,hb,_⟩:=NJ (n:=6) (o:=1) underlying9 (by rw[hT];kernel_rfl) h (by omega);match cs,hl with
 | [v0,v1],_ => have e0:v0=_:=L0 ha;have e1:v1=_:=L0 hb;exact⟨(a,b),by rw[e0,e1];rfl⟩
theorem og {m:Nat}{cs:List Value}{y:DataW H × List MemPlace}(hl:cs.length=1) (h:DataW.trod enc prog w base spare held m 9 cs=some y):∃a:List UInt8,cs=FE a:=by
 obtain⟨s,rfl,_⟩:=DataW.trod_string underlying9 h;exact⟨s.data.toList,rfl⟩
theorem Cm {fuel:Nat}{v:Value}{x:DataW H × List MemPlace}(h:DataW.trod enc prog w base spare held fuel 22 [v]=some x) :
  ∃(s:Sl) (l:List (List UInt8)),v=.slice s.A s.n s.c/\s.ok/\Q8 FE w s.A s.n l:=by
 obtain⟨A,n,c,l,e,h0,h1,h2,_⟩:=LJ FE underlying22 eP (by omega) (λm cs y=>og) h;exact⟨⟨A,n,c⟩,l,e,⟨h0,h1⟩,h2⟩
theorem jN {fuel:Nat}{v:Value}{x:DataW H × List MemPlace}(h:DataW.trod enc prog w base spare held fuel 33 [v]=some x) :
  ∃(s:Sl) (l:List Zs),v=.slice s.A s.n s.c/\s.ok/\Q8 Yd w s.A s.n l:=by
 obtain⟨A,n,c,l,e,h0,h1,h2,_⟩:=LJ Yd underlying33 du (by omega) (λm cs y=>aL jM) h;exact⟨⟨A,n,c⟩,l,e,⟨h0,h1⟩,h2⟩
theorem aa {fuel:Nat}{v:Value}{x:DataW H × List MemPlace}(h:DataW.trod enc prog w base spare held fuel 34 [v]=some x) :
  ∃(s:Sl) (l:List Zs),v=.slice s.A s.n s.c/\s.ok/\Q8 Yd w s.A s.n l:=by
 obtain⟨A,n,c,l,e,h0,h1,h2,_⟩:=LJ Yd underlying34 eX (by omega) (λm cs y=>aL jl) h;exact⟨⟨A,n,c⟩,l,e,⟨h0,h1⟩,h2⟩
theorem Aa {T E:TypeId}{fuel:Nat}{cs:List Value}{x:DataW H × List MemPlace}(hT:prog.underlying T=some (.slice E)) (h:DataW.trod enc prog w base spare held fuel T cs=some x):∃v,cs=[v]:=by
 rcases Deep.open_slice hT h with⟨hcs,hx⟩|⟨a,len,cap,m,n,D,Pl,hcs,_⟩
 ·exact⟨_,hcs⟩
 ·exact⟨_,hcs⟩
theorem Xq {o fuel:Nat}{t' E:TypeId}{cs:List Value}{x:DataW H × List MemPlace}(hT:prog.underlying t'=some (.slice E)) (h:Gn.contains (o,t')=true) (ht:DataW.trod enc prog w base spare held fuel 38 cs=some x) (hl:o<cs.length) :
  ∃fuel' v x',cs[o]? =some v/\DataW.trod enc prog w base spare held fuel' t' [v]=some x':=by
 obtain⟨f',cs',x',h1,h2⟩:=YF 6 (by rw[Tm];exact fI.1 h) ht (JZ hl);obtain⟨v,rfl⟩:=Aa hT h1;exact⟨f',v,x',(JZ hl).trans h2.symm,h1⟩
theorem XT {o fuel:Nat}{k:IntKind}{t':TypeId}{cs:List Value}{x:DataW H × List MemPlace}(hT:prog.underlying t'=some (.int k)) (h:Gn.contains (o,t')=true) (ht:DataW.trod enc prog w base spare held fuel 38 cs=some x) (hl:o<cs.length) :
  ∃m,cs[o]? =some (.int k m)/\(Lit.int k m).wf=true:=Vr (n:=6) hT (by rw[Tm];exact h) ht hl
theorem Rp {o fuel:Nat}{cs:List Value}{x:DataW H × List MemPlace}(h:Gn.contains (o,9)=true) (ht:DataW.trod enc prog w base spare held fuel 38 cs=some x) (hl:o<cs.length) :
  ∃m:List UInt8,cs[o]? =some (.string (Qb m))/\m.length<=maxLen:=NJ (n:=6) underlying9 (by rw[Tm];exact h) ht hl
theorem Od {o fuel:Nat}{cs:List Value}{x:DataW H × List MemPlace}(h:Gn.contains (o,4)=true) (ht:DataW.trod enc prog w base spare held fuel 38 cs=some x) (hl:o<cs.length) :
  ∃m,cs[o]? =some (.bool m):=BO (n:=6) underlying4 (by rw[Tm];exact h) ht hl
theorem jF {cs:List Value}(hl:cs.length=17):cs=(List.range 17).map λi=>cs.getD i undef:=by
 apply go;intro i;by_cases hi:i<17
 ·rw[LZ,DA hi,JZ (by omega)];simp[ZG,JZ (show i<cs.length by omega)]
 ·rw[Fl (by omega),Fl (by simp;omega)]
theorem JP {cs:List Value}{i:Nat}{v:Value}(h:cs[i]? =some v):cs.getD i undef=v:=by rw[ZG,h];rfl
end
end Go.Proofs.YtfaplefkakpgcaaGreatDoor
namespace Go.Proofs.YtfaplefkakpgcaaGreatDoor
open Go.RowKit
def UJ (P:Program):Nat->TypeId->List (Option IntKind)->Bool
 | 0,_,_=>false
 | d+1,t,ks=>match P.underlying t with
  | some .bool=>ks==[none]
  | some (.int q)=>ks==[some q]
  | some (.array n e)=>ks.length==P.cellsOf t&&(List.range n).all λi=>UJ P d e ((ks.drop (i*P.cellsOf e)).take (P.cellsOf e))
  | some (.struct fs)=>ks.length==P.cellsOf t&&fs.toList.all λf=>UJ P d f.type ((ks.drop f.offset).take (P.cellsOf f.type))
  | _=>false
def Y1 (P:Program) (t:TypeId) (cs:List Value):Value:=match P.underlying t with
 | some (.array _ _)=>.agg cs.toArray
 | some (.struct _)=>.agg cs.toArray
 | _=>cs.headD undef
section
variable {P:Program}(w:World)
theorem Rv {d:Nat}{e:TypeId}{ks:List (Option IntKind)}{vs:List Value}{xs:Array Value}{off:Nat}(hk:UJ P d e ks=true) (hl:vs.length=ks.length) (hc:(xs.toList.drop off).take (P.cellsOf e)=List.zipWith XE ks vs) :
  (part e xs off).run P w=.ok (Y1 P e (List.zipWith XE ks vs)) w:=by
 cases d with
 | zero=>cases hk
 | succ d =>
  rw[UJ]at hk;have agg:∀kd,P.underlying e=some kd->((∃n e',kd=.array n e')\/∃fs,kd=.struct fs)->(part e xs off).run P w=.ok (Y1 P e (List.zipWith XE ks vs)) w:=by
   intro kd hu hk;obtain⟨i,hi⟩:=info_of_underlying hu;have hl:xs.extract off (off+P.cellsOf e)=(List.zipWith XE ks vs).toArray:=by rw[←hc];apply mF.1;rw[Array.toList_extract];simp[List.extract]
   rcases hk with⟨n,e',rfl⟩|⟨fs,rfl⟩<;>simp[part,isAgg,SP hu,run_sizeOf w hi,Y1,hu,hl]
  split at hk
  ·rename_i hu;obtain rfl:ks=[none]:=by simpa using hk
   obtain⟨v,rfl⟩:∃v,vs=[v]:=by
    match vs,hl with
    | [v],_=>exact⟨v,rfl⟩
   have h1:=getElem?_of_chunk (a:=XE none v) hc;rw[run_part_plain w (by simp[Program.plainKey,hu]) h1];simp[Y1,hu]
  ·rename_i q hu;obtain rfl:ks=[some q]:=by simpa using hk
   obtain⟨v,rfl⟩:∃v,vs=[v]:=by
    match vs,hl with
    | [v],_=>exact⟨v,rfl⟩
   have h1:=getElem?_of_chunk (a:=XE (some q) v) hc;rw[run_part_plain w (by simp[Program.plainKey,hu]) h1];simp[Y1,hu]
  ·rename_i n e' hu;exact agg _ hu (.inl ⟨n,e',rfl⟩)
  ·rename_i fs hu;exact agg _ hu (.inr ⟨fs,rfl⟩)
  ·cases hk
theorem PZ {ks:List (Option IntKind)}{vs:List Value}(o c:Nat):((List.zipWith XE ks vs).toArray.toList.drop o).take c=List.zipWith XE ((ks.drop o).take c) ((vs.drop o).take c):=by
 rw[List.toList_toArray,List.drop_zipWith,List.take_zipWith]
theorem K8 {ks:List (Option IntKind)}{vs:List Value}(hl:vs.length=ks.length) (o c:Nat):((vs.drop o).take c).length=((ks.drop o).take c).length:=by
 simp only[WV,WQ,hl]
theorem LL:∀(m:Nat) (t:TypeId) (ks:List (Option IntKind)) (vs:List Value) (d:Nat),P.keyTypeAt m t=true->UJ P m t ks=true->vs.length=ks.length->
  (Op.equalIn (d+m) t (Y1 P t (List.zipWith XE ks vs)) (Y1 P t (List.zipWith XE ks vs))).run P w=.ok true w
 | 0,_,_,_,_,h,_,_=>by simp[Program.keyTypeAt]at h
 | m+1,t,ks,vs,d,ht,hk,hl=>by
  rw[Program.keyTypeAt]at ht;rw[UJ]at hk;cases hu:P.underlying t with
  | none=>simp[hu]at ht
  | some kd =>
   cases kd;case bool =>
    simp only[hu]at hk;obtain rfl:ks=[none]:=by simpa using hk
    obtain⟨v,rfl⟩:∃v,vs=[v]:=by
     match vs,hl with
     | [v],_=>exact⟨v,rfl⟩
    have e:Y1 P t (List.zipWith XE [none] [v])=.bool (mt v):=by simp[Y1,hu,XE]
    rw[e];exact(run_equalIn_bool w (d+m) t _ _ hu).trans (by simp)
   case int q =>
    simp only[hu]at hk;obtain rfl:ks=[some q]:=by simpa using hk
    obtain⟨v,rfl⟩:∃v,vs=[v]:=by
     match vs,hl with
     | [v],_=>exact⟨v,rfl⟩
    have e:Y1 P t (List.zipWith XE [some q] [v])=.int q (DU v):=by simp[Y1,hu,XE]
    rw[e];exact(run_equalIn_int w (d+m) t q q _ _ hu).trans (by simp)
   case array n e =>
    simp only[hu,VB,beq_iff_eq]at hk ht;have ev:Y1 P t (List.zipWith XE ks vs)=.agg (List.zipWith XE ks vs).toArray:=by simp[Y1,hu]
    have T9:∃i,P.info? e=some i:=by
     cases m with
     | zero=>simp[Program.keyTypeAt]at ht
     | succ m' =>
      unfold Program.keyTypeAt at ht;cases hue:P.underlying e with
      | none=>simp[hue]at ht
      | some _=>exact info_of_underlying hue
    obtain⟨i,hi⟩:=T9;rw[ev,show d+(m+1)=(d+m)+1 from rfl,run_equalIn_array w (d+m) _ _ hu hi];have all:=Pv.1 hk.2;generalize List.range n=is at all;induction is with
    | nil=>simp[Op.eqItems]
    | cons j is ih => have hj:=all j LY;have hp:=Rv w hj (K8 hl (j*P.cellsOf e) (P.cellsOf e)) (PZ (ks:=ks) (vs:=vs) _ _);have hs:=LL m e _ _ d ht hj (K8 hl (j*P.cellsOf e) (P.cellsOf e));simp only[Op.eqItems,WW,hp,hs,MZ];simpa using ih (λx hx=>all x (LX _ hx))
   case struct fs =>
    simp only[hu,VB,mQ,beq_iff_eq]at hk ht;have ev:Y1 P t (List.zipWith XE ks vs)=.agg (List.zipWith XE ks vs).toArray:=by simp[Y1,hu]
    have Bq:P.fieldsOf t=fs:=by simp[Program.fieldsOf,hu]
    rw[ev,show d+(m+1)=(d+m)+1 from rfl,run_equalIn_struct w (d+m) t _ _ (by rw[Bq];exact hu) ht.2,Bq];have all:=Pv.1 hk.2;have Oj:∀f∈fs.toList,(f.name != "_")=true/\P.keyTypeAt m f.type=true:=λf hf=>by have:=pX.1 ht.1.1 f (Array.mem_toList_iff.1 hf);simpa only[VB]using this
    generalize fs.toList=l at all Oj;induction l with
    | nil=>simp[Op.eqFields]
    | cons f l ih =>
     have hj:=all f LY;obtain⟨hn,hkt⟩:=Oj f LY;have a8:f.name≠"_":=by simpa using hn
     have hp:=Rv w hj (K8 hl f.offset (P.cellsOf f.type)) (PZ (ks:=ks) (vs:=vs) _ _);have hs:=LL m f.type _ _ d hkt hj (K8 hl f.offset (P.cellsOf f.type));simp only[Op.eqFields,a8,ne_eq,not_false_eq_true,if_true,WW,hp,hs,MZ];simpa using ih (λx hx=>all x (LX _ hx)) (λx hx=>Oj x (LX _ hx))
   all_goals first|(simp[hu]at ht;done)|(simp[hu]at hk;done)
end
end Go.Proofs.YtfaplefkakpgcaaGreatDoor
