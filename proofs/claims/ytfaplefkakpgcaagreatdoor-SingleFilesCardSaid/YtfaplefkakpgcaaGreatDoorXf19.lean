/- A value of a type that is made of structs and arrays, read cell by cell; slices of such. -/
import Derived.Test.YtfaplefkakpgcaaGreatDoorXf18
import Derived.SizedLaws
import Derived.Deep.Slices
import Derived.Test.YtfaplefkakpgcaaGreatDoorXf1
set_option linter.unusedVariables false
set_option linter.unusedSimpArgs false
set_option maxHeartbeats 32000000
set_option maxRecDepth 100000
namespace Go.Proofs.YtfaplefkakpgcaaGreatDoor
open Go.ChangeShapes Go.WideShapes Go.ChangeAt Go.RowKit
def leavesAt (P:Program):Nat->TypeId->List (Nat × TypeId)
 | 0,_=>[]
 | n+1,t=>match P.underlying t with
  | some (.struct fs)=>fs.toList.flatMap λf=>(leavesAt P n f.type).filterMap λp=>if p.1<P.cellsOf f.type then some (f.offset+p.1,p.2) else none
  | some (.array k e)=>(List.range k).flatMap λi=>(leavesAt P n e).filterMap λp=>if p.1<P.cellsOf e then some (i*P.cellsOf e+p.1,p.2) else none
  | _=>[(0,t)]
section
variable {H:Type}{enc:TypeId × Value->H}{P:Program}{w:World}{base:Nat}{spare:Nat->Bool}{held:Bool}
theorem leaf_trod:∀(n:Nat) {t t':TypeId}{o fuel:Nat}{cs:List Value}{x:DataW H × List MemPlace}{v:Value},(o,t')∈leavesAt P n t->DataW.trod enc P w base spare held fuel t cs=some x->cs[o]? =some v->
  ∃fuel' cs' x',DataW.trod enc P w base spare held fuel' t' cs'=some x'/\cs'[0]? =some v
 | 0,_,_,_,_,_,_,_,h,_,_=>by simp[leavesAt]at h
 | n+1,t,t',o,fuel,cs,x,v,h,ht,hv=>by
  rw[leavesAt]at h;split at h
  ·rename_i fs hu;obtain⟨xs,m,_,_,_,hxl,hf⟩:=DataW.trod_struct hu ht;obtain⟨f,hfm,hp⟩:=List.mem_flatMap.1 h;obtain⟨p,hp1,hp2⟩:=List.mem_filterMap.1 hp;obtain⟨i,hi,hif⟩:=List.getElem_of_mem hfm;have hi':i<fs.size:=by simpa using hi
   have h1:=hf i f (by rw[Array.getElem?_eq_getElem hi'];exact congrArg some (by simpa using hif));rw[List.getElem?_eq_getElem (by omega)]at h1;split at hp2
   ·rename_i hlt;injection hp2 with hp2;injection hp2 with e1 e2;subst e1;refine leaf_trod n (t:=f.type) (o:=p.1) (by rw[← e2];exact hp1) h1 ?_;rw[List.getElem?_take,if_pos hlt,List.getElem?_drop];exact hv
   ·cases hp2
  ·rename_i k e hu;obtain⟨xs,m,_,_,_,hxl,hf⟩:=DataW.trod_array hu ht;obtain⟨i,him,hp⟩:=List.mem_flatMap.1 h;obtain⟨p,hp1,hp2⟩:=List.mem_filterMap.1 hp;have hi:i<k:=List.mem_range.1 him;have h1:=hf i hi;rw[List.getElem?_eq_getElem (by omega)]at h1;split at hp2
   ·rename_i hlt;injection hp2 with hp2;injection hp2 with e1 e2;subst e1;refine leaf_trod n (t:=e) (o:=p.1) (by rw[← e2];exact hp1) h1 ?_;rw[List.getElem?_take,if_pos hlt,List.getElem?_drop];exact hv
   ·cases hp2
  ·obtain⟨rfl,rfl⟩:o=0/\t'=t:=by simpa using h
   exact⟨fuel,cs,x,ht,hv⟩
theorem leaf_string {n:Nat}{t t':TypeId}{o fuel:Nat}{cs:List Value}{x:DataW H × List MemPlace}(hu:P.underlying t'=some .string) (h:(leavesAt P n t).contains (o,t')=true) (ht:DataW.trod enc P w base spare held fuel t cs=some x) (hl:o<cs.length) :
  ∃m:List UInt8,cs[o]? =some (.string (str m))/\m.length<=maxLen:=by
 obtain⟨f',cs',x',h1,h2⟩:=leaf_trod n (List.contains_iff_mem.1 h) ht (List.getElem?_eq_getElem hl);obtain⟨m,rfl,_,hw⟩:=DataW.trod_string hu h1;exact⟨m.data.toList,(List.getElem?_eq_getElem hl).trans h2.symm,by have:=str_size m.data.toList;rw[← str_of]at this;omega⟩
def RowOf {α:Type} (f:α->List Value) (w:World) (A:Option Addr) (n:Nat) (l:List α):Prop :=
 n=l.length/\(0<n->∃b o,A=some ⟨b,o,none⟩/\∀j v,(l.flatMap f)[j]? =some v->w.cell? ⟨b,o+j,none⟩=some v)
theorem RowOf.ext {α:Type} {f:α->List Value}{w w':World}{A:Option Addr}{n:Nat}{l:List α}(h:RowOf f w A n l) (k:Ext w w'):RowOf f w' A n l :=
 ⟨h.1,λhn=>by obtain⟨b,o,e,hc⟩:=h.2 hn;exact⟨b,o,e,λj v hj=>k.keep (hc j v hj)⟩⟩
theorem flat_len {α:Type} (f:α->List Value) (z:Nat):∀(l:List α),(∀x∈l,(f x).length=z)->(l.flatMap f).length=l.length*z
 | [],_=>by simp
 | x::l,h=>by rw[List.flatMap_cons,List.length_append,h x (by simp),flat_len f z l (λy hy=>h y (by simp[hy])),List.length_cons,Nat.succ_mul];omega
theorem flat_at {α:Type} (f:α->List Value) (z:Nat):∀(l:List α),(∀x∈l,(f x).length=z)->∀(j:Nat) (h:j<l.length) (i:Nat),i<z->(l.flatMap f)[j*z+i]? =(f l[j])[i]?
 | x::l,hz,0,_,i,hi=>by rw[List.flatMap_cons,Nat.zero_mul,Nat.zero_add,List.getElem?_append_left (by rw[hz x (by simp)];exact hi)];rfl
 | x::l,hz,j+1,h,i,hi=>by have hx:=hz x (by simp);rw[List.flatMap_cons,List.getElem?_append_right (by rw[hx,Nat.succ_mul];omega),hx,show(j+1)*z+i-z=j*z+i by rw[Nat.succ_mul];omega];exact flat_at f z l (λy hy=>hz y (by simp[hy])) j (by simpa using h) i hi
theorem RowOf.cell {α:Type} {f:α->List Value}{w:World}{b o n:Nat}{l:List α}{z:Nat}(hc:∀j v,(l.flatMap f)[j]? =some v->w.cell? ⟨b,o+j,none⟩=some v) (hz:∀x∈l,(f x).length=z) {k:Nat}(hk:k<l.length) {i:Nat}(hi:i<z) {v:Value}(hv:(f l[k])[i]? =some v) :
  w.cell? ⟨b,o+(k*z+i),none⟩=some v:=hc _ _ ((flat_at f z l hz k hk i hi).trans hv)
theorem row_in {α:Type} [Inhabited α] (f:α->List Value) {z:Nat}{T E:TypeId}{fuel:Nat}{v:Value}{x:DataW H × List MemPlace}(hT:P.underlying T=some (.slice E)) (hE:P.cellsOf E=z) (hz0:0<z)
  (hin:∀(m:Nat) (cs:List Value) (y:DataW H × List MemPlace),cs.length=z->DataW.trod enc P w base spare held m E cs=some y->∃a:α,cs=f a)
  (h:DataW.trod enc P w base spare held fuel T [v]=some x) :
  ∃A n c l,v=.slice A n c/\(A=none->n=0/\c=0)/\(n<=maxLen/\n<=c)/\RowOf f w A n l/\∀a∈l,(f a).length=z:=by
 rcases Deep.open_slice hT h with⟨hcs,hx⟩|⟨a,len,cap,m,n,D,Pl,hcs,hb,hl,hm,hmm,hx,hel⟩
 ·injection hcs with hcs _;exact⟨none,0,0,[],hcs,λ_=>⟨rfl,rfl⟩,⟨by unfold maxLen;omega,by omega⟩,⟨rfl,λh=>by omega⟩,λa h=>by cases h⟩
 ·injection hcs with hcs _;have hlm:len<=m:=by rw[hmm];split<;>omega
  have each:∀i,i<len->∃y:α,w.cells? base (a.add (i*z)) z=some (f y):=λi hi=>by obtain⟨cs',h1,h2⟩:=hel i (by omega);rw[hE]at h1;obtain⟨y,rfl⟩:=hin _ _ _ (World.cells?_some h1).2.1 h2;exact⟨y,h1⟩
  obtain⟨q,hq⟩:=Deep.choose_lt each;have hlen:∀y∈(List.range len).map q,(f y).length=z:=λy hy=>by obtain⟨i,hi,rfl⟩:=List.mem_map.1 hy;exact(World.cells?_some (hq i (List.mem_range.1 hi))).2.1
  refine⟨some a,len,cap,(List.range len).map q,hcs,(λh=>by cases h),⟨by omega,by omega⟩,⟨by simp,λhn=>?_⟩,hlen⟩;obtain⟨b,off,spot⟩:=a;have hspot:spot=none:=by have:=(World.cells?_some (hq 0 hn)).2.2 0 (by omega);rw[List.getElem?_eq_getElem (by rw[(World.cells?_some (hq 0 hn)).2.1];omega)]at this;simpa[Addr.add]using World.cell?_spot this
  subst hspot;refine⟨b,off,rfl,λj u hj=>?_⟩;have hjl:j<len*z:=by have:=(List.getElem?_eq_some_iff.1 hj).1;rw[flat_len f z _ hlen]at this;simpa using this
  have hk:j/z<len:=Nat.div_lt_of_lt_mul (by rw[Nat.mul_comm];exact hjl);have hr:j%z<z:=Nat.mod_lt _ hz0;have ej:j/z*z+j%z=j:=by rw[Nat.mul_comm];exact Nat.div_add_mod j z
  have e:=flat_at f z ((List.range len).map q) hlen (j/z) (by simpa using hk) (j%z) hr;rw[ej,hj]at e;have hc:=(World.cells?_some (hq (j/z) hk)).2.2 (j%z) hr;rw[Deep.add_add,add_plain]at hc;rw[show off+j=off+(j/z*z+j%z) by rw[ej],hc];simp at e;exact e.symm
end
end Go.Proofs.YtfaplefkakpgcaaGreatDoor
namespace Go.Proofs.YtfaplefkakpgcaaGreatDoor
open Go.Proofs.Tryz
open Go.ChangeShapes Go.WideShapes Go.ChangeAt Go.RowKit
structure PrT where
 pid:Int
 parent:Int
 state:Int
 reg:Nat->Int
 pc:Int
 pis:Nat->Bool
 pwr:Nat->Bool
 pfr:Nat->Int
 fk:Nat->Int
 fn:Nat->Int
 fp:Nat->Int
 mask:Bool
 code:Int
 why:Int
 num:Int
instance prInh:Inhabited PrT:=⟨⟨0,0,0,λ_=>0,0,λ_=>false,λ_=>false,λ_=>0,λ_=>0,λ_=>0,λ_=>0,false,0,0,0⟩⟩
def pteL (p:PrT) (i:Nat):List Value:=[.bool (p.pis i),.bool (p.pwr i),.int .i64 (p.pfr i)]
def fdL (p:PrT) (i:Nat):List Value:=[.int .i64 (p.fk i),.int .i64 (p.fn i),.int .i64 (p.fp i)]
def prL (p:PrT):List Value:=[.int .i64 p.pid,.int .i64 p.parent,.int .i64 p.state]++(List.range 16).map (λi=>.int .u32 (p.reg i))++[.int .u32 p.pc]++(List.range 16).flatMap (pteL p)++(List.range 8).flatMap (fdL p)++[.bool p.mask,.int .u32 p.code,.int .i64 p.why,.int .u64 p.num]
theorem prL_len (p:PrT):(prL p).length=96:=rfl
theorem prL_one (p:PrT):∀v∈prL p,v.oneCell'=true:=by
 intro v hv;simp only[prL,pteL,fdL,List.mem_append,List.mem_cons,List.not_mem_nil,or_false,List.mem_map,List.mem_flatMap]at hv;rcases hv with(((((h|h|h)|⟨i,_,h⟩)|h)|⟨i,_,h|h|h⟩)|⟨i,_,h|h|h⟩)|(h|h|h|h)<;>(subst h;rfl)
theorem prSize:(prog.info? 57).map (·.size)=some 96:=by kernel_rfl
theorem stCells:prog.cellsOf 9=1:=by kernel_rfl
def stL (s:List UInt8):List Value:=[.string (str s)]
instance wrInh:Inhabited WrT:=⟨(0,[])⟩
structure Sl where
 A:Option Addr
 n:Nat
 c:Nat
structure Mac where
 clock:Int
 quantum:Int
 cur:Int
 left:Int
 fr:Sl
 pr:Sl
 next:Int
 init:List UInt8
 pi:Sl
 newPipe:Int
 inn:List UInt8
 fin:Bool
 told:Int
 bl:Sl
 pe:Sl
 dleft:Int
 di:Sl
def Mac.cells (m:Mac):Array Value:=#[.int .u64 m.clock,.int .i64 m.quantum,.int .i64 m.cur,.int .i64 m.left,.slice m.fr.A m.fr.n m.fr.c,.slice m.pr.A m.pr.n m.pr.c,.int .i64 m.next,.string (str m.init),.slice m.pi.A m.pi.n m.pi.c,.int .i64 m.newPipe,.string (str m.inn),.bool m.fin,.int .u64 m.told,.slice m.bl.A m.bl.n m.bl.c,.slice m.pe.A m.pe.n m.pe.c,.int .i64 m.dleft,.slice m.di.A m.di.n m.di.c]
structure MacD where
 fr:List (List UInt8)
 pr:List PrT
 pi:List WrT
 bl:List (List UInt8)
 pe:List WrT
 di:List WrT
def Sl.ok (s:Sl):Prop:=(s.A=none->s.n=0/\s.c=0)/\s.n<=maxLen/\s.n<=s.c
structure MacIn (w:World) (m:Mac) (d:MacD):Prop where
 fr:RowOf stL w m.fr.A m.fr.n d.fr
 pr:RowOf prL w m.pr.A m.pr.n d.pr
 pi:RowOf wrL w m.pi.A m.pi.n d.pi
 bl:RowOf stL w m.bl.A m.bl.n d.bl
 pe:RowOf wrL w m.pe.A m.pe.n d.pe
 di:RowOf wrL w m.di.A m.di.n d.di
 frk:m.fr.ok
 prk:m.pr.ok
 pik:m.pi.ok
 blk:m.bl.ok
 pek:m.pe.ok
 dik:m.di.ok
 initk:m.init.length<=maxLen
 innk:m.inn.length<=maxLen
 leftk:(Lit.int .i64 m.dleft).wf=true
theorem MacIn.ext {w w':World}{m:Mac}{d:MacD}(h:MacIn w m d) (k:Ext w w'):MacIn w' m d :=
 ⟨h.fr.ext k,h.pr.ext k,h.pi.ext k,h.bl.ext k,h.pe.ext k,h.di.ext k,h.frk,h.prk,h.pik,h.blk,h.pek,h.dik,h.initk,h.innk,h.leftk⟩
section
variable {H:Type}{enc:TypeId × Value->H}{w:World}{base:Nat}{spare:Nat->Bool}{held:Bool}
theorem st_in {m:Nat}{cs:List Value}{y:DataW H × List MemPlace}(hl:cs.length=1) (h:DataW.trod enc prog w base spare held m 9 cs=some y):∃a:List UInt8,cs=stL a:=by
 obtain⟨s,rfl,_⟩:=DataW.trod_string underlying9 h;exact⟨s.data.toList,rfl⟩
theorem strs_in {fuel:Nat}{v:Value}{x:DataW H × List MemPlace}(h:DataW.trod enc prog w base spare held fuel 22 [v]=some x) :
  ∃(s:Sl) (l:List (List UInt8)),v=.slice s.A s.n s.c/\s.ok/\RowOf stL w s.A s.n l:=by
 obtain⟨A,n,c,l,e,h0,h1,h2,_⟩:=row_in stL underlying22 stCells (by omega) (λm cs y=>st_in) h;exact⟨⟨A,n,c⟩,l,e,⟨h0,h1⟩,h2⟩
theorem one_slice {T E:TypeId}{fuel:Nat}{cs:List Value}{x:DataW H × List MemPlace}(hT:prog.underlying T=some (.slice E)) (h:DataW.trod enc prog w base spare held fuel T cs=some x):∃v,cs=[v]:=by
 rcases Deep.open_slice hT h with⟨hcs,hx⟩|⟨a,len,cap,m,n,D,Pl,hcs,_⟩
 ·exact⟨_,hcs⟩
 ·exact⟨_,hcs⟩
end
end Go.Proofs.YtfaplefkakpgcaaGreatDoor
