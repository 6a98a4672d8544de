/- Package own: Drive, Machine. -/
import Derived.Test.YtfaplefkakpgcaaGreatDoorXf20
import Derived.Test.YtfaplefkakpgcaaGreatDoorXf1
import Derived.Maps.Own
import Derived.Maps.OwnSet
import Derived.Maps.OwnOps
import Derived.Maps.Views
import Derived.Test.YtfaplefkakpgcaaGreatDoorXf14
import Derived.Test.YtfaplefkakpgcaaGreatDoorXf5
import Derived.Test.YtfaplefkakpgcaaGreatDoorXf10
set_option linter.unusedVariables false
set_option linter.unusedSimpArgs false
set_option maxHeartbeats 32000000
set_option maxRecDepth 100000
namespace Go.Proofs.YtfaplefkakpgcaaGreatDoor
open Go.Proofs.Tryz
open Go.RowKit
theorem mac_drv {w:World}{g:Nat}{t:TypeId}{m:Mac}(h:Box w g t m.cells):w.rangeAt g 13 [.slice m.bl.A m.bl.n m.bl.c,.slice m.pe.A m.pe.n m.pe.c,.int .i64 m.dleft]:=box_range h (λj v hj=>by
 match j with
 | 0=>exact hj
 | 1=>exact hj
 | 2=>exact hj
 | j+3=>cases hj)
theorem grown_cells {g:Nat}:∀(vs:List Value) (o:Nat) (w:World),w.grownBy (w.setCells g o vs) (some g)
 | [],_,w=>⟨rfl,rfl,rfl,Nat.le_refl _,λ_ _ _=>rfl⟩
 | v::r,o,w=>by
  have h:=grown_cells (g:=g) r (o+1) (w.setCell ⟨g,o,none⟩ v);have h1:(w.setCell ⟨g,o,none⟩ v).heap.size=w.heap.size:=by simp[World.setCell]
  exact⟨h.os,h.tape,h.output,by have:=h.size;rw[h1]at this;exact this,λk hk hne=>(h.block k (by omega) hne).trans (Below.heap_setCell w ⟨g,o,none⟩ v k (λe=>hne (by rw[e])))⟩
section
variable {ops:Array Oper}{rest:List Oper}{o:Oper}{a:Act}{w:World}{Q:Exit->Act->World->Prop}
theorem wp_ld_drvM (x:Operand) (hgd:o.guard=none) (ho:o.op=.load 36 x) (g:Nat) (m:Mac) (t:TypeId) (hx:a.eval x=.pointer (some ⟨g,13,none⟩)) (hb:Box w g t m.cells)
  (hK:wpList prog ops Q rest (a.put o.dst (.agg #[.slice m.bl.A m.bl.n m.bl.c,.slice m.pe.A m.pe.n m.pe.c,.int .i64 m.dleft])) w):wpList prog ops Q (o::rest) a w :=
 wpList_load_mid hgd _ x ho g 13 hx _ _ (mac_drv hb) underlying36 rfl drvSize hK
end
structure MacSmall (m:Mac):Prop where
 fr:m.fr.n<=100000
 pr:m.pr.n<=100000
 pi:m.pi.n<=100000
 bl:m.bl.n<=100000
 pe:m.pe.n<=100000
 di:m.di.n<=100000
def TyOk (w:World) (s:Sl):Prop:=∀b o,s.A=some ⟨b,o,none⟩->∃cs t,t≠38/\Box w b t cs
structure MacTy (w:World) (m:Mac):Prop where
 fr:TyOk w m.fr
 pr:TyOk w m.pr
 pi:TyOk w m.pi
 bl:TyOk w m.bl
 pe:TyOk w m.pe
 di:TyOk w m.di
theorem TyOk.ext {w w':World}{s:Sl}(h:TyOk w s) (x:Ext w w'):TyOk w' s:=λb o e=>by
 obtain⟨cs,t,ht,hb⟩:=h b o e;exact⟨cs,t,ht,hb.ext x⟩
theorem TyOk.nil (w:World):TyOk w ⟨none,0,0⟩:=λb o e=>by cases e
theorem MacTy.ext {w w':World}{m:Mac}(h:MacTy w m) (x:Ext w w'):MacTy w' m:=⟨h.fr.ext x,h.pr.ext x,h.pi.ext x,h.bl.ext x,h.pe.ext x,h.di.ext x⟩
theorem ty_of_own {w:World}{base size n:Nat}{e:TypeId}{s:Sl}{xs:List Value}(h:w.ownsRow base e size (.slice s.A s.n s.c) n xs) (he:e≠38):TyOk w s:=λb o hs=>by
 rcases h.2 with⟨e1,_⟩|⟨g,cap,cur,e1,_,hh,_⟩
 ·injection e1 with e1;rw[hs]at e1;cases e1
 ·injection e1 with e1;rw[hs]at e1;injection e1 with e1;injection e1 with e1;subst e1;exact⟨cur,e,he,hh⟩
theorem TyOk.grown {w w':World}{s:Sl}{g:Nat}{cs:Array Value}(h:TyOk w s) (hb:Box w g 38 cs) (hg:w.grownBy w' (some g)):TyOk w' s:=λb o e=>by
 obtain⟨cs1,t,ht,hb1⟩:=h b o e;exact⟨cs1,t,ht,hb1.grown hg (λe=>hb1.ne hb ht (by injection e))⟩
theorem RowOf.grown {α:Type} {f:α->List Value}{w w':World}{s:Sl}{g:Nat}{cs:Array Value}{l:List α}(h:RowOf f w s.A s.n l) (ht:TyOk w s) (hb:Box w g 38 cs) (hg:w.grownBy w' (some g)):RowOf f w' s.A s.n l :=
 ⟨h.1,λhp=>by
  obtain⟨b,o,e,hc⟩:=h.2 hp;refine⟨b,o,e,λj v hj=>?_⟩;have hcj:=hc j v hj;obtain⟨cs1,t,ht1,hb1⟩:=ht b o e;rw[World.cell?_of_block (w:=w) (hg.block b hb1.lt (λe=>hb1.ne hb ht1 (by injection e)))];exact hcj⟩
theorem MacIn.grown {w w':World}{m:Mac}{d:MacD}{g:Nat}{cs:Array Value}(h:MacIn w m d) (hn:MacTy w m) (hb:Box w g 38 cs) (hg:w.grownBy w' (some g)):MacIn w' m d :=
 ⟨h.fr.grown hn.fr hb hg,h.pr.grown hn.pr hb hg,h.pi.grown hn.pi hb hg,h.bl.grown hn.bl hb hg,h.pe.grown hn.pe hb hg,h.di.grown hn.di hb hg,h.frk,h.prk,h.pik,h.blk,h.pek,h.dik,h.initk,h.innk,h.leftk⟩
theorem MacTy.grown {w w':World}{m:Mac}{g:Nat}{cs:Array Value}(h:MacTy w m) (hb:Box w g 38 cs) (hg:w.grownBy w' (some g)):MacTy w' m :=
 ⟨h.fr.grown hb hg,h.pr.grown hb hg,h.pi.grown hb hg,h.bl.grown hb hg,h.pe.grown hb hg,h.di.grown hb hg⟩
structure MacF (B0:Nat) (w:World) (m:Mac) (d:MacD):Prop where
 fr:RowF B0 stL 9 w m.fr d.fr
 pr:RowF B0 prL 57 w m.pr d.pr
 pi:RowF B0 wrL 95 w m.pi d.pi
 bl:RowF B0 stL 9 w m.bl d.bl
 pe:RowF B0 wrL 92 w m.pe d.pe
 di:RowF B0 wrL 92 w m.di d.di
 initk:m.init.length<=maxLen
 innk:m.inn.length<=maxLen
 leftk:(Lit.int .i64 m.dleft).wf=true
theorem MacF.ext {B0:Nat}{w w':World}{m:Mac}{d:MacD}(h:MacF B0 w m d) (x:Ext w w'):MacF B0 w' m d:=⟨h.fr.ext x,h.pr.ext x,h.pi.ext x,h.bl.ext x,h.pe.ext x,h.di.ext x,h.initk,h.innk,h.leftk⟩
theorem MacF.grown {B0:Nat}{w w':World}{m:Mac}{d:MacD}{g:Nat}{t:TypeId}{cs:Array Value}(h:MacF B0 w m d) (ht:∀T∈[9,57,95,92],T≠t) (hb:Box w g t cs) (hg:w.grownBy w' (some g)) (hB:B0<=g:=by omega):MacF B0 w' m d :=
 ⟨h.fr.grown (ht _ (by simp)) hb hg hB,h.pr.grown (ht _ (by simp)) hb hg hB,h.pi.grown (ht _ (by simp)) hb hg hB,h.bl.grown (ht _ (by simp)) hb hg hB,h.pe.grown (ht _ (by simp)) hb hg hB,h.di.grown (ht _ (by simp)) hb hg hB,h.initk,h.innk,h.leftk⟩
theorem MacF.old {w:World}{m:Mac}{d:MacD}(h:MacIn w m d) (hs:MacSmall m):MacF w.heap.size w m d :=
 ⟨RowF.old ⟨h.fr,h.frk,hs.fr⟩ (λ_ _=>Nat.one_pos),RowF.old ⟨h.pr,h.prk,hs.pr⟩ (λ_ _=>by rw[prL_len];omega),RowF.old ⟨h.pi,h.pik,hs.pi⟩ (λ_ _=>Nat.succ_pos _),RowF.old ⟨h.bl,h.blk,hs.bl⟩ (λ_ _=>Nat.one_pos),RowF.old ⟨h.pe,h.pek,hs.pe⟩ (λ_ _=>Nat.succ_pos _),RowF.old ⟨h.di,h.dik,hs.di⟩ (λ_ _=>Nat.succ_pos _),h.initk,h.innk,h.leftk⟩
def Mac.with (m:Mac) (fr pr pi bl pe di:Sl):Mac:={ m with fr:=fr,pr:=pr,pi:=pi,bl:=bl,pe:=pe,di:=di }
def putR:Array Value->Nat->List Value->Array Value
 | cs,_,[]=>cs
 | cs,o,v::l=>putR (cs.setIfInBounds o v) (o+1) l
theorem putR_box {g:Nat}{t:TypeId}:∀(vs:List Value) (o:Nat) (w:World) (cs:Array Value),Box w g t cs->Box (w.setCells g o vs) g t (putR cs o vs)
 | [],_,_,_,h=>h
 | v::l,o,w,cs,h=>putR_box l (o+1) (w.setCell ⟨g,o,none⟩ v) _ (h.set o v)
theorem putR_but {g:Nat}:∀(vs:List Value) (o:Nat) (w:World),But g w (w.setCells g o vs)
 | [],_,w=>But.refl g w
 | v::l,o,w=>((But.refl g w).setCell o v).trans (putR_but l (o+1) _)
section
variable {ops:Array Oper}{rest:List Oper}{o:Oper}{a:Act}{w:World}{Q:Exit->Act->World->Prop}
theorem wp_st_cell (T:TypeId) (x y:Operand) (hgd:o.guard=none) (ho:o.op=.store T x y) (g i:Nat) (v:Value) (cs ds:Array Value) (t:TypeId) (hx:a.eval x=.pointer (some ⟨g,i,none⟩)) (hy:a.eval y=v) (hv:v.oneCell'=true)
  (hi:(prog.info? T).map (·.size)=some 1) (hb:Box w g t cs) (hlt:i<cs.size) (hds:cs.setIfInBounds i v=ds)
  (hK:∀w',Box w' g t ds->But g w w'->wpList prog ops Q rest (a.put o.dst undef) w'):wpList prog ops Q (o::rest) a w:=by
 have hr:=run_storeCells_cells (P:=prog) g i [v] 0 w (λj hj=>by
   have h0:j=0:=by simpa using hj
   subst h0;rw[show i+(0+0)=i from rfl,hb.cell i,Array.getElem?_eq_getElem hlt];rfl) (λj hj=>hb.frozen _) (λu hu=>by
   rw[List.mem_singleton.1 hu];exact hv)
 have hc:v.cells=#[v]:=by cases v<;>first|rfl|cases hv
 refine wpList_plain hgd λK hK'=>?_;unfold Oper.wp execOp;cases hq:prog.info? T with
 | none=>simp[hq]at hi
 | some j =>
  have hs:j.size=1:=by simpa[hq]using hi
  have hst:(storeVar T ⟨g,i,none⟩ v).run prog w=.ok () (w.setCells g i [v]):=by simp only[Nat.add_zero]at hr;simp[storeVar,sizeOf,typeInfo,hq,hc,hs,hr]
  simp only[ho,hx,hy,Instr.storeAt,Instr.sureAddr,Sem.run_bind,Sem.run_pure,Result.andThen_ok,hst];exact hK' _ _ (hK _ (by rw[← hds];exact putR_box [v] i w cs hb) (putR_but [v] i w))
theorem wp_st_range (T:TypeId) (x y:Operand) (hgd:o.guard=none) (ho:o.op=.store T x y) (g i:Nat) (vs:List Value) (cs ds:Array Value) (t:TypeId) (hx:a.eval x=.pointer (some ⟨g,i,none⟩)) (hy:a.eval y=.agg vs.toArray) (hv:∀v∈vs,v.oneCell'=true)
  (hi:(prog.info? T).map (·.size)=some vs.length) (hb:Box w g t cs) (hlt:i+vs.length<=cs.size) (hds:putR cs i vs=ds)
  (hK:∀w',Box w' g t ds->But g w w'->wpList prog ops Q rest (a.put o.dst undef) w'):wpList prog ops Q (o::rest) a w:=by
 refine wpList_store_mid hgd _ x y ho g i vs.toArray hx hy (λj hj=>?_) (by rw[List.size_toArray];exact hi) (all_oneCell_toArray hv) (hK _ ?_ ?_)
 ·have hj3:j<vs.length:=by simpa using hj
  refine⟨?_,hb.frozen (i+j)⟩;rw[hb.cell (i+j),Array.getElem?_eq_getElem (by omega)];rfl
 ·rw[← hds];exact putR_box vs i w cs hb
 ·exact putR_but vs i w
end
theorem szInt:(prog.info? 3).map (·.size)=some 1:=by kernel_rfl
theorem szU32:(prog.info? 45).map (·.size)=some 1:=by kernel_rfl
theorem szU64:(prog.info? 31).map (·.size)=some 1:=by kernel_rfl
theorem szBool:(prog.info? 4).map (·.size)=some 1:=by kernel_rfl
theorem szStr:(prog.info? 9).map (·.size)=some 1:=by kernel_rfl
theorem szPrs:(prog.info? 32).map (·.size)=some 1:=by kernel_rfl
theorem szPis:(prog.info? 33).map (·.size)=some 1:=by kernel_rfl
theorem szWrs:(prog.info? 34).map (·.size)=some 1:=by kernel_rfl
theorem putR_space (y q:PrT):putR (prL y).toArray 20 (spaceL q)=(prL { y with pis:=q.pis,pwr:=q.pwr,pfr:=q.pfr }).toArray:=by kernel_rfl
theorem spaceL_len (q:PrT):(spaceL q).length=48:=rfl
theorem spaceL_one (p:PrT):∀v∈spaceL p,v.oneCell'=true:=λv hv=>by
 simp only[spaceL,pteL,List.mem_flatMap,List.mem_cons,List.not_mem_nil,or_false]at hv;obtain⟨i,_,h|h|h⟩:=hv<;>(subst h;rfl)
def PrT.pages (y q:PrT):PrT:={ y with pis:=q.pis,pwr:=q.pwr,pfr:=q.pfr }
theorem wp_st_space {ops:Array Oper}{rest:List Oper}{o:Oper}{a:Act}{w:World}{Q:Exit->Act->World->Prop}(x z:Operand) (hgd:o.guard=none) (ho:o.op=.store 52 x z) (g:Nat) (y q:PrT) (t:TypeId) (hx:a.eval x=.pointer (some ⟨g,20,none⟩)) (hy:a.eval z=.agg (spaceL q).toArray)
  (hb:Box w g t (prL y).toArray) (hK:∀w',Box w' g t (prL (y.pages q)).toArray->But g w w'->wpList prog ops Q rest (a.put o.dst undef) w'):wpList prog ops Q (o::rest) a w :=
 wp_st_range _ x z hgd ho g 20 (spaceL q) _ _ t hx hy (spaceL_one q) (by rw[spaceL_len];exact spaceSize) hb (by rw[spaceL_len,List.size_toArray,prL_len];decide) (putR_space y q) hK
theorem mac_range0 {w:World}{g:Nat}{t:TypeId}{m:Mac}(h:Box w g t m.cells):w.rangeAt g 0 m.cells.toList:=λj v hj=>by
 rw[Nat.zero_add];exact(h.cell j).trans (by rw[← hj];simp)
theorem wp_ld_mac_g {ops:Array Oper}{rest:List Oper}{o:Oper}{a:Act}{w:World}{Q:Exit->Act->World->Prop}(x:Operand) (hw:Region.wanted o (yielded ops a.tmps)=true) (ho:o.op=.load 38 x) (g:Nat) (m:Mac) (t:TypeId) (hx:a.eval x=.pointer (some ⟨g,0,none⟩))
  (hb:Box w g t m.cells) (hK:wpList prog ops Q rest (a.put o.dst (.agg m.cells)) w):wpList prog ops Q (o::rest) a w:=by
 unfold wpList;rw[if_pos hw];exact .inl (wp_load_mid _ x ho g 0 hx _ _ (mac_range0 hb) underlying38 rfl macSize hK)
theorem grown_then {w a b:World}{g r:Option Nat}(h:w.grownBy a g) (k:a.grownBy b r) (hr:∀j,r=some j->w.heap.size<=j\/g=some j):w.grownBy b g :=
 ⟨k.os.trans h.os,k.tape.trans h.tape,k.output.trans h.output,Nat.le_trans h.size k.size,λi hi hne=>(k.block i (Nat.lt_of_lt_of_le hi h.size) (λe=>by
  rcases hr i e.symm with h1|h1
  ·omega
  ·exact hne h1.symm)).trans (h.block i hi hne)⟩
theorem ownsMap_ext {H:Type}{P:Program}{k:TypeId}{R:Value->Option (DataW H × List MemPlace)}{w w':World}{b n:Nat}{D:DataW H}(h:w.ownsMap P k R b n D) (x:Ext w w'):w'.ownsMap P k R b n D:=by
 obtain⟨es,cl,hb,r⟩:=h;exact⟨es,cl,(x.block b (Array.getElem?_eq_some_iff.1 hb).1).trans hb,r⟩
theorem intKeyed:Maps.Keyed prog 3:=Maps.int_keyed underlying3
theorem key_i64 (k:Nat) (hk:k<=100000):keyOf prog 3 (.int .i64 (k:Int))=some (.int .i64 (k:Int)):=by
 have hw:(Lit.int .i64 (k:Int)).wf=true:=(by unfold Lit.wf;simp only[Bool.and_eq_true,decide_eq_true_eq,show IntKind.i64.min= -9223372036854775808 from rfl,show IntKind.i64.max=9223372036854775807 from rfl];omega)
 simp[keyOf,underlying3,mapKey,hw]
structure FileT where
 v:List (List UInt8)
 I:Int
 n:Int
 x:List Int
def fileL (F:FileT):List Value:=[.int .i64 (F.v.length:Int),.int .i64 F.I,.int .i64 1,.int .i64 2,.int .i64 3,.int .i64 (3+(F.I+1)/2),.int .i64 F.n,.int .i64 (F.x.getD 0 0),.int .i64 (F.x.getD 1 0),.int .i64 (F.x.getD 2 0),.int .i64 (F.x.getD 3 0),.int .i64 (F.x.getD 4 0),.int .i64 (F.x.getD 5 0),.int .i64 (F.x.getD 6 0),.int .i64 (F.x.getD 7 0),.int .i64 (F.x.getD 8 0),.int .i64 (F.x.getD 9 0),.int .i64 (F.x.getD 10 0),.int .i64 (F.x.getD 11 0)]
def fileC (s:Sl) (F:FileT):Array Value:=(Value.slice s.A s.n s.c::fileL F).toArray
def isB (v:List (List UInt8)) (I b:Int):Bool:=decide (3+(I+1)/2<=b)&&decide (b<(v.length:Int))
def numAt (v:List (List UInt8)) (I:Int) (x:List Int) (k:Nat):Int :=
 if k<6 then x.getD (4+k) 0 else if isB v I (x.getD 10 0) then fnum (v.getD (x.getD 10 0).toNat []) (2*(k-6)) 2 else 0
def atP (v:List (List UInt8)) (I:Int) (x:List Int) (k:Nat):Int:=if isB v I (numAt v I x k) then numAt v I x k else -1
def sizeP (x:List Int):Int:=min (x.getD 3 0) 8960
theorem fis_any (g:Nat) (s:Sl) (F:FileT) (b:Int) (w:World) (h:Box w g 162 (fileC s F)) :
  Calls prog 228 #[.pointer (some ⟨g,0,none⟩),.int .i64 b] w λe w'=>e=.returned (.bool (isB F.v F.I b))/\w=w':=by
 have c6:w.cell? ⟨g,6,none⟩=some (.int .i64 (3+(F.I+1)/2)):=h.cell 6;have c1:w.cell? ⟨g,1,none⟩=some (.int .i64 (F.v.length:Int)):=h.cell 1;clear h;unfold isB;generalize 3+(F.I+1)/2=dt at *;go_enter func228,ntmps228;rcases Bool.eq_false_or_eq_true (decide (dt<=b)) with d1|d1
 ·go_wp2_with fail;go_ret;exact⟨by rw[d1];rfl,rfl⟩
 ·go_wp2_with fail;go_ret;exact⟨by rw[d1];rfl,rfl⟩
theorem fsize_any (g:Nat) (s:Sl) (F:FileT) (w:World) (h:Box w g 162 (fileC s F)) :
  Calls prog 116 #[.pointer (some ⟨g,0,none⟩)] w λe w'=>e=.returned (.int .i64 (sizeP F.x))/\w=w':=by
 have c6:w.cell? ⟨g,11,none⟩=some (.int .i64 (F.x.getD 3 0)):=h.cell 11;clear h;unfold sizeP;generalize F.x.getD 3 0=z at *;go_enter func116,ntmps116;go_wp2_with fail;go_ret;exact⟨rfl,rfl⟩
structure FileOk (F:FileT):Prop where
 good:Good F.v F.I
 n1:1<=F.n
 n2:F.n<=F.I
 len:F.x.length=12
 fits:fitsB F.x=true
theorem fdirect {w:World}{g:Nat}{s:Sl}{F:FileT}(h:Box w g 162 (fileC s F)) {k:Nat}(hk:k<6):w.cell? ⟨g,12+k,none⟩=some (.int .i64 (F.x.getD (4+k) 0)):=by
 rcases(by omega:k=0\/k=1\/k=2\/k=3\/k=4\/k=5) with rfl|rfl|rfl|rfl|rfl|rfl
 ·exact h.cell 12
 ·exact h.cell 13
 ·exact h.cell 14
 ·exact h.cell 15
 ·exact h.cell 16
 ·exact h.cell 17
theorem isB_le {v:List (List UInt8)}{I b:Int}(h:isB v I b=true):3+(I+1)/2<=b/\b<(v.length:Int):=by
 unfold isB at h;simpa using h
theorem atP_yes {v:List (List UInt8)}{I b:Int}{x:List Int}{k:Nat}(h:numAt v I x k=b) (hb:isB v I b=true):atP v I x k=b:=by unfold atP;rw[h,if_pos hb]
theorem atP_no {v:List (List UInt8)}{I b:Int}{x:List Int}{k:Nat}(h:numAt v I x k=b) (hb:isB v I b=false):atP v I x k= -1:=by unfold atP;rw[h,if_neg (by rw[hb];simp)]
theorem cell_getD {w:World}{b o:Nat}{v:List (List UInt8)}(h:∀(j:Nat) (h:j<v.length),w.cell? ⟨b,o+j,none⟩=some (.string (str v[j]))) {k:Nat}(hk:k<v.length):w.cell? ⟨b,o+k,none⟩=some (.string (str (v.getD k []))):=by
 rw[h k hk,List.getD_eq_getElem?_getD,List.getElem?_eq_getElem hk];rfl
theorem fat_any (g:Nat) (s:Sl) (F:FileT) (k:Nat) (w:World) (h:Box w g 162 (fileC s F)) (hr:Strs w s.A s.n F.v) (hF:FileOk F) (hk:k<70) :
  Calls prog 214 #[.pointer (some ⟨g,0,none⟩),.int .i64 (k:Int)] w λe w'=>e=.returned (.int .i64 (atP F.v F.I F.x k))/\Ext w w':=by
 have HIS:=lh_ (λb w h=>fis_any g s F b w h);have hpl:=plan_bd hF.good.plan;obtain⟨hl,hv2⟩:=hr;by_cases h6:k<6
 ·have hn:numAt F.v F.I F.x k=F.x.getD (4+k) 0:=by unfold numAt;rw[if_pos h6]
  have HY:=lh_ (λh=>atP_yes hn h);have HNo:=lh_ (λh=>atP_no hn h);have cd:=fdirect h h6;have hki:(k:Int)<6:=by omega
  have hkd:decide ((k:Int)<6)=true:=decide_eq_true hki;clear hv2 hn;generalize F.x.getD (4+k) 0=b at *;go_enter func214,ntmps214;cases hb:isB F.v F.I b with
  | true =>
   have HB:=lh_ hb;have HA:=lh_ (HY.out hb);clear hb HY HNo;go_wp2_with (go_at_call 228;refine(HIS.out b _ h).mono ?_;rintro e w2 ⟨rfl,rfl⟩;rw[HB.out])
   go_ret;exact⟨by rw[HA.out];rfl,Ext.refl _⟩
  | false =>
   have HB:=lh_ hb;have HA:=lh_ (HNo.out hb);clear hb HY HNo;go_wp2_with (go_at_call 228;refine(HIS.out b _ h).mono ?_;rintro e w2 ⟨rfl,rfl⟩;rw[HB.out])
   go_ret;exact⟨by rw[HA.out];rfl,Ext.refl _⟩
 ·have hkd:decide ((k:Int)<6)=false:=decide_eq_false (by omega);have ci:w.cell? ⟨g,18,none⟩=some (.int .i64 (F.x.getD 10 0)):=h.cell 18;have cv:w.cell? ⟨g,0,none⟩=some (.slice s.A s.n s.c):=h.cell 0;cases hi:isB F.v F.I (F.x.getD 10 0) with
  | false =>
   have hn:numAt F.v F.I F.x k=0:=by unfold numAt;rw[if_neg h6,hi];rfl
   have h0:isB F.v F.I 0=false:=by unfold isB;rw[show decide (3+(F.I+1)/2<=0)=false from decide_eq_false (by omega)];rfl
   have HA:=lh_ (atP_no hn h0);have HB:=lh_ hi;have H0:=lh_ h0;clear hi hn h0 hv2;generalize F.x.getD 10 0=ind at *;go_enter func214,ntmps214
   go_wp2_with (first
    | (go_at_call 228;(have hq:=HIS.out ind _ h;rw[HB.out]at hq;with_reducible (refine hq.mono ?_));clear hq;rintro e w2 ⟨rfl,rfl⟩)
    | (go_at_call 228;(have hq:=HIS.out 0 _ h;rw[H0.out]at hq;with_reducible (refine hq.mono ?_));clear hq;rintro e w2 ⟨rfl,rfl⟩))
   go_ret;exact⟨by rw[HA.out];rfl,Ext.refl _⟩
  | true =>
   have hn:numAt F.v F.I F.x k=fnum (F.v.getD (F.x.getD 10 0).toNat []) (2*(k-6)) 2:=by unfold numAt;rw[if_neg h6,if_pos hi]
   have HY:=lh_ (λh=>atP_yes hn h);have HNo:=lh_ (λh=>atP_no hn h);have hib:=isB_le hi;obtain⟨b,o,hsA,hcell⟩:=hv2 (by omega);rw[hsA]at cv;have hgl:(F.v.getD (F.x.getD 10 0).toNat []).length=128:=getD_len hF.good (by omega);have cb:w.cell? ⟨b,o+(F.x.getD 10 0).toNat,none⟩=some (.string (str (F.v.getD (F.x.getD 10 0).toNat []))):=cell_getD hcell (by omega);have HB:=lh_ hi;clear hi hn hcell hv2;generalize F.x.getD 10 0=ind at *;obtain⟨q,rfl⟩:∃q:Nat,ind=(q:Int):=⟨ind.toNat,by omega⟩
   rw[Int.toNat_natCast]at cb hgl HY HNo;generalize F.v.getD q []=blk at *;have hqs:(q:Int)<(s.n:Int):=by omega
   obtain⟨z,hz⟩:∃z,k-6=z:=⟨_,rfl⟩
   have hkz:(k:Int)=(z:Int)+6:=by omega
   rw[hz]at HY HNo;rw[hkz];rw[hkz]at hkd;have hzk:z<64:=by omega
   have HG:=lh_ (λw=>get_ext blk (2*z) (2*z+2) 2 w rfl (.inr (.inl rfl)) (by omega));have hfb:=fnum_bd blk (2*z) 2 (by omega);have hsz:(str blk).size=128:=by rw[str_size,hgl]
   have w1:IntKind.i64.wrap ((z:Int)+6-6)=(z:Int):=by rw[IntKind.wrap_i64];omega
   have w2:IntKind.i64.wrap (2*(z:Int))=((2*z:Nat):Int):=by rw[IntKind.wrap_i64];omega
   have w3:IntKind.i64.wrap (((2*z:Nat):Int)+2)=((2*z+2:Nat):Int):=by rw[IntKind.wrap_i64];omega
   have w4:IntKind.i64.wrap (fnum blk (2*z) 2)=fnum blk (2*z) 2:=by rw[IntKind.wrap_i64];omega
   generalize fnum blk (2*z) 2=num at *;clear h6 hk hkz hz hF hpl hl hib;go_enter func214,ntmps214
   go_wp2_with (first
    | (go_at_call 228;(have hq:=HIS.out (q:Int) _ h;rw[HB.out]at hq;with_reducible (refine hq.mono ?_));clear hq;rintro e w2 ⟨rfl,rfl⟩))
   have ci':∀y:Later w,y.now.cell? ⟨g,18,none⟩=some (.int .i64 (q:Int)):=λy=>y.ext.keep ci;have cv':∀y:Later w,y.now.cell? ⟨g,0,none⟩=some (.slice (some ⟨b,o,none⟩) s.n s.c):=λy=>y.ext.keep cv;have cb':∀y:Later w,y.now.cell? ⟨b,o+q,none⟩=some (.string (str blk)):=λy=>y.ext.keep cb;have t1:((2*z:Nat):Int).toNat=2*z:=by omega
   refine wp_region_later (by kernel_rfl) (by kernel_rfl) ?_;repeat (go_big_quiet_step ((exact later_of_same (HG.out _))))
   refine wpQuiet_nil ?_;rintro w5 ⟨x5,rfl⟩;have h5:=h.ext x5.ext;clear ci' cv' cb';cases hb:isB F.v F.I num with
   | true =>
    have HB2:=lh_ hb;have HA:=lh_ (HY.out hb);clear hb HY HNo;go_wp2_with (go_at_call 228;refine(HIS.out num _ h5).mono ?_;rintro e w2 ⟨rfl,rfl⟩;rw[HB2.out])
    go_ret;exact⟨by rw[HA.out];rfl,x5.ext⟩
   | false =>
    have HB2:=lh_ hb;have HA:=lh_ (HNo.out hb);clear hb HY HNo;go_wp2_with (go_at_call 228;refine(HIS.out num _ h5).mono ?_;rintro e w2 ⟨rfl,rfl⟩;rw[HB2.out])
    go_ret;exact⟨by rw[HA.out];rfl,x5.ext⟩
theorem fileSize:(prog.info? 162).map (·.size)=some 20:=by kernel_rfl
def fileZ:Array Value:=#[.slice none 0 0,.int .i64 0,.int .i64 0,.int .i64 0,.int .i64 0,.int .i64 0,.int .i64 0,.int .i64 0,.int .i64 0,.int .i64 0,.int .i64 0,.int .i64 0,.int .i64 0,.int .i64 0,.int .i64 0,.int .i64 0,.int .i64 0,.int .i64 0,.int .i64 0,.int .i64 0]
theorem fileC_one (s:Sl) (F:FileT):(fileC s F).all (·.oneCell')=true:=all_oneCell_toArray (λv hv=>by
 simp only[fileL,List.mem_cons,List.not_mem_nil,or_false]at hv;rcases hv with h|h|h|h|h|h|h|h|h|h|h|h|h|h|h|h|h|h|h|h<;>(subst h;rfl))
section
variable {ops:Array Oper}{rest:List Oper}{o:Oper}{a:Act}{w:World}{Q:Exit->Act->World->Prop}
theorem wp_st_file (x y:Operand) (hgd:o.guard=none) (ho:o.op=.store 162 x y) (g:Nat) (s:Sl) (F:FileT) (old:Array Value) (t:TypeId) (hx:a.eval x=.pointer (some ⟨g,0,none⟩)) (hy:a.eval y=.agg (fileC s F))
  (hb:Box w g t old) (hold:old.size=20) (hK:∀w',Box w' g t (fileC s F)->w.grownBy w' (some g)->wpList prog ops Q rest (a.put o.dst undef) w'):wpList prog ops Q (o::rest) a w :=
 wp_st _ x y hgd ho g _ _ t hx hy hb fileSize hold (fileC_one s F) hK
end
def ofV (B:Nat) (A:Option Addr) (n c:Nat) (v:List (List UInt8)) (I k:Int) (x:List Int):Nat->World->Value->Prop
 | 0,_,u=>u=.slice A n c
 | 1,w,u=>w.ownsRow B 9 1 u n (strL v)
 | 2,_,u=>u=.agg (intVals [(v.length:Int),I,1,2,3,3+(I+1)/2])
 | 3,_,u=>u=.int .i64 k
 | 4,_,u=>u=.agg (intVals x)
 | 5,w,u=>∃s:Sl,u=.agg (fileC s ⟨v,I,k,x⟩)/\s.n=n/\w.ownsRow B 9 1 (.slice s.A s.n s.c) n (strL v)
 | _,_,_=>True
theorem ofV_ext {B:Nat}{A:Option Addr}{n c:Nat}{v:List (List UInt8)}{I k:Int}{x:List Int}(j:Nat) (w w':World) (u:Value) (hx:Ext w w') (h:ofV B A n c v I k x j w u):ofV B A n c v I k x j w' u:=by
 match j,h with
 | 0,h=>exact h
 | 1,h=>exact own_ext h hx
 | 2,h=>exact h
 | 3,h=>exact h
 | 4,h=>exact h
 | 5,⟨s,e,hn,hb⟩=>exact⟨s,e,hn,own_ext hb hx⟩
 | _+6,_=>trivial
def OpenedR (B:Nat) (v:List (List UInt8)) (I k:Int) (e:Ending) (w':World):Prop :=
 ∃s:Sl,e=.returned (.tuple #[.agg (fileC s ⟨v,I,k,inoAt v k⟩),.int .i64 0])/\s.n=v.length/\w'.ownsRow B 9 1 (.slice s.A s.n s.c) v.length (strL v)
theorem opened_yes (A:Option Addr) (n c:Nat) (v:List (List UInt8)) (I k:Int) (w:World) (hv:Strs w A n v) (hg:Good v I) (hk1:1<=k) (hk2:k<=I) :
  Calls prog 115 #[.slice A n c,.int .i64 k] w λe w'=>OpenedR w.heap.size v I k e w'/\Ext w w':=by
 have hpl:=plan_bd hg.plan;have hnv:=hv.1;have HGt:=lh_ (λw h=>iget_yes A n c v I k w h hg hk1 hk2);have HO:=lh_ (λw h=>of_yes A n c v I w h hg);have x0:=(Ext.refl w).alloc (.cells fileZ 162);have b0:=Box.new w 162 fileZ;have HV:=lh_ (hv.ext x0);have HI12:=lh_ (inoAt_len v k);subst hnv;clear hv hg hk1 hk2;unfold OpenedR;go_enter func115,ntmps115;go_upto_region 1 with fail;change Code.wp _ _ _ _ (w.alloc (.cells fileZ 162));generalize w.alloc (.cells fileZ 162)=w1 at *;generalize hG:w.heap.size=G at *;obtain⟨x,hxi⟩:∃x,x=inoAt v k:=⟨_,rfl⟩
 rw[← hxi]at HGt HI12;have HXI:=lh_ hxi;clear hxi
 go_upto_region 2 with(first
  | (go_at_call 69;refine(HGt.out _ HV.out).mono ?_;rintro e w2 ⟨rfl,x2⟩)
  | (refine wp_st_ino (.tmp 6) (.tmp 13) rfl rfl w2.heap.size x zero12 121 rfl rfl (Box.new _ _ _) HI12.out rfl ?_;intro w3 b3 g3))
 have x23:Ext w2 w3:=((Ext.refl w2).alloc _).grown g3 (λj e=>by cases e;exact Nat.le_refl _);have x13:=x2.trans x23;have b03:=b0.ext x13;have HV3:=lh_ (HV.out.ext x13);have xw3:=x0.trans x13;clear g3 x23 x2 b0 x13 x0 HV;generalize w2.heap.size=g3 at *
 go_upto_region 5 with(first
  | (go_at_call 94;refine(HO.out _ HV3.out).mono ?_;rintro e w4 ⟨rfl,x4⟩)
  | (rw[geomV_eq];refine wp_st_geom (.tmp 8) (.tmp 22) rfl rfl w4.heap.size _ [0,0,0,0,0,0] 144 rfl rfl (Box.new _ _ _) rfl rfl ?_;intro w5 b5 g5))
 have x45:Ext w4 w5:=((Ext.refl w4).alloc _).grown g5 (λj e=>by cases e;exact Nat.le_refl _);have x35:=x4.trans x45;have b05:=b03.ext x35;have b35:=b3.ext x35;have HV5:=lh_ (HV3.out.ext x35);have xw5:=xw3.trans x35;clear g5 x45 x4 b03 b3 x35 xw3 HV3 HGt HO;generalize w4.heap.size=g5 at *;have hsz:=xw5.size;rw[hG]at hsz;go_wp2_with fail;refine wp_region_web' 6 [[],[0],[],[],[],[1,2,3,4]] (ofV G A v.length c v I k x) (by kernel_rfl) (by kernel_rfl) ofV_ext (λus=>?_);simp only[List.take_succ_cons,List.take_zero,List.drop_succ_cons,List.drop_zero];refine⟨λw' hx hd=>?_,λw' hx hd=>?_,λw' hx hd=>?_,λw' hx hd=>?_,λw' hx hd=>?_,λw' hx hd=>?_,λw' hx hv=>?_⟩
 ·refine web_of_list 28 rfl (by simp[Act.put]) rfl ?_;go_wp2_with fail;exact⟨Ext.refl _,rfl⟩
 ·have h0:=hd 0 (by simp);clear hd;generalize us 0=u0 at *;obtain rfl:u0=.slice A v.length c:=h0;have hs2:=HV5.out.ext hx;refine web_of_list 29 rfl (by simp[Act.put]) rfl ?_;go_wp2_with (refine wp_app_nil G rfl _ _ rfl rfl rfl hs2 (by omega) (by have:=hx.size;omega) (by omega) ?_;intro u' w2 own2 xx)
  exact own2
 ·refine web_of_list 30 rfl (by simp[Act.put]) rfl ?_;go_wp2_with (refine wp_ld_geom (.tmp 8) rfl rfl g5 _ 144 rfl (b5.ext hx) rfl ?_)
  exact⟨Ext.refl _,rfl⟩
 ·refine web_of_list 31 rfl (by simp[Act.put]) rfl ?_;go_wp2_with fail;exact⟨Ext.refl _,rfl⟩
 ·refine web_of_list 32 rfl (by simp[Act.put]) rfl ?_;go_wp2_with (refine wp_ld_ino (.tmp 6) rfl rfl g3 x 121 rfl (b35.ext hx) HI12.out ?_)
  exact⟨Ext.refl _,rfl⟩
 ·have h1:=hd 1 (by simp);have h2:=hd 2 (by simp);have h3:=hd 3 (by simp);have h4:=hd 4 (by simp);clear hd;generalize us 1=u1 at *;generalize us 2=u2 at *;generalize us 3=u3 at *;generalize us 4=u4 at *;have own1:w'.ownsRow G 9 1 u1 v.length (strL v):=h1;obtain rfl:u2=.agg (intVals [(v.length:Int),I,1,2,3,3+(I+1)/2]):=h2;obtain rfl:u3=.int .i64 k:=h3;obtain rfl:u4=.agg (intVals x):=h4;clear h1;obtain⟨g,cap,rfl,hgb,_⟩:=Strs.own' own1 (by omega);obtain⟨y0,y1,y2,y3,y4,y5,y6,y7,y8,y9,y10,y11,rfl⟩:=list12 HI12.out;have OW:=lh_ own1;refine web_of_list 33 rfl (by simp[Act.put]) rfl ?_;simp only[intVals,List.map_cons,List.map_nil];go_wp2_with fail;exact⟨Ext.refl _,⟨some ⟨g,0,none⟩,v.length,cap⟩,rfl,rfl,OW.out⟩
 ·have h5:=hv 5 (by omega);clear hv;generalize us 5=u5 at *;obtain⟨s,rfl,hsn,own5⟩:∃s:Sl,u5=.agg (fileC s ⟨v,I,k,x⟩)/\s.n=v.length/\w'.ownsRow G 9 1 (.slice s.A s.n s.c) v.length (strL v):=h5;have b0':=b05.ext hx;have OW:=lh_ own5;have HSN:=lh_ hsn;have hne:=lh_ (own_ne own5 b0' (by decide));clear own5 hsn;go_wp2_with (refine wp_st_file (.tmp 4) (.tmp 33) rfl rfl G s ⟨v,I,k,x⟩ _ 162 rfl rfl b0' rfl ?_;intro w8 b8 g8)
  refine bodyPost_ret (results_cell2 rfl _ _ G _ _ _ (.int .i64 0) rfl rfl b8 underlying162 rfl fileSize) rfl ?_;exact⟨⟨s,by rw[← HXI.out],HSN.out,by rw[hG];exact OW.out.kept g8 (.inr hne.out.symm)⟩,(xw5.trans hx).grown g8 (λj e=>by cases e;rw[hG];exact Nat.le_refl _)⟩
end Go.Proofs.YtfaplefkakpgcaaGreatDoor
namespace Go.Proofs.YtfaplefkakpgcaaGreatDoor
open Go.Proofs.Tryz
open Go.RowKit Go.Shelf
def partC (f:Nat->Int) (k:Nat):Array Value:=((List.range 70).map λj=>Value.int .i64 (if j<k then f j else 0)).toArray
theorem partC_size (f:Nat->Int) (k:Nat):(partC f k).size=70:=by simp[partC]
theorem partC_set (f:Nat->Int) (k:Nat):(partC f k).setIfInBounds k (.int .i64 (f k))=partC f (k+1):=by
 apply Array.ext_getElem?;intro j;unfold partC;simp only[List.setIfInBounds_toArray,List.getElem?_toArray];rw[List.getElem?_set,List.getElem?_map,List.getElem?_map];by_cases hj:j<70
 ·rw[List.getElem?_range hj];by_cases e:k=j
  ·subst e;rw[if_pos rfl,if_pos (by simp;omega)];simp
  ·rw[if_neg e];simp only[Option.map_some];congr 2;by_cases h1:j<k
   ·rw[if_pos h1,if_pos (by omega)]
   ·rw[if_neg h1,if_neg (by omega)]
 ·rw[List.getElem?_eq_none (by simp;omega)];by_cases e:k=j
  ·subst e;rw[if_pos rfl,if_neg (by simp;omega)];rfl
  ·rw[if_neg e];rfl
theorem partC_one (f:Nat->Int) (k:Nat):(partC f k).all (·.oneCell')=true:=all_oneCell_toArray (λv hv=>by
 obtain⟨j,_,rfl⟩:=List.mem_map.1 hv;rfl)
theorem partC_at (f:Nat->Int) (k j:Nat) (hj:j<70) (hk:j<k):(partC f k)[j]? =some (.int .i64 (f j)):=by
 unfold partC;rw[List.getElem?_toArray,List.getElem?_map,List.getElem?_range hj];simp only[Option.map_some,if_pos hk]
theorem partC_zero (f:Nat->Int):partC f 0=Array.replicate 70 (.int .i64 0):=by
 unfold partC;simp only[Nat.not_lt_zero,if_false];rfl
theorem arr70:(prog.info? 237).map (·.size)=some 70:=by kernel_rfl
theorem fnumbers_any (g:Nat) (s:Sl) (F:FileT) (w:World) (h:Box w g 162 (fileC s F)) (hr:Strs w s.A s.n F.v) (hF:FileOk F) :
  Calls prog 181 #[.pointer (some ⟨g,0,none⟩)] w λe w'=>e=.returned (.agg (partC (atP F.v F.I F.x) 70))/\Ext w w':=by
 have HAt:=lh_ (λk hk w h hr=>fat_any g s F k w h hr hF hk);have HBX:=lh_ h;have HR:=lh_ hr;clear h hr hF;generalize atP F.v F.I F.x=f at *;have hP:=lh_ (partC_zero f);go_enter func181,ntmps181;go_upto_region 2 with fail;have hz70:Tryz.zeroCells237=Array.replicate 70 (.int .i64 0):=by kernel_rfl
 rw[hz70,← hP.out];have x0:=((Ext.refl w).alloc (.cells (partC f 0) 237)).alloc (.cells (partC f 0) 237);have b2:=(Box.new w 237 (partC f 0)).ext ((Ext.refl _).alloc (.cells (partC f 0) 237));have b3:=Box.new (w.alloc (.cells (partC f 0) 237)) 237 (partC f 0);rw[World.size_alloc]at b3;clear hz70 hP;generalize (w.alloc (.cells (partC f 0) 237)).alloc (.cells (partC f 0) 237)=w1 at *;generalize hG:w.heap.size=G at *;go_upto_region 3 with fail;go_loopw [4,5] (λ_ i wx=>∃k:Nat,k<=70/\i=.int .i64 k/\Ext w wx/\Box wx G 237 (partC f 0)/\Box wx (G+1) 237 (partC f k)) (λ_ i _=>70-(intOf i).toNat);case atStart=>exact⟨0,by omega,rfl,x0,b2,b3⟩
 case round =>
  clear b2 b3 x0;obtain⟨k,hk,rfl,xk,c2,c3⟩:=hrel;have HX:=lh_ xk;have C2:=lh_ c2;have C3:=lh_ c3;by_cases hlt:k<70
  ·have hki:(k:Int)<70:=by omega
   have HAk:=lh_ (HAt.out k hlt wr (HBX.out.ext xk) (HR.out.ext xk));clear xk c2 c3;go_wp2_with (go_at_call 214;refine HAk.out.mono ?_;rintro e w4 ⟨rfl,x4⟩;have d3:=C3.out.ext x4;have f3:=d3.frozen k;have k3:w4.cell? ⟨G+1,k,none⟩=some (.int .i64 0):=(d3.cell k).trans (by unfold partC;rw[List.getElem?_toArray,List.getElem?_map,List.getElem?_range hlt];simp);have D3:=lh_ d3;have X4:=lh_ x4;clear d3 x4)
   go_roundw;case rel=>exact⟨k+1,by omega,by go_num,(HX.out.trans X4.out).setCell (by rw[hG];exact Nat.le_succ _) _,(C2.out.ext X4.out).far (p:=⟨G+1,k,none⟩) (by show G≠G+1;omega) _,by have:=D3.out.set k (.int .i64 (f k));rw[partC_set]at this;exact this⟩
   case measure=>simp[intOf];omega
  ·have hlt2:¬(k:Int)<70:=by omega
   obtain rfl:k=70:=by omega
   clear xk c2 c3
   go_wp2_with (first
    | (refine wp_ld 237 (.tmp 3) rfl rfl (G+1) (partC f 70) 237 _ rfl C3.out underlying237 rfl (by rw[partC_size];exact arr70) ?_)
    | (refine wp_st 237 (.tmp 2) (.tmp 14) rfl rfl G (partC f 70) _ 237 rfl rfl C2.out (by rw[partC_size];exact arr70) (by rw[partC_size,partC_size]) (partC_one f 70) ?_;intro w6 b6 g6))
   exact bodyPost_ret (results_cell1 rfl _ _ G _ _ _ rfl b6 underlying237 rfl (by rw[partC_size];exact arr70)) rfl ⟨rfl,HX.out.grown g6 (λj e=>by cases e;rw[hG];exact Nat.le_refl _)⟩
def FirstR (f:Nat->Int) (c:Int) (w:World) (e:Ending) (w':World):Prop :=
 ∃b1 b2,e=.returned (.func (.func 182) #[] #[.pointer (some ⟨b1,0,none⟩),.pointer (some ⟨b2,0,none⟩)])/\Box w' b1 237 (partC f 70)/\Box w' b2 3 #[.int .i64 c]/\w.heap.size<=b1/\w.heap.size<=b2/\b1≠b2
theorem ffirst_any (g:Nat) (s:Sl) (F:FileT) (c:Int) (w:World) (h:Box w g 162 (fileC s F)) (hr:Strs w s.A s.n F.v) (hF:FileOk F) :
  Calls prog 117 #[.pointer (some ⟨g,0,none⟩),.int .i64 c] w λe w'=>FirstR (atP F.v F.I F.x) c w e w'/\Ext w w':=by
 have hmf:∀(fn:Fn) (first cap:Array Value) (w:World),(Instr.makeFunc fn first cap).run prog w=.ok (.func fn first cap) w:=λ_ _ _ _=>rfl;have x0:=(Ext.refl w).alloc (.cells #[.int .i64 c] 3);have b0:=Box.new w 3 #[.int .i64 c];have HN:=lh_ (fnumbers_any g s F _ (h.ext x0) (hr.ext x0) hF);clear h hr hF;generalize atP F.v F.I F.x=f at *;go_enter func117,ntmps117
 go_upto_region 2 with(first
  | (go_at_call 181;refine HN.out.mono ?_;rintro e w2 ⟨rfl,x2⟩)
  | (refine wp_st 237 (.tmp 5) (.tmp 7) rfl rfl w2.heap.size (partC f 70) Tryz.zeroCells237 237 rfl rfl (Box.new _ _ _) (by rw[partC_size];exact arr70) (by rw[partC_size];kernel_rfl) (partC_one f 70) ?_;intro w3 b3 g3))
 have xa:Ext w2 (w2.alloc (.cells Tryz.zeroCells237 237)):=(Ext.refl w2).alloc _;have x23:Ext w2 w3:=xa.grown g3 (λj e=>by cases e;exact Nat.le_refl _);have b03:=(b0.ext x2).ext x23;have xx:=(x0.trans x2).trans x23;have hlt:=(b0.ext x2).lt;have hsz:=(x0.trans x2).size;clear g3;go_wp2_with fail;go_ret;exact⟨⟨w2.heap.size,w.heap.size,rfl,b3,b03,hsz,Nat.le_refl _,by omega⟩,xx⟩
theorem wpListIn_load_row {F:Fence}{n:Nat}{P:Program}{ops:Array Oper}{rest:List Oper}{o:Oper}{a:Act}{w:World}{Q:Exit->Act->World->Prop}(hgd:o.guard=none) (ty:TypeId) (x:Operand) (ho:o.op=.load ty x)
  (g:Nat) (hx:a.eval x=.pointer (some ⟨g,0,none⟩)) (t:TypeId) (cs:Array Value) (fr:Nat × Nat) (d:TypeDesc) (hg:w.heap[g]? =some (.cells cs t fr))
  (hu:P.underlying ty=some d) (hd:(match d with|.struct _|.array _ _=>true|_=>false)=true) (hi:(P.info? ty).map (·.size)=some cs.size)
  (h:wpListIn F n P ops Q rest (a.put o.dst (.agg cs)) w):wpListIn F n P ops Q (o::rest) a w:=by
 refine wpListIn_plain hgd λK hK'=>?_;unfold Oper.wpIn;refine⟨?_,?_⟩
 ·simp[Oper.about,ho]
 ·rw[Oper.semAt_plain F _ _ (by rw[ho];intro c hc';cases hc')];simp only[execOp,ho,hx,Instr.loadAt,Instr.sureAddr,Sem.run_bind,Sem.run_pure,Result.andThen_ok,run_loadVar_row w g t ty cs fr d hg hu hd hi];exact hK' _ _ h
theorem run_indexC {P:Program}{t e n:Nat}{k:IntKind}{cs:Array Value}{i:Nat}{v:Value}(w:World) (hu:P.underlying t=some (.array n e)) (he:P.underlying e=some (.int k)) (hs:(P.info? e).map (·.size)=some 1) (hin:i<n) (hv:cs[i]? =some v) (h1:v.oneCell'=true) :
  (Instr.index t (.agg cs) (.int .i64 (i:Int))).run P w=.ok v w:=by
 cases hq:P.info? e with
 | none=>simp[hq]at hs
 | some j =>
  have hz:j.size=1:=by simpa[hq]using hs
  have hagg:(isAgg e).run P w=.ok false w:=by unfold isAgg;rw[Sem.run_bind,run_underlying he w];rfl
  have h1:(i:Int)<(n:Int):=by omega
  simp[Instr.index,asIntOf,run_underlying hu,h1,sizeOf,typeInfo,hq,part,Sem.run_bind,hagg,hz,hv];intro hc;exact absurd hc (by omega)
def KpB (b1 b2:Nat) (W W':World):Prop:=∀(cs:Array Value) (t:TypeId),(W.heap[b1]? =some (Obj.cells cs t (0,0))->W'.heap[b1]? =some (Obj.cells cs t (0,0)))/\(W.heap[b2]? =some (Obj.cells cs t (0,0))->W'.heap[b2]? =some (Obj.cells cs t (0,0)))
theorem KpB.trans {b1 b2:Nat}{A B C:World}(h:KpB b1 b2 A B) (k:KpB b1 b2 B C):KpB b1 b2 A C:=λcs t=>⟨λe=>(k cs t).1 ((h cs t).1 e),λe=>(k cs t).2 ((h cs t).2 e)⟩
theorem KpB.ext {b1 b2:Nat}{W W':World}(h:Ext W W'):KpB b1 b2 W W':=λcs t=>⟨λe=>Box.ext e h,λe=>Box.ext e h⟩
theorem KpB.book {b1 b2:Nat}{w:World}(W:World) (l:Nat) (o o':Obj) (_:w.heap.size<=l) (h:W.heap[l]? =some o) (hc:o.isCells=false) (_:o.isWalk=false):KpB b1 b2 W (W.putObj l o'):=by
 have key:∀b (cs:Array Value) (t:TypeId),W.heap[b]? =some (Obj.cells cs t (0,0))->(W.putObj l o').heap[b]? =some (Obj.cells cs t (0,0)):=λb cs t hb=>by
  have hne:b≠l:=by rintro rfl;rw[h]at hb;cases hb;cases hc
  have:=(grownBy_putObj' W l o').block b (Array.getElem?_eq_some_iff.1 hb).1 (λe=>hne (by cases e;rfl));exact this.trans hb
 exactλcs t=>⟨key b1 cs t,key b2 cs t⟩
def benc (f:Nat->Int) (k:Nat):Array Value:=#[.int .i64 (k:Int),.int .i64 (f k)]
theorem first1_in (n:Nat) (hn:1<=n) (l b1 b2 c:Nat) (f:Nat->Int) (J Jx:List Nat->World->Prop) (W:World) (hJ:AbidesFrom W.heap.size J)
  (hY:∀pre x W1,J pre W1->pre.length<70->YieldAt Fence.wide (n-1) prog l (benc f x) W1 λe W' =>
   (e=.returned (.bool true)/\J (pre++[x]) W'/\KpB b1 b2 W1 W')\/(e=.returned (.bool false)/\Jx (pre++[x]) W'))
  (h1:Box W b1 237 (partC f 70)) (h2:Box W b2 3 #[.int .i64 (c:Int)]) (h0:J [] W) :
  CallsIn Fence.wide n prog 182 #[.func (.yield l) #[] #[],.pointer (some ⟨b1,0,none⟩),.pointer (some ⟨b2,0,none⟩)] W λe W'=>(∃v,e=.returned v)/\
   ((∃ys,ys=List.range (min c 70)/\J ys W')\/(∃pre,True/\Jx pre W')):=by
 generalize hL0:List.range (min c 70)=L;have hL:=lh_ hL0;clear hL0;refine callsIn_of_wp func182 rfl trivial ?_ rfl;simp only[ntmps182,List.size_toArray,List.length_cons,List.length_nil,Nat.reduceAdd,Nat.reduceSub,Array.replicate_succ,Array.replicate_zero,List.push_toArray,List.append_toArray,List.nil_append,List.cons_append];gi_wp2_with (refine wpListIn_load_row rfl 237 (.tmp 1) rfl b1 rfl 237 _ (0,0) _ h1 underlying237 rfl (by rw[partC_size];exact arr70) ?_)
 gi_loopw [4,5,7] (λ_ _ i wx=>∃k:Nat,k<=70/\k<=c/\i=.int .i64 k/\J (List.range k) wx/\Box wx b1 237 (partC f 70)/\Box wx b2 3 #[.int .i64 (c:Int)]) (λ_ _ i _=>70-(intOf i).toNat);case atStart=>exact⟨0,by omega,by omega,rfl,h0,h1,h2⟩
 case round =>
  obtain⟨k,hk,hkc,rfl,hJs,hB1,hB2⟩:=hrel;by_cases hlt:k<70
  ·have hki:(k:Int)<70:=by omega
   have c2:=hB2.cell 0;simp only[List.getElem?_toArray,List.getElem?_cons_zero]at c2;have hix:∀w,(Instr.index 237 (.agg (partC f 70)) (.int .i64 (k:Int))).run prog w=.ok (.int .i64 (f k)) w:=λw=>run_indexC w underlying237 underlying3 (by kernel_rfl) hlt (partC_at f 70 k hlt hlt) rfl;by_cases hc:c<=k
   ·have hci:(c:Int)<=(k:Int):=by omega
    obtain rfl:k=c:=by omega
    gi_wp2;rename_i hKK _ _ _ _;refine⟨λf hf=>(by cases hf),hKK _ _ ?_⟩;clear hKK;gi_wp2;refine bodyPost_ret (results_none rfl _ _ _) rfl ?_;have hJL:J L wr:=by rw[← hL.out,Nat.min_eq_left (by omega)];exact hJs
    first
     | exact⟨⟨_,rfl⟩,.inl ⟨_,rfl,hJL⟩⟩
     | exact⟨⟨_,rfl⟩,.inl hJL⟩
   ·have hci:¬(c:Int)<=(k:Int):=by omega
    obtain⟨fn,tmps,assign,body,hy,hR⟩:=hY (List.range k) k _ hJs (by rw[List.length_range];exact hlt);have hy':(Instr.yield l #[.int .i64 (k:Int),.int .i64 (f k)]).run prog wr=.ok (.round l fn tmps assign body) wr:=hy;clear hy;gi_wp2;refine hR.mono ?_;rintro e W3 (⟨rfl,hJ3,hk3⟩|⟨rfl,hJx3⟩)
    ·gi_wp2;go_roundw;case rel=>exact⟨k+1,by omega,by omega,by go_num,by rw[List.range_succ];exact hJ3,(hk3 _ _).1 hB1,(hk3 _ _).2 hB2⟩
     case measure=>simp[intOf];omega
    ·gi_wp2;refine bodyPost_ret (results_none rfl _ _ _) rfl ?_;exact⟨⟨_,rfl⟩,.inr ⟨_,trivial,hJx3⟩⟩
  ·have hki:¬(k:Int)<70:=by omega
   obtain rfl:k=70:=by omega
   gi_wp2;refine bodyPost_end (results_none rfl _ _ _) rfl ?_;have hJL:J L wr:=by rw[← hL.out,Nat.min_eq_right (by omega)];exact hJs
   first
    | exact⟨⟨_,rfl⟩,.inl ⟨_,rfl,hJL⟩⟩
    | exact⟨⟨_,rfl⟩,.inl hJL⟩
theorem first_stops (n:Nat) (hn:1<=n) (b1 b2 c:Nat) (f:Nat->Int) (w:World) (h1:Box w b1 237 (partC f 70)) (h2:Box w b2 3 #[.int .i64 (c:Int)]) :
  SeqStopsK Fence.wide n prog 182 #[.pointer (some ⟨b1,0,none⟩),.pointer (some ⟨b2,0,none⟩)] (benc f) (KpB b1 b2) (λys=>ys=List.range (min c 70)) (λ_=>True) 70 w:=λl J Jx W hW hJ _ hY h0 =>
 first1_in n hn l b1 b2 c f J Jx W hJ hY (h1.ext hW) (h2.ext hW) h0
end Go.Proofs.YtfaplefkakpgcaaGreatDoor
