/- Words for memory that every walk of this seat uses: a world that has only grown, texts as lists of bytes, rows of texts. -/
import Derived.WalkKit
import Derived.WalkSpells
import Derived.WalkLawsBesides
import Derived.RegionTactic
import Derived.ChangeAlike
import Derived.Lib.Hide
import Derived.Lib.Strings
import Derived.IntWalk
import Derived.Deep.QuietTactic
import Derived.BigQuiet
import Derived.Deep.RegionWith
import Derived.Below
import Derived.Laws.OwnMore
import Derived.Laws.BytesArg
import Derived.ShutString
set_option linter.unusedVariables false
set_option linter.unusedSimpArgs false
set_option maxHeartbeats 32000000
set_option maxRecDepth 100000
namespace Go.Proofs.YtfaplefkakpgcaaGreatDoor
open Go.RowKit
def Ext (w w':World):Prop:=Below w.heap.size w w'
namespace Ext
variable {a b c w w':World}
theorem refl (w:World):Ext w w:=Below.refl _ _
theorem size (h:Ext w w'):w.heap.size<=w'.heap.size:=Below.size h
theorem trans (h:Ext a b) (k:Ext b c):Ext a c:=Below.trans h (Below.mono k h.size)
theorem alloc (h:Ext a w) (o:Obj):Ext a (w.alloc o):=Below.alloc h h.size o
theorem drew (h:Ext a w):Ext a w.drew:=Below.drew h
theorem drewN (h:Ext a w) (n:Nat):Ext a (w.drewN n):=by
 have k:Below a.heap.size a w:=h;exact⟨k.os,k.tape,k.output,k.size,k.block⟩
theorem setCell (h:Ext a w) {p:Addr}(hp:a.heap.size<=p.block) (u:Value):Ext a (w.setCell p u):=Below.setCell h hp u
theorem cell (h:Ext w w') {p:Addr}(hp:p.block<w.heap.size):w'.cell? p=w.cell? p:=Below.cell h hp
theorem frozen (h:Ext w w') {p:Addr}(hp:p.block<w.heap.size):w'.frozen? p=w.frozen? p:=Below.frozen h hp
theorem keep (h:Ext w w') {b o:Nat}{v:Value}(hc:w.cell? ⟨b,o,none⟩=some v):w'.cell? ⟨b,o,none⟩=some v :=
 (h.cell (World.block_lt_of_cell? w _ hc)).trans hc
theorem undrew (h:Ext w.drew w'):Ext w w':=by
 have k:Below w.drew.heap.size w.drew w':=h;exact⟨k.os,k.tape,k.output,k.size,k.block⟩
end Ext
def Box (w:World) (g:Nat) (t:TypeId) (cs:Array Value):Prop:=w.heap[g]? =some (.cells cs t (0,0))
namespace Box
variable {w w':World}{g:Nat}{t:TypeId}{cs:Array Value}
theorem lt (h:Box w g t cs):g<w.heap.size:=(Array.getElem?_eq_some_iff.1 h).1
theorem ext (h:Box w g t cs) (k:Ext w w'):Box w' g t cs:=(Below.block k g h.lt).trans h
theorem new (w:World) (t:TypeId) (cs:Array Value):Box (w.alloc (.cells cs t)) w.heap.size t cs:=heap_alloc_new w _
theorem cell (h:Box w g t cs) (i:Nat):w.cell? ⟨g,i,none⟩=cs[i]? :=cell_of_row w g i cs t (0,0) h
theorem frozen (h:Box w g t cs) (i:Nat):w.frozen? ⟨g,i,none⟩=false:=by
 have k:w.heap[g]? =some (.cells cs t (0,0)):=h;simp[World.frozen?,k]
theorem set (h:Box w g t cs) (i:Nat) (u:Value):Box (w.setCell ⟨g,i,none⟩ u) g t (cs.setIfInBounds i u):=by
 have k:w.heap[g]? =some (.cells cs t (0,0)):=h;show(w.setCell ⟨g,i,none⟩ u).heap[g]? =_;simp[World.setCell,Array.getElem?_modify,k]
theorem drew (h:Box w g t cs):Box w.drew g t cs:=h
end Box
structure Later (w:World) where
 now:World
 ext:Ext w now
instance laterNonempty (w:World):Nonempty (Later w):=⟨⟨w,Ext.refl w⟩⟩
theorem wp_region_later {P:Program}{id:Nat}{Q:Exit->Act->World->Prop}{a:Act}{w:World}{l:List Oper}(hm:P.follows .mixedOrders=true) (hB:Region.lexB .any l.toArray=true)
  (h:wpQuiet P l.toArray (λw'=>∃x:Later w,w'=x.now) (λa'=>∀w',(∃x:Later w,w'=x.now)->Q .normal a' w') l a):(Code.region id l.toArray true).wp P Q a w :=
 wp_region_quiet (C:=λw'=>∃x:Later w,w'=x.now) hm hB ⟨⟨_,(Ext.refl w).drew⟩,rfl⟩ (by simpa using h)
theorem later_of {P:Program}{f:FuncId}{args:Array Value}{w:World}{x:Later w}{v:Value}
  (h:Calls P f args x.now λe w'=>e=.returned v/\Ext x.now w'):Calls P f args x.now λe w'=>e=.returned v/\∃y:Later w,w'=y.now :=
 h.mono λ_ _ ⟨he,hg⟩=>⟨he,⟨_,x.ext.trans hg⟩,rfl⟩
theorem later_of_same {P:Program}{f:FuncId}{args:Array Value}{w:World}{x:Later w}{v:Value}
  (h:Calls P f args x.now λe w'=>e=.returned v/\x.now=w'):Calls P f args x.now λe w'=>e=.returned v/\∃y:Later w,w'=y.now :=
 h.mono λ_ _ ⟨he,hg⟩=>⟨he,x,hg.symm⟩
def str (l:List UInt8):ByteArray:=⟨l.toArray⟩
theorem str_size (l:List UInt8):(str l).size=l.length:=by simp[str,ByteArray.size]
theorem str_app (a b:List UInt8):str a++str b=str (a++b):=by apply ByteArray.ext;simp[str]
theorem str_data (l:List UInt8):(str l).data.toList=l:=rfl
theorem str_toList (l:List UInt8):(str l).toList=l:=(ByteArray.toList_eq _).trans rfl
theorem str_ext (l:List UInt8) (a b:Nat):(str l).extract a b=str ((l.drop a).take (b-a)):=by
 apply ByteArray.ext;apply Array.toList_inj.1;rw[Lib.extract_data];rfl
theorem str_of (s:ByteArray):s=str s.data.toList:=rfl
def Strs (w:World) (A:Option Addr) (n:Nat) (ss:List (List UInt8)):Prop :=
 n=ss.length/\(0<n->∃b o,A=some ⟨b,o,none⟩/\∀(j:Nat) (h:j<ss.length),w.cell? ⟨b,o+j,none⟩=some (.string (str ss[j])))
namespace Strs
variable {w w':World}{A:Option Addr}{n:Nat}{ss:List (List UInt8)}
theorem len (h:Strs w A n ss):n=ss.length:=h.1
theorem ext (h:Strs w A n ss) (k:Ext w w'):Strs w' A n ss :=
 ⟨h.1,λhn=>by obtain⟨b,o,e,hc⟩:=h.2 hn;exact⟨b,o,e,λj hj=>k.keep (hc j hj)⟩⟩
theorem drew (h:Strs w A n ss):Strs w.drew A n ss:=h.ext ((Ext.refl w).drew)
theorem own {base:Nat}{t:TypeId}{c:Nat}(h:w.ownsRow base t 1 (.slice A n c) n (ss.map λs=>.string (str s))):Strs w A n ss:=by
 have hl:n=ss.length:=by have:=h.1;simpa using this.symm
 refine⟨hl,λhn=>?_⟩;rcases h.2 with⟨_,h0⟩|⟨g,cap,cur,hv,_⟩
 ·omega
 have hA:A=some ⟨g,0,none⟩:=by injection hv
 subst hA;refine⟨g,0,rfl,λj hj=>?_⟩;have:=h.cellAt (g:=g) j (by omega);rw[Nat.zero_add,this];simp[hj]
end Strs
theorem pS_ (t:Array Value) (f:_) (d:Tmp) (v:Value):(Act.mk t f).put (some d) v=⟨t.setIfInBounds d v,f⟩:=rfl
theorem pN_ (a:Act) (v:Value):a.put none v=a:=rfl
theorem sA_ {α:Type _} (l:List α) (i:Nat) (a:α):l.toArray.setIfInBounds i a=(l.set i a).toArray:=List.setIfInBounds_toArray ..
theorem s0_ {α:Type _} (a b:α) (l:List α):(a::l).set 0 b=b::l:=List.set_cons_zero ..
theorem s1_ {α:Type _} (a b:α) (n:Nat) (l:List α):(a::l).set (n+1) b=a::l.set n b:=List.set_cons_succ ..
theorem lh_ {p:Prop}(h:p):Hid p:=Lib.hid h
structure But (b:Nat) (w w':World):Prop where
 os:w'.os=w.os
 tape:w'.tape=w.tape
 output:w'.output=w.output
 size:w.heap.size<=w'.heap.size
 block:∀k,k<w.heap.size->k≠b->w'.heap[k]? =w.heap[k]?
namespace But
variable {a w w' w0:World}{b g:Nat}{t T:TypeId}{cs ds:Array Value}
theorem refl (b:Nat) (w:World):But b w w:=⟨rfl,rfl,rfl,Nat.le_refl _,λ_ _ _=>rfl⟩
theorem trans (h:But b a w) (k:But b w w'):But b a w' :=
 ⟨k.os.trans h.os,k.tape.trans h.tape,k.output.trans h.output,Nat.le_trans h.size k.size,λi hi hb=>(k.block i (Nat.lt_of_lt_of_le hi h.size) hb).trans (h.block i hi hb)⟩
theorem ofExt (h:Ext w w'):But b w w':=⟨Below.os h,Below.tape h,Below.output h,Below.size h,λk hk _=>Below.block h k hk⟩
theorem setCell (h:But b a w) (i:Nat) (u:Value):But b a (w.setCell ⟨b,i,none⟩ u) :=
 h.trans ⟨rfl,rfl,rfl,by simp[World.setCell],λk _ hb=>Below.heap_setCell _ _ _ _ hb⟩
theorem drew (h:But b a w):But b a w.drew:=⟨h.os,h.tape,h.output,h.size,h.block⟩
theorem alloc (h:But b a w) (o:Obj):But b a (w.alloc o):=h.trans (ofExt ((Ext.refl w).alloc o))
theorem then' (h:But b a w) (k:Ext w w'):But b a w':=h.trans (ofExt k)
theorem box (h:But b w w') (k:Box w g t cs) (hg:g≠b):Box w' g t cs:=(h.block g k.lt hg).trans k
theorem past (h:But b w w') (k:Ext w0 w) (hb:w0.heap.size<=b):Ext w0 w' :=
 ⟨h.os.trans (Below.os k),h.tape.trans (Below.tape k),h.output.trans (Below.output k),Nat.le_trans k.size h.size,
  λi hi=>(h.block i (Nat.lt_of_lt_of_le hi k.size) (by omega)).trans (Below.block k i hi)⟩
end But
theorem Box.apart {w:World}{b g:Nat}{t T:TypeId}{cs ds:Array Value}(h:Box w g t cs) (k:Box w b T ds) (ht:t≠T):g≠b:=λe=>by
 subst e;have h1:w.heap[g]? =some (.cells cs t (0,0)):=h;have h2:w.heap[g]? =some (.cells ds T (0,0)):=k;rw[h1]at h2;injection h2 with h2;injection h2 with _ h2;exact ht h2
theorem own_but {w w':World}{b base z n:Nat}{u:Value}{xs:List Value}{t T:TypeId}{cs:Array Value}(o:w.ownsRow base t z u n xs) (hk:But b w w') (hb:Box w b T cs) (ht:t≠T):w'.ownsRow base t z u n xs:=by
 refine⟨o.1,?_⟩;rcases o.2 with h|⟨g,cap,cur,h1,h2,h3,h4⟩
 ·exact .inl h
 ·refine .inr ⟨g,cap,cur,h1,h2,?_,h4⟩;have hlt:g<w.heap.size:=(Array.getElem?_eq_some_iff.1 h3).1;refine(hk.block g hlt ?_).trans h3;intro e;subst e;have h5:w.heap[g]? =some (.cells cs T (0,0)):=hb;rw[h3]at h5;injection h5 with h5;injection h5 with _ h5;exact ht h5
def TRow (w:World) (A:Option Addr) (n:Nat) (ss:List (List UInt8)):Prop :=
 n=ss.length/\(0<n->∃g o cur fz,A=some ⟨g,o,none⟩/\w.heap[g]? =some (.cells cur 9 fz)/\∀(j:Nat) (h:j<ss.length),w.cell? ⟨g,o+j,none⟩=some (.string (str ss[j])))
namespace TRow
variable {w w':World}{A:Option Addr}{n b:Nat}{ss:List (List UInt8)}{T:TypeId}{cs:Array Value}
theorem strs (h:TRow w A n ss):Strs w A n ss:=⟨h.1,λhn=>by
 obtain⟨g,o,_,_,e,_,hc⟩:=h.2 hn;exact⟨g,o,e,hc⟩⟩
theorem but (h:TRow w A n ss) (hk:But b w w') (hb:Box w b T cs) (ht:9≠T):TRow w' A n ss:=⟨h.1,λhn=>by
 obtain⟨g,o,cur,fz,e,h1,hc⟩:=h.2 hn;have hlt:g<w.heap.size:=(Array.getElem?_eq_some_iff.1 h1).1;have hne:g≠b:=λe2=>by subst e2;have h5:w.heap[g]? =some (.cells cs T (0,0)):=hb;rw[h1]at h5;injection h5 with h5;injection h5 with _ h5;exact ht h5
 refine⟨g,o,cur,fz,e,(hk.block g hlt hne).trans h1,λj hj=>?_⟩;rw[← hc j hj];exact World.cell?_of_block (w:=w) (hk.block g hlt hne)⟩
theorem ext (h:TRow w A n ss) (k:Ext w w'):TRow w' A n ss:=⟨h.1,λhn=>by
 obtain⟨g,o,cur,fz,e,h1,hc⟩:=h.2 hn;have hlt:g<w.heap.size:=(Array.getElem?_eq_some_iff.1 h1).1;exact⟨g,o,cur,fz,e,(Below.block k g hlt).trans h1,λj hj=>k.keep (hc j hj)⟩⟩
theorem tail {g o:Nat}{s:List UInt8}(h:TRow w (some ⟨g,o,none⟩) n (s::ss)):TRow w (some ⟨g,o+1,none⟩) (n-1) ss:=by
 obtain⟨h0,h1⟩:=h;simp only[List.length_cons]at h0;refine⟨by omega,λhn=>?_⟩;obtain⟨g',o',cur,fz,e,h2,hc⟩:=h1 (by omega);injection e with e;injection e with e1 e2;subst e1;subst e2;refine⟨g,o+1,cur,fz,rfl,h2,λj hj=>?_⟩;have:=hc (j+1) (by simp;omega);rw[show o+1+j=o+(j+1) by omega];simpa using this
theorem own {base c:Nat}(h:w.ownsRow base 9 1 (.slice A n c) n (ss.map λs=>.string (str s))):TRow w A n ss:=by
 have hs:=Strs.own h;refine⟨hs.1,λhn=>?_⟩;rcases h.2 with⟨_,h0⟩|⟨g,cap,cur,hv,h2,h3,h4⟩
 ·omega
 have hA:A=some ⟨g,0,none⟩:=by injection hv
 obtain⟨g',o',e,hc⟩:=hs.2 hn;rw[hA]at e;injection e with e;injection e with e1 e2;subst e1;subst e2;exact⟨g,0,cur,_,hA,h3,hc⟩
end TRow
abbrev WrT:=Int × List UInt8
def wrL (x:WrT):List Value:=[.int .i64 x.1,.string (str x.2)]
def pendE (n:Nat):List WrT->Int
 | []=>0
 | x::l=>if x.1<0\/(n:Int)<=x.1 then 2 else if x.2.length≠128 then 3 else pendE n l
def formE:List (List UInt8)->Int
 | []=>0
 | b::l=>if b.length≠128 then 3 else formE l
def drvE (B:List (List UInt8)) (p:List WrT):Int:=if 256<B.length then 6 else if formE B≠0 then 3 else pendE B.length p
def jrnE (B:List (List UInt8)) (p:List WrT):Int:=if drvE B p≠0 then drvE B p else if B.length<=33 then 2 else 0
def putP (v:List (List UInt8)) (x:WrT):List (List UInt8):=if 33<=x.1 then v.set (x.1-33).toNat x.2 else v
def homeP (B:List (List UInt8)) (p:List WrT):List (List UInt8):=if jrnE B p≠0 then [] else p.foldl putP (B.drop 33)
def layP (v:List (List UInt8)) (x:WrT):List (List UInt8):=if 0<=x.1/\x.1<(v.length:Int) then v.set x.1.toNat x.2 else v
def viewP (B:List (List UInt8)) (p d:List WrT):List (List UInt8):=d.foldl layP (homeP B p)
def getP (p:List WrT) (i:Int) (s:List UInt8):List UInt8:=p.foldl (λs x=>if x.1=i then x.2 else s) s
theorem formE_mem:∀{l:List (List UInt8)},formE l=0->∀b∈l,b.length=128
 | [],_,b,hb=>by cases hb
 | x::l,h,b,hb=>by
  unfold formE at h;split at h
  ·cases h
  ·rename_i hx;rcases List.mem_cons.1 hb with rfl|hb
   ·exact Decidable.of_not_not hx
   ·exact formE_mem h b hb
theorem formE_app (a b:List (List UInt8)):formE (a++b)=if formE a≠0 then 3 else formE b:=by
 induction a with
 | nil=>simp[formE]
 | cons x a ih =>
  rw[List.cons_append,formE,formE];split
  ·simp
  ·exact ih
theorem pendE_mem {n:Nat}:∀{l:List WrT},pendE n l=0->∀x∈l,0<=x.1/\x.1<(n:Int)/\x.2.length=128
 | [],_,b,hb=>by cases hb
 | y::l,h,x,hx=>by
  unfold pendE at h;split at h
  ·cases h
  ·rename_i h1;split at h
   ·cases h
   ·rename_i h2;rcases List.mem_cons.1 hx with rfl|hx
    ·exact⟨by omega,by omega,Decidable.of_not_not h2⟩
    ·exact pendE_mem h x hx
theorem pendE_app (n:Nat) (a b:List WrT):pendE n (a++b)=if pendE n a≠0 then pendE n a else pendE n b:=by
 induction a with
 | nil=>simp[pendE]
 | cons x a ih =>
  rw[List.cons_append,pendE,pendE];split
  ·simp
  ·split
   ·simp
   ·exact ih
structure DrvOk (B:List (List UInt8)) (p:List WrT):Prop where
 most:B.length<=256
 least:33<B.length
 form:∀b∈B,b.length=128
 pend:∀x∈p,0<=x.1/\x.1<(B.length:Int)/\x.2.length=128
theorem drvOk_of {B:List (List UInt8)}{p:List WrT}(h:jrnE B p=0):DrvOk B p:=by
 unfold jrnE at h;by_cases h1:drvE B p=0
 ·rw[if_neg (by simpa using h1)]at h;by_cases h2:B.length<=33
  ·rw[if_pos h2]at h;cases h
  ·unfold drvE at h1;by_cases h3:256<B.length
   ·rw[if_pos h3]at h1;cases h1
   ·rw[if_neg h3]at h1;by_cases h4:formE B=0
    ·rw[if_neg (by simpa using h4)]at h1;exact⟨by omega,by omega,formE_mem h4,pendE_mem h1⟩
    ·rw[if_pos h4]at h1;cases h1
 ·rw[if_pos h1]at h;exact absurd h h1
theorem foldl_put_len (p:List WrT):∀v:List (List UInt8),(p.foldl putP v).length=v.length:=by
 induction p with
 | nil=>intro v;rfl
 | cons x p ih=>intro v;rw[List.foldl_cons,ih];unfold putP;split<;>simp
theorem foldl_lay_len (p:List WrT):∀v:List (List UInt8),(p.foldl layP v).length=v.length:=by
 induction p with
 | nil=>intro v;rfl
 | cons x p ih=>intro v;rw[List.foldl_cons,ih];unfold layP;split<;>simp
theorem homeP_len {B:List (List UInt8)}{p:List WrT}(h:jrnE B p=0):(homeP B p).length=B.length-33:=by
 unfold homeP;rw[if_neg (by simpa using h),foldl_put_len,List.length_drop]
theorem viewP_len {B:List (List UInt8)}{p d:List WrT}(h:jrnE B p=0):(viewP B p d).length=B.length-33:=by
 unfold viewP;rw[foldl_lay_len,homeP_len h]
theorem foldl_put_at (p:List WrT):∀(v:List (List UInt8)) (j:Nat) (s:List UInt8),v[j]? =some s->(p.foldl putP v)[j]? =some (getP p (33+j:Nat) s):=by
 induction p with
 | nil=>intro v j s h;exact h
 | cons x p ih =>
  intro v j s h;rw[List.foldl_cons];unfold getP;rw[List.foldl_cons];refine ih _ j _ ?_;have hj:j<v.length:=(List.getElem?_eq_some_iff.1 h).1;unfold putP;split
  ·rename_i h1;rw[List.getElem?_set];by_cases e:x.1=((33+j:Nat):Int)
   ·rw[if_pos (by omega),if_pos e];simp;omega
   ·rw[if_neg (by omega),if_neg e];exact h
  ·rename_i h1;rw[if_neg (by omega)];exact h
theorem homeP_get {B:List (List UInt8)}{p:List WrT}(h:jrnE B p=0):homeP B p=(List.range (B.length-33)).map λj=>getP p (33+j:Nat) (B.getD (33+j) []):=by
 have hl:=homeP_len h;apply List.ext_getElem?;intro j;by_cases hj:j<B.length-33
 ·have e:(B.drop 33)[j]? =some (B.getD (33+j) []):=by
   rw[List.getElem?_drop,List.getD_eq_getElem?_getD,List.getElem?_eq_getElem (by omega)];rfl
  unfold homeP;rw[if_neg (by simpa using h),foldl_put_at p _ j _ e,List.getElem?_map,List.getElem?_range hj];rfl
 ·rw[List.getElem?_eq_none (by omega),List.getElem?_eq_none (by simp;omega)]
theorem grown_later {w w' w'':World}{g:Nat}(h:w.grownBy w' (some g)) (x:Ext w' w''):w.grownBy w'' (some g) :=
 ⟨x.os.trans h.os,x.tape.trans h.tape,x.output.trans h.output,Nat.le_trans h.size x.size,λk hk hne=>(x.block k (Nat.lt_of_lt_of_le hk h.size)).trans (h.block k hk hne)⟩
theorem grown_refl (w:World) (r:Option Nat):w.grownBy w r:=⟨rfl,rfl,rfl,Nat.le_refl _,λ_ _ _=>rfl⟩
end Go.Proofs.YtfaplefkakpgcaaGreatDoor
