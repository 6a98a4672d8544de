import Derived.WalkKit
import Derived.WalkSpells
import Derived.WalkLawsBesides
import Derived.RegionTactic
import Derived.ChangeAlike
import Derived.Lib.Hide
import Derived.Lib.Strings
import Derived.IntWalk
import Derived.Deep.QuietTactic
import Derived.BigQuiet
import Derived.Deep.RegionWith
import Derived.Below
import Derived.Laws.OwnMore
import Derived.Laws.BytesArg
import Derived.ShutString
set_option linter.unusedVariables false
set_option linter.unusedSimpArgs false
set_option maxHeartbeats 32000000
set_option maxRecDepth 100000
namespace Go.Proofs.YtfaplefkakpgcaaGreatDoor
open Go.RowKit
def Ext (w w':World):Prop:=Below w.heap.size w w'
namespace Ext
variable {a b c w w':World}
theorem refl (w:World):Ext w w:=Below.refl _ _
theorem size (h:Ext w w'):w.heap.size<=w'.heap.size:=Below.size h
theorem trans (h:Ext a b) (k:Ext b c):Ext a c:=Below.trans h (Below.mono k h.size)
theorem alloc (h:Ext a w) (o:Obj):Ext a (w.alloc o):=Below.alloc h h.size o
theorem drew (h:Ext a w):Ext a w.drew:=Below.drew h
theorem drewN (h:Ext a w) (n:Nat):Ext a (w.drewN n):=by
 have k:Below a.heap.size a w:=h;exact⟨k.os,k.tape,k.output,k.size,k.block⟩
theorem setCell (h:Ext a w) {p:Addr}(hp:a.heap.size<=p.block) (u:Value):Ext a (w.setCell p u):=Below.setCell h hp u
theorem cell (h:Ext w w') {p:Addr}(hp:p.block<w.heap.size):w'.cell? p=w.cell? p:=Below.cell h hp
theorem frozen (h:Ext w w') {p:Addr}(hp:p.block<w.heap.size):w'.frozen? p=w.frozen? p:=Below.frozen h hp
theorem keep (h:Ext w w') {b o:Nat}{v:Value}(hc:w.cell? ⟨b,o,none⟩=some v):w'.cell? ⟨b,o,none⟩=some v :=
 (h.cell (World.block_lt_of_cell? w _ hc)).trans hc
theorem undrew (h:Ext w.drew w'):Ext w w':=by
 have k:Below w.drew.heap.size w.drew w':=h;exact⟨k.os,k.tape,k.output,k.size,k.block⟩
end Ext
def Box (w:World) (g:Nat) (t:TypeId) (cs:Array Value):Prop:=w.heap[g]? =some (.cells cs t (0,0))
namespace Box
variable {w w':World}{g:Nat}{t:TypeId}{cs:Array Value}
theorem lt (h:Box w g t cs):g<w.heap.size:=(Array.getElem?_eq_some_iff.1 h).1
theorem ext (h:Box w g t cs) (k:Ext w w'):Box w' g t cs:=(Below.block k g h.lt).trans h
theorem new (w:World) (t:TypeId) (cs:Array Value):Box (w.alloc (.cells cs t)) w.heap.size t cs:=heap_alloc_new w _
theorem cell (h:Box w g t cs) (i:Nat):w.cell? ⟨g,i,none⟩=cs[i]? :=cell_of_row w g i cs t (0,0) h
theorem frozen (h:Box w g t cs) (i:Nat):w.frozen? ⟨g,i,none⟩=false:=by
 have k:w.heap[g]? =some (.cells cs t (0,0)):=h;simp[World.frozen?,k]
theorem set (h:Box w g t cs) (i:Nat) (u:Value):Box (w.setCell ⟨g,i,none⟩ u) g t (cs.setIfInBounds i u):=by
 have k:w.heap[g]? =some (.cells cs t (0,0)):=h;show(w.setCell ⟨g,i,none⟩ u).heap[g]? =_;simp[World.setCell,Array.getElem?_modify,k]
theorem drew (h:Box w g t cs):Box w.drew g t cs:=h
end Box
structure Qg (w:World) where
 now:World
 ext:Ext w now
instance laterNonempty (w:World):Nonempty (Qg w):=⟨⟨w,Ext.refl w⟩⟩
theorem Qp {P:Program}{id:Nat}{Q:Exit->Act->World->Prop}{a:Act}{w:World}{l:List Oper}(hm:P.follows .mixedOrders=true) (hB:Region.lexB .any l.toArray=true)
  (h:wpQuiet P l.toArray (λw'=>∃x:Qg w,w'=x.now) (λa'=>∀w',(∃x:Qg w,w'=x.now)->Q .normal a' w') l a):(Code.region id l.toArray true).wp P Q a w :=
 wp_region_quiet (C:=λw'=>∃x:Qg w,w'=x.now) hm hB ⟨⟨_,(Ext.refl w).drew⟩,rfl⟩ (by simpa using h)
theorem Zg {P:Program}{f:FuncId}{args:Array Value}{w:World}{x:Qg w}{v:Value}
  (h:Calls P f args x.now λe w'=>e=.returned v/\Ext x.now w'):Calls P f args x.now λe w'=>e=.returned v/\∃y:Qg w,w'=y.now :=
 h.mono λ_ _ ⟨he,hg⟩=>⟨he,⟨_,x.ext.trans hg⟩,rfl⟩
theorem Jq {P:Program}{f:FuncId}{args:Array Value}{w:World}{x:Qg w}{v:Value}
  (h:Calls P f args x.now λe w'=>e=.returned v/\x.now=w'):Calls P f args x.now λe w'=>e=.returned v/\∃y:Qg w,w'=y.now :=
 h.mono λ_ _ ⟨he,hg⟩=>⟨he,x,hg.symm⟩
def Qb (l:List UInt8):ByteArray:=⟨l.toArray⟩
theorem Qh (l:List UInt8):(Qb l).size=l.length:=by simp[Qb,ByteArray.size]
theorem VT (a b:List UInt8):Qb a++Qb b=Qb (a++b):=by apply ByteArray.ext;simp[Qb]
theorem R2 (l:List UInt8):(Qb l).data.toList=l:=rfl
theorem Ql (l:List UInt8):(Qb l).toList=l:=(ByteArray.toList_eq _).trans rfl
theorem JJ (l:List UInt8) (a b:Nat):(Qb l).extract a b=Qb ((l.drop a).take (b-a)):=by
 apply ByteArray.ext;apply Array.toList_inj.1;rw[Lib.extract_data];rfl
theorem jd (s:ByteArray):s=Qb s.data.toList:=rfl
def Strs (w:World) (A:Option Addr) (n:Nat) (ss:List (List UInt8)):Prop :=
 n=ss.length/\(0<n->∃b o,A=some ⟨b,o,none⟩/\∀(j:Nat) (h:j<ss.length),w.cell? ⟨b,o+j,none⟩=some (.string (Qb ss[j])))
namespace Strs
variable {w w':World}{A:Option Addr}{n:Nat}{ss:List (List UInt8)}
theorem len (h:Strs w A n ss):n=ss.length:=h.1
theorem ext (h:Strs w A n ss) (k:Ext w w'):Strs w' A n ss :=
 ⟨h.1,λhn=>by obtain⟨b,o,e,hc⟩:=h.2 hn;exact⟨b,o,e,λj hj=>k.keep (hc j hj)⟩⟩
theorem drew (h:Strs w A n ss):Strs w.drew A n ss:=h.ext ((Ext.refl w).drew)
theorem own {base:Nat}{t:TypeId}{c:Nat}(h:w.ownsRow base t 1 (.slice A n c) n (ss.map λs=>.string (Qb s))):Strs w A n ss:=by
 have hl:n=ss.length:=by have:=h.1;simpa using this.symm
 refine⟨hl,λhn=>?_⟩;rcases h.2 with⟨_,h0⟩|⟨g,cap,cur,hv,_⟩
 ·omega
 have hA:A=some ⟨g,0,none⟩:=by injection hv
 subst hA;refine⟨g,0,rfl,λj hj=>?_⟩;have:=h.cellAt (g:=g) j (by omega);rw[Nat.zero_add,this];simp[hj]
end Strs
theorem S_:(∀(t:Array Value) (f:_) (d:Tmp) (v:Value),(Act.mk t f).put (some d) v=⟨t.setIfInBounds d v,f⟩)/\(∀(a:Act) (v:Value),a.put none v=a)/\(∀(l:List Value) (i:Nat) (a:Value),l.toArray.setIfInBounds i a=(l.set i a).toArray)/\(∀(a b:Value) (l:List Value),(a::l).set 0 b=b::l)/\∀(a b:Value) (n:Nat) (l:List Value),(a::l).set (n+1) b=a::l.set n b:=⟨λ_ _ _ _=>rfl,λ_ _=>rfl,λ_ _ _=>List.setIfInBounds_toArray ..,λ_ _ _=>List.set_cons_zero ..,λ_ _ _ _=>List.set_cons_succ ..⟩
def Zv (p:Prop):Prop:=p
theorem Zv.o {p:Prop}(h:Zv p):p:=h
theorem Qa {p:Prop}(h:p):Zv p:=h
abbrev Qf:=@Ext.refl
abbrev JZ:=@List.getElem?_eq_getElem
abbrev ZG:=@List.getD_eq_getElem?_getD
abbrev QW:=@Nat.le_refl
abbrev Yh:=@List.take_succ_cons
abbrev YB:=@List.drop_succ_cons
abbrev ZU:=@IntKind.wrap_i64
abbrev QA:=@Box.new
abbrev Qr:=@if_neg
abbrev YV:=@List.length_cons
abbrev Qv:=@if_pos
abbrev UK:=@Bool.eq_false_or_eq_true
abbrev ZD:=@bodyPost_ret
abbrev Yt:=@List.take_zero
abbrev Yu:=@List.drop_zero
abbrev Kh:=@List.length_append
abbrev XI:=@decide_eq_false
abbrev VY:=@of_decide_eq_true
abbrev VB:=@Bool.and_eq_true
abbrev Ki:=@World.size_alloc
abbrev Ve:=@decide_eq_true
abbrev Y6:=@Nat.le_trans
abbrev PO:=@List.getElem?_eq_some_iff
abbrev FL:=@List.take_succ_eq_append_getElem
abbrev Y7:=@wpQuiet_nil
abbrev WQ:=@List.length_drop
abbrev XN:=@rounds_succ
abbrev WV:=@List.length_take
abbrev N1:=@List.size_toArray
abbrev Ty:=@List.getElem?_take
abbrev MY:=@List.getElem?_toArray
abbrev YA:=@And.intro
abbrev Td:=@List.not_mem_nil
abbrev LX:=@List.mem_cons_of_mem
abbrev Ux:=@Nat.zero_add
abbrev Fl:=@List.getElem?_eq_none
abbrev UL:=@results_none
abbrev Tz:=@List.length_nil
abbrev Pv:=@List.all_eq_true
abbrev LY:=@List.mem_cons_self
abbrev MZ:=@Result.andThen_ok
abbrev AW:=@List.getElem?_append_left
abbrev SK:=@Array.getElem?_eq_some_iff
abbrev LZ:=@List.getElem?_map
abbrev WW:=@Sem.run_bind
abbrev Fm:=@List.getElem?_drop
abbrev bd:=@List.eq_nil_of_length_eq_zero
abbrev Pw:=@List.mem_range
abbrev TA:=@List.mem_cons
abbrev AX:=@List.take_of_length_le
abbrev DA:=@List.getElem?_range
abbrev L9:=@List.take_length
abbrev L0:=@Option.some.inj
abbrev Pp:=@callsIn_wide
abbrev Pq:=@List.mem_map
abbrev FM:=@List.getElem_mem
abbrev Fo:=@List.length_map
abbrev AY:=@List.flatMap_append
abbrev fF:=@List.getElem?_append_right
abbrev Cw:=@decide_eq_true_eq
abbrev DB:=@List.cons_append
abbrev ak:=@Array.replicate_zero
abbrev ah:=@Array.replicate_succ
abbrev AV:=@List.flatMap_cons
abbrev j0:=@Array.getElem?_setIfInBounds_ne
abbrev SI:=@of_decide_eq_false
abbrev SJ:=@List.mem_singleton
abbrev fC:=@decide_eq_false_iff_not
abbrev ai:=@beq_eq_false_iff_ne
abbrev fD:=@World.block_lt_of_cell?
abbrev aj:=@List.getElem_of_mem
abbrev fE:=@List.getElem?_cons_zero
abbrev an:=@List.append_toArray
abbrev Cx:=@List.nil_append
abbrev A0:=@List.flatMap_def
abbrev A5:=@IntKind.wrap_u64
abbrev ao:=@Nat.lt_of_lt_of_le
abbrev FN:=@List.map_cons
abbrev Fp:=@Sem.run_pure
abbrev A9:=@Oper.semAt_some
abbrev fH:=@List.take_append_drop
abbrev fI:=@List.contains_iff_mem
abbrev be:=@Array.length_toList
abbrev SM:=@Option.getD_some
abbrev ap:=@World.ownsRow_nil
abbrev aq:=@List.push_toArray
abbrev gt:=@List.getElem?_cons_succ
abbrev ar:=@List.append_assoc
abbrev kA:=@List.setIfInBounds_toArray
abbrev fJ:=@Bool.or_eq_false_iff
abbrev SN:=@List.mem_append
abbrev SO:=@List.append_nil
abbrev DC:=@wpList_plain
abbrev SP:=@run_underlying
abbrev au:=@Option.map_some
abbrev kB:=@Int.eq_ofNat_of_zero_le
abbrev Cy:=@List.map_nil
abbrev pX:=@Array.all_eq_true_iff_forall_mem
abbrev j7:=@List.flatMap_singleton
abbrev am:=@wp_loop_rounds
abbrev mD:=@Array.size_setIfInBounds
abbrev fG:=@List.map_toArray
abbrev j8:=@List.mem_of_mem_drop
abbrev j9:=@List.mem_append_left
abbrev SL:=@Nat.succ_mul
abbrev go:=@List.ext_getElem?
abbrev gp:=@Int.toNat_natCast
abbrev AZ:=@Nat.zero_le
abbrev pd:=@Nat.two_pow_add_eq_or_of_lt
abbrev fL:=@List.range_succ
abbrev fM:=@List.map_append
abbrev fN:=@Bool.or_eq_true
abbrev pf:=@Array.toList_setIfInBounds
abbrev L1:=@or_false
abbrev kC:=@Below.heap_setCell
abbrev pg:=@Array.getElem?_eq_getElem
abbrev mG:=@World.cell?_of_block
abbrev mH:=@Region.noSelect_spec
abbrev mI:=@Nat.pow_le_pow_right
abbrev mJ:=@Nat.mul_le_mul_right
abbrev gz:=@Nat.min_eq_left
abbrev bh:=@Nat.mul_comm
abbrev SQ:=@info_parts
abbrev hO:=@List.take_take
abbrev hU:=@List.drop_drop
abbrev mK:=@UInt8.toNat_ofNat'
abbrev mL:=@List.set_cons_succ
abbrev fO:=@Nat.add_zero
abbrev ph:=@List.mem_append_right
abbrev mM:=@run_append_own_at
abbrev mN:=@World.cells?_some
abbrev mO:=@List.length_range
abbrev mP:=@Int.emod_eq_of_lt
abbrev mQ:=@Bool.not_eq_true'
abbrev gu:=@AllReady.cons
abbrev Cz:=@Strs.own
abbrev mE:=@List.mem_flatMap
abbrev mF:=@Array.toList_inj
abbrev Fq:=@Ne.symm
abbrev pY:=@List.getD_cons_zero
abbrev pZ:=@List.getD_cons_succ
abbrev pa:=@Lib.OthersKept.refl
abbrev fK:=@Below.trans
abbrev gx:=@Nat.le_of_eq
abbrev bj:=@Below.refl
abbrev mR:=@run_loadVar_row
abbrev PQ:=@Or.inr
abbrev Wed:=@Nat.add_assoc
abbrev mS:=@List.length_set
abbrev rS:=@List.countP_cons_of_pos
abbrev mT:=@Bool.eq_iff_iff
abbrev pj:=@List.foldl_append
abbrev kD:=@Exists.intro
abbrev rT:=@Bool.and_eq_false_iff
abbrev rU:=@Array.getElem?_modify
abbrev pk:=@Nat.lt_of_not_le
abbrev pm:=@List.flatMap_nil
abbrev rV:=@List.mem_of_getElem?
abbrev rW:=@Array.toArray_toList
abbrev mU:=@wp_region_any
abbrev av:=@Ext.keep
abbrev hZ:=@Below.mono
abbrev fQ:=@wpIn_wide
abbrev mV:=@Nat.pow_succ
abbrev mW:=@Nat.ne_of_lt
abbrev mX:=@AllReady.nil
abbrev DD:=@Or.inl
abbrev kE:=@Nat.mod_lt
abbrev kG:=@Ext.undrew
structure But (b:Nat) (w w':World):Prop where
 os:w'.os=w.os
 tape:w'.tape=w.tape
 output:w'.output=w.output
 size:w.heap.size<=w'.heap.size
 block:∀k,k<w.heap.size->k≠b->w'.heap[k]? =w.heap[k]?
namespace But
variable {a w w' w0:World}{b g:Nat}{t T:TypeId}{cs ds:Array Value}
theorem refl (b:Nat) (w:World):But b w w:=⟨rfl,rfl,rfl,Nat.le_refl _,λ_ _ _=>rfl⟩
theorem trans (h:But b a w) (k:But b w w'):But b a w' :=
 ⟨k.os.trans h.os,k.tape.trans h.tape,k.output.trans h.output,Nat.le_trans h.size k.size,λi hi hb=>(k.block i (Nat.lt_of_lt_of_le hi h.size) hb).trans (h.block i hi hb)⟩
theorem ofExt (h:Ext w w'):But b w w':=⟨Below.os h,Below.tape h,Below.output h,Below.size h,λk hk _=>Below.block h k hk⟩
theorem setCell (h:But b a w) (i:Nat) (u:Value):But b a (w.setCell ⟨b,i,none⟩ u) :=
 h.trans ⟨rfl,rfl,rfl,by simp[World.setCell],λk _ hb=>Below.heap_setCell _ _ _ _ hb⟩
theorem drew (h:But b a w):But b a w.drew:=⟨h.os,h.tape,h.output,h.size,h.block⟩
theorem alloc (h:But b a w) (o:Obj):But b a (w.alloc o):=h.trans (ofExt ((Ext.refl w).alloc o))
theorem then' (h:But b a w) (k:Ext w w'):But b a w':=h.trans (ofExt k)
theorem box (h:But b w w') (k:Box w g t cs) (hg:g≠b):Box w' g t cs:=(h.block g k.lt hg).trans k
theorem past (h:But b w w') (k:Ext w0 w) (hb:w0.heap.size<=b):Ext w0 w' :=
 ⟨h.os.trans (Below.os k),h.tape.trans (Below.tape k),h.output.trans (Below.output k),Nat.le_trans k.size h.size,
  λi hi=>(h.block i (Nat.lt_of_lt_of_le hi k.size) (by omega)).trans (Below.block k i hi)⟩
end But
theorem Box.apart {w:World}{b g:Nat}{t T:TypeId}{cs ds:Array Value}(h:Box w g t cs) (k:Box w b T ds) (ht:t≠T):g≠b:=λe=>by
 subst e;have h1:w.heap[g]? =some (.cells cs t (0,0)):=h;have h2:w.heap[g]? =some (.cells ds T (0,0)):=k;rw[h1]at h2;injection h2 with h2;injection h2 with _ h2;exact ht h2
theorem QX {w w':World}{b base z n:Nat}{u:Value}{xs:List Value}{t T:TypeId}{cs:Array Value}(o:w.ownsRow base t z u n xs) (hk:But b w w') (hb:Box w b T cs) (ht:t≠T):w'.ownsRow base t z u n xs:=by
 refine⟨o.1,?_⟩;rcases o.2 with h|⟨g,cap,cur,h1,h2,h3,h4⟩
 ·exact .inl h
 ·refine .inr ⟨g,cap,cur,h1,h2,?_,h4⟩;have Qo:g<w.heap.size:=(Array.getElem?_eq_some_iff.1 h3).1;refine(hk.block g Qo ?_).trans h3;intro e;subst e;have h5:w.heap[g]? =some (.cells cs T (0,0)):=hb;rw[h3]at h5;injection h5 with h5;injection h5 with _ h5;exact ht h5
def TRow (w:World) (A:Option Addr) (n:Nat) (ss:List (List UInt8)):Prop :=
 n=ss.length/\(0<n->∃g o cur fz,A=some ⟨g,o,none⟩/\w.heap[g]? =some (.cells cur 9 fz)/\∀(j:Nat) (h:j<ss.length),w.cell? ⟨g,o+j,none⟩=some (.string (Qb ss[j])))
namespace TRow
variable {w w':World}{A:Option Addr}{n b:Nat}{ss:List (List UInt8)}{T:TypeId}{cs:Array Value}
theorem but (h:TRow w A n ss) (hk:But b w w') (hb:Box w b T cs) (ht:9≠T):TRow w' A n ss:=⟨h.1,λhn=>by
 obtain⟨g,o,cur,fz,e,h1,hc⟩:=h.2 hn;have Qo:g<w.heap.size:=(Array.getElem?_eq_some_iff.1 h1).1;have QY:g≠b:=λe2=>by subst e2;have h5:w.heap[g]? =some (.cells cs T (0,0)):=hb;rw[h1]at h5;injection h5 with h5;injection h5 with _ h5;exact ht h5
 refine⟨g,o,cur,fz,e,(hk.block g Qo QY).trans h1,λj hj=>?_⟩;rw[←hc j hj];exact World.cell?_of_block (w:=w) (hk.block g Qo QY)⟩
theorem ext (h:TRow w A n ss) (k:Ext w w'):TRow w' A n ss:=⟨h.1,λhn=>by
 obtain⟨g,o,cur,fz,e,h1,hc⟩:=h.2 hn;have Qo:g<w.heap.size:=(Array.getElem?_eq_some_iff.1 h1).1;exact⟨g,o,cur,fz,e,(Below.block k g Qo).trans h1,λj hj=>k.keep (hc j hj)⟩⟩
theorem tail {g o:Nat}{s:List UInt8}(h:TRow w (some ⟨g,o,none⟩) n (s::ss)):TRow w (some ⟨g,o+1,none⟩) (n-1) ss:=by
 obtain⟨h0,h1⟩:=h;simp only[List.length_cons]at h0;refine⟨by omega,λhn=>?_⟩;obtain⟨g',o',cur,fz,e,h2,hc⟩:=h1 (by omega);injection e with e;injection e with e1 e2;subst e1;subst e2;refine⟨g,o+1,cur,fz,rfl,h2,λj hj=>?_⟩;have:=hc (j+1) (by simp;omega);rw[show o+1+j=o+(j+1) by omega];simpa using this
theorem own {base c:Nat}(h:w.ownsRow base 9 1 (.slice A n c) n (ss.map λs=>.string (Qb s))):TRow w A n ss:=by
 have hs:=Strs.own h;refine⟨hs.1,λhn=>?_⟩;rcases h.2 with⟨_,h0⟩|⟨g,cap,cur,hv,h2,h3,h4⟩
 ·omega
 have hA:A=some ⟨g,0,none⟩:=by injection hv
 obtain⟨g',o',e,hc⟩:=hs.2 hn;rw[hA]at e;injection e with e;injection e with e1 e2;subst e1;subst e2;exact⟨g,0,cur,_,hA,h3,hc⟩
end TRow
abbrev Zs:=Int × List UInt8
def Yd (x:Zs):List Value:=[.int .i64 x.1,.string (Qb x.2)]
def JX (n:Nat):List Zs->Int
 | []=>0
 | x::l=>if x.1<0\/(n:Int)<=x.1 then 2 else if x.2.length≠128 then 3 else JX n l
def ZV:List (List UInt8)->Int
 | []=>0
 | b::l=>if b.length≠128 then 3 else ZV l
def J4 (B:List (List UInt8)) (p:List Zs):Int:=if 256<B.length then 6 else if ZV B≠0 then 3 else JX B.length p
def Za (B:List (List UInt8)) (p:List Zs):Int:=if J4 B p≠0 then J4 B p else if B.length<=33 then 2 else 0
def U9 (v:List (List UInt8)) (x:Zs):List (List UInt8):=if 33<=x.1 then v.set (x.1-33).toNat x.2 else v
def Q9 (B:List (List UInt8)) (p:List Zs):List (List UInt8):=if Za B p≠0 then [] else p.foldl U9 (B.drop 33)
def Yn (v:List (List UInt8)) (x:Zs):List (List UInt8):=if 0<=x.1/\x.1<(v.length:Int) then v.set x.1.toNat x.2 else v
def QH (B:List (List UInt8)) (p d:List Zs):List (List UInt8):=d.foldl Yn (Q9 B p)
def Nd (p:List Zs) (i:Int) (s:List UInt8):List UInt8:=p.foldl (λs x=>if x.1=i then x.2 else s) s
theorem Md:∀{l:List (List UInt8)},ZV l=0->∀b∈l,b.length=128
 | [],_,b,hb=>by cases hb
 | x::l,h,b,hb=>by
  unfold ZV at h;split at h
  ·cases h
  ·rename_i hx;rcases List.mem_cons.1 hb with rfl|hb
   ·exact Decidable.of_not_not hx
   ·exact Md h b hb
theorem Mb (a b:List (List UInt8)):ZV (a++b)=if ZV a≠0 then 3 else ZV b:=by
 induction a with
 | nil=>simp[ZV]
 | cons x a ih =>
  rw[List.cons_append,ZV,ZV];split
  ·simp
  ·exact ih
theorem Mw {n:Nat}:∀{l:List Zs},JX n l=0->∀x∈l,0<=x.1/\x.1<(n:Int)/\x.2.length=128
 | [],_,b,hb=>by cases hb
 | y::l,h,x,hx=>by
  unfold JX at h;split at h
  ·cases h
  ·rename_i h1;split at h
   ·cases h
   ·rename_i h2;rcases List.mem_cons.1 hx with rfl|hx
    ·exact⟨by omega,by omega,Decidable.of_not_not h2⟩
    ·exact Mw h x hx
theorem Mv (n:Nat) (a b:List Zs):JX n (a++b)=if JX n a≠0 then JX n a else JX n b:=by
 induction a with
 | nil=>simp[JX]
 | cons x a ih =>
  rw[List.cons_append,JX,JX];split
  ·simp
  ·split
   ·simp
   ·exact ih
structure kn (B:List (List UInt8)) (p:List Zs):Prop where
 most:B.length<=256
 least:33<B.length
 form:∀b∈B,b.length=128
 pend:∀x∈p,0<=x.1/\x.1<(B.length:Int)/\x.2.length=128
theorem Zw {B:List (List UInt8)}{p:List Zs}(h:Za B p=0):kn B p:=by
 unfold Za at h;by_cases h1:J4 B p=0
 ·rw[if_neg (by simpa using h1)]at h;by_cases h2:B.length<=33
  ·rw[if_pos h2]at h;cases h
  ·unfold J4 at h1;by_cases h3:256<B.length
   ·rw[if_pos h3]at h1;cases h1
   ·rw[if_neg h3]at h1;by_cases h4:ZV B=0
    ·rw[if_neg (by simpa using h4)]at h1;exact⟨by omega,by omega,Md h4,Mw h1⟩
    ·rw[if_pos h4]at h1;cases h1
 ·rw[if_pos h1]at h;exact absurd h h1
theorem PA (p:List Zs):∀v:List (List UInt8),(p.foldl U9 v).length=v.length:=by
 induction p with
 | nil=>intro v;rfl
 | cons x p ih=>intro v;rw[List.foldl_cons,ih];unfold U9;split<;>simp
theorem JU (p:List Zs):∀v:List (List UInt8),(p.foldl Yn v).length=v.length:=by
 induction p with
 | nil=>intro v;rfl
 | cons x p ih=>intro v;rw[List.foldl_cons,ih];unfold Yn;split<;>simp
theorem Z7 {B:List (List UInt8)}{p:List Zs}(h:Za B p=0):(Q9 B p).length=B.length-33:=by
 unfold Q9;rw[if_neg (by simpa using h),PA,List.length_drop]
theorem AH {B:List (List UInt8)}{p d:List Zs}(h:Za B p=0):(QH B p d).length=B.length-33:=by
 unfold QH;rw[JU,Z7 h]
theorem Lf (p:List Zs):∀(v:List (List UInt8)) (j:Nat) (s:List UInt8),v[j]? =some s->(p.foldl U9 v)[j]? =some (Nd p (33+j:Nat) s):=by
 induction p with
 | nil=>intro v j s h;exact h
 | cons x p ih =>
  intro v j s h;rw[List.foldl_cons];unfold Nd;rw[List.foldl_cons];refine ih _ j _ ?_;have hj:j<v.length:=(List.getElem?_eq_some_iff.1 h).1;unfold U9;split
  ·rename_i h1;rw[List.getElem?_set];by_cases e:x.1=((33+j:Nat):Int)
   ·rw[if_pos (by omega),if_pos e];simp;omega
   ·rw[if_neg (by omega),if_neg e];exact h
  ·rename_i h1;rw[if_neg (by omega)];exact h
theorem Bt {B:List (List UInt8)}{p:List Zs}(h:Za B p=0):Q9 B p=(List.range (B.length-33)).map λj=>Nd p (33+j:Nat) (B.getD (33+j) []):=by
 have hl:=Z7 h;apply List.ext_getElem?;intro j;by_cases hj:j<B.length-33
 ·have e:(B.drop 33)[j]? =some (B.getD (33+j) []):=by
   rw[List.getElem?_drop,List.getD_eq_getElem?_getD,List.getElem?_eq_getElem (by omega)];rfl
  unfold Q9;rw[if_neg (by simpa using h),Lf p _ j _ e,List.getElem?_map,List.getElem?_range hj];rfl
 ·rw[List.getElem?_eq_none (by omega),List.getElem?_eq_none (by simp;omega)]
theorem Qm {w w' w'':World}{g:Nat}(h:w.grownBy w' (some g)) (x:Ext w' w''):w.grownBy w'' (some g) :=
 ⟨x.os.trans h.os,x.tape.trans h.tape,x.output.trans h.output,Nat.le_trans h.size x.size,λk hk QY=>(x.block k (Nat.lt_of_lt_of_le hk h.size)).trans (h.block k hk QY)⟩
theorem Jw {w w':World}{g i:Nat}(h:w.grownBy w' (some g)) (v:Value):w.grownBy (w'.setCell ⟨g,i,none⟩ v) (some g) :=
 ⟨h.os,h.tape,h.output,by simp[World.setCell];exact h.size,λk hk QY=>(Below.heap_setCell w' ⟨g,i,none⟩ v k (λe=>QY (by rw[e]))).trans (h.block k hk QY)⟩
theorem Z0 (w:World) (r:Option Nat):w.grownBy w r:=⟨rfl,rfl,rfl,Nat.le_refl _,λ_ _ _=>rfl⟩
theorem ma (x y:BitVec 32):IntKind.u32.wrap ((x.toNat:Int)+(y.toNat:Int))=((x+y).toNat:Int):=by
 rw[IntKind.wrap_u32,BitVec.toNat_add];show _=(((x.toNat+y.toNat)%4294967296:Nat):Int);omega
theorem bo (x y:BitVec 32):(((x.toNat:Nat):Int)+((y.toNat:Nat):Int))%(4294967296:Int)=(((x+y).toNat:Nat):Int):=by
 rw[←ma,IntKind.wrap_u32]
theorem mZ (x y z:BitVec 32):(((x.toNat:Nat):Int)+(((y.toNat:Nat):Int)+((z.toNat:Nat):Int)))%(4294967296:Int)=(((x+(y+z)).toNat:Nat):Int):=by
 rw[←bo x (y+z),←bo y z];omega
theorem Tf (x:BitVec 32):BitVec.ofInt 32 (x.toNat:Int)=x:=by simp
theorem Pm (x:BitVec 32):IntKind.u32.wrap (x.toNat:Int)=(x.toNat:Int):=by
 rw[IntKind.wrap_u32];have:=x.isLt;omega
theorem WN (x y:BitVec 32):bits .xor .u32 (x.toNat:Int) (y.toNat:Int)=((x ^^^ y).toNat:Int):=by
 show IntKind.u32.wrap (((BitVec.ofInt 32 (x.toNat:Int) ^^^ BitVec.ofInt 32 (y.toNat:Int)).toNat:Nat):Int)=_;rw[Tf,Tf,Pm]
theorem Ol (x y:BitVec 32):bits .or .u32 (x.toNat:Int) (y.toNat:Int)=((x ||| y).toNat:Int):=by
 show IntKind.u32.wrap (((BitVec.ofInt 32 (x.toNat:Int) ||| BitVec.ofInt 32 (y.toNat:Int)).toNat:Nat):Int)=_;rw[Tf,Tf,Pm]
theorem Cj (x:BitVec 32) (n:Nat):IntKind.u32.wrap ((x.toNat:Int)*2^n)=((x <<< n).toNat:Int):=by
 rw[IntKind.wrap_u32,BitVec.toNat_shiftLeft,Nat.shiftLeft_eq];show _=((x.toNat*2^n%4294967296:Nat):Int);rw[Int.natCast_emod,Int.natCast_mul,Int.natCast_pow];rfl
theorem Ck (x:BitVec 32) (n:Nat):(x.toNat:Int).fdiv (2^n)=((x >>> n).toNat:Int):=by
 rw[BitVec.toNat_ushiftRight,Nat.shiftRight_eq_div_pow];rw[show(2:Int)^n=((2^n:Nat):Int) from(Int.natCast_pow 2 n).symm,Int.fdiv_eq_ediv_of_nonneg _ (Int.natCast_nonneg _),Int.natCast_ediv]
def Yq (n:Nat) (x:BitVec 32):BitVec 32:=x >>> n ||| x <<< (32-n)
end Go.Proofs.YtfaplefkakpgcaaGreatDoor
