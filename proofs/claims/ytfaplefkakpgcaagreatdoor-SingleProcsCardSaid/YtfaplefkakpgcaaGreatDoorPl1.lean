import Derived.WalkKit
import Derived.WalkSpells
import Derived.WalkLawsBesides
import Derived.RegionTactic
import Derived.ChangeAlike
import Derived.Lib.Hide
import Derived.Lib.Strings
import Derived.IntWalk
import Derived.Deep.QuietTactic
import Derived.BigQuiet
import Derived.Deep.RegionWith
import Derived.Below
import Derived.Laws.OwnMore
import Derived.Laws.BytesArg
import Derived.ShutString
set_option linter.unusedVariables false
set_option linter.unusedSimpArgs false
set_option maxHeartbeats 32000000
set_option maxRecDepth 100000
namespace Go.Proofs.YtfaplefkakpgcaaGreatDoor
open Go.RowKit
def Ext (w w':World):Prop:=Below w.heap.size w w'
namespace Ext
variable {a b c w w':World}
theorem refl (w:World):Ext w w:=Below.refl _ _
theorem size (h:Ext w w'):w.heap.size<=w'.heap.size:=Below.size h
theorem trans (h:Ext a b) (k:Ext b c):Ext a c:=Below.trans h (Below.mono k h.size)
theorem alloc (h:Ext a w) (o:Obj):Ext a (w.alloc o):=Below.alloc h h.size o
theorem drew (h:Ext a w):Ext a w.drew:=Below.drew h
theorem drewN (h:Ext a w) (n:Nat):Ext a (w.drewN n):=by
 have k:Below a.heap.size a w:=h;exact⟨k.os,k.tape,k.output,k.size,k.block⟩
theorem setCell (h:Ext a w) {p:Addr}(hp:a.heap.size<=p.block) (u:Value):Ext a (w.setCell p u):=Below.setCell h hp u
theorem cell (h:Ext w w') {p:Addr}(hp:p.block<w.heap.size):w'.cell? p=w.cell? p:=Below.cell h hp
theorem frozen (h:Ext w w') {p:Addr}(hp:p.block<w.heap.size):w'.frozen? p=w.frozen? p:=Below.frozen h hp
theorem keep (h:Ext w w') {b o:Nat}{v:Value}(hc:w.cell? ⟨b,o,none⟩=some v):w'.cell? ⟨b,o,none⟩=some v :=
 (h.cell (World.block_lt_of_cell? w _ hc)).trans hc
theorem undrew (h:Ext w.drew w'):Ext w w':=by
 have k:Below w.drew.heap.size w.drew w':=h;exact⟨k.os,k.tape,k.output,k.size,k.block⟩
end Ext
def Box (w:World) (g:Nat) (t:TypeId) (cs:Array Value):Prop:=w.heap[g]? =some (.cells cs t (0,0))
namespace Box
variable {w w':World}{g:Nat}{t:TypeId}{cs:Array Value}
theorem lt (h:Box w g t cs):g<w.heap.size:=(Array.getElem?_eq_some_iff.1 h).1
theorem ext (h:Box w g t cs) (k:Ext w w'):Box w' g t cs:=(Below.block k g h.lt).trans h
theorem new (w:World) (t:TypeId) (cs:Array Value):Box (w.alloc (.cells cs t)) w.heap.size t cs:=heap_alloc_new w _
theorem cell (h:Box w g t cs) (i:Nat):w.cell? ⟨g,i,none⟩=cs[i]? :=cell_of_row w g i cs t (0,0) h
theorem frozen (h:Box w g t cs) (i:Nat):w.frozen? ⟨g,i,none⟩=false:=by
 have k:w.heap[g]? =some (.cells cs t (0,0)):=h;simp[World.frozen?,k]
theorem set (h:Box w g t cs) (i:Nat) (u:Value):Box (w.setCell ⟨g,i,none⟩ u) g t (cs.setIfInBounds i u):=by
 have k:w.heap[g]? =some (.cells cs t (0,0)):=h;show(w.setCell ⟨g,i,none⟩ u).heap[g]? =_;simp[World.setCell,Array.getElem?_modify,k]
theorem drew (h:Box w g t cs):Box w.drew g t cs:=h
end Box
structure Qt (w:World) where
 now:World
 ext:Ext w now
instance laterNonempty (w:World):Nonempty (Qt w):=⟨⟨w,Ext.refl w⟩⟩
theorem Qk {P:Program}{id:Nat}{Q:Exit->Act->World->Prop}{a:Act}{w:World}{l:List Oper}(hm:P.follows .mixedOrders=true) (hB:Region.lexB .any l.toArray=true)
  (h:wpQuiet P l.toArray (λw'=>∃x:Qt w,w'=x.now) (λa'=>∀w',(∃x:Qt w,w'=x.now)->Q .normal a' w') l a):(Code.region id l.toArray true).wp P Q a w :=
 wp_region_quiet (C:=λw'=>∃x:Qt w,w'=x.now) hm hB ⟨⟨_,(Ext.refl w).drew⟩,rfl⟩ (by simpa using h)
theorem JO {P:Program}{f:FuncId}{args:Array Value}{w:World}{x:Qt w}{v:Value}
  (h:Calls P f args x.now λe w'=>e=.returned v/\Ext x.now w'):Calls P f args x.now λe w'=>e=.returned v/\∃y:Qt w,w'=y.now :=
 h.mono λ_ _ ⟨he,hg⟩=>⟨he,⟨_,x.ext.trans hg⟩,rfl⟩
theorem Jb {P:Program}{f:FuncId}{args:Array Value}{w:World}{x:Qt w}{v:Value}
  (h:Calls P f args x.now λe w'=>e=.returned v/\x.now=w'):Calls P f args x.now λe w'=>e=.returned v/\∃y:Qt w,w'=y.now :=
 h.mono λ_ _ ⟨he,hg⟩=>⟨he,x,hg.symm⟩
def Qb (l:List UInt8):ByteArray:=⟨l.toArray⟩
theorem Qh (l:List UInt8):(Qb l).size=l.length:=by simp[Qb,ByteArray.size]
theorem JR (a b:List UInt8):Qb a++Qb b=Qb (a++b):=by apply ByteArray.ext;simp[Qb]
theorem B5 (l:List UInt8):(Qb l).data.toList=l:=rfl
theorem Qe (l:List UInt8):(Qb l).toList=l:=(ByteArray.toList_eq _).trans rfl
theorem J6 (l:List UInt8) (a b:Nat):(Qb l).extract a b=Qb ((l.drop a).take (b-a)):=by
 apply ByteArray.ext;apply Array.toList_inj.1;rw[Lib.extract_data];rfl
theorem ux (s:ByteArray):s=Qb s.data.toList:=rfl
def Strs (w:World) (A:Option Addr) (n:Nat) (ss:List (List UInt8)):Prop :=
 n=ss.length/\(0<n->∃b o,A=some ⟨b,o,none⟩/\∀(j:Nat) (h:j<ss.length),w.cell? ⟨b,o+j,none⟩=some (.string (Qb ss[j])))
namespace Strs
variable {w w':World}{A:Option Addr}{n:Nat}{ss:List (List UInt8)}
theorem len (h:Strs w A n ss):n=ss.length:=h.1
theorem ext (h:Strs w A n ss) (k:Ext w w'):Strs w' A n ss :=
 ⟨h.1,λhn=>by obtain⟨b,o,e,hc⟩:=h.2 hn;exact⟨b,o,e,λj hj=>k.keep (hc j hj)⟩⟩
theorem drew (h:Strs w A n ss):Strs w.drew A n ss:=h.ext ((Ext.refl w).drew)
theorem own {base:Nat}{t:TypeId}{c:Nat}(h:w.ownsRow base t 1 (.slice A n c) n (ss.map λs=>.string (Qb s))):Strs w A n ss:=by
 have hl:n=ss.length:=by have:=h.1;simpa using this.symm
 refine⟨hl,λhn=>?_⟩;rcases h.2 with⟨_,h0⟩|⟨g,cap,cur,hv,_⟩
 ·omega
 have hA:A=some ⟨g,0,none⟩:=by injection hv
 subst hA;refine⟨g,0,rfl,λj hj=>?_⟩;have:=h.cellAt (g:=g) j (by omega);rw[Nat.zero_add,this];simp[hj]
end Strs
theorem S_:(∀(t:Array Value) (f:_) (d:Tmp) (v:Value),(Act.mk t f).put (some d) v=⟨t.setIfInBounds d v,f⟩)/\(∀(a:Act) (v:Value),a.put none v=a)/\(∀(l:List Value) (i:Nat) (a:Value),l.toArray.setIfInBounds i a=(l.set i a).toArray)/\(∀(a b:Value) (l:List Value),(a::l).set 0 b=b::l)/\∀(a b:Value) (n:Nat) (l:List Value),(a::l).set (n+1) b=a::l.set n b:=⟨λ_ _ _ _=>rfl,λ_ _=>rfl,λ_ _ _=>List.setIfInBounds_toArray ..,λ_ _ _=>List.set_cons_zero ..,λ_ _ _ _=>List.set_cons_succ ..⟩
def Zm (p:Prop):Prop:=p
theorem Zm.o {p:Prop}(h:Zm p):p:=h
theorem Qa {p:Prop}(h:p):Zm p:=h
abbrev Qg:=@Ext.refl
abbrev Yb:=@List.getD_eq_getElem?_getD
abbrev ZX:=@List.getElem?_eq_getElem
abbrev Q4:=@Nat.le_refl
abbrev Qs:=@Box.new
abbrev Jv:=@bodyPost_ret
abbrev VS:=@Bool.eq_false_or_eq_true
abbrev YB:=@World.size_alloc
abbrev QD:=@if_neg
abbrev VL:=@List.length_append
abbrev QN:=@if_pos
abbrev XN:=@List.length_cons
abbrev Vg:=@Bool.and_eq_true
abbrev KG:=@List.take_succ_cons
abbrev Xd:=@decide_eq_true
abbrev XI:=@decide_eq_false
abbrev YZ:=@AllReady.cons
abbrev Gp:=@List.take_succ_eq_append_getElem
abbrev YR:=@Nat.le_trans
abbrev UY:=@List.drop_succ_cons
abbrev ZU:=@And.intro
abbrev Vh:=@AllReady.nil
abbrev WO:=@of_decide_eq_true
abbrev KI:=@List.take_zero
abbrev KJ:=@List.drop_zero
abbrev Wb:=@IntKind.wrap_i64
abbrev Fa:=@Array.getElem?_eq_some_iff
abbrev NS:=@List.size_toArray
abbrev Vf:=@wpAny_ready
abbrev Vn:=@rounds_succ
abbrev Nx:=@List.length_drop
abbrev MR:=@List.getElem?_toArray
abbrev NT:=@List.getElem_mem
abbrev VI:=@wpQuiet_nil
abbrev NU:=@Option.some.inj
abbrev Ri:=@List.take_length
abbrev Rj:=@List.all_eq_true
abbrev Ax:=@List.getElem?_eq_some_iff
abbrev Rw:=@List.not_mem_nil
abbrev bM:=@List.eq_nil_of_length_eq_zero
abbrev Mm:=@Result.andThen_ok
abbrev Gq:=@List.mem_cons_self
abbrev EL:=@List.mem_cons_of_mem
abbrev MS:=@decide_eq_true_eq
abbrev Fd:=@List.getElem_of_mem
abbrev MT:=@List.length_take
abbrev Ny:=@Sem.run_bind
abbrev Nz:=@Nat.zero_add
abbrev Mn:=@List.length_nil
abbrev EM:=@List.getElem?_drop
abbrev WP:=@Nat.zero_le
abbrev WQ:=@Nat.le_succ
abbrev EN:=@World.ownsRow_nil
abbrev Mo:=@List.mem_range
abbrev fj:=@List.drop_eq_getElem_cons
abbrev Pm:=@List.mem_cons
abbrev Ca:=@Nat.lt_of_lt_of_le
abbrev Cb:=@List.getElem?_take
abbrev P4:=@List.map_cons
abbrev EO:=@IntKind.wrap_u64
abbrev iM:=@List.getElem?_append_left
abbrev AU:=@List.flatMap_append
abbrev bJ:=@of_decide_eq_false
abbrev bK:=@List.mem_singleton
abbrev Gz:=@List.map_nil
abbrev OM:=@Option.getD_some
abbrev bL:=@List.flatMap_cons
abbrev Fb:=@Sem.run_pure
abbrev Fc:=@Nat.le_of_eq
abbrev AR:=@List.length_map
abbrev mQ:=@List.getElem?_eq_none
abbrev nT:=@List.getElem?_cons_zero
abbrev bO:=@List.map_toArray
abbrev fo:=@List.getElem?_map
abbrev DU:=@wpList_plain
abbrev DV:=@callsIn_wide
abbrev nW:=@List.contains_iff_mem
abbrev mS:=@List.getElem?_range
abbrev bQ:=@List.nil_append
abbrev bS:=@List.map_append
abbrev fq:=@List.flatMap_def
abbrev fu:=@List.cons_append
abbrev iR:=@List.append_assoc
abbrev ON:=@IntWalk.i64_in
abbrev Cc:=@results_none
abbrev nX:=@Array.replicate_zero
abbrev nY:=@Array.replicate_succ
abbrev qr:=@List.take_of_length_le
abbrev nZ:=@List.append_toArray
abbrev sn:=@decide_eq_false_iff_not
abbrev mT:=@List.length_range
abbrev so:=@List.getElem?_cons_succ
abbrev mU:=@Int.toNat_natCast
abbrev sq:=@Int.eq_ofNat_of_zero_le
abbrev zP:=@Array.getElem?_setIfInBounds_ne
abbrev vg:=@List.setIfInBounds_toArray
abbrev qs:=@Bool.or_eq_false_iff
abbrev AV:=@List.mem_map
abbrev fm:=@wp_loop_rounds
abbrev iN:=@Oper.semAt_some
abbrev iO:=@List.mem_append
abbrev iP:=@List.append_nil
abbrev iQ:=@Bool.or_eq_true
abbrev qo:=@List.getD_cons_zero
abbrev qp:=@List.getD_cons_succ
abbrev nU:=@run_append_own_at
abbrev nV:=@List.push_toArray
abbrev mR:=@List.range_succ
abbrev mW:=@Bool.eq_iff_iff
abbrev sw:=@Nat.pow_le_pow_right
abbrev nc:=@List.mem_flatMap
abbrev sx:=@List.length_pos_iff
abbrev iS:=@wp_region_any
abbrev vk:=@List.take_append_drop
abbrev AW:=@info_parts
abbrev GA:=@Strs.own
abbrev qt:=@Option.bind_some
abbrev vl:=@Region.noSelect_spec
abbrev vm:=@List.mem_of_mem_drop
abbrev vn:=@List.mem_append_left
abbrev Fe:=@or_false
abbrev zR:=@World.block_lt_of_cell?
abbrev iT:=@wp_store_row
abbrev nd:=@run_underlying
abbrev nf:=@List.drop_drop
abbrev OO:=@wpAny_take
abbrev Wds:=@Nat.two_pow_add_eq_or_of_lt
abbrev Wdt:=@List.getElem?_append_right
abbrev Wdu:=@Int.tdiv_eq_ediv_of_nonneg
abbrev Wdv:=@Array.toList_setIfInBounds
abbrev bU:=@wpAny_done
abbrev sy:=@Nat.lt_succ_self
abbrev tA:=@Array.toList_inj
abbrev zS:=@ownsRow_setCell_other
abbrev na:=@List.sum_cons
abbrev vh:=@List.getElem_range
abbrev mV:=@Bool.or_true
abbrev vi:=@Below.heap_setCell
abbrev Wd4:=@Array.getElem?_eq_getElem
abbrev Wd5:=@Array.all_eq_true_iff_forall_mem
abbrev su:=@run_loadVar_row
abbrev nb:=@Nat.add_zero
abbrev zQ:=@List.map_congr_left
abbrev vj:=@Nat.succ_ne_self
abbrev vq:=@Nat.lt_of_not_le
abbrev vr:=@List.drop_length
abbrev tE:=@List.take_take
abbrev Wed:=@List.set_cons_succ
abbrev Mp:=@Or.inr
abbrev vt:=@Option.map_some
abbrev vu:=@Nat.min_eq_left
abbrev Weh:=@List.length_singleton
abbrev zU:=@World.ownsRow_lit
abbrev zV:=@World.cells?_some
abbrev zW:=@List.foldl_append
abbrev zX:=@List.ext_getElem?
abbrev zY:=@Int.emod_eq_of_lt
abbrev zZ:=@Bool.not_eq_true'
abbrev MU:=@Or.inl
abbrev Wep:=@Int.tmod_eq_emod_of_nonneg
abbrev za:=@List.flatMap_nil
abbrev zb:=@IntKind.wrap_u8'
abbrev Wes:=@beq_eq_false_iff_ne
abbrev Wet:=@Lib.OthersKept.refl
abbrev Weu:=@Array.length_toList
abbrev ng:=@beq_iff_eq
abbrev tF:=@Nat.succ_mul
abbrev Wex:=@Array.size_setIfInBounds
abbrev Wey:=@Array.setIfInBounds_comm
abbrev AX:=@Ne.symm
abbrev zT:=@Nat.not_lt_zero
abbrev We1:=@Nat.add_sub_cancel
abbrev vo:=@Nat.add_assoc
abbrev We3:=@List.find?_eq_none
abbrev We4:=@List.countP_cons_of_pos
abbrev vp:=@Bool.and_true
abbrev We6:=@run_convert_bytes_back
abbrev We7:=@List.flatMap_singleton
abbrev tB:=@wp_load_row
abbrev tD:=@Below.trans
abbrev qw:=@Below.refl
abbrev vv:=@Nat.pow_succ
abbrev vw:=@Nat.le_of_lt
abbrev Wfd:=@List.mem_append_right
abbrev Wfe:=@Lib.run_eql_slice_nil
abbrev vx:=@Exists.intro
abbrev Wfg:=@Bool.and_eq_false_iff
abbrev Wfh:=@Array.getElem?_modify
abbrev Wfi:=@List.any_eq_true
abbrev Wfj:=@wpList_mapUpdate_own
abbrev Wfk:=@World.cell?_of_block
abbrev Wfl:=@Nat.mul_le_mul_right
abbrev Wfm:=@List.mem_of_getElem?
abbrev Wfn:=@Array.toArray_toList
abbrev zc:=@Nat.lt_irrefl
abbrev mX:=@Ext.keep
abbrev tG:=@ready_mono
abbrev vy:=@getD_set_ne
abbrev Wfs:=@UInt8.toNat_inj
abbrev Wft:=@List.length_set
abbrev vz:=@Below.grown
abbrev ze:=@Nat.ne_of_lt
abbrev zf:=@List.sum_nil
abbrev tH:=@mem_ready
abbrev wD:=@Ext.undrew
abbrev ZY:=Int × List UInt8
def Zn (x:ZY):List Value:=[.int .i64 x.1,.string (Qb x.2)]
theorem ao (x:ZY):(Zn x).length=2:=rfl
def ZZ (n:Nat):List ZY->Int
 | []=>0
 | x::l=>if x.1<0\/(n:Int)<=x.1 then 2 else if x.2.length≠128 then 3 else ZZ n l
def Y0:List (List UInt8)->Int
 | []=>0
 | b::l=>if b.length≠128 then 3 else Y0 l
def ZN (B:List (List UInt8)) (p:List ZY):Int:=if 256<B.length then 6 else if Y0 B≠0 then 3 else ZZ B.length p
def ZR (B:List (List UInt8)) (p:List ZY):Int:=if ZN B p≠0 then ZN B p else if B.length<=33 then 2 else 0
def N8 (v:List (List UInt8)) (x:ZY):List (List UInt8):=if 33<=x.1 then v.set (x.1-33).toNat x.2 else v
def Jl (B:List (List UInt8)) (p:List ZY):List (List UInt8):=if ZR B p≠0 then [] else p.foldl N8 (B.drop 33)
def Z5 (v:List (List UInt8)) (x:ZY):List (List UInt8):=if 0<=x.1/\x.1<(v.length:Int) then v.set x.1.toNat x.2 else v
def QS (B:List (List UInt8)) (p d:List ZY):List (List UInt8):=d.foldl Z5 (Jl B p)
def RI (p:List ZY) (i:Int) (s:List UInt8):List UInt8:=p.foldl (λs x=>if x.1=i then x.2 else s) s
theorem FF:∀{l:List (List UInt8)},Y0 l=0->∀b∈l,b.length=128
 | [],_,b,hb=>by cases hb
 | x::l,h,b,hb=>by
  unfold Y0 at h;split at h
  ·cases h
  ·rename_i hx;rcases List.mem_cons.1 hb with rfl|hb
   ·exact Decidable.of_not_not hx
   ·exact FF h b hb
theorem FD (a b:List (List UInt8)):Y0 (a++b)=if Y0 a≠0 then 3 else Y0 b:=by
 induction a with
 | nil=>simp[Y0]
 | cons x a ih =>
  rw[List.cons_append,Y0,Y0];split
  ·simp
  ·exact ih
theorem Ea {n:Nat}:∀{l:List ZY},ZZ n l=0->∀x∈l,0<=x.1/\x.1<(n:Int)/\x.2.length=128
 | [],_,b,hb=>by cases hb
 | y::l,h,x,hx=>by
  unfold ZZ at h;split at h
  ·cases h
  ·rename_i h1;split at h
   ·cases h
   ·rename_i h2;rcases List.mem_cons.1 hx with rfl|hx
    ·exact⟨by omega,by omega,Decidable.of_not_not h2⟩
    ·exact Ea h x hx
theorem F9 (n:Nat) (a b:List ZY):ZZ n (a++b)=if ZZ n a≠0 then ZZ n a else ZZ n b:=by
 induction a with
 | nil=>simp[ZZ]
 | cons x a ih =>
  rw[List.cons_append,ZZ,ZZ];split
  ·simp
  ·split
   ·simp
   ·exact ih
structure wl (B:List (List UInt8)) (p:List ZY):Prop where
 most:B.length<=256
 least:33<B.length
 form:∀b∈B,b.length=128
 pend:∀x∈p,0<=x.1/\x.1<(B.length:Int)/\x.2.length=128
theorem Yn {B:List (List UInt8)}{p:List ZY}(h:ZR B p=0):wl B p:=by
 unfold ZR at h;by_cases h1:ZN B p=0
 ·rw[if_neg (by simpa using h1)]at h;by_cases h2:B.length<=33
  ·rw[if_pos h2]at h;cases h
  ·unfold ZN at h1;by_cases h3:256<B.length
   ·rw[if_pos h3]at h1;cases h1
   ·rw[if_neg h3]at h1;by_cases h4:Y0 B=0
    ·rw[if_neg (by simpa using h4)]at h1;exact⟨by omega,by omega,FF h4,Ea h1⟩
    ·rw[if_pos h4]at h1;cases h1
 ·rw[if_pos h1]at h;exact absurd h h1
theorem NA (p:List ZY):∀v:List (List UInt8),(p.foldl N8 v).length=v.length:=by
 induction p with
 | nil=>intro v;rfl
 | cons x p ih=>intro v;rw[List.foldl_cons,ih];unfold N8;split<;>simp
theorem JM (p:List ZY):∀v:List (List UInt8),(p.foldl Z5 v).length=v.length:=by
 induction p with
 | nil=>intro v;rfl
 | cons x p ih=>intro v;rw[List.foldl_cons,ih];unfold Z5;split<;>simp
theorem YO {B:List (List UInt8)}{p:List ZY}(h:ZR B p=0):(Jl B p).length=B.length-33:=by
 unfold Jl;rw[if_neg (by simpa using h),NA,List.length_drop]
theorem fS {B:List (List UInt8)}{p d:List ZY}(h:ZR B p=0):(QS B p d).length=B.length-33:=by
 unfold QS;rw[JM,YO h]
theorem EZ (p:List ZY):∀(v:List (List UInt8)) (j:Nat) (s:List UInt8),v[j]? =some s->(p.foldl N8 v)[j]? =some (RI p (33+j:Nat) s):=by
 induction p with
 | nil=>intro v j s h;exact h
 | cons x p ih =>
  intro v j s h;rw[List.foldl_cons];unfold RI;rw[List.foldl_cons];refine ih _ j _ ?_;have hj:j<v.length:=(List.getElem?_eq_some_iff.1 h).1;unfold N8;split
  ·rename_i h1;rw[List.getElem?_set];by_cases e:x.1=((33+j:Nat):Int)
   ·rw[if_pos (by omega),if_pos e];simp;omega
   ·rw[if_neg (by omega),if_neg e];exact h
  ·rename_i h1;rw[if_neg (by omega)];exact h
theorem dH {B:List (List UInt8)}{p:List ZY}(h:ZR B p=0):Jl B p=(List.range (B.length-33)).map λj=>RI p (33+j:Nat) (B.getD (33+j) []):=by
 have hl:=YO h;apply List.ext_getElem?;intro j;by_cases hj:j<B.length-33
 ·have e:(B.drop 33)[j]? =some (B.getD (33+j) []):=by
   rw[List.getElem?_drop,List.getD_eq_getElem?_getD,List.getElem?_eq_getElem (by omega)];rfl
  unfold Jl;rw[if_neg (by simpa using h),EZ p _ j _ e,List.getElem?_map,List.getElem?_range hj];rfl
 ·rw[List.getElem?_eq_none (by omega),List.getElem?_eq_none (by simp;omega)]
structure But (b:Nat) (w w':World):Prop where
 os:w'.os=w.os
 tape:w'.tape=w.tape
 output:w'.output=w.output
 size:w.heap.size<=w'.heap.size
 block:∀k,k<w.heap.size->k≠b->w'.heap[k]? =w.heap[k]?
namespace But
variable {a w w' w0:World}{b g:Nat}{t T:TypeId}{cs ds:Array Value}
theorem refl (b:Nat) (w:World):But b w w:=⟨rfl,rfl,rfl,Nat.le_refl _,λ_ _ _=>rfl⟩
theorem trans (h:But b a w) (k:But b w w'):But b a w' :=
 ⟨k.os.trans h.os,k.tape.trans h.tape,k.output.trans h.output,Nat.le_trans h.size k.size,λi hi hb=>(k.block i (Nat.lt_of_lt_of_le hi h.size) hb).trans (h.block i hi hb)⟩
theorem ofExt (h:Ext w w'):But b w w':=⟨Below.os h,Below.tape h,Below.output h,Below.size h,λk hk _=>Below.block h k hk⟩
theorem setCell (h:But b a w) (i:Nat) (u:Value):But b a (w.setCell ⟨b,i,none⟩ u) :=
 h.trans ⟨rfl,rfl,rfl,by simp[World.setCell],λk _ hb=>Below.heap_setCell _ _ _ _ hb⟩
theorem drew (h:But b a w):But b a w.drew:=⟨h.os,h.tape,h.output,h.size,h.block⟩
theorem alloc (h:But b a w) (o:Obj):But b a (w.alloc o):=h.trans (ofExt ((Ext.refl w).alloc o))
theorem then' (h:But b a w) (k:Ext w w'):But b a w':=h.trans (ofExt k)
theorem box (h:But b w w') (k:Box w g t cs) (hg:g≠b):Box w' g t cs:=(h.block g k.lt hg).trans k
theorem past (h:But b w w') (k:Ext w0 w) (hb:w0.heap.size<=b):Ext w0 w' :=
 ⟨h.os.trans (Below.os k),h.tape.trans (Below.tape k),h.output.trans (Below.output k),Nat.le_trans k.size h.size,
  λi hi=>(h.block i (Nat.lt_of_lt_of_le hi k.size) (by omega)).trans (Below.block k i hi)⟩
end But
theorem Box.apart {w:World}{b g:Nat}{t T:TypeId}{cs ds:Array Value}(h:Box w g t cs) (k:Box w b T ds) (ht:t≠T):g≠b:=λe=>by
 subst e;have h1:w.heap[g]? =some (.cells cs t (0,0)):=h;have h2:w.heap[g]? =some (.cells ds T (0,0)):=k;rw[h1]at h2;injection h2 with h2;injection h2 with _ h2;exact ht h2
theorem Qi {w w':World}{b base z n:Nat}{u:Value}{xs:List Value}{t T:TypeId}{cs:Array Value}(o:w.ownsRow base t z u n xs) (hk:But b w w') (hb:Box w b T cs) (ht:t≠T):w'.ownsRow base t z u n xs:=by
 refine⟨o.1,?_⟩;rcases o.2 with h|⟨g,cap,cur,h1,h2,h3,h4⟩
 ·exact .inl h
 ·refine .inr ⟨g,cap,cur,h1,h2,?_,h4⟩;have Qn:g<w.heap.size:=(Array.getElem?_eq_some_iff.1 h3).1;refine(hk.block g Qn ?_).trans h3;intro e;subst e;have h5:w.heap[g]? =some (.cells cs T (0,0)):=hb;rw[h3]at h5;injection h5 with h5;injection h5 with _ h5;exact ht h5
def TRow (w:World) (A:Option Addr) (n:Nat) (ss:List (List UInt8)):Prop :=
 n=ss.length/\(0<n->∃g o cur fz,A=some ⟨g,o,none⟩/\w.heap[g]? =some (.cells cur 9 fz)/\∀(j:Nat) (h:j<ss.length),w.cell? ⟨g,o+j,none⟩=some (.string (Qb ss[j])))
namespace TRow
variable {w w':World}{A:Option Addr}{n b:Nat}{ss:List (List UInt8)}{T:TypeId}{cs:Array Value}
theorem strs (h:TRow w A n ss):Strs w A n ss:=⟨h.1,λhn=>by
 obtain⟨g,o,_,_,e,_,hc⟩:=h.2 hn;exact⟨g,o,e,hc⟩⟩
theorem but (h:TRow w A n ss) (hk:But b w w') (hb:Box w b T cs) (ht:9≠T):TRow w' A n ss:=⟨h.1,λhn=>by
 obtain⟨g,o,cur,fz,e,h1,hc⟩:=h.2 hn;have Qn:g<w.heap.size:=(Array.getElem?_eq_some_iff.1 h1).1;have Jt:g≠b:=λe2=>by subst e2;have h5:w.heap[g]? =some (.cells cs T (0,0)):=hb;rw[h1]at h5;injection h5 with h5;injection h5 with _ h5;exact ht h5
 refine⟨g,o,cur,fz,e,(hk.block g Qn Jt).trans h1,λj hj=>?_⟩;rw[←hc j hj];exact World.cell?_of_block (w:=w) (hk.block g Qn Jt)⟩
theorem ext (h:TRow w A n ss) (k:Ext w w'):TRow w' A n ss:=⟨h.1,λhn=>by
 obtain⟨g,o,cur,fz,e,h1,hc⟩:=h.2 hn;have Qn:g<w.heap.size:=(Array.getElem?_eq_some_iff.1 h1).1;exact⟨g,o,cur,fz,e,(Below.block k g Qn).trans h1,λj hj=>k.keep (hc j hj)⟩⟩
theorem tail {g o:Nat}{s:List UInt8}(h:TRow w (some ⟨g,o,none⟩) n (s::ss)):TRow w (some ⟨g,o+1,none⟩) (n-1) ss:=by
 obtain⟨h0,h1⟩:=h;simp only[List.length_cons]at h0;refine⟨by omega,λhn=>?_⟩;obtain⟨g',o',cur,fz,e,h2,hc⟩:=h1 (by omega);injection e with e;injection e with e1 e2;subst e1;subst e2;refine⟨g,o+1,cur,fz,rfl,h2,λj hj=>?_⟩;have:=hc (j+1) (by simp;omega);rw[show o+1+j=o+(j+1) by omega];simpa using this
theorem own {base c:Nat}(h:w.ownsRow base 9 1 (.slice A n c) n (ss.map λs=>.string (Qb s))):TRow w A n ss:=by
 have hs:=Strs.own h;refine⟨hs.1,λhn=>?_⟩;rcases h.2 with⟨_,h0⟩|⟨g,cap,cur,hv,h2,h3,h4⟩
 ·omega
 have hA:A=some ⟨g,0,none⟩:=by injection hv
 obtain⟨g',o',e,hc⟩:=hs.2 hn;rw[hA]at e;injection e with e;injection e with e1 e2;subst e1;subst e2;exact⟨g,0,cur,_,hA,h3,hc⟩
end TRow
theorem JF {w w' w'':World}{g:Nat}(h:w.grownBy w' (some g)) (x:Ext w' w''):w.grownBy w'' (some g) :=
 ⟨x.os.trans h.os,x.tape.trans h.tape,x.output.trans h.output,Nat.le_trans h.size x.size,λk hk Jt=>(x.block k (Nat.lt_of_lt_of_le hk h.size)).trans (h.block k hk Jt)⟩
theorem XQ (w:World) (r:Option Nat):w.grownBy w r:=⟨rfl,rfl,rfl,Nat.le_refl _,λ_ _ _=>rfl⟩
end Go.Proofs.YtfaplefkakpgcaaGreatDoor
