/- Rows of the call's own: what a step that writes one keeps; append of texts to rows of bytes and of texts. -/
import Derived.Test.YtfaplefkakpgcaaGreatDoorXf7
import Derived.Maps.AppendAt
import Derived.Lib.AppendStr
import Derived.RangeFuncWrites
import Derived.Test.YtfaplefkakpgcaaGreatDoorXf3
import Derived.Lib.Builder
import Derived.Laws.Bits128
import Derived.Test.YtfaplefkakpgcaaGreatDoorXf2
set_option linter.unusedVariables false
set_option linter.unusedSimpArgs false
set_option maxHeartbeats 32000000
set_option maxRecDepth 100000
namespace Go.Proofs.YtfaplefkakpgcaaGreatDoor
open Go.Proofs.Tryz
open Go.RowKit
theorem Ext.grown {a w w':World}{row:Option Nat}(h:Ext a w) (hg:w.grownBy w' row) (hr:∀k,row=some k->a.heap.size<=k):Ext a w':=Below.grown h hg h.size hr
theorem ext_grown {w w':World}(hg:w.grownBy w' none):Ext w w':=(Ext.refl w).grown hg (λ_ e=>by cases e)
theorem Box.grown {w w':World}{g:Nat}{t:TypeId}{cs:Array Value}{row:Option Nat}(h:Box w g t cs) (hg:w.grownBy w' row) (hne:some g≠row):Box w' g t cs:=(hg.block g h.lt hne).trans h
theorem own_ne {w:World}{base g size n:Nat}{e t:TypeId}{v:Value}{xs:List Value}{cs:Array Value}(h:w.ownsRow base e size v n xs) (hb:Box w g t cs) (hne:e≠t):some g≠v.ownBlock:=by
 rcases h.2 with⟨rfl,_⟩|⟨g',cap,cur,rfl,_,hh,_⟩
 ·simp[Value.ownBlock]
 ·intro he;have he':g=g':=by simpa[Value.ownBlock]using he
  subst he';have h1:w.heap[g]? =some (.cells cs t (0,0)):=hb;rw[hh]at h1;injection h1 with e1;injection e1 with _ e2;exact hne e2
theorem own_low {w:World}{base size n:Nat}{e:TypeId}{v:Value}{xs:List Value}(h:w.ownsRow base e size v n xs) {k:Nat}(hk:v.ownBlock=some k):base<=k:=by
 rcases h.2 with⟨rfl,_⟩|⟨g',cap,cur,rfl,hb,_⟩
 ·simp[Value.ownBlock]at hk
 ·have:g'=k:=by simpa[Value.ownBlock]using hk
  omega
def byteL (l:List UInt8):List Value:=l.map λc=>Value.int .u8 (c.toNat:Int)
def strL (ss:List (List UInt8)):List Value:=ss.map λs=>Value.string (str s)
theorem byteInfo:(prog.info? 5).map (λi=>(i.zero,i.size,i.bytes))=some (some (.int .u8 0),1,1):=by kernel_rfl
theorem wp_app_str {ops:Array Oper}{rest:List Oper}{o:Oper}{a:Act}{Q:Exit->Act->World->Prop}{w:World}{base n:Nat}{v:Value}{l s:List UInt8}(hgd:o.guard=none) (sl x:Operand)
  (ho:o.op=.call { callee:=.builtin .append,args:=#[sl,x],argTypes:=#[167,9] }) (hs:a.eval sl=v) (hx:a.eval x=.string (str s)) (h:w.ownsRow base 5 1 v n (byteL l))
  (hn:n+s.length<=140737488355328) (hb:base<=w.heap.size) (hK:∀v' w',w'.ownsRow base 5 1 v' (n+s.length) (byteL (l++s))->w.grownBy w' v.ownBlock->wpList prog ops Q rest (a.put o.dst v') w'):wpList prog ops Q (o::rest) a w:=by
 obtain⟨i,hi,hz,h1,h2⟩:=info_parts byteInfo;refine Lib.wpList_append_own_string w hgd sl x 167 9 ho base 5 i underlying167 underlying9 hi hz h1 h2 v n (byteL l) hs h (str s) hx (by rw[str_size];unfold maxLen;omega) (by rw[str_size];exact hn) hb ?_;intro v' w' ho' hg _;rw[str_size]at ho';refine hK v' w' ?_ hg;rw[show byteL (l++s)=byteL l++Lib.strCells (str s) by simp[byteL,Lib.strCells,str_data]];exact ho'
theorem app_strs {w:World}{base n m c:Nat}{u:Value}{xs ys:List (List UInt8)}{A:Option Addr}(h:w.ownsRow base 9 1 u n (strL xs)) (hs:Strs w A m ys) (ty:TypeId) (hn:n+m<=1000000) (hb:base<=w.heap.size) (hpos:0<m) :
  ∃u' w',(Builtin.append_ #[22,22] ty #[u,.slice A m c]).run prog w=.ok u' w'/\w'.ownsRow base 9 1 u' (n+m) (strL (xs++ys))/\w.grownBy w' u.ownBlock:=by
 obtain⟨i,hi,hz,h1,h2⟩:=info_parts strInfo;obtain⟨hl,hs2⟩:=hs;obtain⟨b,o,rfl,hc⟩:=hs2 hpos;obtain⟨v',w',hr,ho,hg,_⟩:=run_append_own_at (P:=prog) w base 22 ty 9 i _ 1 16 underlying22 hi hz h1 h2 rfl (by decide) u n (strL xs) h ⟨b,o,none⟩ m c (strL ys) (by simp[strL,hl]) (λj v hj=>by
  have hjl:j<ys.length:=by have:=(List.getElem?_eq_some_iff.1 hj).1;simpa[strL]using this
  have ha:(⟨b,o,none⟩:Addr).add j=⟨b,o+j,none⟩:=by unfold Addr.add;split<;>simp_all
  rw[ha,hc j hjl];simp[strL,hjl]at hj;rw[← hj]) (λv hv=>by
  simp only[strL,List.mem_map]at hv;obtain⟨s,_,rfl⟩:=hv;rfl) (by unfold maxLen;omega) (by omega) hb
 refine⟨v',w',hr,?_,hg⟩;rw[show strL (xs++ys)=strL xs++strL ys by simp[strL]];exact ho
theorem app_nil {w:World}{base m c:Nat}{ys:List (List UInt8)}{A:Option Addr}(hs:Strs w A m ys) (ty:TypeId) (hm:m<=1000000) (hb:base<=w.heap.size) (hpos:0<m) :
  ∃u' w',(Builtin.append_ #[22,22] ty #[.slice none 0 0,.slice A m c]).run prog w=.ok u' w'/\w'.ownsRow base 9 1 u' m (strL ys)/\Ext w w':=by
 obtain⟨u',w',hr,ho,hg⟩:=app_strs (c:=c) (xs:=[]) (World.ownsRow_nil w base 9 1) hs ty (by omega) hb hpos;rw[Nat.zero_add]at ho;exact⟨u',w',hr,ho,ext_grown hg⟩
theorem wp_app_nil {ops:Array Oper}{rest:List Oper}{o:Oper}{a:Act}{Q:Exit->Act->World->Prop}{w:World}{m c:Nat}{ys:List (List UInt8)}{A:Option Addr}(base:Nat) (hgd:o.guard=none) (sl x:Operand)
  (ho:o.op=.call { callee:=.builtin .append,args:=#[sl,x],argTypes:=#[22,22] }) (hs:a.eval sl=.slice none 0 0) (hx:a.eval x=.slice A m c) (h:Strs w A m ys) (hm:m<=1000000) (hb:base<=w.heap.size) (hpos:0<m)
  (hK:∀u' w',w'.ownsRow base 9 1 u' m (strL ys)->Ext w w'->wpList prog ops Q rest (a.put o.dst u') w'):wpList prog ops Q (o::rest) a w:=by
 refine wpList_plain hgd λK hK'=>?_;obtain⟨v',w',hr,h2,h3⟩:=app_nil (base:=base) (c:=c) h o.type hm hb hpos;unfold Oper.wp execOp;simp only[ho,resolve,invoke,builtin,Sem.run_bind,Sem.run_pure,Result.andThen_ok,List.map_toArray,List.map_cons,List.map_nil,hs,hx,hr];exact hK' _ _ (hK v' w' h2 h3)
theorem wp_app_strs {ops:Array Oper}{rest:List Oper}{o:Oper}{a:Act}{Q:Exit->Act->World->Prop}{w:World}{n m c:Nat}{u:Value}{xs ys:List (List UInt8)}{A:Option Addr}(base:Nat) (hgd:o.guard=none) (sl x:Operand)
  (ho:o.op=.call { callee:=.builtin .append,args:=#[sl,x],argTypes:=#[22,22] }) (hs:a.eval sl=u) (hx:a.eval x=.slice A m c) (h0:w.ownsRow base 9 1 u n (strL xs)) (h:Strs w A m ys) (hm:n+m<=1000000) (hb:base<=w.heap.size) (hpos:0<m)
  (hK:∀u' w',w'.ownsRow base 9 1 u' (n+m) (strL (xs++ys))->w.grownBy w' u.ownBlock->wpList prog ops Q rest (a.put o.dst u') w'):wpList prog ops Q (o::rest) a w:=by
 refine wpList_plain hgd λK hK'=>?_;obtain⟨v',w',hr,h2,h3⟩:=app_strs (base:=base) (c:=c) h0 h o.type hm hb hpos;unfold Oper.wp execOp;simp only[ho,resolve,invoke,builtin,Sem.run_bind,Sem.run_pure,Result.andThen_ok,List.map_toArray,List.map_cons,List.map_nil,hs,hx,hr];exact hK' _ _ (hK v' w' h2 h3)
theorem conv_own {w:World}{base n:Nat}{v:Value}{l:List UInt8}(h:w.ownsRow base 5 1 v n (byteL l)) (hn:0<n):(convert 167 9 v).run prog w=.ok (.string (str l)) w:=by
 have hl:l.length=n:=by have:=h.1;simpa[byteL]using this
 rcases h.2 with⟨_,h0⟩|⟨g,cap,cur,rfl,_,hh,_⟩
 ·omega
 subst hl;refine run_convert_bytes_back w 167 9 5 ⟨g,0,none⟩ cap l underlying167 underlying5 underlying9 (λj hj=>?_);have ha:(⟨g,0,none⟩:Addr).add j=⟨g,j,none⟩:=by unfold Addr.add;split<;>simp_all
 rw[ha,h.cellAt (g:=g) j (by omega)];simp[byteL,hj]
theorem Strs.own' {w:World}{base n:Nat}{t:TypeId}{u:Value}{ss:List (List UInt8)}(h:w.ownsRow base t 1 u n (strL ss)) (hn:0<n):∃g cap,u=.slice (some ⟨g,0,none⟩) n cap/\base<=g/\Strs w (some ⟨g,0,none⟩) n ss:=by
 have h':=h;rcases h.2 with⟨_,h0⟩|⟨g,cap,cur,rfl,hb,_⟩
 ·omega
 exact⟨g,cap,rfl,hb,Strs.own h'⟩
def Bld (B b:Nat) (l:List UInt8) (w:World):Prop:=Lib.BuilderAt 169 5 B b (.pointer (some ⟨b,0,none⟩)) (byteL l) w
theorem copyCheck_any (B b:Nat) (l:List UInt8) (w:World) (h:Bld B b l w) :
  Calls prog 183 #[.pointer (some ⟨b,0,none⟩)] w λe w'=>e=.returned (.tuple #[])/\w=w':=by
 have c0:=h.cell0;obtain⟨j,hj⟩:∃j,prog.info? 169=some j:=Option.isSome_iff_exists.1 (by kernel_rfl);have hne:=Lib.run_neq_ptr_same (P:=prog) w ⟨b,0,none⟩ underlying166 hj;go_enter func183,ntmps183;go_wp2_with fail;go_end0;exact⟨rfl,rfl⟩
theorem new_cells (w:World) (t:TypeId) (cs:Array Value) (l:List Value) (hl:cs=l.toArray) (j:Nat) (u:Value) (h:l[j]? =some u):(w.alloc (.cells cs t)).cell? ((⟨w.heap.size,0,none⟩:Addr).add j)=some u:=by
 subst hl;have ha:(⟨w.heap.size,0,none⟩:Addr).add j=⟨w.heap.size,j,none⟩:=by unfold Addr.add;split<;>simp_all
 rw[ha,(Box.new w t l.toArray).cell j];simpa using h
theorem all_one {l:List Value}(h:l.all (·.oneCell')=true):∀u∈l,u.oneCell'=true:=List.all_eq_true.1 h
theorem own_form {w:World}{base size n:Nat}{e:TypeId}{v:Value}{xs:List Value}(h:w.ownsRow base e size v n xs) (hn:0<n):∃g cap,v=.slice (some ⟨g,0,none⟩) n cap/\base<=g:=by
 rcases h.2 with⟨_,h0⟩|⟨g,cap,cur,h,hb,_⟩
 ·omega
 ·exact⟨g,cap,h,hb⟩
theorem Bld.put {B b:Nat}{l':List UInt8}{w w1:World}{v v':Value}{row:Option Nat}(hB0:B<=b) (hb:w.heap[b]? =some (.cells #[.pointer (some ⟨b,0,none⟩),v] 169 (0,0))) (hne:v.ownBlock≠some b)
  (hg:w.grownBy w1 row) (hr:row=v.ownBlock) (own1:w1.ownsRow B 5 1 v' l'.length (byteL l')):Bld B b l' (w1.setCell ⟨b,1,none⟩ v'):=by
 subst hr;have hb1:Box w1 b 169 #[.pointer (some ⟨b,0,none⟩),v]:=Box.grown hb hg (λe=>hne e.symm);exact Lib.BuilderAt.put hB0 hb1 (by rw[show(byteL l').length=l'.length by simp[byteL]];exact own1) (by decide)
theorem writeString_any (B b:Nat) (l s:List UInt8) (w:World) (h:Bld B b l w) (hB:B<=w.heap.size) (hl:l.length<=100000000000) (hs:s.length<=1000000000) :
  Calls prog 118 #[.pointer (some ⟨b,0,none⟩),.string (str s)] w λe w'=>e=.returned (.tuple #[.int .i64 s.length,.nilIface])/\Bld B b (l++s) w'/\Below B w w':=by
 obtain⟨hB0,v,hb,hown,hne⟩:=h;have HC:=lh_ (λw=>copyCheck_any B b l w);have h:Bld B b l w:=⟨hB0,v,hb,hown,hne⟩
 have c1:w.cell? ⟨b,1,none⟩=some v:=Box.cell hb 1;have hlen:(byteL l).length=l.length:=by simp[byteL]
 rw[hlen]at hown;have hz:=str_size;go_enter func118,ntmps118;go_wp2_with fail;refine(HC.out _ h).mono ?_;rintro e w1 ⟨rfl,rfl⟩;go_wp2_with (refine wp_app_str rfl (.tmp 12) (.tmp 13) rfl rfl rfl hown (by omega) hB ?_)
 intro v' w1 own1 hg1;have hb1:Box w1 b 169 #[.pointer (some ⟨b,0,none⟩),v]:=Box.grown hb hg1 (λe=>hne e.symm);have d0:w1.cell? ⟨b,1,none⟩=some v:=hb1.cell 1;have d1:=hb1.frozen 1;have hlo:=@own_low w B 1 _ _ v _ hown;have hbw:Below B w w1:=(Below.refl B w).grown hg1 hB (λk e=>hlo e);have hput:=Bld.put (l':=l++s) hB0 hb hne hg1 rfl (by rw[List.length_append];exact own1);rcases own1.2 with⟨rfl,h0⟩|⟨g,cap,cur,rfl,_⟩
 ·go_wp2_with fail;go_ret2;exact⟨rfl,hput,hbw.setCell (p:=⟨b,1,none⟩) hB0 _⟩
 ·go_wp2_with fail;go_ret2;exact⟨rfl,hput,hbw.setCell (p:=⟨b,1,none⟩) hB0 _⟩
def Bld0 (B b:Nat) (w:World):Prop:=Lib.BuilderAt 169 5 B b (.pointer none) [] w
theorem copyCheck_fresh (B b:Nat) (w:World) (h:Bld0 B b w) :
  Calls prog 183 #[.pointer (some ⟨b,0,none⟩)] w λe w'=>e=.returned (.tuple #[])/\w'=w.setCell ⟨b,0,none⟩ (.pointer (some ⟨b,0,none⟩)):=by
 have hsh:=h.shape;obtain⟨hB0,v,hb,hown,hne⟩:=h;have hb':Box w b 169 #[.pointer none,v]:=hb;have c0:w.cell? ⟨b,0,none⟩=some (.pointer none):=hb'.cell 0;have f0:=hb'.frozen 0;obtain⟨j,hj,hjs⟩:=Option.map_eq_some_iff.1 Tryz.Builder_Extra_169.sizeBuilder;have hne1:=λw=>Lib.run_neq_ptr_same (P:=prog) w ⟨b,0,none⟩ underlying166 hj;have hb2:Box (w.setCell ⟨b,0,none⟩ (.pointer (some ⟨b,0,none⟩))) b 169 #[.pointer (some ⟨b,0,none⟩),v]:=hb'.set 0 _;have d0:(w.setCell ⟨b,0,none⟩ (.pointer (some ⟨b,0,none⟩))).cell? ⟨b,0,none⟩=some (.pointer (some ⟨b,0,none⟩)):=hb2.cell 0;have hto:=Lib.run_to_unsafe (P:=prog) w ⟨b,0,none⟩ underlying166 underlying281 hj (by rw[hjs];decide) hsh (Nat.zero_lt_succ 1);have hfrom:=Lib.run_from_unsafe (P:=prog) w ⟨b,0,none⟩ underlying281 underlying166 hj hsh Tryz.Builder_Extra_169.liesBuilder;go_enter func183,ntmps183;go_wp2_with fail;rw[run_callFunc_extern func215 (by kernel_rfl) (by kernel_rfl) (by kernel_rfl) (e:=Extern.AbiNoEscape.same) (by kernel_rfl)];rw[Lib.run_noEscape];simp only[Result.andThen];rw[Oper.upon_value];go_wp2_with fail;go_end0;exact⟨rfl,rfl⟩
theorem copyCheck_keeps (B b:Nat) (l:List UInt8) (w:World) (h:Bld0 B b w/\l=[]\/Bld B b l w) (hB:B<=w.heap.size) :
  Calls prog 183 #[.pointer (some ⟨b,0,none⟩)] w λe w'=>e=.returned (.tuple #[])/\Bld B b l w'/\Below B w w'/\Lib.OthersKept 5 (some b) w w':=by
 rcases h with⟨h,rfl⟩|h
 ·refine(copyCheck_fresh B b w h).mono ?_;rintro e w' ⟨rfl,rfl⟩;exact⟨rfl,h.used _,(Below.refl B w).setCell (p:=⟨b,0,none⟩) h.1 _,(Lib.OthersKept.refl _ _ w).setCell ⟨b,0,none⟩ rfl _⟩
 ·refine(copyCheck_any B b l w h).mono ?_;rintro e w' ⟨rfl,rfl⟩;exact⟨rfl,h,Below.refl B w,Lib.OthersKept.refl _ _ w⟩
theorem own_row8 {w:World}{base size n:Nat}{e:TypeId}{v:Value}{xs:List Value}(h:w.ownsRow base e size v n xs):∀g,v.ownBlock=some g->∃c fz,w.heap[g]? =some (.cells c e fz):=λg hg=>by
 rcases h.2 with⟨rfl,_⟩|⟨g',cap,cur,rfl,_,hh,_⟩
 ·cases hg
 ·injection hg with hg;subst hg;exact⟨cur,(0,0),hh⟩
theorem writeString_keeps (B b:Nat) (l s:List UInt8) (w:World) (h:Bld0 B b w/\l=[]\/Bld B b l w) (hB:B<=w.heap.size) (hl:l.length<=100000000000) (hs:s.length<=1000000000) :
  Calls prog 118 #[.pointer (some ⟨b,0,none⟩),.string (str s)] w λe w'=>e=.returned (.tuple #[.int .i64 s.length,.nilIface])/\Bld B b (l++s) w'/\Below B w w'/\Lib.OthersKept 5 (some b) w w':=by
 have HC:=lh_ (copyCheck_keeps B b l w h hB);have hz:=str_size;clear h;go_enter func118,ntmps118;go_wp2_with fail;refine HC.out.mono ?_;rintro e w0 ⟨rfl,⟨hB0,v,hb,hown,hne⟩,bw0,ok0⟩;have c1:w0.cell? ⟨b,1,none⟩=some v:=Box.cell hb 1;have hlen:(byteL l).length=l.length:=by simp[byteL]
 rw[hlen]at hown;have hBw:B<=w0.heap.size:=Nat.le_trans hB bw0.size;go_wp2_with (refine wp_app_str rfl (.tmp 12) (.tmp 13) rfl rfl rfl hown (by omega) hBw ?_)
 intro v' w1 own1 hg1;have hb1:Box w1 b 169 #[.pointer (some ⟨b,0,none⟩),v]:=Box.grown hb hg1 (λe=>hne e.symm);have d0:w1.cell? ⟨b,1,none⟩=some v:=hb1.cell 1;have d1:=hb1.frozen 1;have hlo:=@own_low w0 B 1 _ _ v _ hown;have hbw:Below B w w1:=bw0.grown hg1 hBw (λk e=>hlo e);have hok:Lib.OthersKept 5 (some b) w w1:=ok0.grown hg1 (own_row8 hown);have hput:=Bld.put (l':=l++s) hB0 hb hne hg1 rfl (by rw[List.length_append];exact own1);rcases own1.2 with⟨rfl,h0⟩|⟨g,cap,cur,rfl,_⟩
 ·go_wp2_with fail;go_ret2;exact⟨rfl,hput,hbw.setCell (p:=⟨b,1,none⟩) hB0 _,hok.setCell ⟨b,1,none⟩ rfl _⟩
 ·go_wp2_with fail;go_ret2;exact⟨rfl,hput,hbw.setCell (p:=⟨b,1,none⟩) hB0 _,hok.setCell ⟨b,1,none⟩ rfl _⟩
theorem bldString_any (B b:Nat) (l:List UInt8) (w:World) (h:Bld B b l w) (hB:B<=w.heap.size) :
  Calls prog 120 #[.pointer (some ⟨b,0,none⟩)] w λe w'=>e=.returned (.string (str l))/\Below B w w'/\Lib.OthersKept 5 (some b) w w':=by
 refine(Tryz.Builder_String_any_k B b l w (.inr (Lib.BuilderAtF.of h)) hB).mono ?_;rintro e w' ⟨rfl,_,hb,hk⟩;exact⟨rfl,hb,hk⟩
theorem writeByte_any (B b:Nat) (l:List UInt8) (c:UInt8) (n:Int) (w:World) (h:Bld B b l w) (hB:B<=w.heap.size) (hl:l.length<=100000000000) (hn:n=(c.toNat:Int)) :
  Calls prog 173 #[.pointer (some ⟨b,0,none⟩),.int .u8 n] w λe w'=>e=.returned .nilIface/\Bld B b (l++[c]) w'/\Below B w w':=by
 subst hn;obtain⟨hB0,v,hb,hown,hne⟩:=h;have HC:=lh_ (λw=>copyCheck_any B b l w);have h:Bld B b l w:=⟨hB0,v,hb,hown,hne⟩
 have c1:w.cell? ⟨b,1,none⟩=some v:=Box.cell hb 1;have hlen:(byteL l).length=l.length:=by simp[byteL]
 rw[hlen]at hown;obtain⟨i0,hi,hz0,hz1,hz2⟩:=info_parts byteInfo;have hlt:b<w.heap.size:=Box.lt hb;go_enter func173,ntmps173;go_wp2_with fail;refine(HC.out _ h).mono ?_;rintro e w1 ⟨rfl,rfl⟩;go_wp2_with (at_builtin;refine wpList_append_own _ rfl _ _ 167 rfl B 5 i0 (.int .u8 0) 1 1 underlying167 hi hz0 hz1 hz2 rfl (by decide) _ _ _ rfl (hown.alloc _) ⟨w.heap.size,0,none⟩ 1 1 [.int .u8 (c.toNat:Int)] rfl rfl (new_cells _ _ _ _ rfl) (all_one rfl) (by unfold maxLen;omega) (by omega) (by simp;omega) ?_)
 intro v' w1 own1 hg1 _;obtain⟨g',cap',rfl,hg'⟩:=own_form own1 (by omega);have hb1:Box w1 b 169 #[.pointer (some ⟨b,0,none⟩),v]:=(Box.ext hb ((Ext.refl w).alloc _)).grown hg1 (λe=>hne e.symm);have d0:w1.cell? ⟨b,1,none⟩=some v:=hb1.cell 1;have d1:=hb1.frozen 1;have hlo:=@own_low w B 1 _ _ v _ hown;go_wp2_with fail;go_ret;refine⟨rfl,?_,?_⟩
 ·refine Lib.BuilderAt.put hB0 hb1 ?_ (by decide);rw[show(byteL (l++[c])).length=l.length+1 by simp[byteL],show byteL (l++[c])=byteL l++[.int .u8 (c.toNat:Int)] by simp[byteL]];exact own1
 ·exact(((Below.refl B w).alloc hB _).grown hg1 (by simp;omega) (λk e=>hlo e)).setCell (p:=⟨b,1,none⟩) hB0 _
def sumL (ss:List (List UInt8)):Nat:=(ss.map λs=>s.length+4).sum
theorem sumL_take (ss:List (List UInt8)) (k:Nat) (h:k<ss.length):sumL (ss.take (k+1))=sumL (ss.take k)+(ss[k].length+4):=by
 unfold sumL;rw[List.take_succ_eq_append_getElem h,List.map_append,List.sum_append];simp
theorem sumL_le (ss:List (List UInt8)) (k:Nat):sumL (ss.take k)<=sumL ss:=by
 have:sumL ss=sumL (ss.take k)+sumL (ss.drop k):=by
  conv=>lhs;rw[← List.take_append_drop k ss]
  unfold sumL;rw[List.map_append,List.sum_append]
 omega
theorem rowL_len (ss:List (List UInt8)):(rowL ss).length<=2*sumL ss:=by
 induction ss with
 | nil=>simp[rowL]
 | cons s ss ih => have:=lenL_le s.length;rw[rowL_cons];unfold sumL at *;simp only[List.length_append,List.map_cons,List.sum_cons];omega
theorem rowL_take (ss:List (List UInt8)) (k:Nat) (h:k<ss.length):rowL (ss.take (k+1))=rowL (ss.take k)++(lenL ss[k].length++ss[k]):=by
 rw[List.take_succ_eq_append_getElem h,rowL_snoc]
theorem or128 (m:Nat):bits .or .u8 ((m:Int)%128) 128=(((m%128+128:Nat)):Int):=by
 have e:((m:Int)%128)=((m%128:Nat):Int):=by omega
 rw[e,show(128:Int)=((128:Nat):Int) from rfl,u8_or_nat (m%128) 128 (by omega) (by omega)];congr 1;have:=Nat.two_pow_add_eq_or_of_lt (i:=7) (b:=m%128) (by omega) 1;rw[Nat.or_comm]at this;simp at this;omega
theorem row_any (A:Option Addr) (n c:Nat) (ss:List (List UInt8)) (w:World) (hs:Strs w A n ss) (hsum:sumL ss<=1000000000) (hn:n<=1000000000) :
  Calls prog 101 #[.slice A n c] w λe w'=>e=.returned (.string (str (rowL ss)))/\Ext w w':=by
 have hz:=str_size;obtain rfl:=hs.1;go_enter func101,ntmps101;go_wp2_with fail;go_loop [3,5,12] (λt _ i=>∃k:Nat,k<=ss.length/\i=.int .i64 k/\t=.int .i64 (sumL (ss.take k):Nat)) (λ_ _ i=>ss.length-(intOf i).toNat);case atStart=>exact⟨0,by omega,rfl,rfl⟩
 case round =>
  obtain⟨k,hk,rfl,rfl⟩:=hrel;by_cases hlt:k<ss.length
  ·obtain⟨b,o,rfl,hcell⟩:=hs.2 (by omega);have hck:=hcell k hlt;have hst:=lh_ (sumL_take ss k hlt);have hle:=sumL_le ss (k+1);rw[sumL_take ss k hlt]at hle;clear hcell;go_wp2_with fail;go_round;case rel=>exact⟨k+1,by omega,by go_num,by rw[hst.out];go_num⟩
   case measure=>simp[intOf];omega
  ·obtain rfl:k=ss.length:=by omega
   have hle:=sumL_le ss ss.length;go_wp2_with fail;refine(Tryz.Builder_Grow_fresh w.heap.size w.heap.size (sumL ss) _ (Nat.le_refl _) (heap_alloc_new w _) (by simp) (by omega)).mono ?_;rintro e w1 ⟨rfl,hb1,hB1⟩;have hx1:Ext w w1:=Below.trans ((Ext.refl w).alloc _) hB1;have hbb:Bld w.heap.size w.heap.size [] w1:=hb1;clear hb1 hB1;go_wp2_with fail;obtain⟨wo,rfl⟩:∃wo:World,wo=w1:=⟨_,rfl⟩
   go_loopw [8,9,26] (λ_ _ i wr=>∃k:Nat,k<=ss.length/\i=.int .i64 k/\Bld w.heap.size w.heap.size (rowL (ss.take k)) wr/\Ext w wr) (λ_ _ i _=>ss.length-(intOf i).toNat);case atStart=>exact⟨0,by omega,rfl,hbb,hx1⟩
   case round =>
    clear hbb hx1 hle hk hlt;obtain⟨k,hk,rfl,hbl,hxr⟩:=hrel;have hrl:=rowL_len (ss.take k);have hsl:=sumL_le ss k;by_cases hlt:k<ss.length
    ·obtain⟨b,o,rfl,hcell⟩:=hs.2 (by omega);have hck:=hxr.keep (hcell k hlt);have hrt:=lh_ (rowL_take ss k hlt);have hle:=sumL_le ss (k+1);rw[sumL_take ss k hlt]at hle;clear hcell;generalize ss[k]=s at *;generalize hrk:rowL (ss.take k)=r at *;clear hrk;go_wp2_with fail;obtain⟨wm,rfl⟩:∃wm:World,wm=wr:=⟨_,rfl⟩
     go_loopw [9] (λt wr=>∃(m:Nat) (p:List UInt8),t=.int .i64 m/\Bld w.heap.size w.heap.size (r++p) wr/\Ext w wr/\p++lenL m=lenL s.length/\p.length+m<=s.length) (λt _=>(intOf t).toNat);case atStart=>exact⟨s.length,[],rfl,by simpa using hbl,hxr,rfl,by simp⟩
     case round =>
      clear hbl hxr hck;obtain⟨m,p,rfl,hbl,hxr,hpm,hpl⟩:=hrel;have hpb:(r++p).length<=100000000000:=by rw[List.length_append];omega
      have hsz:=hxr.size;by_cases hm:m<128
      ·have HL:=lh_ (show p++[UInt8.ofNat m]=lenL s.length by rw[← hpm,lenL_small hm]);have u1:IntKind.u8.wrap (m:Int)=m:=by rw[IntKind.wrap_u8'];omega
       have hb8:=lh_ (show(m:Int)=((UInt8.ofNat m).toNat:Int) by simp[UInt8.toNat_ofNat'];omega);clear hpm;go_wp2_with fail;refine(writeByte_any _ _ _ (UInt8.ofNat m) _ wr hbl hsz hpb hb8.out).mono ?_;rintro e w5 ⟨rfl,hbl5,hB5⟩;have hx5:Ext w w5:=Below.trans hxr hB5;have hsz5:=hx5.size;go_wp2_with fail;refine(writeString_any _ _ _ s w5 hbl5 hsz5 (by simp only[List.length_append,List.length_cons,List.length_nil];omega) (by omega)).mono ?_;rintro e w6 ⟨rfl,hbl6,hB6⟩;have hx6:Ext w w6:=Below.trans hx5 hB6;go_wp2_with fail;go_roundw;case rel => refine⟨k+1,by omega,by go_num,?_,hx6⟩;rw[hrt.out,← HL.out];simpa[List.append_assoc]using hbl6
       case measure=>simp[intOf];omega
      ·have HL:=lh_ (show(p++[UInt8.ofNat (m%128+128)])++lenL (m/128)=lenL s.length by rw[← hpm,lenL_big hm];simp);have u0:=i64_and127 (m:Int);have u1:IntKind.u8.wrap ((m:Int)%128)=(m:Int)%128:=by rw[IntKind.wrap_u8'];omega
       have u2:=or128 m;have hb8:=lh_ (show((m:Int)%128+128)=((UInt8.ofNat (m%128+128)).toNat:Int) by simp[UInt8.toNat_ofNat'];omega);clear hpm;go_wp2_with fail;refine(writeByte_any _ _ _ (UInt8.ofNat (m%128+128)) _ wr hbl hsz hpb hb8.out).mono ?_;rintro e w5 ⟨rfl,hbl5,hB5⟩;have hx5:Ext w w5:=Below.trans hxr hB5;rw[List.append_assoc]at hbl5;clear u0 u1 u2;go_wp2_with fail;go_roundw;case rel=>exact⟨m/128,_,by go_num,hbl5,hx5,HL.out,by simp only[List.length_append,List.length_cons,List.length_nil];omega⟩
       case measure=>simp[intOf];omega
    ·obtain rfl:k=ss.length:=by omega
     have hsz:=hxr.size;go_wp2_with fail;refine(Tryz.Builder_String_any w.heap.size w.heap.size (rowL (ss.take ss.length)) _ (.inr hbl) hsz).mono ?_;rintro e w5 ⟨rfl,hB5⟩;go_wp2_with fail;go_ret;exact⟨rfl,Below.trans hxr hB5⟩
theorem and127 (c:UInt8):bits .and .u8 (c.toNat:Int) 127=((c.toNat%128:Nat):Int):=by
 have hc:=c.toNat_lt;rw[show(127:Int)=((127:Nat):Int) from rfl,u8_and_nat c.toNat 127 hc (by omega)];congr 1;exact Nat.and_two_pow_sub_one_eq_mod c.toNat 7
theorem i64_or_nat (a b:Nat) (ha:a<9223372036854775808) (hb:b<9223372036854775808):bits .or .i64 (a:Int) (b:Int)=((a ||| b:Nat):Int):=by
 have hx:a ||| b<2^63:=Nat.or_lt_two_pow (by omega) (by omega)
 show IntKind.i64.wrap ((BitVec.ofInt 64 (a:Int) ||| BitVec.ofInt 64 (b:Int)).toNat:Int)=_;have e:∀x:Nat,x<9223372036854775808->(BitVec.ofInt 64 (x:Int)).toNat=x:=λx hx=>by rw[BitVec.ofInt_natCast,BitVec.toNat_ofNat];exact Nat.mod_eq_of_lt (by omega)
 rw[BitVec.toNat_or,e a ha,e b hb,IntKind.wrap_i64];omega
theorem or_shift (n d k:Nat) (hn:n<2^k) (hk:k<=21) (hd:d<128):bits .or .i64 (n:Int) (((d*2^k:Nat)):Int)=(((n+d*2^k:Nat)):Int):=by
 have hp:2^k<=2^21:=Nat.pow_le_pow_right (by omega) hk;have h21:(2:Nat)^21=2097152:=by decide
 have hm:d*2^k<=127*2097152:=Nat.mul_le_mul (by omega) (by omega);rw[i64_or_nat n (d*2^k) (by omega) (by omega)];congr 1;have:=Nat.two_pow_add_eq_or_of_lt hn d;rw[Nat.or_comm,Nat.mul_comm d,← this];omega
theorem lengthF_at (b:List UInt8) (k n:Nat) (h:k<b.length):lengthF (b.drop k) k n=if k=3/\128<=b[k].toNat then (0,0,3) else if 128<=b[k].toNat then lengthF (b.drop (k+1)) (k+1) (n+b[k].toNat%128*128^k) else if b[k].toNat=0/\0<k then (0,0,3) else (n+b[k].toNat*128^k,k+1,0):=by
 rw[List.drop_eq_getElem_cons h];rfl
theorem ret3 {a b:Int}{x y:Value}(h:a=b):Ending.returned (.tuple #[.int .i64 a,x,y])=.returned (.tuple #[.int .i64 b,x,y]):=by rw[h]
theorem length_any (b:List UInt8) (w:World) (hb:b.length<=1000000000) :
  Calls prog 220 #[.string (str b)] w λe w'=>e=.returned (.tuple #[.int .i64 (lengthP b).1,.int .i64 (lengthP b).2.1,.int .i64 (lengthP b).2.2])/\w=w':=by
 have hz:(str b).size=b.length:=str_size b;go_enter func220,ntmps220;go_wp2_with fail;go_loop [5,6,7,10] (λt _ _ i=>∃k n:Nat,k<=b.length/\k<=3/\n<128^k/\i=.int .i64 k/\t=.int .i64 n/\lengthF (b.drop k) k n=lengthP b) (λ_ _ _ i=>b.length-(intOf i).toNat);case atStart=>exact⟨0,0,by omega,by omega,by decide,rfl,rfl,rfl⟩
 case round =>
  obtain⟨k,n,hk,hk3,hn,rfl,rfl,hF⟩:=hrel;by_cases hlt:k<b.length
  ·rw[lengthF_at b k n hlt]at hF;have hat:(str b)[k]'(by rw[hz];exact hlt)=b[k]:=rfl;have ha:=and127 b[k];have hc:=b[k].toNat_lt;have HF:=lh_ hF;clear hF;generalize b[k]=ch at *;rcases(by omega:k=0\/k=1\/k=2\/k=3) with rfl|rfl|rfl|rfl
   ·have hn':n<1:=by simpa using hn
    have ho:bits .or .i64 (n:Int) ((ch.toNat:Int)%128)=(((n+ch.toNat%128*1:Nat)):Int):=by have:=or_shift n (ch.toNat%128) 0 (by simpa using hn') (by omega) (by omega);rw[show((ch.toNat:Int)%128)=(((ch.toNat%128*2^0:Nat)):Int) by omega,this]
    clear hn;by_cases h1:128<=ch.toNat
    ·have HN:=lh_ (show lengthF (b.drop 1) 1 (n+ch.toNat%128*1)=lengthP b by rw[← HF.out,if_neg (by omega),if_pos h1]);go_wp2_with fail;exact⟨⟨1,n+ch.toNat%128*1,by omega,by omega,by simp only[Nat.reducePow];omega,rfl,by first|rfl|(rw[ho];done)|go_num,HN.out⟩,by simp[intOf];omega⟩
    ·by_cases h0:ch.toNat=0
     ·have HN:=lh_ (show lengthP b=(n+ch.toNat%128*1,1,0) by rw[← HF.out,if_neg (by omega),if_neg h1,if_neg (by omega),show ch.toNat%128=ch.toNat by omega]);have d0:((ch.toNat:Int)==0)=true:=by simp[h0]
      have d1:(ch.toNat:Int)<128:=by omega
      clear h0 h1;go_wp2_with fail;go_ret3;rw[HN.out];exact⟨ret3 (by omega),rfl⟩
     ·have HN:=lh_ (show lengthP b=(n+ch.toNat%128*1,1,0) by rw[← HF.out,if_neg (by omega),if_neg h1,if_neg (by omega),show ch.toNat%128=ch.toNat by omega]);have d0:((ch.toNat:Int)==0)=false:=by simpa using h0
      go_wp2_with fail;go_ret3;rw[HN.out];exact⟨ret3 (by omega),rfl⟩
   ·have hn':n<128:=by simpa using hn
    have ho:bits .or .i64 (n:Int) ((ch.toNat:Int)%128*128)=(((n+ch.toNat%128*128:Nat)):Int):=by have:=or_shift n (ch.toNat%128) 7 (by simpa using hn') (by omega) (by omega);rw[show((ch.toNat:Int)%128*128)=(((ch.toNat%128*2^7:Nat)):Int) by omega,this]
    clear hn;by_cases h1:128<=ch.toNat
    ·have HN:=lh_ (show lengthF (b.drop 2) 2 (n+ch.toNat%128*128)=lengthP b by rw[← HF.out,if_neg (by omega),if_pos h1]);go_wp2_with fail;exact⟨⟨2,n+ch.toNat%128*128,by omega,by omega,by simp only[Nat.reducePow];omega,rfl,by first|rfl|(rw[ho];done)|go_num,HN.out⟩,by simp[intOf];omega⟩
    ·by_cases h0:ch.toNat=0
     ·have HN:=lh_ (show lengthP b=(0,0,3) by rw[← HF.out,if_neg (by omega),if_neg h1,if_pos (by omega)]);have d0:((ch.toNat:Int)==0)=true:=by simp[h0]
      have d1:(ch.toNat:Int)<128:=by omega
      clear h0 h1;go_wp2_with fail;go_ret3;rw[HN.out];exact⟨rfl,rfl⟩
     ·have HN:=lh_ (show lengthP b=(n+ch.toNat%128*128,2,0) by rw[← HF.out,if_neg (by omega),if_neg h1,if_neg (by omega),show ch.toNat%128=ch.toNat by omega]);have d0:((ch.toNat:Int)==0)=false:=by simpa using h0
      go_wp2_with fail;go_ret3;rw[HN.out];exact⟨ret3 (by omega),rfl⟩
   ·have hn':n<16384:=by simpa using hn
    have ho:bits .or .i64 (n:Int) ((ch.toNat:Int)%128*16384)=(((n+ch.toNat%128*16384:Nat)):Int):=by have:=or_shift n (ch.toNat%128) 14 (by simpa using hn') (by omega) (by omega);rw[show((ch.toNat:Int)%128*16384)=(((ch.toNat%128*2^14:Nat)):Int) by omega,this]
    clear hn;by_cases h1:128<=ch.toNat
    ·have HN:=lh_ (show lengthF (b.drop 3) 3 (n+ch.toNat%128*16384)=lengthP b by rw[← HF.out,if_neg (by omega),if_pos h1]);go_wp2_with fail;exact⟨⟨3,n+ch.toNat%128*16384,by omega,by omega,by simp only[Nat.reducePow];omega,rfl,by first|rfl|(rw[ho];done)|go_num,HN.out⟩,by simp[intOf];omega⟩
    ·by_cases h0:ch.toNat=0
     ·have HN:=lh_ (show lengthP b=(0,0,3) by rw[← HF.out,if_neg (by omega),if_neg h1,if_pos (by omega)]);have d0:((ch.toNat:Int)==0)=true:=by simp[h0]
      have d1:(ch.toNat:Int)<128:=by omega
      clear h0 h1;go_wp2_with fail;go_ret3;rw[HN.out];exact⟨rfl,rfl⟩
     ·have HN:=lh_ (show lengthP b=(n+ch.toNat%128*16384,3,0) by rw[← HF.out,if_neg (by omega),if_neg h1,if_neg (by omega),show ch.toNat%128=ch.toNat by omega]);have d0:((ch.toNat:Int)==0)=false:=by simpa using h0
      go_wp2_with fail;go_ret3;rw[HN.out];exact⟨ret3 (by omega),rfl⟩
   ·have hn':n<2097152:=by simpa using hn
    have ho:bits .or .i64 (n:Int) ((ch.toNat:Int)%128*2097152)=(((n+ch.toNat%128*2097152:Nat)):Int):=by have:=or_shift n (ch.toNat%128) 21 (by simpa using hn') (by omega) (by omega);rw[show((ch.toNat:Int)%128*2097152)=(((ch.toNat%128*2^21:Nat)):Int) by omega,this]
    clear hn;by_cases h1:128<=ch.toNat
    ·have HN:=lh_ (show lengthP b=(0,0,3) by rw[← HF.out,if_pos ⟨rfl,h1⟩]);go_wp2_with fail;go_ret3;rw[HN.out];exact⟨rfl,rfl⟩
    ·by_cases h0:ch.toNat=0
     ·have HN:=lh_ (show lengthP b=(0,0,3) by rw[← HF.out,if_neg (by omega),if_neg h1,if_pos (by omega)]);have d0:((ch.toNat:Int)==0)=true:=by simp[h0]
      have d1:(ch.toNat:Int)<128:=by omega
      clear h0 h1;go_wp2_with fail;go_ret3;rw[HN.out];exact⟨rfl,rfl⟩
     ·have HN:=lh_ (show lengthP b=(n+ch.toNat%128*2097152,4,0) by rw[← HF.out,if_neg (by omega),if_neg h1,if_neg (by omega),show ch.toNat%128=ch.toNat by omega]);have d0:((ch.toNat:Int)==0)=false:=by simpa using h0
      go_wp2_with fail;go_ret3;rw[HN.out];exact⟨ret3 (by omega),rfl⟩
  ·obtain rfl:k=b.length:=by omega
   have HN:=lh_ (show lengthP b=(0,0,4) by rw[← hF,List.drop_length];rfl);clear hF;go_wp2_with fail;go_ret3;rw[HN.out];exact⟨rfl,rfl⟩
def sizeS (t:Value):Nat:=match t with|.string s=>s.size|_=>0
def joinP (d:List (List UInt8)) (r:List (List UInt8) × Int):List (List UInt8) × Int:=if r.2≠0 then ([],r.2) else (d++r.1,0)
theorem joinP_err {d:List (List UInt8)}{r:List (List UInt8) × Int}(h:r.2≠0):joinP d r=([],r.2):=if_pos h
theorem joinP_ok {d:List (List UInt8)}{r:List (List UInt8) × Int}(h:r.2=0):joinP d r=(d++r.1,0):=if_neg (by simpa using h)
theorem textsP_join (d:List (List UInt8)) (b:List UInt8) (hb:b≠[]) (he:(lengthP b).2.2=0) (hl:¬(b.drop (lengthP b).2.1).length<(lengthP b).1) :
  joinP d (textsP b)=joinP (d++[(b.drop (lengthP b).2.1).take (lengthP b).1]) (textsP ((b.drop (lengthP b).2.1).drop (lengthP b).1)):=by
 rw[textsP_step b hb,if_neg (by simpa using he),if_neg hl];by_cases h:(textsP ((b.drop (lengthP b).2.1).drop (lengthP b).1)).2=0
 ·rw[if_neg (by simpa using h),joinP_ok rfl,joinP_ok h];simp
 ·rw[if_pos h];exact(joinP_err (r:=([],_)) h).trans (joinP_err h).symm
theorem joinP_nil (b:List UInt8):joinP [] (textsP b)=textsP b:=by
 by_cases h:(textsP b).2=0
 ·rw[joinP_ok h];exact Prod.ext rfl h.symm
 ·rw[joinP_err h];exact Prod.ext (textsP_err b h).symm rfl
theorem texts_any (b:List UInt8) (w:World) (hb:b.length<=1000000000) :
  Calls prog 189 #[.string (str b)] w λe w'=>∃u,e=.returned (.tuple #[u,.int .i64 (textsP b).2])/\Ext w w'/\w'.ownsRow w.heap.size 9 1 u (textsP b).1.length (strL (textsP b).1):=by
 have hz:=str_size;have hse:=str_ext;obtain⟨i0,hi,hz0,hz1,hz2⟩:=info_parts strInfo;go_enter func189,ntmps189;go_wp2_with fail;go_loopw [0,4,5,6,7] (λt l _ _ _ wr=>∃(d:List (List UInt8)) (r:List UInt8),t=.string (str r)/\wr.ownsRow w.heap.size 9 1 l d.length (strL d)/\Ext w wr/\d.length+r.length<=b.length/\joinP d (textsP r)=textsP b) (λt _ _ _ _ _=>sizeS t);case atStart=>exact⟨[],b,rfl,World.ownsRow_nil _ _ _ _,Ext.refl _,by simp,joinP_nil b⟩
 case round =>
  obtain⟨d,r,rfl,hown,hx,hle,hj⟩:=hrel;have hxs:=hx.size;by_cases hr:r=[]
  ·subst hr;have HJ:=lh_ (show textsP b=(d,0) by rw[← hj,textsP_nil,joinP_ok rfl];simp);clear hj;have hl0:([]:List UInt8).length=0:=rfl;go_wp2_with fail;go_ret2;rw[HJ.out];exact⟨_,rfl,hx,hown⟩
  ·have hrp:0<r.length:=List.length_pos_iff.2 hr;have HL:=lh_ (λw=>length_any r w (by omega));by_cases he:(lengthP r).2.2=0
   ·have hu:=lengthP_used r he;have HE:=lh_ he;by_cases hs:(r.drop (lengthP r).2.1).length<(lengthP r).1
    ·have HJ:=lh_ (show textsP b=([],4) by rw[← hj,textsP_step r hr,if_neg (by simpa using he),if_pos hs,joinP_err (by decide)]);clear hj he;go_wp2_with fail;refine(HL.out _).mono ?_;rintro e w1 ⟨rfl,rfl⟩;rw[HE.out];rw[List.length_drop]at hs;generalize (lengthP r).1=n at *;generalize (lengthP r).2.1=u at *;have hs':((r.length-u:Nat):Int)<(n:Int):=by omega
     go_wp2_with fail;go_ret2;rw[HJ.out];exact⟨_,rfl,hx,World.ownsRow_nil _ _ _ _⟩
    ·have HJ:=lh_ ((textsP_join d r hr he hs).symm.trans hj);clear hj he;go_wp2_with fail;refine(HL.out _).mono ?_;rintro e w1 ⟨rfl,rfl⟩;rw[HE.out];rw[List.length_drop]at hs;generalize (lengthP r).1=n at *;generalize (lengthP r).2.1=u at *;have hs':¬((r.length-u:Nat):Int)<(n:Int):=by omega
     have e1:List.take (r.length-u) (List.drop u r)=List.drop u r:=List.take_of_length_le (by rw[List.length_drop];omega);go_wp2_with (at_builtin;refine wpList_append_own _ rfl _ _ 22 rfl w.heap.size 9 i0 (.string ⟨#[]⟩) 1 16 underlying22 hi hz0 hz1 hz2 rfl (by decide) _ _ _ rfl (hown.alloc _) ⟨wr.heap.size,0,none⟩ 1 1 [.string (str (List.take n (List.drop u r)))] rfl rfl (new_cells _ _ _ _ rfl) (all_one rfl) (by unfold maxLen;omega) (by omega) (by simp;omega) ?_)
     intro v' w1 own1 hg1 _;have hlo:=@own_low wr w.heap.size 1 _ _ u4 _ hown;have x1:Ext w w1:=(hx.alloc _).grown hg1 (λk e=>hlo e);have own2:w1.ownsRow w.heap.size 9 1 v' (d++[List.take n (List.drop u r)]).length (strL (d++[List.take n (List.drop u r)])):=by rw[show strL (d++[List.take n (List.drop u r)])=strL d++[.string (str (List.take n (List.drop u r)))] by simp[strL],List.length_append];exact own1
     clear own1 hg1 hlo;go_wp2_with fail;go_roundw;case rel =>
      refine⟨_,List.drop n (List.drop u r),?_,own2,x1,?_,HJ.out⟩
      ·rw[List.drop_drop,List.take_of_length_le (by rw[List.length_drop];omega)]
      ·simp only[List.length_append,List.length_drop,List.length_cons,List.length_nil];omega
     case measure=>simp only[sizeS,str_size,List.length_take,List.length_drop];omega
   ·have HJ:=lh_ (show textsP b=([],(lengthP r).2.2) by rw[← hj,textsP_step r hr,if_pos he,joinP_err he]);clear hj;have d1:((lengthP r).2.2 != 0)=true:=by simpa using he
    have HE:=lh_ he;clear he;go_wp2_with fail;refine(HL.out _).mono ?_;rintro e w1 ⟨rfl,rfl⟩;generalize (lengthP r).2.2=er at *;go_wp2_with fail;go_ret2;rw[HJ.out];exact⟨_,rfl,hx,World.ownsRow_nil _ _ _ _⟩
end Go.Proofs.YtfaplefkakpgcaaGreatDoor
