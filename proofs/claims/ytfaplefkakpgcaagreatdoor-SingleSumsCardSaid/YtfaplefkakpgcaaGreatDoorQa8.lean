import Derived.Test.YtfaplefkakpgcaaGreatDoorQa7
import Derived.Maps.AppendAt
import Derived.Lib.AppendStr
import Derived.RangeFuncWrites
import Derived.Lib.Builder
import Derived.Laws.Bits128
import Derived.Laws.MakeOwn
set_option linter.unusedVariables false
set_option linter.unusedSimpArgs false
set_option maxHeartbeats 32000000
set_option maxRecDepth 100000
namespace Go.Proofs.YtfaplefkakpgcaaGreatDoor
open Go.Proofs.Tryz
open Go.RowKit
theorem Ext.grown {a w w':World}{row:Option Nat}(h:Ext a w) (hg:w.grownBy w' row) (hr:∀k,row=some k->a.heap.size<=k):Ext a w':=Below.grown h hg h.size hr
theorem P4 {w w':World}(hg:w.grownBy w' none):Ext w w':=(Qf w).grown hg (λ_ e=>by cases e)
theorem Box.grown {w w':World}{g:Nat}{t:TypeId}{cs:Array Value}{row:Option Nat}(h:Box w g t cs) (hg:w.grownBy w' row) (QY:some g≠row):Box w' g t cs:=(hg.block g h.lt QY).trans h
theorem Jz {w:World}{base g size n:Nat}{e t:TypeId}{v:Value}{xs:List Value}{cs:Array Value}(h:w.ownsRow base e size v n xs) (hb:Box w g t cs) (QY:e≠t):some g≠v.ownBlock:=by
 rcases h.2 with⟨rfl,_⟩|⟨g',cap,cur,rfl,_,hh,_⟩
 ·simp[Value.ownBlock]
 ·intro he;have he':g=g':=by simpa[Value.ownBlock]using he
  subst he';have h1:w.heap[g]? =some (.cells cs t (0,0)):=hb;rw[hh]at h1;injection h1 with e1;injection e1 with _ e2;exact QY e2
theorem Jc {w:World}{base size n:Nat}{e:TypeId}{v:Value}{xs:List Value}(h:w.ownsRow base e size v n xs) {k:Nat}(hk:v.ownBlock=some k):base<=k:=by
 rcases h.2 with⟨rfl,_⟩|⟨g',cap,cur,rfl,hb,_⟩
 ·simp[Value.ownBlock]at hk
 ·have:g'=k:=by simpa[Value.ownBlock]using hk
  omega
def QS (l:List UInt8):List Value:=l.map λc=>Value.int .u8 (c.toNat:Int)
def Q5 (ss:List (List UInt8)):List Value:=ss.map λs=>Value.string (Qb s)
theorem TC:(prog.info? 5).map (λi=>(i.zero,i.size,i.bytes))=some (some (.int .u8 0),1,1):=by kernel_rfl
theorem YM {ops:Array Oper}{rest:List Oper}{o:Oper}{a:Act}{Q:Exit->Act->World->Prop}{w:World}{base n:Nat}{v:Value}{l s:List UInt8}(Q7:o.guard=none) (sl x:Operand)
  (ho:o.op=.call { callee:=.builtin .append,args:=#[sl,x],argTypes:=#[167,9] }) (hs:a.eval sl=v) (hx:a.eval x=.string (Qb s)) (h:w.ownsRow base 5 1 v n (QS l))
  (hn:n+s.length<=140737488355328) (hb:base<=w.heap.size) (hK:∀v' w',w'.ownsRow base 5 1 v' (n+s.length) (QS (l++s))->w.grownBy w' v.ownBlock->wpList prog ops Q rest (a.put o.dst v') w'):wpList prog ops Q (o::rest) a w:=by
 obtain⟨i,hi,hz,h1,h2⟩:=SQ TC;refine Lib.wpList_append_own_string w Q7 sl x 167 9 ho base 5 i underlying167 underlying9 hi hz h1 h2 v n (QS l) hs h (Qb s) hx (by rw[Qh];unfold maxLen;omega) (by rw[Qh];exact hn) hb ?_;intro v' w' ho' hg _;rw[Qh]at ho';refine hK v' w' ?_ hg;rw[show QS (l++s)=QS l++Lib.strCells (Qb s) by simp[QS,Lib.strCells,R2]];exact ho'
theorem Hb {w:World}{base n m c:Nat}{u:Value}{xs ys:List (List UInt8)}{A:Option Addr}(h:w.ownsRow base 9 1 u n (Q5 xs)) (hs:Strs w A m ys) (ty:TypeId) (hn:n+m<=1000000) (hb:base<=w.heap.size) (hpos:0<m) :
  ∃u' w',(Builtin.append_ #[22,22] ty #[u,.slice A m c]).run prog w=.ok u' w'/\w'.ownsRow base 9 1 u' (n+m) (Q5 (xs++ys))/\w.grownBy w' u.ownBlock:=by
 obtain⟨i,hi,hz,h1,h2⟩:=SQ LP;obtain⟨hl,kW⟩:=hs;obtain⟨b,o,rfl,hc⟩:=kW hpos;obtain⟨v',w',hr,ho,hg,_⟩:=mM (P:=prog) w base 22 ty 9 i _ 1 16 underlying22 hi hz h1 h2 rfl (by decide) u n (Q5 xs) h ⟨b,o,none⟩ m c (Q5 ys) (by simp[Q5,hl]) (λj v hj=>by
  have kS:j<ys.length:=by have:=(PO.1 hj).1;simpa[Q5]using this
  have ha:(⟨b,o,none⟩:Addr).add j=⟨b,o+j,none⟩:=by unfold Addr.add;split<;>simp_all
  rw[ha,hc j kS];simp[Q5,kS]at hj;rw[←hj]) (λv hv=>by
  simp only[Q5,Pq]at hv;obtain⟨s,_,rfl⟩:=hv;rfl) (by unfold maxLen;omega) (by omega) hb
 refine⟨v',w',hr,?_,hg⟩;rw[show Q5 (xs++ys)=Q5 xs++Q5 ys by simp[Q5]];exact ho
theorem bv {w:World}{base m c:Nat}{ys:List (List UInt8)}{A:Option Addr}(hs:Strs w A m ys) (ty:TypeId) (hm:m<=1000000) (hb:base<=w.heap.size) (hpos:0<m) :
  ∃u' w',(Builtin.append_ #[22,22] ty #[.slice none 0 0,.slice A m c]).run prog w=.ok u' w'/\w'.ownsRow base 9 1 u' m (Q5 ys)/\Ext w w':=by
 obtain⟨u',w',hr,ho,hg⟩:=Hb (c:=c) (xs:=[]) (ap w base 9 1) hs ty (by omega) hb hpos;rw[Ux]at ho;exact⟨u',w',hr,ho,P4 hg⟩
theorem Pe {ops:Array Oper}{rest:List Oper}{o:Oper}{a:Act}{Q:Exit->Act->World->Prop}{w:World}{m c:Nat}{ys:List (List UInt8)}{A:Option Addr}(base:Nat) (Q7:o.guard=none) (sl x:Operand)
  (ho:o.op=.call { callee:=.builtin .append,args:=#[sl,x],argTypes:=#[22,22] }) (hs:a.eval sl=.slice none 0 0) (hx:a.eval x=.slice A m c) (h:Strs w A m ys) (hm:m<=1000000) (hb:base<=w.heap.size) (hpos:0<m)
  (hK:∀u' w',w'.ownsRow base 9 1 u' m (Q5 ys)->Ext w w'->wpList prog ops Q rest (a.put o.dst u') w'):wpList prog ops Q (o::rest) a w:=by
 refine DC Q7 λK Ky=>?_;obtain⟨v',w',hr,h2,h3⟩:=bv (base:=base) (c:=c) h o.type hm hb hpos;unfold Oper.wp execOp;simp only[ho,resolve,invoke,builtin,WW,Fp,MZ,fG,FN,Cy,hs,hx,hr];exact Ky _ _ (hK v' w' h2 h3)
theorem Yb {ops:Array Oper}{rest:List Oper}{o:Oper}{a:Act}{Q:Exit->Act->World->Prop}{w:World}{n m c:Nat}{u:Value}{xs ys:List (List UInt8)}{A:Option Addr}(base:Nat) (Q7:o.guard=none) (sl x:Operand)
  (ho:o.op=.call { callee:=.builtin .append,args:=#[sl,x],argTypes:=#[22,22] }) (hs:a.eval sl=u) (hx:a.eval x=.slice A m c) (h0:w.ownsRow base 9 1 u n (Q5 xs)) (h:Strs w A m ys) (hm:n+m<=1000000) (hb:base<=w.heap.size) (hpos:0<m)
  (hK:∀u' w',w'.ownsRow base 9 1 u' (n+m) (Q5 (xs++ys))->w.grownBy w' u.ownBlock->wpList prog ops Q rest (a.put o.dst u') w'):wpList prog ops Q (o::rest) a w:=by
 refine DC Q7 λK Ky=>?_;obtain⟨v',w',hr,h2,h3⟩:=Hb (base:=base) (c:=c) h0 h o.type hm hb hpos;unfold Oper.wp execOp;simp only[ho,resolve,invoke,builtin,WW,Fp,MZ,fG,FN,Cy,hs,hx,hr];exact Ky _ _ (hK v' w' h2 h3)
theorem TJ {w:World}{base n:Nat}{v:Value}{l:List UInt8}(h:w.ownsRow base 5 1 v n (QS l)) (hn:0<n):(convert 167 9 v).run prog w=.ok (.string (Qb l)) w:=by
 have hl:l.length=n:=by have:=h.1;simpa[QS]using this
 rcases h.2 with⟨_,h0⟩|⟨g,cap,cur,rfl,_,hh,_⟩
 ·omega
 subst hl;refine run_convert_bytes_back w 167 9 5 ⟨g,0,none⟩ cap l underlying167 underlying5 underlying9 (λj hj=>?_);have ha:(⟨g,0,none⟩:Addr).add j=⟨g,j,none⟩:=by unfold Addr.add;split<;>simp_all
 rw[ha,h.cellAt (g:=g) j (by omega)];simp[QS,hj]
theorem Strs.own' {w:World}{base n:Nat}{t:TypeId}{u:Value}{ss:List (List UInt8)}(h:w.ownsRow base t 1 u n (Q5 ss)) (hn:0<n):∃g cap,u=.slice (some ⟨g,0,none⟩) n cap/\base<=g/\Strs w (some ⟨g,0,none⟩) n ss:=by
 have h':=h;rcases h.2 with⟨_,h0⟩|⟨g,cap,cur,rfl,hb,_⟩
 ·omega
 exact⟨g,cap,rfl,hb,Cz h'⟩
def WO (B b:Nat) (l:List UInt8) (w:World):Prop:=Lib.BuilderAt 169 5 B b (.pointer (some ⟨b,0,none⟩)) (QS l) w
theorem X9 (B b:Nat) (l:List UInt8) (w:World) (h:WO B b l w) :
  Calls prog 183 #[.pointer (some ⟨b,0,none⟩)] w λe w'=>e=.returned (.tuple #[])/\w=w':=by
 have c0:=h.cell0;obtain⟨j,hj⟩:∃j,prog.info? 169=some j:=Option.isSome_iff_exists.1 (by kernel_rfl);have QY:=Lib.run_neq_ptr_same (P:=prog) w ⟨b,0,none⟩ underlying166 hj;go_enter func183,ntmps183;go_wp2_with fail;go_end0;exact⟨rfl,rfl⟩
theorem Mo (w:World) (t:TypeId) (cs:Array Value) (l:List Value) (hl:cs=l.toArray) (j:Nat) (u:Value) (h:l[j]? =some u):(w.alloc (.cells cs t)).cell? ((⟨w.heap.size,0,none⟩:Addr).add j)=some u:=by
 subst hl;have ha:(⟨w.heap.size,0,none⟩:Addr).add j=⟨w.heap.size,j,none⟩:=by unfold Addr.add;split<;>simp_all
 rw[ha,(QA w t l.toArray).cell j];simpa using h
theorem DF {l:List Value}(h:l.all (·.oneCell')=true):∀u∈l,u.oneCell'=true:=Pv.1 h
theorem Gv {w:World}{base size n:Nat}{e:TypeId}{v:Value}{xs:List Value}(h:w.ownsRow base e size v n xs) (hn:0<n):∃g cap,v=.slice (some ⟨g,0,none⟩) n cap/\base<=g:=by
 rcases h.2 with⟨_,h0⟩|⟨g,cap,cur,h,hb,_⟩
 ·omega
 ·exact⟨g,cap,h,hb⟩
theorem WO.put {B b:Nat}{l':List UInt8}{w w1:World}{v v':Value}{row:Option Nat}(Lh:B<=b) (hb:w.heap[b]? =some (.cells #[.pointer (some ⟨b,0,none⟩),v] 169 (0,0))) (QY:v.ownBlock≠some b)
  (hg:w.grownBy w1 row) (hr:row=v.ownBlock) (Zu:w1.ownsRow B 5 1 v' l'.length (QS l')):WO B b l' (w1.setCell ⟨b,1,none⟩ v'):=by
 subst hr;have ZS:Box w1 b 169 #[.pointer (some ⟨b,0,none⟩),v]:=Box.grown hb hg (λe=>QY e.symm);exact Lib.BuilderAt.put Lh ZS (by rw[show(QS l').length=l'.length by simp[QS]];exact Zu) (by decide)
theorem Tb (B b:Nat) (l s:List UInt8) (w:World) (h:WO B b l w) (hB:B<=w.heap.size) (hl:l.length<=100000000000) (hs:s.length<=1000000000) :
  Calls prog 118 #[.pointer (some ⟨b,0,none⟩),.string (Qb s)] w λe w'=>e=.returned (.tuple #[.int .i64 s.length,.nilIface])/\WO B b (l++s) w'/\Below B w w':=by
 obtain⟨Lh,v,hb,Zt,QY⟩:=h;have HC:=Qa (λw=>X9 B b l w);have h:WO B b l w:=⟨Lh,v,hb,Zt,QY⟩
 have c1:w.cell? ⟨b,1,none⟩=some v:=Box.cell hb 1;have Vb:(QS l).length=l.length:=by simp[QS]
 rw[Vb]at Zt;have hz:=Qh;go_enter func118,ntmps118;go_wp2_with fail;refine(HC.o _ h).mono ?_;rintro e w1 ⟨rfl,rfl⟩;go_wp2_with (refine YM rfl (.tmp 12) (.tmp 13) rfl rfl rfl Zt (by omega) hB ?_)
 intro v' w1 Zu PC;have ZS:Box w1 b 169 #[.pointer (some ⟨b,0,none⟩),v]:=Box.grown hb PC (λe=>QY e.symm);have d0:w1.cell? ⟨b,1,none⟩=some v:=ZS.cell 1;have d1:=ZS.frozen 1;have a7:=@Jc w B 1 _ _ v _ Zt;have nE:Below B w w1:=(bj B w).grown PC hB (λk e=>a7 e);have IW:=WO.put (l':=l++s) Lh hb QY PC rfl (by rw[Kh];exact Zu);rcases Zu.2 with⟨rfl,h0⟩|⟨g,cap,cur,rfl,_⟩
 ·go_wp2_with fail;go_ret2;exact⟨rfl,IW,nE.setCell (p:=⟨b,1,none⟩) Lh _⟩
 ·go_wp2_with fail;go_ret2;exact⟨rfl,IW,nE.setCell (p:=⟨b,1,none⟩) Lh _⟩
def Sr (B b:Nat) (w:World):Prop:=Lib.BuilderAt 169 5 B b (.pointer none) [] w
theorem N2 (B b:Nat) (w:World) (h:Sr B b w) :
  Calls prog 183 #[.pointer (some ⟨b,0,none⟩)] w λe w'=>e=.returned (.tuple #[])/\w'=w.setCell ⟨b,0,none⟩ (.pointer (some ⟨b,0,none⟩)):=by
 have vu:=h.shape;obtain⟨Lh,v,hb,Zt,QY⟩:=h;have Sg:Box w b 169 #[.pointer none,v]:=hb;have c0:w.cell? ⟨b,0,none⟩=some (.pointer none):=Sg.cell 0;have f0:=Sg.frozen 0;obtain⟨j,hj,hjs⟩:=Option.map_eq_some_iff.1 Tryz.Builder_Extra_169.sizeBuilder;have hne1:=λw=>Lib.run_neq_ptr_same (P:=prog) w ⟨b,0,none⟩ underlying166 hj;have Kj:Box (w.setCell ⟨b,0,none⟩ (.pointer (some ⟨b,0,none⟩))) b 169 #[.pointer (some ⟨b,0,none⟩),v]:=Sg.set 0 _;have d0:(w.setCell ⟨b,0,none⟩ (.pointer (some ⟨b,0,none⟩))).cell? ⟨b,0,none⟩=some (.pointer (some ⟨b,0,none⟩)):=Kj.cell 0;have hto:=Lib.run_to_unsafe (P:=prog) w ⟨b,0,none⟩ underlying166 underlying281 hj (by rw[hjs];decide) vu (Nat.zero_lt_succ 1);have vc:=Lib.run_from_unsafe (P:=prog) w ⟨b,0,none⟩ underlying281 underlying166 hj vu Tryz.Builder_Extra_169.liesBuilder;go_enter func183,ntmps183;go_wp2_with fail;rw[run_callFunc_extern func215 (by kernel_rfl) (by kernel_rfl) (by kernel_rfl) (e:=Extern.AbiNoEscape.same) (by kernel_rfl)];rw[Lib.run_noEscape];simp only[Result.andThen];rw[Oper.upon_value];go_wp2_with fail;go_end0;exact⟨rfl,rfl⟩
theorem N3 (B b:Nat) (l:List UInt8) (w:World) (h:Sr B b w/\l=[]\/WO B b l w) (hB:B<=w.heap.size) :
  Calls prog 183 #[.pointer (some ⟨b,0,none⟩)] w λe w'=>e=.returned (.tuple #[])/\WO B b l w'/\Below B w w'/\Lib.OthersKept 5 (some b) w w':=by
 rcases h with⟨h,rfl⟩|h
 ·refine(N2 B b w h).mono ?_;rintro e w' ⟨rfl,rfl⟩;exact⟨rfl,h.used _,(bj B w).setCell (p:=⟨b,0,none⟩) h.1 _,(pa _ _ w).setCell ⟨b,0,none⟩ rfl _⟩
 ·refine(X9 B b l w h).mono ?_;rintro e w' ⟨rfl,rfl⟩;exact⟨rfl,h,bj B w,pa _ _ w⟩
theorem Ot {w:World}{base size n:Nat}{e:TypeId}{v:Value}{xs:List Value}(h:w.ownsRow base e size v n xs):∀g,v.ownBlock=some g->∃c fz,w.heap[g]? =some (.cells c e fz):=λg hg=>by
 rcases h.2 with⟨rfl,_⟩|⟨g',cap,cur,rfl,_,hh,_⟩
 ·cases hg
 ·injection hg with hg;subst hg;exact⟨cur,(0,0),hh⟩
theorem Zr (B b:Nat) (l s:List UInt8) (w:World) (h:Sr B b w/\l=[]\/WO B b l w) (hB:B<=w.heap.size) (hl:l.length<=100000000000) (hs:s.length<=1000000000) :
  Calls prog 118 #[.pointer (some ⟨b,0,none⟩),.string (Qb s)] w λe w'=>e=.returned (.tuple #[.int .i64 s.length,.nilIface])/\WO B b (l++s) w'/\Below B w w'/\Lib.OthersKept 5 (some b) w w':=by
 have HC:=Qa (N3 B b l w h hB);have hz:=Qh;clear h;go_enter func118,ntmps118;go_wp2_with fail;refine HC.o.mono ?_;rintro e w0 ⟨rfl,⟨Lh,v,hb,Zt,QY⟩,bw0,ok0⟩;have c1:w0.cell? ⟨b,1,none⟩=some v:=Box.cell hb 1;have Vb:(QS l).length=l.length:=by simp[QS]
 rw[Vb]at Zt;have fW:B<=w0.heap.size:=Y6 hB bw0.size;go_wp2_with (refine YM rfl (.tmp 12) (.tmp 13) rfl rfl rfl Zt (by omega) fW ?_)
 intro v' w1 Zu PC;have ZS:Box w1 b 169 #[.pointer (some ⟨b,0,none⟩),v]:=Box.grown hb PC (λe=>QY e.symm);have d0:w1.cell? ⟨b,1,none⟩=some v:=ZS.cell 1;have d1:=ZS.frozen 1;have a7:=@Jc w0 B 1 _ _ v _ Zt;have nE:Below B w w1:=bw0.grown PC fW (λk e=>a7 e);have ZL:Lib.OthersKept 5 (some b) w w1:=ok0.grown PC (Ot Zt);have IW:=WO.put (l':=l++s) Lh hb QY PC rfl (by rw[Kh];exact Zu);rcases Zu.2 with⟨rfl,h0⟩|⟨g,cap,cur,rfl,_⟩
 ·go_wp2_with fail;go_ret2;exact⟨rfl,IW,nE.setCell (p:=⟨b,1,none⟩) Lh _,ZL.setCell ⟨b,1,none⟩ rfl _⟩
 ·go_wp2_with fail;go_ret2;exact⟨rfl,IW,nE.setCell (p:=⟨b,1,none⟩) Lh _,ZL.setCell ⟨b,1,none⟩ rfl _⟩
theorem Px (B b:Nat) (l:List UInt8) (w:World) (h:WO B b l w) (hB:B<=w.heap.size) :
  Calls prog 120 #[.pointer (some ⟨b,0,none⟩)] w λe w'=>e=.returned (.string (Qb l))/\Below B w w'/\Lib.OthersKept 5 (some b) w w':=by
 refine(Tryz.Builder_String_any_k B b l w (.inr (Lib.BuilderAtF.of h)) hB).mono ?_;rintro e w' ⟨rfl,_,hb,hk⟩;exact⟨rfl,hb,hk⟩
theorem UH (B b:Nat) (l:List UInt8) (c:UInt8) (n:Int) (w:World) (h:WO B b l w) (hB:B<=w.heap.size) (hl:l.length<=100000000000) (hn:n=(c.toNat:Int)) :
  Calls prog 173 #[.pointer (some ⟨b,0,none⟩),.int .u8 n] w λe w'=>e=.returned .nilIface/\WO B b (l++[c]) w'/\Below B w w':=by
 subst hn;obtain⟨Lh,v,hb,Zt,QY⟩:=h;have HC:=Qa (λw=>X9 B b l w);have h:WO B b l w:=⟨Lh,v,hb,Zt,QY⟩
 have c1:w.cell? ⟨b,1,none⟩=some v:=Box.cell hb 1;have Vb:(QS l).length=l.length:=by simp[QS]
 rw[Vb]at Zt;obtain⟨i0,hi,hz0,fh,hz2⟩:=SQ TC;have Qo:b<w.heap.size:=Box.lt hb;go_enter func173,ntmps173;go_wp2_with fail;refine(HC.o _ h).mono ?_;rintro e w1 ⟨rfl,rfl⟩;go_wp2_with (at_builtin;refine wpList_append_own _ rfl _ _ 167 rfl B 5 i0 (.int .u8 0) 1 1 underlying167 hi hz0 fh hz2 rfl (by decide) _ _ _ rfl (Zt.alloc _) ⟨w.heap.size,0,none⟩ 1 1 [.int .u8 (c.toNat:Int)] rfl rfl (Mo _ _ _ _ rfl) (DF rfl) (by unfold maxLen;omega) (by omega) (by simp;omega) ?_)
 intro v' w1 Zu PC _;obtain⟨g',cap',rfl,sa⟩:=Gv Zu (by omega);have ZS:Box w1 b 169 #[.pointer (some ⟨b,0,none⟩),v]:=(Box.ext hb ((Qf w).alloc _)).grown PC (λe=>QY e.symm);have d0:w1.cell? ⟨b,1,none⟩=some v:=ZS.cell 1;have d1:=ZS.frozen 1;have a7:=@Jc w B 1 _ _ v _ Zt;go_wp2_with fail;go_ret;refine⟨rfl,?_,?_⟩
 ·refine Lib.BuilderAt.put Lh ZS ?_ (by decide);rw[show(QS (l++[c])).length=l.length+1 by simp[QS],show QS (l++[c])=QS l++[.int .u8 (c.toNat:Int)] by simp[QS]];exact Zu
 ·exact(((bj B w).alloc hB _).grown PC (by simp;omega) (λk e=>a7 e)).setCell (p:=⟨b,1,none⟩) Lh _
def YZ (ss:List (List UInt8)):Nat:=(ss.map λs=>s.length+4).sum
theorem Nw (ss:List (List UInt8)) (k:Nat) (h:k<ss.length):YZ (ss.take (k+1))=YZ (ss.take k)+(ss[k].length+4):=by
 unfold YZ;rw[FL h,fM,List.sum_append];simp
theorem Tt (ss:List (List UInt8)) (k:Nat):YZ (ss.take k)<=YZ ss:=by
 have:YZ ss=YZ (ss.take k)+YZ (ss.drop k):=by
  conv=>lhs;rw[←fH k ss]
  unfold YZ;rw[fM,List.sum_append]
 omega
theorem GP (ss:List (List UInt8)):(Zi ss).length<=2*YZ ss:=by
 induction ss with
 | nil=>simp[Zi]
 | cons s ss ih => have:=dX s.length;rw[YJ];unfold YZ at *;simp only[Kh,FN,List.sum_cons];omega
theorem Au (ss:List (List UInt8)) (k:Nat) (h:k<ss.length):Zi (ss.take (k+1))=Zi (ss.take k)++(Yo ss[k].length++ss[k]):=by
 rw[FL h,As]
theorem oP (m:Nat):bits .or .u8 ((m:Int)%128) 128=(((m%128+128:Nat)):Int):=by
 have e:((m:Int)%128)=((m%128:Nat):Int):=by omega
 rw[e,show(128:Int)=((128:Nat):Int) from rfl,u8_or_nat (m%128) 128 (by omega) (by omega)];congr 1;have:=pd (i:=7) (b:=m%128) (by omega) 1;rw[Nat.or_comm]at this;simp at this;omega
theorem VR (A:Option Addr) (n c:Nat) (ss:List (List UInt8)) (w:World) (hs:Strs w A n ss) (Lm:YZ ss<=1000000000) (hn:n<=1000000000) :
  Calls prog 101 #[.slice A n c] w λe w'=>e=.returned (.string (Qb (Zi ss)))/\Ext w w':=by
 have hz:=Qh;obtain rfl:=hs.1;go_enter func101,ntmps101;go_wp2_with fail;go_loop [3,5,12] (λt _ i=>∃k:Nat,k<=ss.length/\i=.int .i64 k/\t=.int .i64 (YZ (ss.take k):Nat)) (λ_ _ i=>ss.length-(intOf i).toNat);case atStart=>exact⟨0,by omega,rfl,rfl⟩
 case round =>
  obtain⟨k,hk,rfl,rfl⟩:=hrel;by_cases Qo:k<ss.length
  ·obtain⟨b,o,rfl,Qd⟩:=hs.2 (by omega);have dH:=Qd k Qo;have Ko:=Qa (Nw ss k Qo);have Fx:=Tt ss (k+1);rw[Nw ss k Qo]at Fx;clear Qd;go_wp2_with fail;go_round;case rel=>exact⟨k+1,by omega,by go_num,by rw[Ko.o];go_num⟩
   case measure=>simp[intOf];omega
  ·obtain rfl:k=ss.length:=by omega
   have Fx:=Tt ss ss.length;go_wp2_with fail;refine(Tryz.Builder_Grow_fresh w.heap.size w.heap.size (YZ ss) _ (QW _) (heap_alloc_new w _) (by simp) (by omega)).mono ?_;rintro e w1 ⟨rfl,ZS,Bi⟩;have oG:Ext w w1:=fK ((Qf w).alloc _) Bi;have qC:WO w.heap.size w.heap.size [] w1:=ZS;clear ZS Bi;go_wp2_with fail;obtain⟨wo,rfl⟩:∃wo:World,wo=w1:=⟨_,rfl⟩
   go_loopw [8,9,26] (λ_ _ i wr=>∃k:Nat,k<=ss.length/\i=.int .i64 k/\WO w.heap.size w.heap.size (Zi (ss.take k)) wr/\Ext w wr) (λ_ _ i _=>ss.length-(intOf i).toNat);case atStart=>exact⟨0,by omega,rfl,qC,oG⟩
   case round =>
    clear qC oG Fx hk Qo;obtain⟨k,hk,rfl,Ec,hxr⟩:=hrel;have qM:=GP (ss.take k);have IX:=Tt ss k;by_cases Qo:k<ss.length
    ·obtain⟨b,o,rfl,Qd⟩:=hs.2 (by omega);have dH:=hxr.keep (Qd k Qo);have hrt:=Qa (Au ss k Qo);have Fx:=Tt ss (k+1);rw[Nw ss k Qo]at Fx;clear Qd;generalize ss[k]=s at *;generalize tG:Zi (ss.take k)=r at *;clear tG;go_wp2_with fail;obtain⟨wm,rfl⟩:∃wm:World,wm=wr:=⟨_,rfl⟩
     go_loopw [9] (λt wr=>∃(m:Nat) (p:List UInt8),t=.int .i64 m/\WO w.heap.size w.heap.size (r++p) wr/\Ext w wr/\p++Yo m=Yo s.length/\p.length+m<=s.length) (λt _=>(intOf t).toNat);case atStart=>exact⟨s.length,[],rfl,by simpa using Ec,hxr,rfl,by simp⟩
     case round =>
      clear Ec hxr dH;obtain⟨m,p,rfl,Ec,hxr,hpm,Uz⟩:=hrel;have bB:(r++p).length<=100000000000:=by rw[Kh];omega
      have VH:=hxr.size;by_cases hm:m<128
      ·have HL:=Qa (show p++[UInt8.ofNat m]=Yo s.length by rw[←hpm,UW hm]);have u1:IntKind.u8.wrap (m:Int)=m:=by rw[IntKind.wrap_u8'];omega
       have sP:=Qa (show(m:Int)=((UInt8.ofNat m).toNat:Int) by simp[mK];omega);clear hpm;go_wp2_with fail;refine(UH _ _ _ (UInt8.ofNat m) _ wr Ec VH bB sP.o).mono ?_;rintro e w5 ⟨rfl,hbl5,hB5⟩;have qP:Ext w w5:=fK hxr hB5;have tK:=qP.size;go_wp2_with fail;refine(Tb _ _ _ s w5 hbl5 tK (by simp only[Kh,YV,Tz];omega) (by omega)).mono ?_;rintro e w6 ⟨rfl,hbl6,hB6⟩;have hx6:Ext w w6:=fK qP hB6;go_wp2_with fail;go_roundw;case rel => refine⟨k+1,by omega,by go_num,?_,hx6⟩;rw[hrt.o,←HL.o];simpa[ar]using hbl6
       case measure=>simp[intOf];omega
      ·have HL:=Qa (show(p++[UInt8.ofNat (m%128+128)])++Yo (m/128)=Yo s.length by rw[←hpm,Rn hm];simp);have u0:=i64_and127 (m:Int);have u1:IntKind.u8.wrap ((m:Int)%128)=(m:Int)%128:=by rw[IntKind.wrap_u8'];omega
       have u2:=oP m;have sP:=Qa (show((m:Int)%128+128)=((UInt8.ofNat (m%128+128)).toNat:Int) by simp[mK];omega);clear hpm;go_wp2_with fail;refine(UH _ _ _ (UInt8.ofNat (m%128+128)) _ wr Ec VH bB sP.o).mono ?_;rintro e w5 ⟨rfl,hbl5,hB5⟩;have qP:Ext w w5:=fK hxr hB5;rw[ar]at hbl5;clear u0 u1 u2;go_wp2_with fail;go_roundw;case rel=>exact⟨m/128,_,by go_num,hbl5,qP,HL.o,by simp only[Kh,YV,Tz];omega⟩
       case measure=>simp[intOf];omega
    ·obtain rfl:k=ss.length:=by omega
     have VH:=hxr.size;go_wp2_with fail;refine(Tryz.Builder_String_any w.heap.size w.heap.size (Zi (ss.take ss.length)) _ (.inr Ec) VH).mono ?_;rintro e w5 ⟨rfl,hB5⟩;go_wp2_with fail;go_ret;exact⟨rfl,fK hxr hB5⟩
theorem iB (c:UInt8):bits .and .u8 (c.toNat:Int) 127=((c.toNat%128:Nat):Int):=by
 have hc:=c.toNat_lt;rw[show(127:Int)=((127:Nat):Int) from rfl,u8_and_nat c.toNat 127 hc (by omega)];congr 1;exact Nat.and_two_pow_sub_one_eq_mod c.toNat 7
theorem Ei (a b:Nat) (ha:a<9223372036854775808) (hb:b<9223372036854775808):bits .or .i64 (a:Int) (b:Int)=((a ||| b:Nat):Int):=by
 have hx:a ||| b<2^63:=Nat.or_lt_two_pow (by omega) (by omega)
 show IntKind.i64.wrap ((BitVec.ofInt 64 (a:Int) ||| BitVec.ofInt 64 (b:Int)).toNat:Int)=_;have e:∀x:Nat,x<9223372036854775808->(BitVec.ofInt 64 (x:Int)).toNat=x:=λx hx=>by rw[BitVec.ofInt_natCast,BitVec.toNat_ofNat];exact Nat.mod_eq_of_lt (by omega)
 rw[BitVec.toNat_or,e a ha,e b hb,ZU];omega
theorem WC (n d k:Nat) (hn:n<2^k) (hk:k<=21) (hd:d<128):bits .or .i64 (n:Int) (((d*2^k:Nat)):Int)=(((n+d*2^k:Nat)):Int):=by
 have hp:2^k<=2^21:=mI (by omega) hk;have h21:(2:Nat)^21=2097152:=by decide
 have hm:d*2^k<=127*2097152:=Nat.mul_le_mul (by omega) (by omega);rw[Ei n (d*2^k) (by omega) (by omega)];congr 1;have:=pd hn d;rw[Nat.or_comm,bh d,←this];omega
theorem Er (b:List UInt8) (k n:Nat) (h:k<b.length):JI (b.drop k) k n=if k=3/\128<=b[k].toNat then (0,0,3) else if 128<=b[k].toNat then JI (b.drop (k+1)) (k+1) (n+b[k].toNat%128*128^k) else if b[k].toNat=0/\0<k then (0,0,3) else (n+b[k].toNat*128^k,k+1,0):=by
 rw[List.drop_eq_getElem_cons h];rfl
theorem OO {a b:Int}{x y:Value}(h:a=b):Ending.returned (.tuple #[.int .i64 a,x,y])=.returned (.tuple #[.int .i64 b,x,y]):=by rw[h]
theorem Es (b:List UInt8) (w:World) (hb:b.length<=1000000000) :
  Calls prog 220 #[.string (Qb b)] w λe w'=>e=.returned (.tuple #[.int .i64 (Qi b).1,.int .i64 (Qi b).2.1,.int .i64 (Qi b).2.2])/\w=w':=by
 have hz:(Qb b).size=b.length:=Qh b;go_enter func220,ntmps220;go_wp2_with fail;go_loop [5,6,7,10] (λt _ _ i=>∃k n:Nat,k<=b.length/\k<=3/\n<128^k/\i=.int .i64 k/\t=.int .i64 n/\JI (b.drop k) k n=Qi b) (λ_ _ _ i=>b.length-(intOf i).toNat);case atStart=>exact⟨0,0,by omega,by omega,by decide,rfl,rfl,rfl⟩
 case round =>
  obtain⟨k,n,hk,hk3,hn,rfl,rfl,hF⟩:=hrel;by_cases Qo:k<b.length
  ·rw[Er b k n Qo]at hF;have dF:(Qb b)[k]'(by rw[hz];exact Qo)=b[k]:=rfl;have ha:=iB b[k];have hc:=b[k].toNat_lt;have HF:=Qa hF;clear hF;generalize b[k]=ch at *;rcases(by omega:k=0\/k=1\/k=2\/k=3) with rfl|rfl|rfl|rfl
   ·have a8:n<1:=by simpa using hn
    have ho:bits .or .i64 (n:Int) ((ch.toNat:Int)%128)=(((n+ch.toNat%128*1:Nat)):Int):=by have:=WC n (ch.toNat%128) 0 (by simpa using a8) (by omega) (by omega);rw[show((ch.toNat:Int)%128)=(((ch.toNat%128*2^0:Nat)):Int) by omega,this]
    clear hn;by_cases h1:128<=ch.toNat
    ·have HN:=Qa (show JI (b.drop 1) 1 (n+ch.toNat%128*1)=Qi b by rw[←HF.o,Qr (by omega),Qv h1]);go_wp2_with fail;exact⟨⟨1,n+ch.toNat%128*1,by omega,by omega,by simp only[Nat.reducePow];omega,rfl,by first|rfl|(rw[ho];done)|go_num,HN.o⟩,by simp[intOf];omega⟩
    ·by_cases h0:ch.toNat=0
     ·have HN:=Qa (show Qi b=(n+ch.toNat%128*1,1,0) by rw[←HF.o,Qr (by omega),Qr h1,Qr (by omega),show ch.toNat%128=ch.toNat by omega]);have d0:((ch.toNat:Int)==0)=true:=by simp[h0]
      have d1:(ch.toNat:Int)<128:=by omega
      clear h0 h1;go_wp2_with fail;go_ret3;rw[HN.o];exact⟨OO (by omega),rfl⟩
     ·have HN:=Qa (show Qi b=(n+ch.toNat%128*1,1,0) by rw[←HF.o,Qr (by omega),Qr h1,Qr (by omega),show ch.toNat%128=ch.toNat by omega]);have d0:((ch.toNat:Int)==0)=false:=by simpa using h0
      go_wp2_with fail;go_ret3;rw[HN.o];exact⟨OO (by omega),rfl⟩
   ·have a8:n<128:=by simpa using hn
    have ho:bits .or .i64 (n:Int) ((ch.toNat:Int)%128*128)=(((n+ch.toNat%128*128:Nat)):Int):=by have:=WC n (ch.toNat%128) 7 (by simpa using a8) (by omega) (by omega);rw[show((ch.toNat:Int)%128*128)=(((ch.toNat%128*2^7:Nat)):Int) by omega,this]
    clear hn;by_cases h1:128<=ch.toNat
    ·have HN:=Qa (show JI (b.drop 2) 2 (n+ch.toNat%128*128)=Qi b by rw[←HF.o,Qr (by omega),Qv h1]);go_wp2_with fail;exact⟨⟨2,n+ch.toNat%128*128,by omega,by omega,by simp only[Nat.reducePow];omega,rfl,by first|rfl|(rw[ho];done)|go_num,HN.o⟩,by simp[intOf];omega⟩
    ·by_cases h0:ch.toNat=0
     ·have HN:=Qa (show Qi b=(0,0,3) by rw[←HF.o,Qr (by omega),Qr h1,Qv (by omega)]);have d0:((ch.toNat:Int)==0)=true:=by simp[h0]
      have d1:(ch.toNat:Int)<128:=by omega
      clear h0 h1;go_wp2_with fail;go_ret3;rw[HN.o];exact⟨rfl,rfl⟩
     ·have HN:=Qa (show Qi b=(n+ch.toNat%128*128,2,0) by rw[←HF.o,Qr (by omega),Qr h1,Qr (by omega),show ch.toNat%128=ch.toNat by omega]);have d0:((ch.toNat:Int)==0)=false:=by simpa using h0
      go_wp2_with fail;go_ret3;rw[HN.o];exact⟨OO (by omega),rfl⟩
   ·have a8:n<16384:=by simpa using hn
    have ho:bits .or .i64 (n:Int) ((ch.toNat:Int)%128*16384)=(((n+ch.toNat%128*16384:Nat)):Int):=by have:=WC n (ch.toNat%128) 14 (by simpa using a8) (by omega) (by omega);rw[show((ch.toNat:Int)%128*16384)=(((ch.toNat%128*2^14:Nat)):Int) by omega,this]
    clear hn;by_cases h1:128<=ch.toNat
    ·have HN:=Qa (show JI (b.drop 3) 3 (n+ch.toNat%128*16384)=Qi b by rw[←HF.o,Qr (by omega),Qv h1]);go_wp2_with fail;exact⟨⟨3,n+ch.toNat%128*16384,by omega,by omega,by simp only[Nat.reducePow];omega,rfl,by first|rfl|(rw[ho];done)|go_num,HN.o⟩,by simp[intOf];omega⟩
    ·by_cases h0:ch.toNat=0
     ·have HN:=Qa (show Qi b=(0,0,3) by rw[←HF.o,Qr (by omega),Qr h1,Qv (by omega)]);have d0:((ch.toNat:Int)==0)=true:=by simp[h0]
      have d1:(ch.toNat:Int)<128:=by omega
      clear h0 h1;go_wp2_with fail;go_ret3;rw[HN.o];exact⟨rfl,rfl⟩
     ·have HN:=Qa (show Qi b=(n+ch.toNat%128*16384,3,0) by rw[←HF.o,Qr (by omega),Qr h1,Qr (by omega),show ch.toNat%128=ch.toNat by omega]);have d0:((ch.toNat:Int)==0)=false:=by simpa using h0
      go_wp2_with fail;go_ret3;rw[HN.o];exact⟨OO (by omega),rfl⟩
   ·have a8:n<2097152:=by simpa using hn
    have ho:bits .or .i64 (n:Int) ((ch.toNat:Int)%128*2097152)=(((n+ch.toNat%128*2097152:Nat)):Int):=by have:=WC n (ch.toNat%128) 21 (by simpa using a8) (by omega) (by omega);rw[show((ch.toNat:Int)%128*2097152)=(((ch.toNat%128*2^21:Nat)):Int) by omega,this]
    clear hn;by_cases h1:128<=ch.toNat
    ·have HN:=Qa (show Qi b=(0,0,3) by rw[←HF.o,Qv ⟨rfl,h1⟩]);go_wp2_with fail;go_ret3;rw[HN.o];exact⟨rfl,rfl⟩
    ·by_cases h0:ch.toNat=0
     ·have HN:=Qa (show Qi b=(0,0,3) by rw[←HF.o,Qr (by omega),Qr h1,Qv (by omega)]);have d0:((ch.toNat:Int)==0)=true:=by simp[h0]
      have d1:(ch.toNat:Int)<128:=by omega
      clear h0 h1;go_wp2_with fail;go_ret3;rw[HN.o];exact⟨rfl,rfl⟩
     ·have HN:=Qa (show Qi b=(n+ch.toNat%128*2097152,4,0) by rw[←HF.o,Qr (by omega),Qr h1,Qr (by omega),show ch.toNat%128=ch.toNat by omega]);have d0:((ch.toNat:Int)==0)=false:=by simpa using h0
      go_wp2_with fail;go_ret3;rw[HN.o];exact⟨OO (by omega),rfl⟩
  ·obtain rfl:k=b.length:=by omega
   have HN:=Qa (show Qi b=(0,0,4) by rw[←hF,List.drop_length];rfl);clear hF;go_wp2_with fail;go_ret3;rw[HN.o];exact⟨rfl,rfl⟩
def fw (t:Value):Nat:=match t with|.string s=>s.size|_=>0
def Ml (d:List (List UInt8)) (r:List (List UInt8) × Int):List (List UInt8) × Int:=if r.2≠0 then ([],r.2) else (d++r.1,0)
theorem Vq {d:List (List UInt8)}{r:List (List UInt8) × Int}(h:r.2≠0):Ml d r=([],r.2):=Qv h
theorem Wu {d:List (List UInt8)}{r:List (List UInt8) × Int}(h:r.2=0):Ml d r=(d++r.1,0):=Qr (by simpa using h)
theorem G9 (d:List (List UInt8)) (b:List UInt8) (hb:b≠[]) (he:(Qi b).2.2=0) (hl:¬(b.drop (Qi b).2.1).length<(Qi b).1) :
  Ml d (QD b)=Ml (d++[(b.drop (Qi b).2.1).take (Qi b).1]) (QD ((b.drop (Qi b).2.1).drop (Qi b).1)):=by
 rw[Ya b hb,Qr (by simpa using he),Qr hl];by_cases h:(QD ((b.drop (Qi b).2.1).drop (Qi b).1)).2=0
 ·rw[Qr (by simpa using h),Wu rfl,Wu h];simp
 ·rw[Qv h];exact(Vq (r:=([],_)) h).trans (Vq h).symm
theorem BE (b:List UInt8):Ml [] (QD b)=QD b:=by
 by_cases h:(QD b).2=0
 ·rw[Wu h];exact Prod.ext rfl h.symm
 ·rw[Vq h];exact Prod.ext (Da b h).symm rfl
theorem AC (b:List UInt8) (w:World) (hb:b.length<=1000000000) :
  Calls prog 189 #[.string (Qb b)] w λe w'=>∃u,e=.returned (.tuple #[u,.int .i64 (QD b).2])/\Ext w w'/\w'.ownsRow w.heap.size 9 1 u (QD b).1.length (Q5 (QD b).1):=by
 have hz:=Qh;have vt:=JJ;obtain⟨i0,hi,hz0,fh,hz2⟩:=SQ LP;go_enter func189,ntmps189;go_wp2_with fail;go_loopw [0,4,5,6,7] (λt l _ _ _ wr=>∃(d:List (List UInt8)) (r:List UInt8),t=.string (Qb r)/\wr.ownsRow w.heap.size 9 1 l d.length (Q5 d)/\Ext w wr/\d.length+r.length<=b.length/\Ml d (QD r)=QD b) (λt _ _ _ _ _=>fw t);case atStart=>exact⟨[],b,rfl,ap _ _ _ _,Qf _,by simp,BE b⟩
 case round =>
  obtain⟨d,r,rfl,Zt,hx,Fx,hj⟩:=hrel;have vy:=hx.size;by_cases hr:r=[]
  ·subst hr;have HJ:=Qa (show QD b=(d,0) by rw[←hj,R4,Wu rfl];simp);clear hj;have dL:([]:List UInt8).length=0:=rfl;go_wp2_with fail;go_ret2;rw[HJ.o];exact⟨_,rfl,hx,Zt⟩
  ·have hrp:0<r.length:=List.length_pos_iff.2 hr;have HL:=Qa (λw=>Es r w (by omega));by_cases he:(Qi r).2.2=0
   ·have hu:=Xg r he;have HE:=Qa he;by_cases hs:(r.drop (Qi r).2.1).length<(Qi r).1
    ·have HJ:=Qa (show QD b=([],4) by rw[←hj,Ya r hr,Qr (by simpa using he),Qv hs,Vq (by decide)]);clear hj he;go_wp2_with fail;refine(HL.o _).mono ?_;rintro e w1 ⟨rfl,rfl⟩;rw[HE.o];rw[WQ]at hs;generalize (Qi r).1=n at *;generalize (Qi r).2.1=u at *;have ff:((r.length-u:Nat):Int)<(n:Int):=by omega
     go_wp2_with fail;go_ret2;rw[HJ.o];exact⟨_,rfl,hx,ap _ _ _ _⟩
    ·have HJ:=Qa ((G9 d r hr he hs).symm.trans hj);clear hj he;go_wp2_with fail;refine(HL.o _).mono ?_;rintro e w1 ⟨rfl,rfl⟩;rw[HE.o];rw[WQ]at hs;generalize (Qi r).1=n at *;generalize (Qi r).2.1=u at *;have ff:¬((r.length-u:Nat):Int)<(n:Int):=by omega
     have e1:List.take (r.length-u) (List.drop u r)=List.drop u r:=AX (by rw[WQ];omega);go_wp2_with (at_builtin;refine wpList_append_own _ rfl _ _ 22 rfl w.heap.size 9 i0 (.string ⟨#[]⟩) 1 16 underlying22 hi hz0 fh hz2 rfl (by decide) _ _ _ rfl (Zt.alloc _) ⟨wr.heap.size,0,none⟩ 1 1 [.string (Qb (List.take n (List.drop u r)))] rfl rfl (Mo _ _ _ _ rfl) (DF rfl) (by unfold maxLen;omega) (by omega) (by simp;omega) ?_)
     intro v' w1 Zu PC _;have a7:=@Jc wr w.heap.size 1 _ _ u4 _ Zt;have x1:Ext w w1:=(hx.alloc _).grown PC (λk e=>a7 e);have Zh:w1.ownsRow w.heap.size 9 1 v' (d++[List.take n (List.drop u r)]).length (Q5 (d++[List.take n (List.drop u r)])):=by rw[show Q5 (d++[List.take n (List.drop u r)])=Q5 d++[.string (Qb (List.take n (List.drop u r)))] by simp[Q5],Kh];exact Zu
     clear Zu PC a7;go_wp2_with fail;go_roundw;case rel =>
      refine⟨_,List.drop n (List.drop u r),?_,Zh,x1,?_,HJ.o⟩
      ·rw[hU,AX (by rw[WQ];omega)]
      ·simp only[Kh,WQ,YV,Tz];omega
     case measure=>simp only[fw,Qh,WV,WQ];omega
   ·have HJ:=Qa (show QD b=([],(Qi r).2.2) by rw[←hj,Ya r hr,Qv he,Vq he]);clear hj;have d1:((Qi r).2.2 != 0)=true:=by simpa using he
    have HE:=Qa he;clear he;go_wp2_with fail;refine(HL.o _).mono ?_;rintro e w1 ⟨rfl,rfl⟩;generalize (Qi r).2.2=er at *;go_wp2_with fail;go_ret2;rw[HJ.o];exact⟨_,rfl,hx,ap _ _ _ _⟩
theorem Ph {ops:Array Oper}{rest:List Oper}{o:Oper}{a:Act}{Q:Exit->Act->World->Prop}{w:World}{c:Nat}(base:Nat) (Q7:o.guard=none) (x y:Operand)
  (ho:o.op=.makeSlice 22 x y) (hx:a.eval x=.int .i64 0) (hy:a.eval y=.int .i64 c) (hc:c<=100000) (hb:base<=w.heap.size)
  (hK:∀w',w'.ownsRow base 9 1 (.slice (some ⟨w.heap.size,0,none⟩) 0 c) 0 (Q5 [])->Ext w w'->wpList prog ops Q rest (a.put o.dst (.slice (some ⟨w.heap.size,0,none⟩) 0 c)) w'):wpList prog ops Q (o::rest) a w:=by
 refine DC Q7 λK Ky=>?_;obtain⟨i,hi,hz,h1,h2⟩:=SQ LP;obtain⟨w',hr,ho',hg⟩:=run_make_own (P:=prog) w base 22 9 i _ 1 underlying22 hi hz h1 .i64 .i64 c (by rw[h2];omega) (by unfold maxLen;omega) hb;unfold Oper.wp execOp;simp only[ho,hx,hy,WW,Fp,MZ,hr];exact Ky _ _ (hK w' ho' (P4 hg))
end Go.Proofs.YtfaplefkakpgcaaGreatDoor
