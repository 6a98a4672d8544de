import Derived.Test.YtfaplefkakpgcaaGreatDoorPl9
import Derived.Maps.AppendAt
import Derived.Lib.AppendStr
import Derived.RangeFuncWrites
import Derived.Lib.Builder
import Derived.Laws.Bits128
import Derived.Laws.MakeOwn
set_option linter.unusedVariables false
set_option linter.unusedSimpArgs false
set_option maxHeartbeats 32000000
set_option maxRecDepth 100000
namespace Go.Proofs.YtfaplefkakpgcaaGreatDoor
open Go.Proofs.Tryz
open Go.RowKit
theorem Ext.grown {a w w':World}{row:Option Nat}(h:Ext a w) (hg:w.grownBy w' row) (hr:∀k,row=some k->a.heap.size<=k):Ext a w':=vz h hg h.size hr
theorem Fs {w w':World}(hg:w.grownBy w' none):Ext w w':=(Qg w).grown hg (λ_ e=>by cases e)
theorem Box.grown {w w':World}{g:Nat}{t:TypeId}{cs:Array Value}{row:Option Nat}(h:Box w g t cs) (hg:w.grownBy w' row) (Jt:some g≠row):Box w' g t cs:=(hg.block g h.lt Jt).trans h
theorem QX {w:World}{base g size n:Nat}{e t:TypeId}{v:Value}{xs:List Value}{cs:Array Value}(h:w.ownsRow base e size v n xs) (hb:Box w g t cs) (Jt:e≠t):some g≠v.ownBlock:=by
 rcases h.2 with⟨rfl,_⟩|⟨g',cap,cur,rfl,_,hh,_⟩
 ·simp[Value.ownBlock]
 ·intro he;have he':g=g':=by simpa[Value.ownBlock]using he
  subst he';have h1:w.heap[g]? =some (.cells cs t (0,0)):=hb;rw[hh]at h1;injection h1 with e1;injection e1 with _ e2;exact Jt e2
theorem QU {w:World}{base size n:Nat}{e:TypeId}{v:Value}{xs:List Value}(h:w.ownsRow base e size v n xs) {k:Nat}(hk:v.ownBlock=some k):base<=k:=by
 rcases h.2 with⟨rfl,_⟩|⟨g',cap,cur,rfl,hb,_⟩
 ·simp[Value.ownBlock]at hk
 ·have:g'=k:=by simpa[Value.ownBlock]using hk
  omega
def Jd (l:List UInt8):List Value:=l.map λc=>Value.int .u8 (c.toNat:Int)
def Q5 (ss:List (List UInt8)):List Value:=ss.map λs=>Value.string (Qb s)
theorem Wj:(prog.info? 5).map (λi=>(i.zero,i.size,i.bytes))=some (some (.int .u8 0),1,1):=by kernel_rfl
theorem Vc {ops:Array Oper}{rest:List Oper}{o:Oper}{a:Act}{Q:Exit->Act->World->Prop}{w:World}{base n:Nat}{v:Value}{l s:List UInt8}(J7:o.guard=none) (sl x:Operand)
  (ho:o.op=.call { callee:=.builtin .append,args:=#[sl,x],argTypes:=#[167,9] }) (hs:a.eval sl=v) (hx:a.eval x=.string (Qb s)) (h:w.ownsRow base 5 1 v n (Jd l))
  (hn:n+s.length<=140737488355328) (hb:base<=w.heap.size) (hK:∀v' w',w'.ownsRow base 5 1 v' (n+s.length) (Jd (l++s))->w.grownBy w' v.ownBlock->wpList prog ops Q rest (a.put o.dst v') w'):wpList prog ops Q (o::rest) a w:=by
 obtain⟨i,hi,hz,h1,h2⟩:=AW Wj;refine Lib.wpList_append_own_string w J7 sl x 167 9 ho base 5 i underlying167 underlying9 hi hz h1 h2 v n (Jd l) hs h (Qb s) hx (by rw[Qh];unfold maxLen;omega) (by rw[Qh];exact hn) hb ?_;intro v' w' ho' hg _;rw[Qh]at ho';refine hK v' w' ?_ hg;rw[show Jd (l++s)=Jd l++Lib.strCells (Qb s) by simp[Jd,Lib.strCells,B5]];exact ho'
theorem Cg {w:World}{base n m c:Nat}{u:Value}{xs ys:List (List UInt8)}{A:Option Addr}(h:w.ownsRow base 9 1 u n (Q5 xs)) (hs:Strs w A m ys) (ty:TypeId) (hn:n+m<=1000000) (hb:base<=w.heap.size) (Lp:0<m) :
  ∃u' w',(Builtin.append_ #[22,22] ty #[u,.slice A m c]).run prog w=.ok u' w'/\w'.ownsRow base 9 1 u' (n+m) (Q5 (xs++ys))/\w.grownBy w' u.ownBlock:=by
 obtain⟨i,hi,hz,h1,h2⟩:=AW MJ;obtain⟨hl,dJ⟩:=hs;obtain⟨b,o,rfl,hc⟩:=dJ Lp;obtain⟨v',w',hr,ho,hg,_⟩:=nU (P:=prog) w base 22 ty 9 i _ 1 16 underlying22 hi hz h1 h2 rfl (by decide) u n (Q5 xs) h ⟨b,o,none⟩ m c (Q5 ys) (by simp[Q5,hl]) (λj v hj=>by
  have wQ:j<ys.length:=by have:=(Ax.1 hj).1;simpa[Q5]using this
  have ha:(⟨b,o,none⟩:Addr).add j=⟨b,o+j,none⟩:=by unfold Addr.add;split<;>simp_all
  rw[ha,hc j wQ];simp[Q5,wQ]at hj;rw[←hj]) (λv hv=>by
  simp only[Q5,AV]at hv;obtain⟨s,_,rfl⟩:=hv;rfl) (by unfold maxLen;omega) (by omega) hb
 refine⟨v',w',hr,?_,hg⟩;rw[show Q5 (xs++ys)=Q5 xs++Q5 ys by simp[Q5]];exact ho
theorem nh {w:World}{base m c:Nat}{ys:List (List UInt8)}{A:Option Addr}(hs:Strs w A m ys) (ty:TypeId) (hm:m<=1000000) (hb:base<=w.heap.size) (Lp:0<m) :
  ∃u' w',(Builtin.append_ #[22,22] ty #[.slice none 0 0,.slice A m c]).run prog w=.ok u' w'/\w'.ownsRow base 9 1 u' m (Q5 ys)/\Ext w w':=by
 obtain⟨u',w',hr,ho,hg⟩:=Cg (c:=c) (xs:=[]) (EN w base 9 1) hs ty (by omega) hb Lp;rw[Nz]at ho;exact⟨u',w',hr,ho,Fs hg⟩
theorem Gf {ops:Array Oper}{rest:List Oper}{o:Oper}{a:Act}{Q:Exit->Act->World->Prop}{w:World}{m c:Nat}{ys:List (List UInt8)}{A:Option Addr}(base:Nat) (J7:o.guard=none) (sl x:Operand)
  (ho:o.op=.call { callee:=.builtin .append,args:=#[sl,x],argTypes:=#[22,22] }) (hs:a.eval sl=.slice none 0 0) (hx:a.eval x=.slice A m c) (h:Strs w A m ys) (hm:m<=1000000) (hb:base<=w.heap.size) (Lp:0<m)
  (hK:∀u' w',w'.ownsRow base 9 1 u' m (Q5 ys)->Ext w w'->wpList prog ops Q rest (a.put o.dst u') w'):wpList prog ops Q (o::rest) a w:=by
 refine DU J7 λK KM=>?_;obtain⟨v',w',hr,h2,h3⟩:=nh (base:=base) (c:=c) h o.type hm hb Lp;unfold Oper.wp execOp;simp only[ho,resolve,invoke,builtin,Ny,Fb,Mm,bO,P4,Gz,hs,hx,hr];exact KM _ _ (hK v' w' h2 h3)
theorem Jy {ops:Array Oper}{rest:List Oper}{o:Oper}{a:Act}{Q:Exit->Act->World->Prop}{w:World}{n m c:Nat}{u:Value}{xs ys:List (List UInt8)}{A:Option Addr}(base:Nat) (J7:o.guard=none) (sl x:Operand)
  (ho:o.op=.call { callee:=.builtin .append,args:=#[sl,x],argTypes:=#[22,22] }) (hs:a.eval sl=u) (hx:a.eval x=.slice A m c) (h0:w.ownsRow base 9 1 u n (Q5 xs)) (h:Strs w A m ys) (hm:n+m<=1000000) (hb:base<=w.heap.size) (Lp:0<m)
  (hK:∀u' w',w'.ownsRow base 9 1 u' (n+m) (Q5 (xs++ys))->w.grownBy w' u.ownBlock->wpList prog ops Q rest (a.put o.dst u') w'):wpList prog ops Q (o::rest) a w:=by
 refine DU J7 λK KM=>?_;obtain⟨v',w',hr,h2,h3⟩:=Cg (base:=base) (c:=c) h0 h o.type hm hb Lp;unfold Oper.wp execOp;simp only[ho,resolve,invoke,builtin,Ny,Fb,Mm,bO,P4,Gz,hs,hx,hr];exact KM _ _ (hK v' w' h2 h3)
theorem M4 {w:World}{base n:Nat}{v:Value}{l:List UInt8}(h:w.ownsRow base 5 1 v n (Jd l)) (hn:0<n):(convert 167 9 v).run prog w=.ok (.string (Qb l)) w:=by
 have hl:l.length=n:=by have:=h.1;simpa[Jd]using this
 rcases h.2 with⟨_,h0⟩|⟨g,cap,cur,rfl,_,hh,_⟩
 ·omega
 subst hl;refine We6 w 167 9 5 ⟨g,0,none⟩ cap l underlying167 underlying5 underlying9 (λj hj=>?_);have ha:(⟨g,0,none⟩:Addr).add j=⟨g,j,none⟩:=by unfold Addr.add;split<;>simp_all
 rw[ha,h.cellAt (g:=g) j (by omega)];simp[Jd,hj]
theorem Strs.own' {w:World}{base n:Nat}{t:TypeId}{u:Value}{ss:List (List UInt8)}(h:w.ownsRow base t 1 u n (Q5 ss)) (hn:0<n):∃g cap,u=.slice (some ⟨g,0,none⟩) n cap/\base<=g/\Strs w (some ⟨g,0,none⟩) n ss:=by
 have h':=h;rcases h.2 with⟨_,h0⟩|⟨g,cap,cur,rfl,hb,_⟩
 ·omega
 exact⟨g,cap,rfl,hb,GA h'⟩
def Rh (B b:Nat) (l:List UInt8) (w:World):Prop:=Lib.BuilderAt 169 5 B b (.pointer (some ⟨b,0,none⟩)) (Jd l) w
theorem KK (B b:Nat) (l:List UInt8) (w:World) (h:Rh B b l w) :
  Calls prog 183 #[.pointer (some ⟨b,0,none⟩)] w λe w'=>e=.returned (.tuple #[])/\w=w':=by
 have c0:=h.cell0;obtain⟨j,hj⟩:∃j,prog.info? 169=some j:=Option.isSome_iff_exists.1 (by kernel_rfl);have Jt:=Lib.run_neq_ptr_same (P:=prog) w ⟨b,0,none⟩ underlying166 hj;go_enter func183,ntmps183;go_wp2_with fail;go_end0;exact⟨rfl,rfl⟩
theorem RW (w:World) (t:TypeId) (cs:Array Value) (l:List Value) (hl:cs=l.toArray) (j:Nat) (u:Value) (h:l[j]? =some u):(w.alloc (.cells cs t)).cell? ((⟨w.heap.size,0,none⟩:Addr).add j)=some u:=by
 subst hl;have ha:(⟨w.heap.size,0,none⟩:Addr).add j=⟨w.heap.size,j,none⟩:=by unfold Addr.add;split<;>simp_all
 rw[ha,(Qs w t l.toArray).cell j];simpa using h
theorem EQ {l:List Value}(h:l.all (·.oneCell')=true):∀u∈l,u.oneCell'=true:=Rj.1 h
theorem Uj {w:World}{base size n:Nat}{e:TypeId}{v:Value}{xs:List Value}(h:w.ownsRow base e size v n xs) (hn:0<n):∃g cap,v=.slice (some ⟨g,0,none⟩) n cap/\base<=g:=by
 rcases h.2 with⟨_,h0⟩|⟨g,cap,cur,h,hb,_⟩
 ·omega
 ·exact⟨g,cap,h,hb⟩
theorem Rh.put {B b:Nat}{l':List UInt8}{w w1:World}{v v':Value}{row:Option Nat}(hB0:B<=b) (hb:w.heap[b]? =some (.cells #[.pointer (some ⟨b,0,none⟩),v] 169 (0,0))) (Jt:v.ownBlock≠some b)
  (hg:w.grownBy w1 row) (hr:row=v.ownBlock) (Z2:w1.ownsRow B 5 1 v' l'.length (Jd l')):Rh B b l' (w1.setCell ⟨b,1,none⟩ v'):=by
 subst hr;have Vy:Box w1 b 169 #[.pointer (some ⟨b,0,none⟩),v]:=Box.grown hb hg (λe=>Jt e.symm);exact Lib.BuilderAt.put hB0 Vy (by rw[show(Jd l').length=l'.length by simp[Jd]];exact Z2) (by decide)
theorem Mi (B b:Nat) (l s:List UInt8) (w:World) (h:Rh B b l w) (hB:B<=w.heap.size) (hl:l.length<=100000000000) (hs:s.length<=1000000000) :
  Calls prog 118 #[.pointer (some ⟨b,0,none⟩),.string (Qb s)] w λe w'=>e=.returned (.tuple #[.int .i64 s.length,.nilIface])/\Rh B b (l++s) w'/\Below B w w':=by
 obtain⟨hB0,v,hb,Zb,Jt⟩:=h;have HC:=Qa (λw=>KK B b l w);have h:Rh B b l w:=⟨hB0,v,hb,Zb,Jt⟩
 have c1:w.cell? ⟨b,1,none⟩=some v:=Box.cell hb 1;have YW:(Jd l).length=l.length:=by simp[Jd]
 rw[YW]at Zb;have hz:=Qh;go_enter func118,ntmps118;go_wp2_with fail;refine(HC.o _ h).mono ?_;rintro e w1 ⟨rfl,rfl⟩;go_wp2_with (refine Vc rfl (.tmp 12) (.tmp 13) rfl rfl rfl Zb (by omega) hB ?_)
 intro v' w1 Z2 Wp;have Vy:Box w1 b 169 #[.pointer (some ⟨b,0,none⟩),v]:=Box.grown hb Wp (λe=>Jt e.symm);have d0:w1.cell? ⟨b,1,none⟩=some v:=Vy.cell 1;have d1:=Vy.frozen 1;have SC:=@QU w B 1 _ _ v _ Zb;have hbw:Below B w w1:=(qw B w).grown Wp hB (λk e=>SC e);have jj:=Rh.put (l':=l++s) hB0 hb Jt Wp rfl (by rw[VL];exact Z2);rcases Z2.2 with⟨rfl,h0⟩|⟨g,cap,cur,rfl,_⟩
 ·go_wp2_with fail;go_ret2;exact⟨rfl,jj,hbw.setCell (p:=⟨b,1,none⟩) hB0 _⟩
 ·go_wp2_with fail;go_ret2;exact⟨rfl,jj,hbw.setCell (p:=⟨b,1,none⟩) hB0 _⟩
def gS (B b:Nat) (w:World):Prop:=Lib.BuilderAt 169 5 B b (.pointer none) [] w
theorem P5 (B b:Nat) (w:World) (h:gS B b w) :
  Calls prog 183 #[.pointer (some ⟨b,0,none⟩)] w λe w'=>e=.returned (.tuple #[])/\w'=w.setCell ⟨b,0,none⟩ (.pointer (some ⟨b,0,none⟩)):=by
 have hsh:=h.shape;obtain⟨hB0,v,hb,Zb,Jt⟩:=h;have rK:Box w b 169 #[.pointer none,v]:=hb;have c0:w.cell? ⟨b,0,none⟩=some (.pointer none):=rK.cell 0;have f0:=rK.frozen 0;obtain⟨j,hj,hjs⟩:=Option.map_eq_some_iff.1 Tryz.Builder_Extra_169.sizeBuilder;have dG:=λw=>Lib.run_neq_ptr_same (P:=prog) w ⟨b,0,none⟩ underlying166 hj;have Pt:Box (w.setCell ⟨b,0,none⟩ (.pointer (some ⟨b,0,none⟩))) b 169 #[.pointer (some ⟨b,0,none⟩),v]:=rK.set 0 _;have d0:(w.setCell ⟨b,0,none⟩ (.pointer (some ⟨b,0,none⟩))).cell? ⟨b,0,none⟩=some (.pointer (some ⟨b,0,none⟩)):=Pt.cell 0;have hto:=Lib.run_to_unsafe (P:=prog) w ⟨b,0,none⟩ underlying166 underlying281 hj (by rw[hjs];decide) hsh (Nat.zero_lt_succ 1);have Qoh:=Lib.run_from_unsafe (P:=prog) w ⟨b,0,none⟩ underlying281 underlying166 hj hsh Tryz.Builder_Extra_169.liesBuilder;go_enter func183,ntmps183;go_wp2_with fail;rw[run_callFunc_extern func215 (by kernel_rfl) (by kernel_rfl) (by kernel_rfl) (e:=Extern.AbiNoEscape.same) (by kernel_rfl)];rw[Lib.run_noEscape];simp only[Result.andThen];rw[Oper.upon_value];go_wp2_with fail;go_end0;exact⟨rfl,rfl⟩
theorem P6 (B b:Nat) (l:List UInt8) (w:World) (h:gS B b w/\l=[]\/Rh B b l w) (hB:B<=w.heap.size) :
  Calls prog 183 #[.pointer (some ⟨b,0,none⟩)] w λe w'=>e=.returned (.tuple #[])/\Rh B b l w'/\Below B w w'/\Lib.OthersKept 5 (some b) w w':=by
 rcases h with⟨h,rfl⟩|h
 ·refine(P5 B b w h).mono ?_;rintro e w' ⟨rfl,rfl⟩;exact⟨rfl,h.used _,(qw B w).setCell (p:=⟨b,0,none⟩) h.1 _,(Wet _ _ w).setCell ⟨b,0,none⟩ rfl _⟩
 ·refine(KK B b l w h).mono ?_;rintro e w' ⟨rfl,rfl⟩;exact⟨rfl,h,qw B w,Wet _ _ w⟩
theorem kM {w:World}{base size n:Nat}{e:TypeId}{v:Value}{xs:List Value}(h:w.ownsRow base e size v n xs):∀g,v.ownBlock=some g->∃c fz,w.heap[g]? =some (.cells c e fz):=λg hg=>by
 rcases h.2 with⟨rfl,_⟩|⟨g',cap,cur,rfl,_,hh,_⟩
 ·cases hg
 ·injection hg with hg;subst hg;exact⟨cur,(0,0),hh⟩
theorem KC (B b:Nat) (l s:List UInt8) (w:World) (h:gS B b w/\l=[]\/Rh B b l w) (hB:B<=w.heap.size) (hl:l.length<=100000000000) (hs:s.length<=1000000000) :
  Calls prog 118 #[.pointer (some ⟨b,0,none⟩),.string (Qb s)] w λe w'=>e=.returned (.tuple #[.int .i64 s.length,.nilIface])/\Rh B b (l++s) w'/\Below B w w'/\Lib.OthersKept 5 (some b) w w':=by
 have HC:=Qa (P6 B b l w h hB);have hz:=Qh;clear h;go_enter func118,ntmps118;go_wp2_with fail;refine HC.o.mono ?_;rintro e w0 ⟨rfl,⟨hB0,v,hb,Zb,Jt⟩,bw0,ok0⟩;have c1:w0.cell? ⟨b,1,none⟩=some v:=Box.cell hb 1;have YW:(Jd l).length=l.length:=by simp[Jd]
 rw[YW]at Zb;have rI:B<=w0.heap.size:=YR hB bw0.size;go_wp2_with (refine Vc rfl (.tmp 12) (.tmp 13) rfl rfl rfl Zb (by omega) rI ?_)
 intro v' w1 Z2 Wp;have Vy:Box w1 b 169 #[.pointer (some ⟨b,0,none⟩),v]:=Box.grown hb Wp (λe=>Jt e.symm);have d0:w1.cell? ⟨b,1,none⟩=some v:=Vy.cell 1;have d1:=Vy.frozen 1;have SC:=@QU w0 B 1 _ _ v _ Zb;have hbw:Below B w w1:=bw0.grown Wp rI (λk e=>SC e);have Yj:Lib.OthersKept 5 (some b) w w1:=ok0.grown Wp (kM Zb);have jj:=Rh.put (l':=l++s) hB0 hb Jt Wp rfl (by rw[VL];exact Z2);rcases Z2.2 with⟨rfl,h0⟩|⟨g,cap,cur,rfl,_⟩
 ·go_wp2_with fail;go_ret2;exact⟨rfl,jj,hbw.setCell (p:=⟨b,1,none⟩) hB0 _,Yj.setCell ⟨b,1,none⟩ rfl _⟩
 ·go_wp2_with fail;go_ret2;exact⟨rfl,jj,hbw.setCell (p:=⟨b,1,none⟩) hB0 _,Yj.setCell ⟨b,1,none⟩ rfl _⟩
theorem GD (B b:Nat) (l:List UInt8) (w:World) (h:Rh B b l w) (hB:B<=w.heap.size) :
  Calls prog 120 #[.pointer (some ⟨b,0,none⟩)] w λe w'=>e=.returned (.string (Qb l))/\Below B w w'/\Lib.OthersKept 5 (some b) w w':=by
 refine(Tryz.Builder_String_any_k B b l w (.inr (Lib.BuilderAtF.of h)) hB).mono ?_;rintro e w' ⟨rfl,_,hb,hk⟩;exact⟨rfl,hb,hk⟩
theorem NP (B b:Nat) (l:List UInt8) (c:UInt8) (n:Int) (w:World) (h:Rh B b l w) (hB:B<=w.heap.size) (hl:l.length<=100000000000) (hn:n=(c.toNat:Int)) :
  Calls prog 173 #[.pointer (some ⟨b,0,none⟩),.int .u8 n] w λe w'=>e=.returned .nilIface/\Rh B b (l++[c]) w'/\Below B w w':=by
 subst hn;obtain⟨hB0,v,hb,Zb,Jt⟩:=h;have HC:=Qa (λw=>KK B b l w);have h:Rh B b l w:=⟨hB0,v,hb,Zb,Jt⟩
 have c1:w.cell? ⟨b,1,none⟩=some v:=Box.cell hb 1;have YW:(Jd l).length=l.length:=by simp[Jd]
 rw[YW]at Zb;obtain⟨i0,hi,hz0,AE,Da⟩:=AW Wj;have Qn:b<w.heap.size:=Box.lt hb;go_enter func173,ntmps173;go_wp2_with fail;refine(HC.o _ h).mono ?_;rintro e w1 ⟨rfl,rfl⟩;go_wp2_with (at_builtin;refine wpList_append_own _ rfl _ _ 167 rfl B 5 i0 (.int .u8 0) 1 1 underlying167 hi hz0 AE Da rfl (by decide) _ _ _ rfl (Zb.alloc _) ⟨w.heap.size,0,none⟩ 1 1 [.int .u8 (c.toNat:Int)] rfl rfl (RW _ _ _ _ rfl) (EQ rfl) (by unfold maxLen;omega) (by omega) (by simp;omega) ?_)
 intro v' w1 Z2 Wp _;obtain⟨g',cap',rfl,FM⟩:=Uj Z2 (by omega);have Vy:Box w1 b 169 #[.pointer (some ⟨b,0,none⟩),v]:=(Box.ext hb ((Qg w).alloc _)).grown Wp (λe=>Jt e.symm);have d0:w1.cell? ⟨b,1,none⟩=some v:=Vy.cell 1;have d1:=Vy.frozen 1;have SC:=@QU w B 1 _ _ v _ Zb;go_wp2_with fail;go_ret;refine⟨rfl,?_,?_⟩
 ·refine Lib.BuilderAt.put hB0 Vy ?_ (by decide);rw[show(Jd (l++[c])).length=l.length+1 by simp[Jd],show Jd (l++[c])=Jd l++[.int .u8 (c.toNat:Int)] by simp[Jd]];exact Z2
 ·exact(((qw B w).alloc hB _).grown Wp (by simp;omega) (λk e=>SC e)).setCell (p:=⟨b,1,none⟩) hB0 _
def YE (ss:List (List UInt8)):Nat:=(ss.map λs=>s.length+4).sum
theorem Nl (ss:List (List UInt8)) (k:Nat) (h:k<ss.length):YE (ss.take (k+1))=YE (ss.take k)+(ss[k].length+4):=by
 unfold YE;rw[Gp h,bS,List.sum_append];simp
theorem Nk (ss:List (List UInt8)) (k:Nat):YE (ss.take k)<=YE ss:=by
 have:YE ss=YE (ss.take k)+YE (ss.drop k):=by
  conv=>lhs;rw[←vk k ss]
  unfold YE;rw[bS,List.sum_append]
 omega
theorem BQ (ss:List (List UInt8)):(Yt ss).length<=2*YE ss:=by
 induction ss with
 | nil=>simp[Yt]
 | cons s ss ih => have:=Df s.length;rw[Ng];unfold YE at *;simp only[VL,P4,na];omega
theorem Ep (ss:List (List UInt8)) (k:Nat) (h:k<ss.length):Yt (ss.take (k+1))=Yt (ss.take k)++(Xt ss[k].length++ss[k]):=by
 rw[Gp h,ew]
theorem Qcq (m:Nat):bits .or .u8 ((m:Int)%128) 128=(((m%128+128:Nat)):Int):=by
 have e:((m:Int)%128)=((m%128:Nat):Int):=by omega
 rw[e,show(128:Int)=((128:Nat):Int) from rfl,u8_or_nat (m%128) 128 (by omega) (by omega)];congr 1;have:=Wds (i:=7) (b:=m%128) (by omega) 1;rw[Nat.or_comm]at this;simp at this;omega
theorem US (A:Option Addr) (n c:Nat) (ss:List (List UInt8)) (w:World) (hs:Strs w A n ss) (UC:YE ss<=1000000000) (hn:n<=1000000000) :
  Calls prog 101 #[.slice A n c] w λe w'=>e=.returned (.string (Qb (Yt ss)))/\Ext w w':=by
 have hz:=Qh;obtain rfl:=hs.1;go_enter func101,ntmps101;go_wp2_with fail;go_loop [3,5,12] (λt _ i=>∃k:Nat,k<=ss.length/\i=.int .i64 k/\t=.int .i64 (YE (ss.take k):Nat)) (λ_ _ i=>ss.length-(intOf i).toNat);case atStart=>exact⟨0,by omega,rfl,rfl⟩
 case round =>
  obtain⟨k,hk,rfl,rfl⟩:=hrel;by_cases Qn:k<ss.length
  ·obtain⟨b,o,rfl,Qf⟩:=hs.2 (by omega);have ND:=Qf k Qn;have Kq:=Qa (Nl ss k Qn);have Nt:=Nk ss (k+1);rw[Nl ss k Qn]at Nt;clear Qf;go_wp2_with fail;go_round;case rel=>exact⟨k+1,by omega,by go_num,by rw[Kq.o];go_num⟩
   case measure=>simp[intOf];omega
  ·obtain rfl:k=ss.length:=by omega
   have Nt:=Nk ss ss.length;go_wp2_with fail;refine(Tryz.Builder_Grow_fresh w.heap.size w.heap.size (YE ss) _ (Q4 _) (heap_alloc_new w _) (by simp) (by omega)).mono ?_;rintro e w1 ⟨rfl,Vy,hB1⟩;have ml:Ext w w1:=tD ((Qg w).alloc _) hB1;have E6:Rh w.heap.size w.heap.size [] w1:=Vy;clear Vy hB1;go_wp2_with fail;obtain⟨wo,rfl⟩:∃wo:World,wo=w1:=⟨_,rfl⟩
   go_loopw [8,9,26] (λ_ _ i wr=>∃k:Nat,k<=ss.length/\i=.int .i64 k/\Rh w.heap.size w.heap.size (Yt (ss.take k)) wr/\Ext w wr) (λ_ _ i _=>ss.length-(intOf i).toNat);case atStart=>exact⟨0,by omega,rfl,E6,ml⟩
   case round =>
    clear E6 ml Nt hk Qn;obtain⟨k,hk,rfl,Gt,hxr⟩:=hrel;have jk:=BQ (ss.take k);have jl:=Nk ss k;by_cases Qn:k<ss.length
    ·obtain⟨b,o,rfl,Qf⟩:=hs.2 (by omega);have ND:=hxr.keep (Qf k Qn);have hrt:=Qa (Ep ss k Qn);have Nt:=Nk ss (k+1);rw[Nl ss k Qn]at Nt;clear Qf;generalize ss[k]=s at *;generalize rS:Yt (ss.take k)=r at *;clear rS;go_wp2_with fail;obtain⟨wm,rfl⟩:∃wm:World,wm=wr:=⟨_,rfl⟩
     go_loopw [9] (λt wr=>∃(m:Nat) (p:List UInt8),t=.int .i64 m/\Rh w.heap.size w.heap.size (r++p) wr/\Ext w wr/\p++Xt m=Xt s.length/\p.length+m<=s.length) (λt _=>(intOf t).toNat);case atStart=>exact⟨s.length,[],rfl,by simpa using Gt,hxr,rfl,by simp⟩
     case round =>
      clear Gt hxr ND;obtain⟨m,p,rfl,Gt,hxr,hpm,XS⟩:=hrel;have CP:(r++p).length<=100000000000:=by rw[VL];omega
      have VD:=hxr.size;by_cases hm:m<128
      ·have HL:=Qa (show p++[UInt8.ofNat m]=Xt s.length by rw[←hpm,UG hm]);have u1:IntKind.u8.wrap (m:Int)=m:=by rw[zb];omega
       have hb8:=Qa (show(m:Int)=((UInt8.ofNat m).toNat:Int) by simp[UInt8.toNat_ofNat'];omega);clear hpm;go_wp2_with fail;refine(NP _ _ _ (UInt8.ofNat m) _ wr Gt VD CP hb8.o).mono ?_;rintro e w5 ⟨rfl,hbl5,hB5⟩;have hx5:Ext w w5:=tD hxr hB5;have Qk9:=hx5.size;go_wp2_with fail;refine(Mi _ _ _ s w5 hbl5 Qk9 (by simp only[VL,XN,Mn];omega) (by omega)).mono ?_;rintro e w6 ⟨rfl,hbl6,hB6⟩;have hx6:Ext w w6:=tD hx5 hB6;go_wp2_with fail;go_roundw;case rel => refine⟨k+1,by omega,by go_num,?_,hx6⟩;rw[hrt.o,←HL.o];simpa[iR]using hbl6
       case measure=>simp[intOf];omega
      ·have HL:=Qa (show(p++[UInt8.ofNat (m%128+128)])++Xt (m/128)=Xt s.length by rw[←hpm,LA hm];simp);have u0:=i64_and127 (m:Int);have u1:IntKind.u8.wrap ((m:Int)%128)=(m:Int)%128:=by rw[zb];omega
       have u2:=Qcq m;have hb8:=Qa (show((m:Int)%128+128)=((UInt8.ofNat (m%128+128)).toNat:Int) by simp[UInt8.toNat_ofNat'];omega);clear hpm;go_wp2_with fail;refine(NP _ _ _ (UInt8.ofNat (m%128+128)) _ wr Gt VD CP hb8.o).mono ?_;rintro e w5 ⟨rfl,hbl5,hB5⟩;have hx5:Ext w w5:=tD hxr hB5;rw[iR]at hbl5;clear u0 u1 u2;go_wp2_with fail;go_roundw;case rel=>exact⟨m/128,_,by go_num,hbl5,hx5,HL.o,by simp only[VL,XN,Mn];omega⟩
       case measure=>simp[intOf];omega
    ·obtain rfl:k=ss.length:=by omega
     have VD:=hxr.size;go_wp2_with fail;refine(Tryz.Builder_String_any w.heap.size w.heap.size (Yt (ss.take ss.length)) _ (.inr Gt) VD).mono ?_;rintro e w5 ⟨rfl,hB5⟩;go_wp2_with fail;go_ret;exact⟨rfl,tD hxr hB5⟩
theorem tI (c:UInt8):bits .and .u8 (c.toNat:Int) 127=((c.toNat%128:Nat):Int):=by
 have hc:=c.toNat_lt;rw[show(127:Int)=((127:Nat):Int) from rfl,u8_and_nat c.toNat 127 hc (by omega)];congr 1;exact Nat.and_two_pow_sub_one_eq_mod c.toNat 7
theorem SH (a b:Nat) (ha:a<9223372036854775808) (hb:b<9223372036854775808):bits .or .i64 (a:Int) (b:Int)=((a ||| b:Nat):Int):=by
 have hx:a ||| b<2^63:=Nat.or_lt_two_pow (by omega) (by omega)
 show IntKind.i64.wrap ((BitVec.ofInt 64 (a:Int) ||| BitVec.ofInt 64 (b:Int)).toNat:Int)=_;have e:∀x:Nat,x<9223372036854775808->(BitVec.ofInt 64 (x:Int)).toNat=x:=λx hx=>by rw[BitVec.ofInt_natCast,BitVec.toNat_ofNat];exact Nat.mod_eq_of_lt (by omega)
 rw[BitVec.toNat_or,e a ha,e b hb,Wb];omega
theorem T1 (n d k:Nat) (hn:n<2^k) (hk:k<=21) (hd:d<128):bits .or .i64 (n:Int) (((d*2^k:Nat)):Int)=(((n+d*2^k:Nat)):Int):=by
 have hp:2^k<=2^21:=sw (by omega) hk;have h21:(2:Nat)^21=2097152:=by decide
 have hm:d*2^k<=127*2097152:=Nat.mul_le_mul (by omega) (by omega);rw[SH n (d*2^k) (by omega) (by omega)];congr 1;have:=Wds hn d;rw[Nat.or_comm,Nat.mul_comm d,←this];omega
theorem LB (b:List UInt8) (k n:Nat) (h:k<b.length):Zq (b.drop k) k n=if k=3/\128<=b[k].toNat then (0,0,3) else if 128<=b[k].toNat then Zq (b.drop (k+1)) (k+1) (n+b[k].toNat%128*128^k) else if b[k].toNat=0/\0<k then (0,0,3) else (n+b[k].toNat*128^k,k+1,0):=by
 rw[fj h];rfl
theorem lF {a b:Int}{x y:Value}(h:a=b):Ending.returned (.tuple #[.int .i64 a,x,y])=.returned (.tuple #[.int .i64 b,x,y]):=by rw[h]
theorem SS (b:List UInt8) (w:World) (hb:b.length<=1000000000) :
  Calls prog 220 #[.string (Qb b)] w λe w'=>e=.returned (.tuple #[.int .i64 (Qm b).1,.int .i64 (Qm b).2.1,.int .i64 (Qm b).2.2])/\w=w':=by
 have hz:(Qb b).size=b.length:=Qh b;go_enter func220,ntmps220;go_wp2_with fail;go_loop [5,6,7,10] (λt _ _ i=>∃k n:Nat,k<=b.length/\k<=3/\n<128^k/\i=.int .i64 k/\t=.int .i64 n/\Zq (b.drop k) k n=Qm b) (λ_ _ _ i=>b.length-(intOf i).toNat);case atStart=>exact⟨0,0,by omega,by omega,by decide,rfl,rfl,rfl⟩
 case round =>
  obtain⟨k,n,hk,hk3,hn,rfl,rfl,hF⟩:=hrel;by_cases Qn:k<b.length
  ·rw[LB b k n Qn]at hF;have Az:(Qb b)[k]'(by rw[hz];exact Qn)=b[k]:=rfl;have ha:=tI b[k];have hc:=b[k].toNat_lt;have HF:=Qa hF;clear hF;generalize b[k]=ch at *;rcases(by omega:k=0\/k=1\/k=2\/k=3) with rfl|rfl|rfl|rfl
   ·have FN:n<1:=by simpa using hn
    have ho:bits .or .i64 (n:Int) ((ch.toNat:Int)%128)=(((n+ch.toNat%128*1:Nat)):Int):=by have:=T1 n (ch.toNat%128) 0 (by simpa using FN) (by omega) (by omega);rw[show((ch.toNat:Int)%128)=(((ch.toNat%128*2^0:Nat)):Int) by omega,this]
    clear hn;by_cases h1:128<=ch.toNat
    ·have HN:=Qa (show Zq (b.drop 1) 1 (n+ch.toNat%128*1)=Qm b by rw[←HF.o,QD (by omega),QN h1]);go_wp2_with fail;exact⟨⟨1,n+ch.toNat%128*1,by omega,by omega,by simp only[Nat.reducePow];omega,rfl,by first|rfl|(rw[ho];done)|go_num,HN.o⟩,by simp[intOf];omega⟩
    ·by_cases h0:ch.toNat=0
     ·have HN:=Qa (show Qm b=(n+ch.toNat%128*1,1,0) by rw[←HF.o,QD (by omega),QD h1,QD (by omega),show ch.toNat%128=ch.toNat by omega]);have d0:((ch.toNat:Int)==0)=true:=by simp[h0]
      have d1:(ch.toNat:Int)<128:=by omega
      clear h0 h1;go_wp2_with fail;go_ret3;rw[HN.o];exact⟨lF (by omega),rfl⟩
     ·have HN:=Qa (show Qm b=(n+ch.toNat%128*1,1,0) by rw[←HF.o,QD (by omega),QD h1,QD (by omega),show ch.toNat%128=ch.toNat by omega]);have d0:((ch.toNat:Int)==0)=false:=by simpa using h0
      go_wp2_with fail;go_ret3;rw[HN.o];exact⟨lF (by omega),rfl⟩
   ·have FN:n<128:=by simpa using hn
    have ho:bits .or .i64 (n:Int) ((ch.toNat:Int)%128*128)=(((n+ch.toNat%128*128:Nat)):Int):=by have:=T1 n (ch.toNat%128) 7 (by simpa using FN) (by omega) (by omega);rw[show((ch.toNat:Int)%128*128)=(((ch.toNat%128*2^7:Nat)):Int) by omega,this]
    clear hn;by_cases h1:128<=ch.toNat
    ·have HN:=Qa (show Zq (b.drop 2) 2 (n+ch.toNat%128*128)=Qm b by rw[←HF.o,QD (by omega),QN h1]);go_wp2_with fail;exact⟨⟨2,n+ch.toNat%128*128,by omega,by omega,by simp only[Nat.reducePow];omega,rfl,by first|rfl|(rw[ho];done)|go_num,HN.o⟩,by simp[intOf];omega⟩
    ·by_cases h0:ch.toNat=0
     ·have HN:=Qa (show Qm b=(0,0,3) by rw[←HF.o,QD (by omega),QD h1,QN (by omega)]);have d0:((ch.toNat:Int)==0)=true:=by simp[h0]
      have d1:(ch.toNat:Int)<128:=by omega
      clear h0 h1;go_wp2_with fail;go_ret3;rw[HN.o];exact⟨rfl,rfl⟩
     ·have HN:=Qa (show Qm b=(n+ch.toNat%128*128,2,0) by rw[←HF.o,QD (by omega),QD h1,QD (by omega),show ch.toNat%128=ch.toNat by omega]);have d0:((ch.toNat:Int)==0)=false:=by simpa using h0
      go_wp2_with fail;go_ret3;rw[HN.o];exact⟨lF (by omega),rfl⟩
   ·have FN:n<16384:=by simpa using hn
    have ho:bits .or .i64 (n:Int) ((ch.toNat:Int)%128*16384)=(((n+ch.toNat%128*16384:Nat)):Int):=by have:=T1 n (ch.toNat%128) 14 (by simpa using FN) (by omega) (by omega);rw[show((ch.toNat:Int)%128*16384)=(((ch.toNat%128*2^14:Nat)):Int) by omega,this]
    clear hn;by_cases h1:128<=ch.toNat
    ·have HN:=Qa (show Zq (b.drop 3) 3 (n+ch.toNat%128*16384)=Qm b by rw[←HF.o,QD (by omega),QN h1]);go_wp2_with fail;exact⟨⟨3,n+ch.toNat%128*16384,by omega,by omega,by simp only[Nat.reducePow];omega,rfl,by first|rfl|(rw[ho];done)|go_num,HN.o⟩,by simp[intOf];omega⟩
    ·by_cases h0:ch.toNat=0
     ·have HN:=Qa (show Qm b=(0,0,3) by rw[←HF.o,QD (by omega),QD h1,QN (by omega)]);have d0:((ch.toNat:Int)==0)=true:=by simp[h0]
      have d1:(ch.toNat:Int)<128:=by omega
      clear h0 h1;go_wp2_with fail;go_ret3;rw[HN.o];exact⟨rfl,rfl⟩
     ·have HN:=Qa (show Qm b=(n+ch.toNat%128*16384,3,0) by rw[←HF.o,QD (by omega),QD h1,QD (by omega),show ch.toNat%128=ch.toNat by omega]);have d0:((ch.toNat:Int)==0)=false:=by simpa using h0
      go_wp2_with fail;go_ret3;rw[HN.o];exact⟨lF (by omega),rfl⟩
   ·have FN:n<2097152:=by simpa using hn
    have ho:bits .or .i64 (n:Int) ((ch.toNat:Int)%128*2097152)=(((n+ch.toNat%128*2097152:Nat)):Int):=by have:=T1 n (ch.toNat%128) 21 (by simpa using FN) (by omega) (by omega);rw[show((ch.toNat:Int)%128*2097152)=(((ch.toNat%128*2^21:Nat)):Int) by omega,this]
    clear hn;by_cases h1:128<=ch.toNat
    ·have HN:=Qa (show Qm b=(0,0,3) by rw[←HF.o,QN ⟨rfl,h1⟩]);go_wp2_with fail;go_ret3;rw[HN.o];exact⟨rfl,rfl⟩
    ·by_cases h0:ch.toNat=0
     ·have HN:=Qa (show Qm b=(0,0,3) by rw[←HF.o,QD (by omega),QD h1,QN (by omega)]);have d0:((ch.toNat:Int)==0)=true:=by simp[h0]
      have d1:(ch.toNat:Int)<128:=by omega
      clear h0 h1;go_wp2_with fail;go_ret3;rw[HN.o];exact⟨rfl,rfl⟩
     ·have HN:=Qa (show Qm b=(n+ch.toNat%128*2097152,4,0) by rw[←HF.o,QD (by omega),QD h1,QD (by omega),show ch.toNat%128=ch.toNat by omega]);have d0:((ch.toNat:Int)==0)=false:=by simpa using h0
      go_wp2_with fail;go_ret3;rw[HN.o];exact⟨lF (by omega),rfl⟩
  ·obtain rfl:k=b.length:=by omega
   have HN:=Qa (show Qm b=(0,0,4) by rw[←hF,vr];rfl);clear hF;go_wp2_with fail;go_ret3;rw[HN.o];exact⟨rfl,rfl⟩
def rd (t:Value):Nat:=match t with|.string s=>s.size|_=>0
def TO (d:List (List UInt8)) (r:List (List UInt8) × Int):List (List UInt8) × Int:=if r.2≠0 then ([],r.2) else (d++r.1,0)
theorem XV {d:List (List UInt8)}{r:List (List UInt8) × Int}(h:r.2≠0):TO d r=([],r.2):=QN h
theorem Wt {d:List (List UInt8)}{r:List (List UInt8) × Int}(h:r.2=0):TO d r=(d++r.1,0):=QD (by simpa using h)
theorem PL (d:List (List UInt8)) (b:List UInt8) (hb:b≠[]) (he:(Qm b).2.2=0) (hl:¬(b.drop (Qm b).2.1).length<(Qm b).1) :
  TO d (Qv b)=TO (d++[(b.drop (Qm b).2.1).take (Qm b).1]) (Qv ((b.drop (Qm b).2.1).drop (Qm b).1)):=by
 rw[Yf b hb,QD (by simpa using he),QD hl];by_cases h:(Qv ((b.drop (Qm b).2.1).drop (Qm b).1)).2=0
 ·rw[QD (by simpa using h),Wt rfl,Wt h];simp
 ·rw[QN h];exact(XV (r:=([],_)) h).trans (XV h).symm
theorem FR (b:List UInt8):TO [] (Qv b)=Qv b:=by
 by_cases h:(Qv b).2=0
 ·rw[Wt h];exact Prod.ext rfl h.symm
 ·rw[XV h];exact Prod.ext (Oe b h).symm rfl
theorem fM (b:List UInt8) (w:World) (hb:b.length<=1000000000) :
  Calls prog 189 #[.string (Qb b)] w λe w'=>∃u,e=.returned (.tuple #[u,.int .i64 (Qv b).2])/\Ext w w'/\w'.ownsRow w.heap.size 9 1 u (Qv b).1.length (Q5 (Qv b).1):=by
 have hz:=Qh;have hse:=J6;obtain⟨i0,hi,hz0,AE,Da⟩:=AW MJ;go_enter func189,ntmps189;go_wp2_with fail;go_loopw [0,4,5,6,7] (λt l _ _ _ wr=>∃(d:List (List UInt8)) (r:List UInt8),t=.string (Qb r)/\wr.ownsRow w.heap.size 9 1 l d.length (Q5 d)/\Ext w wr/\d.length+r.length<=b.length/\TO d (Qv r)=Qv b) (λt _ _ _ _ _=>rd t);case atStart=>exact⟨[],b,rfl,EN _ _ _ _,Qg _,by simp,FR b⟩
 case round =>
  obtain⟨d,r,rfl,Zb,hx,Nt,hj⟩:=hrel;have uP:=hx.size;by_cases hr:r=[]
  ·subst hr;have HJ:=Qa (show Qv b=(d,0) by rw[←hj,UU,Wt rfl];simp);clear hj;have gC:([]:List UInt8).length=0:=rfl;go_wp2_with fail;go_ret2;rw[HJ.o];exact⟨_,rfl,hx,Zb⟩
  ·have hrp:0<r.length:=sx.2 hr;have HL:=Qa (λw=>SS r w (by omega));by_cases he:(Qm r).2.2=0
   ·have hu:=Xu r he;have HE:=Qa he;by_cases hs:(r.drop (Qm r).2.1).length<(Qm r).1
    ·have HJ:=Qa (show Qv b=([],4) by rw[←hj,Yf r hr,QD (by simpa using he),QN hs,XV (by decide)]);clear hj he;go_wp2_with fail;refine(HL.o _).mono ?_;rintro e w1 ⟨rfl,rfl⟩;rw[HE.o];rw[Nx]at hs;generalize (Qm r).1=n at *;generalize (Qm r).2.1=u at *;have AC:((r.length-u:Nat):Int)<(n:Int):=by omega
     go_wp2_with fail;go_ret2;rw[HJ.o];exact⟨_,rfl,hx,EN _ _ _ _⟩
    ·have HJ:=Qa ((PL d r hr he hs).symm.trans hj);clear hj he;go_wp2_with fail;refine(HL.o _).mono ?_;rintro e w1 ⟨rfl,rfl⟩;rw[HE.o];rw[Nx]at hs;generalize (Qm r).1=n at *;generalize (Qm r).2.1=u at *;have AC:¬((r.length-u:Nat):Int)<(n:Int):=by omega
     have e1:List.take (r.length-u) (List.drop u r)=List.drop u r:=qr (by rw[Nx];omega);go_wp2_with (at_builtin;refine wpList_append_own _ rfl _ _ 22 rfl w.heap.size 9 i0 (.string ⟨#[]⟩) 1 16 underlying22 hi hz0 AE Da rfl (by decide) _ _ _ rfl (Zb.alloc _) ⟨wr.heap.size,0,none⟩ 1 1 [.string (Qb (List.take n (List.drop u r)))] rfl rfl (RW _ _ _ _ rfl) (EQ rfl) (by unfold maxLen;omega) (by omega) (by simp;omega) ?_)
     intro v' w1 Z2 Wp _;have SC:=@QU wr w.heap.size 1 _ _ u4 _ Zb;have x1:Ext w w1:=(hx.alloc _).grown Wp (λk e=>SC e);have JP:w1.ownsRow w.heap.size 9 1 v' (d++[List.take n (List.drop u r)]).length (Q5 (d++[List.take n (List.drop u r)])):=by rw[show Q5 (d++[List.take n (List.drop u r)])=Q5 d++[.string (Qb (List.take n (List.drop u r)))] by simp[Q5],VL];exact Z2
     clear Z2 Wp SC;go_wp2_with fail;go_roundw;case rel =>
      refine⟨_,List.drop n (List.drop u r),?_,JP,x1,?_,HJ.o⟩
      ·rw[nf,qr (by rw[Nx];omega)]
      ·simp only[VL,Nx,XN,Mn];omega
     case measure=>simp only[rd,Qh,MT,Nx];omega
   ·have HJ:=Qa (show Qv b=([],(Qm r).2.2) by rw[←hj,Yf r hr,QN he,XV he]);clear hj;have d1:((Qm r).2.2 != 0)=true:=by simpa using he
    have HE:=Qa he;clear he;go_wp2_with fail;refine(HL.o _).mono ?_;rintro e w1 ⟨rfl,rfl⟩;generalize (Qm r).2.2=er at *;go_wp2_with fail;go_ret2;rw[HJ.o];exact⟨_,rfl,hx,EN _ _ _ _⟩
theorem Gh {ops:Array Oper}{rest:List Oper}{o:Oper}{a:Act}{Q:Exit->Act->World->Prop}{w:World}{c:Nat}(base:Nat) (J7:o.guard=none) (x y:Operand)
  (ho:o.op=.makeSlice 22 x y) (hx:a.eval x=.int .i64 0) (hy:a.eval y=.int .i64 c) (hc:c<=100000) (hb:base<=w.heap.size)
  (hK:∀w',w'.ownsRow base 9 1 (.slice (some ⟨w.heap.size,0,none⟩) 0 c) 0 (Q5 [])->Ext w w'->wpList prog ops Q rest (a.put o.dst (.slice (some ⟨w.heap.size,0,none⟩) 0 c)) w'):wpList prog ops Q (o::rest) a w:=by
 refine DU J7 λK KM=>?_;obtain⟨i,hi,hz,h1,h2⟩:=AW MJ;obtain⟨w',hr,ho',hg⟩:=run_make_own (P:=prog) w base 22 9 i _ 1 underlying22 hi hz h1 .i64 .i64 c (by rw[h2];omega) (by unfold maxLen;omega) hb;unfold Oper.wp execOp;simp only[ho,hx,hy,Ny,Fb,Mm,hr];exact KM _ _ (hK w' ho' (Fs hg))
end Go.Proofs.YtfaplefkakpgcaaGreatDoor
