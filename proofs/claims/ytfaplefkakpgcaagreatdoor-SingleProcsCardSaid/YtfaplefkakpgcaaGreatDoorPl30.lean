import Derived.Test.YtfaplefkakpgcaaGreatDoorPl14
import Derived.Test.YtfaplefkakpgcaaGreatDoorPl23
set_option linter.unusedVariables false
set_option linter.unusedSimpArgs false
set_option maxHeartbeats 32000000
set_option maxRecDepth 100000
namespace Go.Proofs.YtfaplefkakpgcaaGreatDoor
open Go.Proofs.Tryz
open Go.RowKit Go.Shelf
def ZA (f:Nat->Int) (k:Nat):Array Value:=((List.range 70).map λj=>Value.int .i64 (if j<k then f j else 0)).toArray
theorem YK (f:Nat->Int) (k:Nat):(ZA f k).size=70:=by simp[ZA]
theorem dy (f:Nat->Int) (k:Nat):(ZA f k).setIfInBounds k (.int .i64 (f k))=ZA f (k+1):=by
 apply Array.ext_getElem?;intro j;unfold ZA;simp only[vg,MR];rw[List.getElem?_set,fo,fo];by_cases hj:j<70
 ·rw[mS hj];by_cases e:k=j
  ·subst e;rw[QN rfl,QN (by simp;omega)];simp
  ·rw[QD e];simp only[vt];congr 2;by_cases h1:j<k
   ·rw[QN h1,QN (by omega)]
   ·rw[QD h1,QD (by omega)]
 ·rw[mQ (by simp;omega)];by_cases e:k=j
  ·subst e;rw[QN rfl,QD (by simp;omega)];rfl
  ·rw[QD e];rfl
theorem F7 (f:Nat->Int) (k:Nat):(ZA f k).all (·.oneCell')=true:=all_oneCell_toArray (λv hv=>by
 obtain⟨j,_,rfl⟩:=AV.1 hv;rfl)
theorem kN (f:Nat->Int) (k j:Nat) (hj:j<70) (hk:j<k):(ZA f k)[j]? =some (.int .i64 (f j)):=by
 unfold ZA;rw[MR,fo,mS hj];simp only[vt,QN hk]
theorem Ik (f:Nat->Int):ZA f 0=Array.replicate 70 (.int .i64 0):=by
 unfold ZA;simp only[zT,if_false];rfl
theorem Ch:(prog.info? 237).map (·.size)=some 70:=by kernel_rfl
theorem EY (g:Nat) (s:Sl) (F:QH) (w:World) (h:Box w g 162 (YS s F)) (hr:Strs w s.A s.n F.v) (hF:JB F) :
  Calls prog 181 #[.pointer (some ⟨g,0,none⟩)] w λe w'=>e=.returned (.agg (ZA (VT F.v F.I F.x) 70))/\Ext w w':=by
 have mF:=Qa (λk hk w h hr=>oM g s F k w h hr hF hk);have HBX:=Qa h;have HR:=Qa hr;clear h hr hF;generalize VT F.v F.I F.x=f at *;have hP:=Qa (Ik f);go_enter func181,ntmps181;go_upto_region 2 with fail;have Qcf:Tryz.zeroCells237=Array.replicate 70 (.int .i64 0):=by kernel_rfl
 rw[Qcf,←hP.o];have x0:=((Qg w).alloc (.cells (ZA f 0) 237)).alloc (.cells (ZA f 0) 237);have b2:=(Qs w 237 (ZA f 0)).ext ((Qg _).alloc (.cells (ZA f 0) 237));have b3:=Qs (w.alloc (.cells (ZA f 0) 237)) 237 (ZA f 0);rw[YB]at b3;clear Qcf hP;generalize (w.alloc (.cells (ZA f 0) 237)).alloc (.cells (ZA f 0) 237)=w1 at *;generalize hG:w.heap.size=G at *;go_upto_region 3 with fail;go_loopw [4,5] (λ_ i wx=>∃k:Nat,k<=70/\i=.int .i64 k/\Ext w wx/\Box wx G 237 (ZA f 0)/\Box wx (G+1) 237 (ZA f k)) (λ_ i _=>70-(intOf i).toNat);case atStart=>exact⟨0,by omega,rfl,x0,b2,b3⟩
 case round =>
  clear b2 b3 x0;obtain⟨k,hk,rfl,xk,c2,c3⟩:=hrel;have HX:=Qa xk;have C2:=Qa c2;have C3:=Qa c3;by_cases Qn:k<70
  ·have Y6:(k:Int)<70:=by omega
   have HAk:=Qa (mF.o k Qn wr (HBX.o.ext xk) (HR.o.ext xk));clear xk c2 c3;go_wp2_with (go_at_call 214;refine HAk.o.mono ?_;rintro e w4 ⟨rfl,x4⟩;have d3:=C3.o.ext x4;have f3:=d3.frozen k;have k3:w4.cell? ⟨G+1,k,none⟩=some (.int .i64 0):=(d3.cell k).trans (by unfold ZA;rw[MR,fo,mS Qn];simp);have D3:=Qa d3;have X4:=Qa x4;clear d3 x4)
   go_roundw;case rel=>exact⟨k+1,by omega,by go_num,(HX.o.trans X4.o).setCell (by rw[hG];exact WQ _) _,(C2.o.ext X4.o).far (p:=⟨G+1,k,none⟩) (by show G≠G+1;omega) _,by have:=D3.o.set k (.int .i64 (f k));rw[dy]at this;exact this⟩
   case measure=>simp[intOf];omega
  ·have Vq:¬(k:Int)<70:=by omega
   obtain rfl:k=70:=by omega
   clear xk c2 c3
   go_wp2_with (first
    | (refine J2 237 (.tmp 3) rfl rfl (G+1) (ZA f 70) 237 _ rfl C3.o underlying237 rfl (by rw[YK];exact Ch) ?_)
    | (refine JU 237 (.tmp 2) (.tmp 14) rfl rfl G (ZA f 70) _ 237 rfl rfl C2.o (by rw[YK];exact Ch) (by rw[YK,YK]) (F7 f 70) ?_;intro w6 b6 g6))
   exact Jv (QQ rfl _ _ G _ _ _ rfl b6 underlying237 rfl (by rw[YK];exact Ch)) rfl ⟨rfl,HX.o.grown g6 (λj e=>by cases e;rw[hG];exact Q4 _)⟩
def rl (f:Nat->Int) (c:Int) (w:World) (e:Ending) (w':World):Prop :=
 ∃b1 b2,e=.returned (.func (.func 182) #[] #[.pointer (some ⟨b1,0,none⟩),.pointer (some ⟨b2,0,none⟩)])/\Box w' b1 237 (ZA f 70)/\Box w' b2 3 #[.int .i64 c]/\w.heap.size<=b1/\w.heap.size<=b2/\b1≠b2
theorem So (g:Nat) (s:Sl) (F:QH) (c:Int) (w:World) (h:Box w g 162 (YS s F)) (hr:Strs w s.A s.n F.v) (hF:JB F) :
  Calls prog 117 #[.pointer (some ⟨g,0,none⟩),.int .i64 c] w λe w'=>rl (VT F.v F.I F.x) c w e w'/\Ext w w':=by
 have ou:∀(fn:Fn) (first cap:Array Value) (w:World),(Instr.makeFunc fn first cap).run prog w=.ok (.func fn first cap) w:=λ_ _ _ _=>rfl;have x0:=(Qg w).alloc (.cells #[.int .i64 c] 3);have b0:=Qs w 3 #[.int .i64 c];have HN:=Qa (EY g s F _ (h.ext x0) (hr.ext x0) hF);clear h hr hF;generalize VT F.v F.I F.x=f at *;go_enter func117,ntmps117
 go_upto_region 2 with(first
  | (go_at_call 181;refine HN.o.mono ?_;rintro e w2 ⟨rfl,x2⟩)
  | (refine JU 237 (.tmp 5) (.tmp 7) rfl rfl w2.heap.size (ZA f 70) Tryz.zeroCells237 237 rfl rfl (Qs _ _ _) (by rw[YK];exact Ch) (by rw[YK];kernel_rfl) (F7 f 70) ?_;intro w3 b3 g3))
 have xa:Ext w2 (w2.alloc (.cells Tryz.zeroCells237 237)):=(Qg w2).alloc _;have G6:Ext w2 w3:=xa.grown g3 (λj e=>by cases e;exact Q4 _);have b03:=(b0.ext x2).ext G6;have xx:=(x0.trans x2).trans G6;have Qn:=(b0.ext x2).lt;have VD:=(x0.trans x2).size;clear g3;go_wp2_with fail;go_ret;exact⟨⟨w2.heap.size,w.heap.size,rfl,b3,b03,VD,Q4 _,by omega⟩,xx⟩
theorem Rg {F:Fence}{n:Nat}{P:Program}{ops:Array Oper}{rest:List Oper}{o:Oper}{a:Act}{w:World}{Q:Exit->Act->World->Prop}(J7:o.guard=none) (ty:TypeId) (x:Operand) (ho:o.op=.load ty x)
  (g:Nat) (hx:a.eval x=.pointer (some ⟨g,0,none⟩)) (t:TypeId) (cs:Array Value) (fr:Nat × Nat) (d:TypeDesc) (hg:w.heap[g]? =some (.cells cs t fr))
  (hu:P.underlying ty=some d) (hd:(match d with|.struct _|.array _ _=>true|_=>false)=true) (hi:(P.info? ty).map (·.size)=some cs.size)
  (h:wpListIn F n P ops Q rest (a.put o.dst (.agg cs)) w):wpListIn F n P ops Q (o::rest) a w:=by
 refine wpListIn_plain J7 λK KM=>?_;unfold Oper.wpIn;refine⟨?_,?_⟩
 ·simp[Oper.about,ho]
 ·rw[Oper.semAt_plain F _ _ (by rw[ho];intro c hc';cases hc')];simp only[execOp,ho,hx,Instr.loadAt,Instr.sureAddr,Ny,Fb,Mm,su w g t ty cs fr d hg hu hd hi];exact KM _ _ h
theorem IV {P:Program}{t e n:Nat}{k:IntKind}{cs:Array Value}{i:Nat}{v:Value}(w:World) (hu:P.underlying t=some (.array n e)) (he:P.underlying e=some (.int k)) (hs:(P.info? e).map (·.size)=some 1) (U7:i<n) (hv:cs[i]? =some v) (h1:v.oneCell'=true) :
  (Instr.index t (.agg cs) (.int .i64 (i:Int))).run P w=.ok v w:=by
 cases hq:P.info? e with
 | none=>simp[hq]at hs
 | some j =>
  have hz:j.size=1:=by simpa[hq]using hs
  have Sy:(isAgg e).run P w=.ok false w:=by unfold isAgg;rw[Ny,nd he w];rfl
  have h1:(i:Int)<(n:Int):=by omega
  simp[Instr.index,asIntOf,nd hu,h1,sizeOf,typeInfo,hq,part,Ny,Sy,hz,hv];intro hc;exact absurd hc (by omega)
def Nr (b1 b2:Nat) (W W':World):Prop:=∀(cs:Array Value) (t:TypeId),(W.heap[b1]? =some (Obj.cells cs t (0,0))->W'.heap[b1]? =some (Obj.cells cs t (0,0)))/\(W.heap[b2]? =some (Obj.cells cs t (0,0))->W'.heap[b2]? =some (Obj.cells cs t (0,0)))
theorem Nr.trans {b1 b2:Nat}{A B C:World}(h:Nr b1 b2 A B) (k:Nr b1 b2 B C):Nr b1 b2 A C:=λcs t=>⟨λe=>(k cs t).1 ((h cs t).1 e),λe=>(k cs t).2 ((h cs t).2 e)⟩
theorem Nr.ext {b1 b2:Nat}{W W':World}(h:Ext W W'):Nr b1 b2 W W':=λcs t=>⟨λe=>Box.ext e h,λe=>Box.ext e h⟩
theorem Nr.book {b1 b2:Nat}{w:World}(W:World) (l:Nat) (o o':Obj) (_:w.heap.size<=l) (h:W.heap[l]? =some o) (hc:o.isCells=false) (_:o.isWalk=false):Nr b1 b2 W (W.putObj l o'):=by
 have key:∀b (cs:Array Value) (t:TypeId),W.heap[b]? =some (Obj.cells cs t (0,0))->(W.putObj l o').heap[b]? =some (Obj.cells cs t (0,0)):=λb cs t hb=>by
  have Jt:b≠l:=by rintro rfl;rw[h]at hb;cases hb;cases hc
  have:=(grownBy_putObj' W l o').block b (Fa.1 hb).1 (λe=>Jt (by cases e;rfl));exact this.trans hb
 exactλcs t=>⟨key b1 cs t,key b2 cs t⟩
def tR (f:Nat->Int) (k:Nat):Array Value:=#[.int .i64 (k:Int),.int .i64 (f k)]
theorem cW (n:Nat) (hn:1<=n) (l b1 b2 c:Nat) (f:Nat->Int) (J Jx:List Nat->World->Prop) (W:World) (hJ:AbidesFrom W.heap.size J)
  (hY:∀pre x W1,J pre W1->pre.length<70->YieldAt Fence.wide (n-1) prog l (tR f x) W1 λe W' =>
   (e=.returned (.bool true)/\J (pre++[x]) W'/\Nr b1 b2 W1 W')\/(e=.returned (.bool false)/\Jx (pre++[x]) W'))
  (h1:Box W b1 237 (ZA f 70)) (h2:Box W b2 3 #[.int .i64 (c:Int)]) (h0:J [] W) :
  CallsIn Fence.wide n prog 182 #[.func (.yield l) #[] #[],.pointer (some ⟨b1,0,none⟩),.pointer (some ⟨b2,0,none⟩)] W λe W'=>(∃v,e=.returned v)/\
   ((∃ys,ys=List.range (min c 70)/\J ys W')\/(∃pre,True/\Jx pre W')):=by
 generalize hL0:List.range (min c 70)=L;have hL:=Qa hL0;clear hL0;refine callsIn_of_wp func182 rfl trivial ?_ rfl;simp only[ntmps182,NS,XN,Mn,Nat.reduceAdd,Nat.reduceSub,nY,nX,nV,nZ,bQ,fu];gi_wp2_with (refine Rg rfl 237 (.tmp 1) rfl b1 rfl 237 _ (0,0) _ h1 underlying237 rfl (by rw[YK];exact Ch) ?_)
 gi_loopw [4,5,7] (λ_ _ i wx=>∃k:Nat,k<=70/\k<=c/\i=.int .i64 k/\J (List.range k) wx/\Box wx b1 237 (ZA f 70)/\Box wx b2 3 #[.int .i64 (c:Int)]) (λ_ _ i _=>70-(intOf i).toNat);case atStart=>exact⟨0,by omega,by omega,rfl,h0,h1,h2⟩
 case round =>
  obtain⟨k,hk,hkc,rfl,hJs,hB1,hB2⟩:=hrel;by_cases Qn:k<70
  ·have Y6:(k:Int)<70:=by omega
   have c2:=hB2.cell 0;simp only[MR,nT]at c2;have hix:∀w,(Instr.index 237 (.agg (ZA f 70)) (.int .i64 (k:Int))).run prog w=.ok (.int .i64 (f k)) w:=λw=>IV w underlying237 underlying3 (by kernel_rfl) Qn (kN f 70 k Qn Qn) rfl;by_cases hc:c<=k
   ·have hci:(c:Int)<=(k:Int):=by omega
    obtain rfl:k=c:=by omega
    gi_wp2;rename_i hKK _ _ _ _;refine⟨λf hf=>(by cases hf),hKK _ _ ?_⟩;clear hKK;gi_wp2;refine Jv (Cc rfl _ _ _) rfl ?_;have hJL:J L wr:=by rw[←hL.o,vu (by omega)];exact hJs
    first
     | exact⟨⟨_,rfl⟩,.inl ⟨_,rfl,hJL⟩⟩
     | exact⟨⟨_,rfl⟩,.inl hJL⟩
   ·have hci:¬(c:Int)<=(k:Int):=by omega
    obtain⟨fn,tmps,assign,body,hy,hR⟩:=hY (List.range k) k _ hJs (by rw[mT];exact Qn);have SG:(Instr.yield l #[.int .i64 (k:Int),.int .i64 (f k)]).run prog wr=.ok (.round l fn tmps assign body) wr:=hy;clear hy;gi_wp2;refine hR.mono ?_;rintro e W3 (⟨rfl,hJ3,hk3⟩|⟨rfl,hJx3⟩)
    ·gi_wp2;go_roundw;case rel=>exact⟨k+1,by omega,by omega,by go_num,by rw[mR];exact hJ3,(hk3 _ _).1 hB1,(hk3 _ _).2 hB2⟩
     case measure=>simp[intOf];omega
    ·gi_wp2;refine Jv (Cc rfl _ _ _) rfl ?_;exact⟨⟨_,rfl⟩,.inr ⟨_,trivial,hJx3⟩⟩
  ·have Y6:¬(k:Int)<70:=by omega
   obtain rfl:k=70:=by omega
   gi_wp2;refine bodyPost_end (Cc rfl _ _ _) rfl ?_;have hJL:J L wr:=by rw[←hL.o,Nat.min_eq_right (by omega)];exact hJs
   first
    | exact⟨⟨_,rfl⟩,.inl ⟨_,rfl,hJL⟩⟩
    | exact⟨⟨_,rfl⟩,.inl hJL⟩
theorem CC (n:Nat) (hn:1<=n) (b1 b2 c:Nat) (f:Nat->Int) (w:World) (h1:Box w b1 237 (ZA f 70)) (h2:Box w b2 3 #[.int .i64 (c:Int)]) :
  SeqStopsK Fence.wide n prog 182 #[.pointer (some ⟨b1,0,none⟩),.pointer (some ⟨b2,0,none⟩)] (tR f) (Nr b1 b2) (λys=>ys=List.range (min c 70)) (λ_=>True) 70 w:=λl J Jx W hW hJ _ hY h0 =>
 cW n hn l b1 b2 c f J Jx W hJ hY (h1.ext hW) (h2.ext hW) h0
end Go.Proofs.YtfaplefkakpgcaaGreatDoor
namespace Go.Proofs.YtfaplefkakpgcaaGreatDoor
open Go.Proofs.Tryz
open Go.RowKit
def TB (l:List Ve):List Value:=l.flatMap λx=>[Value.string (Qb x.1),Value.int .i64 x.2]
theorem OY:∀(l:List Ve) (j:Nat) (h:j<l.length),(TB l)[j*2]? =some (.string (Qb l[j].1))/\(TB l)[j*2+1]? =some (.int .i64 l[j].2)
 | x::l,0,_=>⟨rfl,rfl⟩
 | x::l,j+1,h=>by have e:TB (x::l)=Value.string (Qb x.1)::Value.int .i64 x.2::TB l:=rfl;have ih:=OY l j (by simpa using h);rw[e,show(j+1)*2=j*2+1+1 by omega];simp only[so];exact ih
theorem Cu (a b:List Ve):TB (a++b)=TB a++TB b:=by simp[TB]
def aq (w:World) (A:Option Addr) (n:Nat) (l:List Ve):Prop :=
 n=l.length/\(0<n->∃b o,A=some ⟨b,o,none⟩/\∀(j:Nat) (h:j<l.length),w.cell? ⟨b,o+j*2,none⟩=some (.string (Qb l[j].1))/\w.cell? ⟨b,o+j*2+1,none⟩=some (.int .i64 l[j].2))
theorem aq.ext {w w':World}{A:Option Addr}{n:Nat}{l:List Ve}(h:aq w A n l) (k:Ext w w'):aq w' A n l :=
 ⟨h.1,λhn=>by obtain⟨b,o,e,hc⟩:=h.2 hn;exact⟨b,o,e,λj hj=>⟨k.keep (hc j hj).1,k.keep (hc j hj).2⟩⟩⟩
theorem oL:(prog.info? 154).map (λi=>(i.zero,i.size,i.bytes))=some (some (.agg #[.string ⟨#[]⟩,.int .i64 0]),2,24):=by kernel_rfl
def Zu (w:World) (base:Nat) (u:Value) (l:List Ve):Prop:=w.ownsRow base 154 2 u l.length (TB l)
theorem Zu.nil (w:World) (base:Nat):Zu w base (.slice none 0 0) []:=EN _ _ _ _
theorem Zu.ext {w w':World}{base:Nat}{u:Value}{l:List Ve}(h:Zu w base u l) (k:Ext w w'):Zu w' base u l:=Qc h k
theorem Zu.base {w:World}{base base':Nat}{u:Value}{l:List Ve}(h:Zu w base u l) (k:base'<=base):Zu w base' u l:=Q8 h k
theorem Zu.form {w:World}{base:Nat}{u:Value}{l:List Ve}(h:Zu w base u l):∃A cap,u=.slice A l.length cap/\aq w A l.length l:=by
 rcases h.2 with⟨rfl,h0⟩|⟨g,cap,cur,rfl,hb,hh,hcap,_,VD,htake⟩
 ·exact⟨none,0,by rw[h0],rfl,λhn=>by omega⟩
 ·refine⟨_,cap,rfl,rfl,λhn=>⟨g,0,rfl,λj hj=>?_⟩⟩;have hc:∀i,i<2*l.length->w.cell? ⟨g,0+i,none⟩=(TB l)[i]? :=λi hi=>by
   rw[Nz,cell_of_row w g i cur _ _ hh,←htake,Cb,QN (by omega)];simp
  have:=OY l j hj;exact⟨(hc _ (by omega)).trans this.1,(by rw[vo];exact(hc _ (by omega)).trans this.2)⟩
theorem Zu.blk {w:World}{base:Nat}{A:Option Addr}{n cap:Nat}{l:List Ve}(h:Zu w base (.slice A n cap) l) (hn:0<l.length):∃g,A=some ⟨g,0,none⟩/\base<=g/\n=l.length:=by
 rcases h.2 with⟨_,h0⟩|⟨g,cap,cur,e,hb,_⟩
 ·omega
 ·injection e with e1 e2 e3;exact⟨g,e1,hb,e2⟩
section
variable {ops:Array Oper}{rest:List Oper}{o:Oper}{a:Act}{w:World}{Q:Exit->Act->World->Prop}
theorem OZ:(prog.info? 154).map (·.size)=some 2:=by kernel_rfl
theorem EE (x y:Operand) (J7:o.guard=none) (ho:o.op=.store 154 x y) (g:Nat) (s:ByteArray) (i:Int) (old:Array Value) (t:TypeId) (hx:a.eval x=.pointer (some ⟨g,0,none⟩)) (hy:a.eval y=.agg #[.string s,.int .i64 i])
  (hb:Box w g t old) (hold:old.size=2) (hK:∀w',Box w' g t #[.string s,.int .i64 i]->w.grownBy w' (some g)->wpList prog ops Q rest (a.put o.dst undef) w'):wpList prog ops Q (o::rest) a w :=
 JU _ x y J7 ho g _ _ t hx hy hb OZ hold (by simp[Value.oneCell']) hK
theorem ED (x:Operand) (J7:o.guard=none) (ho:o.op=.load 154 x) (g:Nat) (cs:Array Value) (t:TypeId) (hx:a.eval x=.pointer (some ⟨g,0,none⟩))
  (hb:Box w g t cs) (hl:cs.size=2) (hK:wpList prog ops Q rest (a.put o.dst (.agg cs)) w):wpList prog ops Q (o::rest) a w :=
 J2 _ x J7 ho g _ t _ hx hb underlying154 rfl (by rw[hl];exact OZ) hK
end
theorem Ge {ops:Array Oper}{rest:List Oper}{o:Oper}{a:Act}{w:World}{Q:Exit->Act->World->Prop}{B g n:Nat}{u:Value}{l:List Ve}{y:Ve}(J7:o.guard=none) (sl x:Operand)
  (ho:o.op=.call { callee:=.builtin .append,args:=#[sl,x],argTypes:=#[150,150] }) (hs:a.eval sl=u) (hx:a.eval x=.slice (some ⟨g,0,none⟩) 1 1)
  (h0:w.ownsRow B 154 2 u n (TB l)) (hb:Box w g 154 #[.string (Qb y.1),.int .i64 y.2]) (hn:n<=1000000) (hB:B<=w.heap.size)
  (hK:∀u' w',w'.ownsRow B 154 2 u' (n+1) (TB (l++[y]))->w.grownBy w' u.ownBlock->wpList prog ops Q rest (a.put o.dst u') w'):wpList prog ops Q (o::rest) a w:=by
 refine DU J7 λK KM=>?_;obtain⟨i,hi,hz,h1,h2⟩:=AW oL;obtain⟨v',w',hr,ho2,hg,_,_⟩:=nU (P:=prog) w B 150 o.type 154 i _ 2 24 underlying150 hi hz h1 h2 rfl (by decide) u n (TB l) h0 ⟨g,0,none⟩ 1 1 [.string (Qb y.1),.int .i64 y.2] rfl (λj u hj=>by
  have ha:(⟨g,0,none⟩:Addr).add j=⟨g,j,none⟩:=by unfold Addr.add;split<;>simp_all
  rw[ha,hb.cell j];simpa using hj) (λu hu=>by rcases(by simpa using hu:u=.string (Qb y.1)\/u=.int .i64 y.2) with rfl|rfl<;>rfl) (by unfold maxLen;omega) (by omega) hB
 unfold Oper.wp execOp;simp only[ho,resolve,invoke,builtin,Ny,Fb,Mm,bO,P4,Gz,hs,hx,hr];refine KM _ _ (hK v' w' ?_ hg);rw[Cu];exact ho2
theorem Zu.snoc {w:World}{B n:Nat}{u:Value}{l:List Ve}{y:Ve}(h:w.ownsRow B 154 2 u (n+1) (TB (l++[y]))) (hn:n=l.length):Zu w B u (l++[y]):=by
 subst hn;unfold Zu;rw[VL];exact h
theorem Ext.under {w0 w w':World}{B:Nat}(h:Ext w0 w) (k:Below B w w') (hB:w0.heap.size<=B):Ext w0 w':=tD h (Below.mono k hB)
def Xj (B:Nat) (w:World) (g:Nat) (F:QH):Prop:=JB F/\B<=g/\∃b cap,Box w g 162 (YS ⟨some ⟨b,0,none⟩,F.v.length,cap⟩ F)/\w.ownsRow B 9 1 (.slice (some ⟨b,0,none⟩) F.v.length cap) F.v.length (Q5 F.v)
theorem Xj.ext {B:Nat}{w w':World}{g:Nat}{F:QH}(h:Xj B w g F) (x:Ext w w'):Xj B w' g F:=by
 obtain⟨ho,hB,b,cap,h1,h2⟩:=h;exact⟨ho,hB,b,cap,h1.ext x,Qc h2 x⟩
def QH.lay (F:QH) (q p:Nat) (d:List UInt8):QH:={ F with v:=F.v.set q (NH (F.v.getD q []) p d) }
theorem JB.lay {F:QH}(h:JB F) {q p:Nat}{d:List UInt8}(hq:3<=q) (hl:q<F.v.length) (hp:p+d.length<=128):JB (F.lay q p d):=by
 have hb:=Yo h.good hl;exact⟨h.good.set (by omega) (by omega) (by rw[F3 _ _ _ (by omega),hb]),h.n1,h.n2,h.len,h.fits⟩
def QH.keep (F:QH):QH:={ F with v:=putAt F.v F.n F.x }
theorem JB.keep {F:QH}(h:JB F):JB F.keep:=⟨h.good.putAt h.n1 h.n2 F.x,h.n1,h.n2,h.len,h.fits⟩
def QH.took (F:QH) (i:Nat):QH:={ F with v:=Pf F.v i }
theorem JB.took {F:QH}(h:JB F) {i:Nat}(ht:U4 F.v F.I=some i):JB (F.took i):=⟨h.good.taken ht,h.n1,h.n2,h.len,h.fits⟩
theorem co:∀k:Fin 12,4<=Yi k->Xq k=2:=by decide
theorem St:∀k:Fin 12,Yi k=3->Xq k=4:=by decide
theorem cX {x:List Int}(h:Fw x=true) (hx:x.length=12) {j:Nat}(hj:3<=j) (NE:j<12) {i:Int}(h0:0<=i) (h1:i<65536):Fw (x.set j i)=true:=by
 unfold Fw at *;rw[Rj]at *;intro k hk;have KN:=WO (h k hk);refine Xd ?_;by_cases e:Yi k=j
 ·have hg:(x.set j i).getD (Yi k) 0=i:=by rw[e];simp[List.getD,hx,NE]
  rw[hg];by_cases e3:j=3
  ·rw[St k (by omega)];exact⟨h0,by simp;omega⟩
  ·rw[co k (by omega)];exact⟨h0,by simpa using h1⟩
 ·have:(x.set j i).getD (Yi k) 0=x.getD (Yi k) 0:=by simp[List.getD,AX e]
  rw[this];exact KN
def QH.setX (F:QH) (j:Nat) (b:Int):QH:={ F with x:=F.x.set j b }
theorem JB.setX {F:QH}(h:JB F) {j:Nat}(hj:3<=j) (NE:j<12) {b:Int}(h0:0<=b) (h1:b<65536):JB (F.setX j b) :=
 ⟨h.good,h.n1,h.n2,by show(F.x.set j b).length=12;rw[Wft];exact h.len,cX h.fits h.len hj NE h0 h1⟩
theorem I0 (F:QH) (s:Sl) (hx:F.x.length=12) {j:Nat}(hj:j<12) (b:Int):YS s (F.setX j b)=(YS s F).setIfInBounds (8+j) (.int .i64 b):=by
 obtain⟨y0,y1,y2,y3,y4,y5,y6,y7,y8,y9,y10,wj,he⟩:=Dh hx;unfold YS jF QH.setX;simp only[he];rcases(by omega:j=0\/j=1\/j=2\/j=3\/j=4\/j=5\/j=6\/j=7\/j=8\/j=9\/j=10\/j=11) with rfl|rfl|rfl|rfl|rfl|rfl|rfl|rfl|rfl|rfl|rfl|rfl<;>rfl
theorem Xj.setX {B:Nat}{w:World}{g:Nat}{F:QH}(h:Xj B w g F) {j:Nat}(hj:3<=j) (NE:j<12) {b:Int}(h0:0<=b) (h1:b<65536):Xj B (w.setCell ⟨g,8+j,none⟩ (.int .i64 b)) g (F.setX j b):=by
 obtain⟨Yj,hB,b1,cap,hbx,own⟩:=h;refine⟨Yj.setX hj NE h0 h1,hB,b1,cap,?_,YJ own hbx (by decide) _⟩;have e:=hbx.set (8+j) (.int .i64 b);rw[←I0 F _ Yj.len NE b]at e;exact e
def re (b:Int):List UInt8:=[b8 (b%256),b8 (b/256)]
def QH.named (F:QH) (k:Nat) (b:Int):QH :=
 if k<6 then (F.setX (4+k) b).keep else if Lu F.v F.I (F.x.getD 10 0) then F.lay (F.x.getD 10 0).toNat (2*(k-6)) (re b) else F
theorem Xj.cell {B:Nat}{w:World}{g:Nat}{F:QH}(h:Xj B w g F):∃s,Box w g 162 (YS s F):=by
 obtain⟨_,_,b,cap,hbx,_⟩:=h;exact⟨_,hbx⟩
def QH.withInd (F:QH) (k:Nat):Option QH :=
 if 6<=k/\Lu F.v F.I (F.x.getD 10 0)=false then (U4 F.v F.I).map λi=>((F.took i).setX 10 (i:Int)).keep else some F
def QH.placed (F:QH) (k:Nat):QH × Int × Int :=
 if VT F.v F.I F.x k≠-1 then (F,VT F.v F.I F.x k,0) else
  match F.withInd k with
  | none=>(F,0,10)
  | some F1=>match U4 F1.v F1.I with
   | none=>(F1,0,10)
   | some i=>((F1.took i).named k (i:Int),(i:Int),0)
theorem Ir {F:QH}{k:Nat}(h:VT F.v F.I F.x k≠-1):F.placed k=(F,VT F.v F.I F.x k,0):=by unfold QH.placed;rw[QN h]
theorem Bt {F:QH}{k:Nat}(h:VT F.v F.I F.x k= -1) (h1:F.withInd k=none):F.placed k=(F,0,10):=by
 unfold QH.placed;rw[QD (λh2=>h2 h),h1]
theorem Dr {F F1:QH}{k:Nat}(h:VT F.v F.I F.x k= -1) (h1:F.withInd k=some F1) (h2:U4 F1.v F1.I=none):F.placed k=(F1,0,10):=by
 unfold QH.placed;rw[QD (λh2=>h2 h),h1];simp only[h2]
theorem Is {F F1:QH}{k i:Nat}(h:VT F.v F.I F.x k= -1) (h1:F.withInd k=some F1) (h2:U4 F1.v F1.I=some i):F.placed k=((F1.took i).named k (i:Int),(i:Int),0):=by
 unfold QH.placed;rw[QD (λh2=>h2 h),h1];simp only[h2]
theorem ag {v:List (List UInt8)}{I:Int}{i:Nat}(hg:Ji v I) (h:U4 v I=some i):i<223:=by
 have:=(UT h).2.1;have:=Jg hg.plan;omega
theorem Xj.strs {B:Nat}{w:World}{g:Nat}{F:QH}(h:Xj B w g F):∃s:Sl,Box w g 162 (YS s F)/\Strs w s.A s.n F.v:=by
 obtain⟨_,_,b,cap,hbx,own⟩:=h;exact⟨_,hbx,GA own⟩
def QH.wr (off:Nat) (d:List UInt8) (p:Nat) (F:QH):QH × Int :=
 if h:p<off+d.length then
  if (F.placed (p/128)).2.2≠0 then ((F.placed (p/128)).1,(F.placed (p/128)).2.2)
  else QH.wr off d (p+min (128-p%128) (off+d.length-p)) ((F.placed (p/128)).1.lay (F.placed (p/128)).2.1.toNat (p%128) ((d.drop (p-off)).take (min (128-p%128) (off+d.length-p))))
 else (F,0)
termination_by off+d.length-p
decreasing_by
 have:=Nat.mod_lt p (show 128 > 0 by omega);omega
theorem ap {off:Nat}{d:List UInt8}{p:Nat}{F:QH}(h:¬p<off+d.length):F.wr off d p=(F,0):=by
 rw[QH.wr,dif_neg h]
theorem qM {off:Nat}{d:List UInt8}{p:Nat}{F:QH}(h:p<off+d.length) (he:(F.placed (p/128)).2.2≠0):F.wr off d p=((F.placed (p/128)).1,(F.placed (p/128)).2.2):=by
 rw[QH.wr,dif_pos h,QN he]
theorem Qdi {off:Nat}{d:List UInt8}{p:Nat}{F:QH}(h:p<off+d.length) (he:(F.placed (p/128)).2.2=0):F.wr off d p=QH.wr off d (p+min (128-p%128) (off+d.length-p)) ((F.placed (p/128)).1.lay (F.placed (p/128)).2.1.toNat (p%128) ((d.drop (p-off)).take (min (128-p%128) (off+d.length-p)))):=by
 rw[QH.wr,dif_pos h,QD (λh=>h he)]
theorem jt {v:List (List UInt8)}{I:Int}{x:List Int}{k:Nat}(h:VT v I x k≠-1):Lu v I (VT v I x k)=true:=by
 unfold VT at *;split
 ·rename_i h1;exact h1
 ·rename_i h1;rw[QD h1]at h;exact absurd rfl h
theorem SK (F:QH):F.keep.v.length=F.v.length:=eQ _ _ _
theorem dT (F:QH) (q p:Nat) (d:List UInt8):(F.lay q p d).v.length=F.v.length:=Wft
theorem Oh (F:QH) (i:Nat):(F.took i).v.length=F.v.length:=Oc _ _
def J9 (v:List (List UInt8)) (I k:Int):QH:=⟨v,I,k,QI v k⟩
theorem Xj.of_opened {B:Nat}{w:World}{g:Nat}{v:List (List UInt8)}{I k:Int}{s:Sl}(hg:Ji v I) (h1:1<=k) (h2:k<=I) (hB:B<=g) (hs:s.n=v.length) (hbx:Box w g 162 (YS s (J9 v I k))) (own:w.ownsRow B 9 1 (.slice s.A s.n s.c) v.length (Q5 v)):Xj B w g (J9 v I k):=by
 have XS:=Jg hg.plan;obtain⟨b,cap,e,_⟩:=Strs.own' own (by omega);injection e with e1 e2 e3;obtain⟨A,n,c⟩:=s;simp only at e1 e2 e3 hs;subst e1 e2 e3;exact⟨⟨hg,h1,h2,XU v k,CD _ _⟩,hB,b,_,hbx,own⟩
end Go.Proofs.YtfaplefkakpgcaaGreatDoor
namespace Go.Proofs.YtfaplefkakpgcaaGreatDoor
open Go.RowKit Go.Shelf
attribute [local go_sem] iN
theorem Nr.set {b1 b2:Nat}{A W:World}(h:Nr b1 b2 A W) (p:Addr) (h1:b1≠p.block) (h2:b2≠p.block) (u:Value):Nr b1 b2 A (W.setCell p u):=h.trans λcs t =>
 ⟨λe=>(vi W p u b1 h1).trans e,λe=>(vi W p u b2 h2).trans e⟩
theorem F6 {w:World}{B b cap:Nat}{v:List (List UInt8)}(own:w.ownsRow B 9 1 (.slice (some ⟨b,0,none⟩) v.length cap) v.length (Q5 v)):Strs w (some ⟨b,0,none⟩) v.length v :=
 ⟨rfl,λ_=>⟨b,0,rfl,λj hj=>by rw[Nz];exact(own.cellAt j (by omega)).trans (by simp[Q5,hj])⟩⟩
end Go.Proofs.YtfaplefkakpgcaaGreatDoor
namespace Go.Proofs.YtfaplefkakpgcaaGreatDoor
open Go.RowKit
theorem Rh.ext {B b:Nat}{l:List UInt8}{w w':World}(h:Rh B b l w) (x:Ext w w'):Rh B b l w':=by
 obtain⟨hB,v,hb,Zb,Jt⟩:=h;exact⟨hB,v,Box.ext hb x,Qc Zb x,Jt⟩
theorem Rh.more {B b base z n:Nat}{l:List UInt8}{w w':World}{u:Value}{xs:List Value}{t:TypeId}(h:Rh B b l w) (o:w.ownsRow base t z u n xs) (h1:t≠169) (h2:t≠5) (hg:w.grownBy w' u.ownBlock):Rh B b l w':=by
 obtain⟨hB,v,hb,Zb,Jt⟩:=h;refine⟨hB,v,Box.grown hb hg (QX o hb h1),Zb.kept hg ?_,Jt⟩;rcases Zb.2 with⟨e,_⟩|⟨g,cap,cur,e,_,hh,_⟩
 ·exact .inl (by rw[e];rfl)
 ·exact .inr (by rw[e];exact QX o (show Box w g 5 cur from hh) h2)
theorem Rh.box {B b:Nat}{l:List UInt8}{w:World}(h:Rh B b l w):∃cs,Box w b 169 cs:=by
 obtain⟨hB,v,hb,Zb,Jt⟩:=h;exact⟨_,hb⟩
theorem bZ (w:World):gS w.heap.size w.heap.size (w.alloc (.cells #[.pointer none,.slice none 0 0] 169)):=by
 rcases Lib.fresh_isBuilder 169 5 w with h|h
 ·exact h
 ·exact absurd h.cell0 (by rw[Box.cell (Qs w _ _) 0];simp)
end Go.Proofs.YtfaplefkakpgcaaGreatDoor
namespace Go.Proofs.YtfaplefkakpgcaaGreatDoor
open Go.Proofs.Tryz
open Go.RowKit Go.Shelf
attribute [local go_sem] iN
def Gv (B b:Nat) (l:List UInt8) (w:World):Prop:=gS B b w/\l=[]\/Rh B b l w
theorem OR {B b:Nat}{p:Value}{l:List Value}{w w':World}{row:Option Nat}(h:Lib.BuilderAt 169 5 B b p l w) (hg:w.grownBy w' row) (hr:∀r,row=some r->∃o:Obj,w.heap[r]? =some o/\o.isCells=false) :
  Lib.BuilderAt 169 5 B b p l w':=by
 obtain⟨hB,v,hb,Zb,Jt⟩:=h;refine⟨hB,v,Box.grown hb hg (λe=>?_),Zb.kept hg ?_,Jt⟩
 ·obtain⟨o,ho,hc⟩:=hr b e.symm;rw[hb]at ho;cases ho;cases hc
 ·rcases Zb.2 with⟨e,_⟩|⟨g,cap,cur,e,_,hh,_⟩
  ·exact .inl (by rw[e];rfl)
  ·refine .inr (λe2=>?_);rw[e]at e2;obtain⟨o,ho,hc⟩:=hr g e2.symm;rw[hh]at ho;cases ho;cases hc
theorem ig {β:Type} (B b:Nat) (f:β->List UInt8):Own (λs W=>Gv B b (f s) W):=λs X Y row hs hg hr=>by
 rcases hs with⟨h,e⟩|h
 ·exact .inl ⟨OR h hg hr,e⟩
 ·exact .inr (OR h hg hr)
theorem Gv.ext {B b:Nat}{l:List UInt8}{w w':World}(h:Gv B b l w) (x:Ext w w'):Gv B b l w':=by
 rcases h with⟨h,e⟩|h
 ·refine .inl ⟨?_,e⟩;obtain⟨hB,v,hb,Zb,Jt⟩:=h;exact⟨hB,v,Box.ext hb x,Qc Zb x,Jt⟩
 ·exact .inr (h.ext x)
theorem Gv.isCells {B b:Nat}{l:List UInt8}{w:World}(h:Gv B b l w):∃cs,Box w b 169 cs:=by
 rcases h with⟨⟨hB,v,hb,_⟩,_⟩|h
 ·exact⟨_,hb⟩
 ·exact h.box
theorem Cl (B b:Nat) (l:List UInt8) (w:World) (h:Gv B b l w) (hB:B<=w.heap.size) :
  Calls prog 120 #[.pointer (some ⟨b,0,none⟩)] w λe w'=>e=.returned (.string (Qb l))/\Below B w w'/\Lib.OthersKept 5 (some b) w w':=by
 rcases h with⟨h,rfl⟩|h
 ·refine(Tryz.Builder_String_any_k B b [] w (.inl (Lib.BuilderAtF.of h)) hB).mono ?_;rintro e w' ⟨rfl,_,hb,hk⟩;exact⟨rfl,hb,hk⟩
 ·exact GD B b l w h hB
theorem UE {B b:Nat}{w w':World}{cs:Array Value}(h:Lib.OthersKept 5 (some b) w w') (hb:Box w b 169 cs) (hs:w.heap.size<=w'.heap.size):KeepsFrom B w w':=⟨hs,λk o hk ho hc=>h k o ho (λe=>by
  cases e;have rK:w.heap[b]? =some (.cells cs 169 (0,0)):=hb;rw[rK]at ho;cases ho;cases hc) (λc fz e=>by subst e;cases hc)⟩
theorem Nr.others {b1 b2 b:Nat}{w w':World}(h:Lib.OthersKept 5 (some b) w w') (h1:b1≠b) (h2:b2≠b) (c1:∀cs t,w.heap[b1]? =some (Obj.cells cs t (0,0))->t≠5) (c2:∀cs t,w.heap[b2]? =some (Obj.cells cs t (0,0))->t≠5):Nr b1 b2 w w':=λcs t =>
 ⟨λe=>h b1 _ e (λh=>h1 (by injection h)) (λc fz e2=>by cases e2;exact c1 _ _ e rfl),λe=>h b2 _ e (λh=>h2 (by injection h)) (λc fz e2=>by cases e2;exact c2 _ _ e rfl)⟩
theorem fK {w w':World}{b n:Nat}{v:List (List UInt8)}(h:Strs w (some ⟨b,0,none⟩) n v) (e:w'.heap[b]? =w.heap[b]?):Strs w' (some ⟨b,0,none⟩) n v:=⟨h.1,λhn=>by
 obtain⟨b',o',e1,h2⟩:=h.2 hn;injection e1 with e1;injection e1 with e1 e2 _;subst e1 e2;exact⟨b,0,rfl,λj hj=>by rw[←h2 j hj];unfold World.cell?;rw[e]⟩⟩
def Vp (off:Int) (x:Nat):Int:=max (wrap64 (off-wrap64 ((x:Int)*128))) 0
def Og (e:Int) (x:Nat):Int:=min (wrap64 (e-wrap64 ((x:Int)*128))) 128
def UO (F:QH) (off e:Int) (x:Nat):List UInt8 :=
 if Og e x<=Vp off x then [] else if VT F.v F.I F.x x= -1 then zs (Og e x-Vp off x).toNat
 else ((F.v.getD (VT F.v F.I F.x x).toNat []).drop (Vp off x).toNat).take (Og e x-Vp off x).toNat
theorem Br (F:QH) (off e:Int) (x:Nat):(UO F off e x).length<=128:=by
 have h1:0<=Vp off x:=Int.le_max_right _ _;have h2:Og e x<=128:=Int.min_le_right _ _;unfold UO;split
 ·simp
 ·split
  ·rw[UX];omega
  ·rw[MT];omega
theorem Fz {pc:Nat->List UInt8}(h:∀x,(pc x).length<=128) (pre:List Nat):(pre.flatMap pc).length<=128*pre.length:=by
 induction pre with
 | nil=>simp
 | cons a l ih=>rw[bL,VL,XN];have:=h a;omega
def EV (F:QH) (off size:Int):Int:=if size<JL F.x-off then off+size else JL F.x
def Y5 (e:Int):Nat:=((e+127)/128).toNat
def NI (F:QH) (off size:Int):List UInt8:=(List.range (min (Y5 (EV F off size)) 70)).flatMap (UO F off (EV F off size))
theorem cg (A:Option Addr) (n c:Nat) (v:List (List UInt8)) (I k:Int) (off size:Nat) (w:World) (hv:Strs w A n v) (hg:Ji v I) (Vz:1<=k) (KN:k<=I) (U7:(off:Int)<JL (J9 v I k).x) (VD:(size:Int)<=9223372036854775807) (hend:JL (J9 v I k).x-(off:Int)<=(size:Int)) :
  Calls prog 60 #[.slice A n c,.int .i64 k,.int .i64 (off:Int),.int .i64 (size:Int)] w λe w'=>e=.returned (.tuple #[.string (Qb (NI (J9 v I k) off size)),.int .i64 0])/\Ext w w':=by
 have HO:=Qa (λw h=>LL A n c v I k w h hg Vz KN);have AJ:=Qa (λ(B g:Nat) (w:World) (s:Sl) hB hs hbx own=>Xj.of_opened (B:=B) (w:=w) (g:=g) (s:=s) hg Vz KN hB hs hbx own);have HV:=Qa hv;clear hv hg Vz KN;generalize hG:w.heap.size=G at *;refine(DV (n:=6)).1 ?_;refine callsIn_of_wp_marks func60 rfl trivial ?_ rfl;simp only[ntmps60,NS,XN,Mn,Nat.reduceAdd,Nat.reduceSub,nY,nX,nV,nZ,bQ,fu];refine wpIn_wide.2 ?_;have b6:=Qs w 3 #[.int .i64 (off:Int)];have x6:Ext w (w.alloc (.cells #[.int .i64 (off:Int)] 3)):=(Qg w).alloc _;have P1:=Qa (HV.o.ext x6);go_upto_region 1 with fail;rw[hG]at b6;have hG6:G+1<=(w.alloc (.cells #[.int .i64 (off:Int)] 3)).heap.size:=by rw[YB,hG];exact Q4 _
 generalize w.alloc (.cells #[.int .i64 (off:Int)] 3)=w1 at *
 go_upto_region 2 with(first
  | (go_at_call 115;refine(HO.o _ P1.o).mono ?_;rintro e w2 ⟨⟨s,rfl,AD,JP⟩,x2⟩)
  | (refine Tl (.tmp 10) (.tmp 22) rfl rfl w2.heap.size s (J9 v I k) _ 162 rfl rfl (Qs _ _ _) rfl ?_;intro w3 b3 g3))
 have xa:Ext w2 (w2.alloc (.cells Pr 162)):=(Qg w2).alloc _;have G6:Ext w2 w3:=xa.grown g3 (λj e=>by cases e;exact Q4 _);have Ke:=(Qc JP xa).kept g3 (.inr (QX (Qc JP xa) (Qs w2 162 Pr) (by decide)).symm);have hF0:=AJ.o w1.heap.size w2.heap.size w3 s x2.size AD b3 Ke;have HX:=Qa (x6.trans (x2.trans G6));have tQ:=(b6.ext x2).ext G6;have Qks:=x2.size;clear HO AJ HV P1 JP AD b3 Ke xa G6 x2 g3 b6 x6;generalize Rl:w2.heap.size=g at *;generalize hFO:J9 v I k=F at *;have ga:=Qa hFO;clear hFO Rl;obtain⟨hOk,hBg,b,cap,hbx,own⟩:=hF0;generalize YS s ⟨v,I,k,QI v k⟩=fc at *;have hr:=F6 own;have vY:=Qa (λw h=>FH g ⟨some ⟨b,0,none⟩,F.v.length,cap⟩ F w h);have AE:JL F.x<=8960:=by unfold JL;omega
 have d1:decide ((off:Int)<0)=false:=by simp
 have d2:decide ((size:Int)<0)=false:=by simp
 have jT:=tQ.cell 0;have vU:=Qa (show NI F off size=(List.range (min (Y5 (JL F.x)) 70)).flatMap (UO F off (JL F.x)) from by unfold NI EV;rw[QD (by omega)]);generalize hzz:JL F.x=z at *;have d3:decide (z<=(off:Int))=false:=by simp;omega
 have d4:decide ((size:Int)<z-(off:Int))=false:=by simp;omega
 have w9:IntKind.i64.wrap (z-(off:Int))=z-(off:Int):=by rw[Wb];omega
 have gP:IntKind.i64.wrap (z+128)=z+128:=by rw[Wb];omega
 have wg:IntKind.i64.wrap (z+128-1)=z+127:=by rw[Wb];omega
 have rh:Ext w3 (w3.alloc (.cells #[.int .i64 z] 3)):=(Qg w3).alloc _;have Uq:=Qs w3 3 #[.int .i64 z];have zy:=tQ.ext rh;have Qau:=hbx.ext rh;have c6a:(w3.alloc (.cells #[.int .i64 z] 3)).cell? ⟨G,0,none⟩=some (.int .i64 (off:Int)):=zy.cell 0;have fx:(w3.alloc (.cells #[.int .i64 z] 3)).cell? ⟨w3.heap.size,0,none⟩=some (.int .i64 z):=Uq.cell 0;go_upto_region 7 with(go_at_call 116;(have hq:=vY.o _ hbx;with_reducible (refine hq.mono ?_));clear hq;rintro e w6 ⟨rfl,rfl⟩)
 have gR:(w3.alloc (.cells #[.int .i64 z] 3)).heap.size=w3.heap.size+1:=YB _ _;have hlt3:=hbx.lt;have h63:=tQ.lt;have hrr:=hr.ext rh;have AP:=Qa (HX.o.trans rh);have FB:=bZ (w3.alloc (.cells #[.int .i64 z] 3));rw[gR]at FB;have hbE:b<w3.heap.size:=by
  rcases own.2 with⟨h,_⟩|⟨g',cap',cur,e,_,hh,_⟩
  ·cases h
  ·injection e with e1 _ _;injection e1 with e1;injection e1 with e1 _ _;subst e1;exact(Fa.1 hh).1
 go_upto_region 11 with fail;clear hbx tQ rh HX jT hr own vY;have xB:Ext (w3.alloc (.cells #[.int .i64 z] 3)) ((w3.alloc (.cells #[.int .i64 z] 3)).alloc (.cells #[.pointer none,.slice none 0 0] 169)):=(Qg _).alloc _;have tJ:=Uq.ext xB;have qx:=zy.ext xB;have tx:=Qau.ext xB;have hrB:=hrr.ext xB;have HXB:=Qa (AP.o.trans xB);have zB:((w3.alloc (.cells #[.int .i64 z] 3)).alloc (.cells #[.pointer none,.slice none 0 0] 169)).heap.size=w3.heap.size+2:=by rw[YB,gR]
 have hCP:((z+127)/128:Int)=(Y5 z:Nat):=by unfold Y5;omega
 have hCT:Int.tdiv (z+127) 128=(Y5 z:Nat):=by rw[Wdu (by omega)];exact hCP
 have hC70:Y5 z<=70:=by unfold Y5;omega
 generalize Gt:Y5 z=cb at *;have xU:=Qa (So g ⟨some ⟨b,0,none⟩,F.v.length,cap⟩ F (cb:Int) _ tx hrB hOk);have Qjp:=tJ.cell 0;go_upto_region 12 with fail;clear xB Uq zy Qau hrr AP c6a fx gR;generalize (w3.alloc (.cells #[.int .i64 z] 3)).alloc (.cells #[.pointer none,.slice none 0 0] 169)=wB at *;generalize hE:w3.heap.size=E at *;clear hE w3;go_wp2_with (go_at_call 117;refine xU.o.mono ?_;rintro e w5 ⟨⟨b1,b2,rfl,Vy,Pt,le1,le2,ne12⟩,x5⟩)
 refine(wpIn_wide (n:=6)).1 ?_;gi_wp2_with fail;have hXE:∀W,Below (E+1) wB W->Ext w W:=λW h=>HXB.o.under h (by omega);have hBB:∀W,Below (E+1) wB W->Box W G 3 #[.int .i64 (off:Int)]/\Box W E 3 #[.int .i64 z]/\Box W g 162 (YS ⟨some ⟨b,0,none⟩,F.v.length,cap⟩ F):=λW h => ⟨(h.block G (by omega)).trans qx,(h.block E (by omega)).trans tJ,(h.block g (by omega)).trans tx⟩
 have hSS:∀W,Below (E+1) wB W->Strs W (some ⟨b,0,none⟩) F.v.length F.v:=λW h=>fK hrB (h.block b (by omega));have x5B:Below (E+1) wB w5:=Below.mono x5 (by omega);have FB5:Gv (E+1) (E+1) [] w5:=Gv.ext (.inl ⟨FB,rfl⟩) x5;have hs5:=x5.size;have mF:=Qa (show∀x,UO F off z x=if Og z x<=Vp off x then [] else if VT F.v F.I F.x x= -1 then zs (Og z x-Vp off x).toNat else ((F.v.getD (VT F.v F.I F.x x).toNat []).drop (Vp off x).toNat).take (Og z x-Vp off x).toNat fromλx=>rfl);have HQ:=Qa (λx (h:VT F.v F.I F.x x≠-1)=>Ws (jt h));have fg:=Qa (Br F off z);have hGd:=Qa hOk.good;have hdt:(0:Int)<=3+(F.I+1)/2:=by have:=Jg hOk.good.plan;omega
 generalize UO F off z=pc at *;generalize VT F.v F.I F.x=f at *;clear xU qx tJ tx hrB Qjp x5 FB d1 d2 d3 d4 w9 gP wg hCP hCT
 refine wpIn_rangeFunc_ownH rfl (by decide) (gf:=182) (lb:=#[.pointer (some ⟨b1,0,none⟩),.pointer (some ⟨b2,0,none⟩)]) rfl trivial (enters_of func182 (by kernel_rfl) rfl)
  (CC 5 (by decide) b1 b2 cb f w5 Vy Pt) Nr.trans Nr.book (qw _ _) (λ_=>rfl)
  (λpre W=>Below (E+1) wB W/\Gv (E+1) (E+1) (pre.flatMap pc) W/\pre.length<=70/\Box W b1 237 (ZA f 70)/\Box W b2 3 #[.int .i64 (cb:Int)])
  (λ_ _ _=>False)
  (OwnFrom.and (ownFrom_below (by omega) (by omega)) (OwnFrom.and (Own.from (ig _ _ _) _) (OwnFrom.and (ownFrom_pure _ _) (OwnFrom.and (Own.from (Yh _ _ _) _) (Own.from (Yh _ _ _) _)))))
  (λ_ _ _ _ _ hs _ _=>hs) ⟨x5B,FB5,by simp,Vy,Pt⟩
  (λx a' W=>a'={ tmps:=#[.slice A n c,.int .i64 k,.int .i64 (off:Int),.int .i64 (size:Int),undef,undef,.pointer (some ⟨G,0,none⟩),undef,.string ⟨#[]⟩,.int .i64 0,.pointer (some ⟨g,0,none⟩),.int .i64 0,.pointer (some ⟨E,0,none⟩),.pointer (some ⟨E+1,0,none⟩),.int .i64 (x:Int),.int .i64 (f x),undef,undef,.tuple #[.agg fc,.int .i64 0],.slice A n c,.int .i64 k,.tuple #[.agg fc,.int .i64 0],.agg fc,.int .i64 0,.int .i64 0,.bool false,undef,.int .i64 (off:Int),.bool false,.bool false,.int .i64 (size:Int),.bool false,.bool false,.int .i64 z,.int .i64 (off:Int),.int .i64 z,.bool false,.int .i64 (size:Int),.int .i64 z,.int .i64 (off:Int),.int .i64 (z-(off:Int)),.bool false,undef,undef,undef,.int .i64 z,.int .i64 (z+128),.int .i64 (z+127),.int .i64 (cb:Int),.func (.func 182) #[] #[.pointer (some ⟨b1,0,none⟩),.pointer (some ⟨b2,0,none⟩)],.int .i64 (x:Int),.int .i64 (f x),undef,undef,undef,undef,undef,undef,undef,undef,undef,undef,undef,undef,undef,undef,undef,undef,undef,undef,undef,undef,undef,undef,undef,undef,undef,undef,undef,undef,undef,undef],defers:=[] })
  (λx a' _ X Y row hs hg hr=>hs) ?assign ?body ?done ?stop
 case assign => rintro l pre x W K ⟨i1,i2,i3,i4,i5⟩ hK;simp only[tR];gi_wp2;exact hK _ _ (ZK (Qg W)) (Nr.ext (Qg W)) ⟨i1,i2,i3,i4,i5⟩ rfl
 case body =>
  rintro l pre x a' W gC ⟨r,hr⟩ ⟨i1,i2,i3,i4,i5⟩ rfl hlt70;obtain⟨j1,j2,j3⟩:=hBB W i1;have c6:W.cell? ⟨G,0,none⟩=some (.int .i64 (off:Int)):=j1.cell 0;have fx:W.cell? ⟨E,0,none⟩=some (.int .i64 z):=j2.cell 0;gi_wp2
  -- WEB BEGINS
  refine Mg 12 [[],[],[1],[0,2],[3],[],[],[6],[5,7],[8],[4],[9]] (TT [Ka (.int .i64 ((off:Int))),Ka (.int .i64 ((x:Int))),Ka (.int .i64 (wrap64 ((x:Int)*128))),Ka (.int .i64 (wrap64 ((off:Int)-wrap64 ((x:Int)*128)))),Ka (.int .i64 (Vp off x)),Ka (.int .i64 (z)),Ka (.int .i64 ((x:Int))),Ka (.int .i64 (wrap64 ((x:Int)*128))),Ka (.int .i64 (wrap64 (z-wrap64 ((x:Int)*128)))),Ka (.int .i64 (Og z x)),Ka (.int .i64 (Vp off x)),Ka (.int .i64 (Og z x))]) (by rintro⟨_,_,h⟩;exact h) (by kernel_rfl) (by kernel_rfl) (by kernel_rfl) (WZ (λp hp=>by simp only[Pm,Rw,Fe]at hp;rcases hp with rfl|rfl|rfl|rfl|rfl|rfl|rfl|rfl|rfl|rfl|rfl|rfl<;>first|exact TR _)) (λus=>?_);simp only[KG,KI,UY,KJ];rw[Qu];refine ZU (λw' hx hd=>?_) ?_
  ·clear hd;have e6:=hx.keep c6;have e12:=hx.keep fx;refine Qp 52 rfl (by simp) rfl ?_;go_wp2_with fail;exact⟨Qg _,rfl⟩
  simp only[S_];rw[Qu];refine ZU (λw' hx hd=>?_) ?_
  ·clear hd;refine Qp 53 rfl (by simp[Act.put]) rfl ?_;go_wp2_with fail;exact⟨Qg _,rfl⟩
  simp only[S_];rw[Qu];refine ZU (λw' hx hd=>?_) ?_
  ·have h1:=hd 1 (by simp);clear hd;generalize us 1=u1 at *;obtain rfl:u1=.int .i64 ((x:Int)):=h1;refine Qp 54 rfl (by simp[Act.put]) rfl ?_;go_wp2_with fail;exact⟨Qg _,rfl⟩
  simp only[S_];rw[Qu];refine ZU (λw' hx hd=>?_) ?_
  ·have h0:=hd 0 (by simp);have h2:=hd 2 (by simp);clear hd;generalize us 0=u0 at *;generalize us 2=u2 at *;obtain rfl:u0=.int .i64 ((off:Int)):=h0;obtain rfl:u2=.int .i64 (wrap64 ((x:Int)*128)):=h2;refine Qp 55 rfl (by simp[Act.put]) rfl ?_;go_wp2_with fail;exact⟨Qg _,rfl⟩
  simp only[S_];rw[Qu];refine ZU (λw' hx hd=>?_) ?_
  ·have h3:=hd 3 (by simp);clear hd;generalize us 3=u3 at *;obtain rfl:u3=.int .i64 (wrap64 ((off:Int)-wrap64 ((x:Int)*128))):=h3;refine Qp 56 rfl (by simp[Act.put]) rfl ?_;go_wp2_with fail;exact⟨Qg _,rfl⟩
  simp only[S_];rw[Qu];refine ZU (λw' hx hd=>?_) ?_
  ·clear hd;have e6:=hx.keep c6;have e12:=hx.keep fx;refine Qp 57 rfl (by simp[Act.put]) rfl ?_;go_wp2_with fail;exact⟨Qg _,rfl⟩
  simp only[S_];rw[Qu];refine ZU (λw' hx hd=>?_) ?_
  ·clear hd;refine Qp 58 rfl (by simp[Act.put]) rfl ?_;go_wp2_with fail;exact⟨Qg _,rfl⟩
  simp only[S_];rw[Qu];refine ZU (λw' hx hd=>?_) ?_
  ·have h6:=hd 6 (by simp);clear hd;generalize us 6=u6 at *;obtain rfl:u6=.int .i64 ((x:Int)):=h6;refine Qp 59 rfl (by simp[Act.put]) rfl ?_;go_wp2_with fail;exact⟨Qg _,rfl⟩
  simp only[S_];rw[Qu];refine ZU (λw' hx hd=>?_) ?_
  ·have h5:=hd 5 (by simp);have h7:=hd 7 (by simp);clear hd;generalize us 5=u5 at *;generalize us 7=u7 at *;obtain rfl:u5=.int .i64 (z):=h5;obtain rfl:u7=.int .i64 (wrap64 ((x:Int)*128)):=h7;refine Qp 60 rfl (by simp[Act.put]) rfl ?_;go_wp2_with fail;exact⟨Qg _,rfl⟩
  simp only[S_];rw[Qu];refine ZU (λw' hx hd=>?_) ?_
  ·have h8:=hd 8 (by simp);clear hd;generalize us 8=u8 at *;obtain rfl:u8=.int .i64 (wrap64 (z-wrap64 ((x:Int)*128))):=h8;refine Qp 61 rfl (by simp[Act.put]) rfl ?_;go_wp2_with fail;exact⟨Qg _,rfl⟩
  simp only[S_];rw[Qu];refine ZU (λw' hx hd=>?_) ?_
  ·have h4:=hd 4 (by simp);clear hd;generalize us 4=u4 at *;obtain rfl:u4=.int .i64 (Vp off x):=h4;refine Qp 16 rfl (by simp[Act.put]) rfl ?_;go_wp2_with fail;exact⟨Qg _,rfl⟩
  simp only[S_];rw[Qu];refine ZU (λw' hx hd=>?_) ?_
  ·have h9:=hd 9 (by simp);clear hd;generalize us 9=u9 at *;obtain rfl:u9=.int .i64 (Og z x):=h9;refine Qp 17 rfl (by simp[Act.put]) rfl ?_;go_wp2_with fail;exact⟨Qg _,rfl⟩
  simp only[S_];rw[Qu];intro w' hx hv;have GL:=hv 10 (by omega);have oY:=hv 11 (by omega);clear hv;generalize us 10=u10 at *;generalize us 11=u11 at *;obtain rfl:u10=.int .i64 (Vp off x):=GL;obtain rfl:u11=.int .i64 (Og z x):=oY;have HW:=Qa hx;go_wp2_with fail;have gE:=mF.o x;have hfr0:0<=Vp off x:=Int.le_max_right _ _;have hto0:Og z x<=128:=Int.min_le_right _ _;have i1':Below (E+1) wB w':=tD i1 (Below.mono HW.o (by have:=i1.size;omega));have i2':=i2.ext HW.o;have j3':=j3.ext HW.o;have XS:=Fz fg.o pre;have hszW:=i1'.size;clear hx c6 fx j1 j2 j3;generalize Vp off x=fr at *;generalize Og z x=tt at *;by_cases hc:tt<=fr
  ·rw[QN hc]at gE;gi_wp2_with fail;refine⟨ZK HW.o,Nr.ext HW.o,i1',?_,by simp;omega,i4.ext HW.o,i5.ext HW.o⟩;rw[AU,We7,gE,iP];exact i2'
  rw[QD hc]at gE;obtain⟨fa,rfl⟩:∃k:Nat,fr=(k:Int):=⟨fr.toNat,by omega⟩
  obtain⟨ta,rfl⟩:∃k:Nat,tt=(k:Int):=⟨tt.toNat,by omega⟩
  have jd:fa<ta:=by omega
  have Vq:ta<=128:=by omega
  have hm:((ta:Int)-(fa:Int)).toNat=ta-fa:=by omega
  rw[hm,mU]at gE;by_cases hq:f x= -1
  ·rw[QN hq]at gE;rw[hq];have hw:IntKind.i64.wrap ((ta:Int)-(fa:Int))=((ta-fa:Nat):Int):=by rw[Wb];omega
   have HR:=Qa (λw=>Tc (ta-fa) w (by omega));have HS:=Qa (λw2 (x2:Ext w' w2)=>KC (E+1) (E+1) (pre.flatMap pc) (zs (ta-fa)) w2 (i2'.ext x2) (by have:=x2.size;omega) (by omega) (by simp[zs];omega));have HP:=Qa gE;clear gE hq hm;generalize hmm:ta-fa=m at *;clear hmm
   gi_wp2_with (first
    | (refine⟨trivial,?_⟩;gi_at_call 119;refine(CallsIn.inRound l (DV.2 (HR.o _))).mono ?_;rintro e w2 ⟨rfl,x2⟩)
    | (refine⟨trivial,?_⟩;gi_at_call 118;refine(CallsIn.inRound l (DV.2 (HS.o _ x2))).mono ?_;rintro e w3 ⟨rfl,f3,q3,k3⟩))
   have qN:=HW.o.trans x2;obtain⟨cs,Ll⟩:=(i2'.ext x2).isCells;have k4:=i4.ext qN;have k5:=i5.ext qN;have hk:=Nr.others k3 (show b1≠E+1 by omega) (show b2≠E+1 by omega) (λcs t e=>by rw[show w2.heap[b1]? =_ from k4]at e;cases e;decide) (λcs t e=>by rw[show w2.heap[b2]? =_ from k5]at e;cases e;decide);refine⟨(ZK qN).trans (UE k3 Ll q3.size),(Nr.ext qN).trans hk,(i1'.trans (Below.mono x2 (by omega))).trans q3,?_,by simp;omega,(hk _ _).1 k4,(hk _ _).2 k5⟩;rw[AU,We7,HP.o];exact .inr f3
  rw[QD hq]at gE;have wV:=HQ.o x hq;have hss:=hSS w' i1';have cv:w'.cell? ⟨g,0,none⟩=some (.slice (some ⟨b,0,none⟩) F.v.length cap):=j3'.cell 0;obtain⟨b',o',he,Qf⟩:=hss.2 (by omega);cases he;obtain⟨qn,hqn⟩:∃q:Nat,f x=(q:Int):=⟨(f x).toNat,by omega⟩
  rw[hqn]at wV gE;rw[hqn];have cb:w'.cell? ⟨b,qn,none⟩=some (.string (Qb (F.v.getD qn []))):=by have:=WT Qf (k:=qn) (by omega);rwa [Nz]at this
  have Gt:(F.v.getD qn []).length=128:=Yo hGd.o (by omega);rw[mU]at gE;clear Qf hss hq;have hqs:(qn:Int)<(F.v.length:Int):=wV.2;generalize F.v.getD qn []=blk at *;have hsb:(Qb blk).size=128:=by rw[Qh,Gt]
  have HS:=Qa (show Calls prog 118 #[.pointer (some ⟨E+1,0,none⟩),.string ((Qb blk).extract fa ta)] w' _ from by
   rw[J6];exact KC (E+1) (E+1) (pre.flatMap pc) ((blk.drop fa).take (ta-fa)) w' i2' (by omega) (by omega) (by simp;omega))
  have HP:=Qa gE;clear gE hm hqn hc wV;gi_wp2_with (refine⟨trivial,?_⟩;gi_at_call 118;refine(CallsIn.inRound l (DV.2 HS.o)).mono ?_;rintro e w3 ⟨rfl,f3,q3,k3⟩)
  have qN:=HW.o;obtain⟨cs,Ll⟩:=i2'.isCells;have k4:=i4.ext qN;have k5:=i5.ext qN;have hk:=Nr.others k3 (show b1≠E+1 by omega) (show b2≠E+1 by omega) (λcs t e=>by rw[show w'.heap[b1]? =_ from k4]at e;cases e;decide) (λcs t e=>by rw[show w'.heap[b2]? =_ from k5]at e;cases e;decide);refine⟨(ZK qN).trans (UE k3 Ll q3.size),(Nr.ext qN).trans hk,i1'.trans q3,?_,by simp;omega,(hk _ _).1 k4,(hk _ _).2 k5⟩;rw[AU,We7,HP.o];exact .inr f3
  -- WEB ENDS
 case done =>
  rintro D ys W hD hys ⟨i1,i2,i3,i4,i5⟩ hK;subst hys;have HS:=Qa (Cl (E+1) (E+1) _ W i2 (by have:=i1.size;omega));have HE:=Qa vU.o;clear vU;have i1s:=i1.size;generalize (List.range (min cb 70)).flatMap pc=R at *;gi_wp2_with fail;go_wp2_with (go_at_call 120;refine HS.o.mono ?_;rintro e w6 ⟨rfl,q6,k6⟩)
  obtain⟨cs,Ll⟩:=i2.isCells;have hK6:=(UE (B:=E+1) k6 Ll q6.size).2 D _ (by omega) hK rfl;refine⟨by simp,.inl ⟨_,_,rfl,run_takeDeferred hK6,?_⟩⟩;exact⟨_,results_tmp2 rfl _ _ _,by rw[ga.o,HE.o];simp,(hXE _ (i1.trans q6)).putObj (.deferred none) hK6 (by have:=HXB.o.size;omega)⟩
 case stop => rintro D c pre W hD _ h;exact h.elim
end Go.Proofs.YtfaplefkakpgcaaGreatDoor
namespace Go.Proofs.YtfaplefkakpgcaaGreatDoor
open Go.Proofs.Tryz
open Go.RowKit
def pT (B:Nat) (t:TypeId) (cs:Array Value):World->Value->Prop:=λw u=>∃g,u=.pointer (some ⟨g,0,none⟩)/\B<=g/\Box w g t cs
theorem RR (B:Nat) (t:TypeId) (cs:Array Value):MP (pT B t cs):=λ_ _ _ hx ⟨g,e,h,hb⟩=>⟨g,e,h,hb.ext hx⟩
theorem LC {l:List Ve}(x:Ve) {k:Nat}(h:l.length=k+1):U2 l x=RU (l[k]'(by omega)).1 x.1:=by
 unfold U2;rw[List.getLast?_eq_getElem?,show l.length-1=k by omega,ZX (by omega)]
theorem EU (b:List UInt8) (w:World) (hb:b.length<=8960) :
  Calls prog 175 #[.string (Qb b)] w λe w'=>∃u,e=.returned (.tuple #[u,.bool (Js b).isSome])/\Ext w w'/\Zu w' w.heap.size u ((Js b).getD []):=by
 have hz:=Qh;by_cases hm:b.length%32=0;case neg =>
  have HN:=Qa (show Js b=none from by unfold Js;rw[QD hm]);have hmi:((b.length:Int)%32 != 0)=true:=by simp;omega
  go_enter func175,ntmps175;go_wp2_with fail;go_ret2;rw[HN.o];exact⟨_,rfl,Qg _,Zu.nil _ _⟩
 have hmi:((b.length:Int)%32 != 0)=false:=by simp;omega
 have HE:=Qa (show Js b=YF b (b.length/32) from by unfold Js;rw[QN hm]);have KT:=Qa (λk (h:YF b k=none) (hk:k<=b.length/32)=>M9 h _ hk);obtain⟨N,hN⟩:∃N,b.length/32=N:=⟨_,rfl⟩
 have hbN:b.length=32*N:=by omega
 have Qaq:N<=280:=by omega
 rw[hN]at HE KT;go_enter func175,ntmps175;go_wp2_with fail;clear hm hN;go_loopw [0,4,5,6,7] (λr v _ _ _ wr=>∃(k:Nat) (l:List Ve),k<=N/\r=.string (Qb (b.drop (32*k)))/\Ext w wr/\YF b k=some l/\Zu wr w.heap.size v l) (λr _ _ _ _ _=>(match r with|.string s=>s.size|_=>0));case atStart=>exact⟨0,[],by omega,by simp,Qg _,rfl,Zu.nil _ _⟩
 case round =>
  obtain⟨k,l,hk,rfl,hx,hl,own⟩:=hrel;have uP:=hx.size;by_cases Qn:k<N
  ·have jk:(b.drop (32*k)).length=b.length-32*k:=by simp
   have XS:(Yk b k).length=32:=by simp[Yk];omega
   have Jt:(Qb (b.drop (32*k))).toList.isEmpty=false:=by rw[Qe,List.isEmpty_eq_false_iff];intro e;rw[e]at jk;simp at jk;omega
   have gD:(Qb (b.drop (32*k))).extract 0 32=Qb (Yk b k):=by rw[J6];rfl
   have Us:=Qa (λh=>KT.o (k+1) (Cv hl h) (by omega));have NQ:=Qa (λh1 h2=>Fr hl h1 h2);have wN:(Qb (b.drop (32*k))).extract 32 (Qb (b.drop (32*k))).size=Qb (b.drop (32*(k+1))):=by rw[J6,nf,Qh,show 32*k+32=32*(k+1) by omega,qr (by simp;omega)]
   have RJ:=WX hl;clear hl;generalize Yk b k=o at *;generalize b.drop (32*k)=rest at *;have hrl2:32<=rest.length:=by omega
   have VD:(Qb rest).size=rest.length:=Qh _;have hop:(Qb o).size=32:=by rw[Qh,XS]
   have J7:∀h:2<(Qb o).size,(Qb o)[2]'h=o.getD 2 0:=λh=>by rw[Yb,ZX (by omega)];rfl
   have hlw:IntKind.i64.wrap ((o.getD 2 0).toNat:Int)=((o.getD 2 0).toNat:Int):=by have:=(o.getD 2 0).toNat_lt;rw[Wb];omega
   have je:wrap64 ((o.getD 2 0).toNat:Int)=((o.getD 2 0).toNat:Int):=by have:=(o.getD 2 0).toNat_lt;unfold wrap64;omega
   have aF:=(o.getD 2 0).toNat_lt;have PZ:Zm (rV o=(decide ((o.getD 2 0).toNat<=24)&&decide (1<=(Xm o).2)&&decide ((Xm o).2<=64)&&Zt (Xm o).1&&decide (Xn (Xm o)=o))):=rfl;have fb:Zm (Xm o=((o.drop 4).take (o.getD 2 0).toNat,(Z1 (o.take 2):Int))):=rfl;generalize o.getD 2 0=ch at *;obtain⟨long,hlong⟩:∃n,ch.toNat=n:=⟨_,rfl⟩
   rw[hlong]at hlw je aF PZ fb;go_upto_region 8 with fail;clear hlw je;by_cases c0:24<long
   ·have HN:=Qa (HE.o.trans (Us.o (.inl (by rw[PZ.o,show decide (long<=24)=false by simp;omega];simp))));have gK:(24:Int)<(long:Int):=by omega
    go_wp2_with fail;go_ret2;rw[HN.o];exact⟨_,rfl,hx,Zu.nil _ _⟩
   have gK:¬(24:Int)<(long:Int):=by omega
   have uO:decide ((24:Int)<(long:Int))=false:=by simp;omega
   have E7:=MT (i:=long) (l:=o.drop 4);have Rm:(o.take 2).length=2:=by simp;omega
   have GQ:=Nb (o.take 2);rw[Rm]at GQ;have HG:=Qa (λw=>jP (o.take 2) w (.inr (.inl Rm)));have WN:Zm ((Qb o).extract 4 (4+long)=Qb ((o.drop 4).take long)):=by rw[J6,show 4+long-4=long by omega];exact rfl
   have Gx:Zm ((Qb o).extract 0 2=Qb (o.take 2)):=by rw[J6];exact rfl
   have Lo:((o.drop 4).take long).length<=24:=by rw[E7];omega
   have Qba:Z1 (o.take 2)<65536:=by simpa using GQ
   clear E7 GQ;generalize Z1 (o.take 2)=ino at *;generalize (o.drop 4).take long=name at *;rw[fb.o]at Us NQ PZ;simp only at PZ;have wa:IntKind.i64.wrap (4+(long:Int))=((4+long:Nat):Int):=by rw[Wb];omega
   have wb:IntKind.i64.wrap (ino:Int)=(ino:Int):=by rw[Wb];omega
   have wb2:wrap64 (ino:Int)=(ino:Int):=by unfold wrap64;omega
   go_upto_region 10 with fail;refine JN 10 [[],[],[1],[0,2],[],[4],[5],[6],[3,7],[]] [.inl (.string (Qb (o))),.inl (.int .i64 ((long:Int))),.inl (.int .i64 (((4+long:Nat):Int))),.inl (.string (Qb (name))),.inl (.string (Qb (o))),.inl (.string (Qb (o.take 2))),.inl (.int .u64 (ino:Int)),.inl (.int .i64 ((ino:Int))),.inl (.agg #[.string (Qb name),.int .i64 (ino:Int)]),.inr ⟨pT wr.heap.size 154 #[.string ⟨#[]⟩,.int .i64 0],RR _ _ _⟩] (by kernel_rfl) (by kernel_rfl) rfl (λus=>?_);simp only[KG,KI,UY,KJ]
   iterate 6
    refine xW (λw' hx hd=>?_) ?_
    ·have ml:=WN.o;have hx2:=Gx.o;go_wp2_with fail;exact Qg _
    simp only[S_]
   refine xW (λw' hx hd=>?_) ?_
   ·go_wp2_with (go_at_call 164;refine(HG.o _).mono ?_;rintro e w2 ⟨rfl,rfl⟩)
    exact Qg _
   simp only[S_]
   iterate 2
    refine xW (λw' hx hd=>?_) ?_
    ·go_wp2_with fail;exact Qg _
    simp only[S_]
   refine xR (λw' hx hd=>?_) ?_
   ·go_wp2_with fail;exact⟨(Qg w').alloc _,_,rfl,hx.size,Qs _ _ _⟩
   simp only[S_];rw[Vx];intro w' hx hv;have h9:=hv 9 (by omega);clear hv;generalize us 9=u9 at *;obtain⟨g,rfl,hg,bg⟩:=h9;have HW:=Qa hx;clear hx;go_upto_region 11 with(refine EE (.tmp 7) (.tmp 31) rfl rfl g (Qb name) (ino:Int) _ 154 rfl rfl bg rfl ?_;intro W2 bx g2)
   have xr:Ext wr W2:=HW.o.grown g2 (λj e=>by cases e;exact hg);clear bg wa wb wb2;have k0:W2.cell? ⟨g,0,none⟩=some (.string (Qb name)):=bx.cell 0;have k1:W2.cell? ⟨g,1,none⟩=some (.int .i64 (ino:Int)):=bx.cell 1;have HM:=Qa (λw=>TA name w (by omega));have HEt:=Qa (λw h1=>Sj (name,(ino:Int)) w Lo h1 (by simp;omega));simp only at HEt;by_cases c1:ino<1
   ·have HN:=Qa (HE.o.trans (Us.o (.inl (by rw[PZ.o,show decide (1<=(ino:Int))=false by simp;omega];simp))));have ml:(ino:Int)<1:=by omega
    go_wp2_with fail;go_ret2;rw[HN.o];exact⟨_,rfl,hx.trans xr,Zu.nil _ _⟩
   have ml:¬(ino:Int)<1:=by omega
   have hx11:decide ((ino:Int)<1)=false:=by simp;omega
   by_cases c2:64<ino
   ·have HN:=Qa (HE.o.trans (Us.o (.inl (by rw[PZ.o,show decide ((ino:Int)<=64)=false by simp;omega];simp))));have hx2:(64:Int)<(ino:Int):=by omega
    go_wp2_with fail;go_ret2;rw[HN.o];exact⟨_,rfl,hx.trans xr,Zu.nil _ _⟩
   have hx2:¬(64:Int)<(ino:Int):=by omega
   have hx22:decide ((64:Int)<(ino:Int))=false:=by simp;omega
   cases c3:Zt name with
   | false =>
    have HN:=Qa (HE.o.trans (Us.o (.inl (by rw[PZ.o,c3];simp))));rw[c3]at HM;clear c3;go_wp2_with (go_at_call 110;refine(HM.o _).mono ?_;rintro e w3 ⟨rfl,x3⟩)
    go_ret2;rw[HN.o];exact⟨_,rfl,(hx.trans xr).trans x3,Zu.nil _ _⟩
   | true =>
   have Gw:=Qa (λw=>HEt.o w (by omega));by_cases c4:Xn (name,(ino:Int))=o;case neg =>
    have HN:=Qa (HE.o.trans (Us.o (.inl (by rw[PZ.o,show decide (Xn (name,(ino:Int))=o)=false by simpa using c4];simp))));have d4:((Qb (Xn (name,(ino:Int)))).toList==(Qb o).toList)=false:=by rw[Qe,Qe];simpa using c4
    have d5:¬(Qb (Xn (name,(ino:Int)))).toList=(Qb o).toList:=by rw[Qe,Qe];exact c4
    rw[c3]at HM;clear c3 c4 HEt;generalize Xn (name,(ino:Int))=eo at *
    go_wp2_with (first
     | (go_at_call 110;refine(HM.o _).mono ?_;rintro e w3 ⟨rfl,x3⟩;have m0:=x3.keep k0;have m1:=x3.keep k1)
     | (go_at_call 212;refine(Gw.o _).mono ?_;rintro e w4 ⟨rfl,x4⟩))
    go_ret2;rw[HN.o];exact⟨_,rfl,((hx.trans xr).trans x3).trans x4,Zu.nil _ _⟩
   have Yj:rV o=true:=by rw[PZ.o,c3,c4];simp;omega
   have Ts:=Qa (NQ.o Yj);have d4:((Qb (Xn (name,(ino:Int)))).toList==(Qb o).toList)=true:=by rw[c4];simp
   have d5:(Qb (Xn (name,(ino:Int)))).toList=(Qb o).toList:=by rw[c4]
   rw[c3]at HM;clear c3 HEt NQ Yj;have ru:=Qa c4;clear c4 gK uO;generalize Xn (name,(ino:Int))=eo at *
   go_upto_region 13 with(first
    | (go_at_call 110;refine(HM.o _).mono ?_;rintro e w3 ⟨rfl,x3⟩;have m0:=x3.keep k0;have m1:=x3.keep k1)
    | (go_at_call 212;refine(Gw.o _).mono ?_;rintro e w4 ⟨rfl,x4⟩))
   have mD:=(xr.trans x3).trans x4;have Cn:=(bx.ext x3).ext x4;clear k0 k1 m0 m1 bx xr x3 x4 HM Gw d4 d5 ru PZ fb;have Yr:=Zu.ext own mD;obtain⟨A4,cap4,rfl,at4⟩:=Yr.form;rw[RJ]at at4 ⊢;go_cut [66] (λs wx=>s=.bool (!(U2 l (name,(ino:Int))))/\Ext w4 wx);case first =>
    have k0:∀y:Qt w4,y.now.cell? ⟨g,0,none⟩=some (.string (Qb name)):=λy=>y.ext.keep (Cn.cell 0);clear Ts Us KT HE wN gD WN Gx own Yr Cn mD;cases k with
    | zero =>
     obtain rfl:=bM RJ;have HV:=Qa (show U2 [] (name,(ino:Int))=true from rfl);refine Qk (by kernel_rfl) (by kernel_rfl) ?_;repeat (go_big_quiet_step (fail))
     refine VI ?_;rintro w5 ⟨y,rfl⟩;go_wp2_with fail;go_meet;exact⟨by rw[HV.o];rfl,y.ext⟩
    | succ q =>
     obtain⟨bb,oo,rfl,Qf⟩:=at4.2 (by omega);have hq:=(Qf q (by omega)).1;have HV:=Qa (LC (name,(ino:Int)) RJ);simp only at HV;clear Qf at4;have k1:∀y:Qt w4,y.now.cell? ⟨bb,oo+q*2,none⟩=some (.string (Qb (l[q]'(by omega)).1)):=λy=>y.ext.keep hq;clear hq;generalize (l[q]'(by omega)).1=last at *;have t1:IntKind.i64.wrap (((q+1:Nat):Int)-1)=(q:Int):=by rw[Wb];omega
     have t2:decide ((0:Int)<((q+1:Nat):Int))=true:=Xd (by omega);have t3:(q:Int)<((q+1:Nat):Int):=by omega
     cases hl:RU last name with
     | false =>
      have P2:=Qa (HV.o.trans hl);have P8:Op.bytesLess (Qb last).toList (Qb name).toList=false:=by rw[Qe,Qe];exact hl
      clear hl HV;refine Qk (by kernel_rfl) (by kernel_rfl) ?_;repeat (go_big_quiet_step (fail))
      refine VI ?_;rintro w5 ⟨y,rfl⟩;go_wp2_with fail;go_meet;exact⟨by rw[P2.o];rfl,y.ext⟩
     | true =>
      have P2:=Qa (HV.o.trans hl);have P8:Op.bytesLess (Qb last).toList (Qb name).toList=true:=by rw[Qe,Qe];exact hl
      clear hl HV;refine Qk (by kernel_rfl) (by kernel_rfl) ?_;repeat (go_big_quiet_step (fail))
      refine VI ?_;rintro w5 ⟨y,rfl⟩;go_wp2_with fail;go_meet;exact⟨by rw[P2.o];rfl,y.ext⟩
   case rest =>
    obtain⟨rfl,hxc⟩:=hcut;cases hv:U2 l (name,(ino:Int)) with
    | false => have HN:=Qa (HE.o.trans (Us.o (.inr hv)));clear hv Ts Us KT HE;go_wp2_with fail;go_ret2;rw[HN.o];exact⟨_,rfl,hx.trans (mD.trans hxc),Zu.nil _ _⟩
    | true =>
     have HN:=Qa (Ts.o hv);have nx:=Cn.ext hxc;have XD:=Zu.ext Yr hxc;have xr5:=mD.trans hxc;clear hv Ts Us KT HE own Yr at4 Cn mD hxc WN Gx HG hlong;unfold Zu at XD;rw[RJ]at XD
     go_wp2_with (first
      | (refine ED (.tmp 7) rfl rfl g _ 154 rfl nx rfl ?_)
      | (refine Ge (y:=(name,(ino:Int))) rfl (.tmp 67) (.tmp 69) rfl rfl rfl (Qc XD ((Qg wc).alloc _)) (Qs _ _ _) (by omega) (by simp;have:=xr5.size;omega) ?_;intro u' w6 UK My))
     have SC:=Qa (show∀j,(Value.slice A4 k cap4).ownBlock=some j->w.heap.size<=j fromλj e=>QU XD e);have x6:Ext w w6:=((hx.trans xr5).alloc _).grown My (λj e=>SC.o j e);go_roundw;case rel=>exact⟨k+1,l++[(name,(ino:Int))],by omega,by rw[←wN,VD,jk,hbN],x6,HN.o,Zu.snoc UK RJ.symm⟩
     case measure=>simp;omega
  ·obtain rfl:k=N:=by omega
   have HN:=Qa (HE.o.trans hl);have Jt:(Qb (b.drop (32*k))).toList.isEmpty=true:=by rw[Qe,List.drop_eq_nil_of_le (by omega)];rfl
   clear hl HE KT;go_wp2_with fail;go_ret2;rw[HN.o];exact⟨_,rfl,hx,own⟩
end Go.Proofs.YtfaplefkakpgcaaGreatDoor
namespace Go.Proofs.YtfaplefkakpgcaaGreatDoor
open Go.Proofs.Tryz
open Go.RowKit Go.Shelf
theorem Ss (A:Option Addr) (n c:Nat) (v:List (List UInt8)) (I k:Int) (off size:Nat) (w:World) (hv:Strs w A n v) (hg:Ji v I) (Vz:1<=k) (KN:k<=I) (U7:JL (J9 v I k).x<=(off:Int)) :
  Calls prog 60 #[.slice A n c,.int .i64 k,.int .i64 (off:Int),.int .i64 (size:Int)] w λe w'=>e=.returned (.tuple #[.string (Qb []),.int .i64 0])/\Ext w w':=by
 have HO:=Qa (λw h=>LL A n c v I k w h hg Vz KN);have AJ:=Qa (λ(B g:Nat) (w:World) (s:Sl) hB hs hbx own=>Xj.of_opened (B:=B) (w:=w) (g:=g) (s:=s) hg Vz KN hB hs hbx own);have HV:=Qa hv;clear hv hg Vz KN;generalize hG:w.heap.size=G at *;go_enter func60,ntmps60;have b6:=Qs w 3 #[.int .i64 (off:Int)];have x6:Ext w (w.alloc (.cells #[.int .i64 (off:Int)] 3)):=(Qg w).alloc _;have P1:=Qa (HV.o.ext x6);go_upto_region 1 with fail;rw[hG]at b6;have hG6:G+1<=(w.alloc (.cells #[.int .i64 (off:Int)] 3)).heap.size:=by rw[YB,hG];exact Q4 _
 generalize w.alloc (.cells #[.int .i64 (off:Int)] 3)=w1 at *
 go_upto_region 2 with(first
  | (go_at_call 115;refine(HO.o _ P1.o).mono ?_;rintro e w2 ⟨⟨s,rfl,AD,JP⟩,x2⟩)
  | (refine Tl (.tmp 10) (.tmp 22) rfl rfl w2.heap.size s (J9 v I k) _ 162 rfl rfl (Qs _ _ _) rfl ?_;intro w3 b3 g3))
 have xa:Ext w2 (w2.alloc (.cells Pr 162)):=(Qg w2).alloc _;have G6:Ext w2 w3:=xa.grown g3 (λj e=>by cases e;exact Q4 _);have Ke:=(Qc JP xa).kept g3 (.inr (QX (Qc JP xa) (Qs w2 162 Pr) (by decide)).symm);have hF0:=AJ.o w1.heap.size w2.heap.size w3 s x2.size AD b3 Ke;have HX:=Qa (x6.trans (x2.trans G6));have tQ:=(b6.ext x2).ext G6;have Qks:=x2.size;clear HO AJ HV P1 JP AD b3 Ke xa G6 x2 g3 b6 x6;generalize Rl:w2.heap.size=g at *;generalize hFO:J9 v I k=F at *;have ga:=Qa hFO;clear hFO Rl;obtain⟨hOk,hBg,b,cap,hbx,own⟩:=hF0;generalize YS s ⟨v,I,k,QI v k⟩=fc at *;have hr:=F6 own;have vY:=Qa (λw h=>FH g ⟨some ⟨b,0,none⟩,F.v.length,cap⟩ F w h);have AE:JL F.x<=8960:=by unfold JL;omega
 have d1:decide ((off:Int)<0)=false:=by simp
 have d2:decide ((size:Int)<0)=false:=by simp
 have jT:=tQ.cell 0;generalize hzz:JL F.x=z at *;have d3:decide (z<=(off:Int))=true:=by simp;omega
 have rh:Ext w3 (w3.alloc (.cells #[.int .i64 z] 3)):=(Qg w3).alloc _;have Uq:=Qs w3 3 #[.int .i64 z];have zy:=tQ.ext rh;have c6a:(w3.alloc (.cells #[.int .i64 z] 3)).cell? ⟨G,0,none⟩=some (.int .i64 (off:Int)):=zy.cell 0;have fx:(w3.alloc (.cells #[.int .i64 z] 3)).cell? ⟨w3.heap.size,0,none⟩=some (.int .i64 z):=Uq.cell 0;have AP:=Qa (HX.o.trans rh);go_wp2_with (go_at_call 116;(have hq:=vY.o _ hbx;with_reducible (refine hq.mono ?_));clear hq;rintro e w6 ⟨rfl,rfl⟩)
 go_ret2;exact⟨rfl,AP.o⟩
def XK (v:List (List UInt8)) (I k:Int):List UInt8:=NI (J9 v I k) 0 8960
theorem Fp {v:List (List UInt8)}{I k:Int}(h:JL (J9 v I k).x<=0):XK v I k=[]:=by
 unfold XK NI EV;rw[QD (by omega),show Y5 (JL (J9 v I k).x)=0 by unfold Y5;omega];rfl
theorem ce (A:Option Addr) (n c:Nat) (v:List (List UInt8)) (I k:Int) (w:World) (hv:Strs w A n v) (hg:Ji v I) (Vz:1<=k) (KN:k<=I) :
  Calls prog 60 #[.slice A n c,.int .i64 k,.int .i64 0,.int .i64 8960] w λe w'=>e=.returned (.tuple #[.string (Qb (XK v I k)),.int .i64 0])/\Ext w w':=by
 by_cases h:JL (J9 v I k).x<=0
 ·rw[Fp h];exact Ss A n c v I k 0 8960 w hv hg Vz KN (by simpa using h)
 ·exact cg A n c v I k 0 8960 w hv hg Vz KN (by simp;omega) (by simp) (by unfold JL;simp;omega)
theorem M5 (v:List (List UInt8)) (I k:Int):(XK v I k).length<=8960:=by
 unfold XK NI;have:=Fz (Br (J9 v I k) ((0:Nat):Int) (EV (J9 v I k) ((0:Nat):Int) ((8960:Nat):Int))) (List.range (min (Y5 (EV (J9 v I k) ((0:Nat):Int) ((8960:Nat):Int))) 70));rw[mT]at this;refine YR ?_ (YR this (by omega));exact Q4 _
end Go.Proofs.YtfaplefkakpgcaaGreatDoor
namespace Go.Proofs.YtfaplefkakpgcaaGreatDoor
open Go.Proofs.Tryz
open Go.RowKit
def QV (v:List (List UInt8)) (I k:Int):List Ve × Int :=
 if k<1\/I<k then ([],2) else if (QI v k).getD 0 0≠2 then ([],11) else match Js (XK v I k) with
  | none=>([],3)
  | some l=>(l,0)
theorem M8 {v:List (List UInt8)}{I k:Int}(h:(QV v I k).2=0):1<=k/\k<=I/\(QI v k).getD 0 0=2/\Js (XK v I k)=some (QV v I k).1:=by
 unfold QV at *;by_cases h1:k<1\/I<k
 ·rw[QN h1]at h;simp at h
 rw[QD h1]at h ⊢;by_cases h2:(QI v k).getD 0 0≠2
 ·rw[QN h2]at h;simp at h
 rw[QD h2]at h ⊢;cases h3:Js (XK v I k) with
 | none=>rw[h3]at h;simp at h
 | some l=>exact⟨by omega,by omega,by simpa using h2,rfl⟩
theorem RD {v:List (List UInt8)}{I k:Int}(h:(QV v I k).2≠0):(QV v I k).1=[]:=by
 unfold QV at *;by_cases h1:k<1\/I<k
 ·rw[QN h1]
 rw[QD h1]at h ⊢;by_cases h2:(QI v k).getD 0 0≠2
 ·rw[QN h2]
 rw[QD h2]at h ⊢;cases h3:Js (XK v I k) with
 | none=>rfl
 | some l=>rw[h3]at h;simp at h
theorem VW (v:List (List UInt8)) (I k:Int):(QV v I k).1.length<=280:=by
 by_cases h:(QV v I k).2=0
 ·have h1:=(Wl (M8 h).2.2.2).2;have h2:=M5 v I k;omega
 ·rw[RD h];simp
theorem V6 (v:List (List UInt8)) (I k:Int):Rp (QV v I k).1:=by
 by_cases h:(QV v I k).2=0
 ·exact(Wl (M8 h).2.2.2).1
 ·rw[RD h];exact⟨λx hx=>absurd hx Rw,List.Pairwise.nil⟩
theorem Fq (A:Option Addr) (n c:Nat) (v:List (List UInt8)) (I k:Int) (w:World) (hv:Strs w A n v) (hg:Ji v I) :
  Calls prog 107 #[.slice A n c,.int .i64 k] w λe w'=>∃u,e=.returned (.tuple #[u,.int .i64 (QV v I k).2])/\Ext w w'/\Zu w' w.heap.size u (QV v I k).1:=by
 by_cases h1:k<1\/I<k
 ·have HP:=Qa (show QV v I k=([],2) from by unfold QV;rw[QN h1]);have HG:=Qa (λw h=>Db A n c v I k w h hg h1);go_enter func107,ntmps107
  go_wp2_with (first
   | (go_at_call 69;refine(HG.o _ hv).mono ?_;rintro e w1 ⟨rfl,x1⟩)
   | (refine QR (.tmp 6) (.tmp 15) rfl rfl w1.heap.size _ Qy 121 rfl rfl (Qs _ _ _) rfl rfl ?_;intro w2 b2 g2))
  go_ret2;rw[HP.o];exact⟨_,rfl,(x1.alloc _).grown g2 (λk e=>by cases e;exact x1.size),Zu.nil _ _⟩
 have Vz:1<=k:=by omega
 have KN:k<=I:=by omega
 have HG:=Qa (λw h=>TJ A n c v I k w h hg Vz KN);have HR:=Qa (λw h=>ce A n c v I k w h hg Vz KN);have hl:(QI v k).length=12:=rfl;have Ls:(Qj (QI v k))[0]? =some (.int .i64 ((QI v k).getD 0 0)):=rfl;by_cases h2:(QI v k).getD 0 0≠2
 ·have HP:=Qa (show QV v I k=([],11) from by unfold QV;rw[QD h1,QN h2]);have d2:((QI v k).getD 0 0 != 2)=true:=by simpa using h2
  clear h2;generalize (QI v k).getD 0 0=kd at *;generalize QI v k=x at *;go_enter func107,ntmps107
  go_wp2_with (first
   | (go_at_call 69;refine(HG.o _ hv).mono ?_;rintro e w1 ⟨rfl,x1⟩)
   | (refine QR (.tmp 6) (.tmp 15) rfl rfl w1.heap.size _ Qy 121 rfl rfl (Qs _ _ _) hl rfl ?_;intro w2 b2 g2;have c2:=(b2.cell 0).trans Ls))
  go_ret2;rw[HP.o];exact⟨_,rfl,(x1.alloc _).grown g2 (λk e=>by cases e;exact x1.size),Zu.nil _ _⟩
 have hk:(QI v k).getD 0 0=2:=by simpa using h2
 have Ap:=Qa (show QV v I k=match Js (XK v I k) with|none=>([],3)|some l=>(l,0) from by unfold QV;rw[QD h1,QD h2]);have AA:=M5 v I k;have fb:=Qa (λw=>EU (XK v I k) w AA);clear h2;generalize XK v I k=d at *;generalize QV v I k=R at *;rw[hk]at Ls;clear hk;generalize QI v k=x at *;cases he:Js d with
 | none =>
  rw[he]at fb Ap;clear he;go_enter func107,ntmps107
  go_wp2_with (first
   | (go_at_call 69;refine(HG.o _ hv).mono ?_;rintro e w1 ⟨rfl,x1⟩)
   | (refine QR (.tmp 6) (.tmp 15) rfl rfl w1.heap.size _ Qy 121 rfl rfl (Qs _ _ _) hl rfl ?_;intro w2 b2 g2;have c2:=(b2.cell 0).trans Ls;have x2:=(x1.alloc (.cells (Qj Qy) 121)).grown g2 (λk e=>by cases e;exact x1.size))
   | (go_at_call 60;refine(HR.o _ (hv.ext x2)).mono ?_;rintro e w3 ⟨rfl,x3⟩)
   | (go_at_call 175;refine(fb.o _).mono ?_;rintro e w4 ⟨u,rfl,x4,Yr⟩))
  go_ret2;rw[Ap.o];exact⟨_,rfl,x2.trans (x3.trans x4),Zu.nil _ _⟩
 | some l =>
  rw[he]at fb Ap;clear he;go_enter func107,ntmps107
  go_wp2_with (first
   | (go_at_call 69;refine(HG.o _ hv).mono ?_;rintro e w1 ⟨rfl,x1⟩)
   | (refine QR (.tmp 6) (.tmp 15) rfl rfl w1.heap.size _ Qy 121 rfl rfl (Qs _ _ _) hl rfl ?_;intro w2 b2 g2;have c2:=(b2.cell 0).trans Ls;have x2:=(x1.alloc (.cells (Qj Qy) 121)).grown g2 (λk e=>by cases e;exact x1.size))
   | (go_at_call 60;refine(HR.o _ (hv.ext x2)).mono ?_;rintro e w3 ⟨rfl,x3⟩)
   | (go_at_call 175;refine(fb.o _).mono ?_;rintro e w4 ⟨u,rfl,x4,Yr⟩))
  go_ret2;rw[Ap.o];exact⟨_,rfl,x2.trans (x3.trans x4),Yr.base (by have:=x2.size;have:=x3.size;omega)⟩
structure Nw (F G:QH):Prop where
 I:G.I=F.I
 n:G.n=F.n
 len:G.v.length=F.v.length
 ino:∀m,1<=m->m<=F.I->m≠F.n->QI G.v m=QI F.v m
theorem Nw.refl (F:QH):Nw F F:=⟨rfl,rfl,rfl,λ_ _ _ _=>rfl⟩
theorem Nw.trans {F G H:QH}(h:Nw F G) (k:Nw G H):Nw F H :=
 ⟨k.I.trans h.I,k.n.trans h.n,k.len.trans h.len,λm h1 h2 h3=>(k.ino m h1 (by rw[h.I];exact h2) (by rw[h.n];exact h3)).trans (h.ino m h1 h2 h3)⟩
theorem Nw.setX (F:QH) (j:Nat) (b:Int):Nw F (F.setX j b):=⟨rfl,rfl,rfl,λ_ _ _ _=>rfl⟩
theorem Nw.keep {F:QH}(h:JB F):Nw F F.keep:=⟨rfl,rfl,SK F,λm h1 h2 h3=>Dc h.good h.n1 h.n2 h1 h3 F.x⟩
theorem Nw.lay (F:QH) {q p:Nat}{d:List UInt8}(hq:3+(F.I+1)/2<=(q:Int)):Nw F (F.lay q p d) :=
 ⟨rfl,rfl,dT F q p d,λm h1 h2 h3=>RN _ _ (by omega)⟩
theorem Nw.took (F:QH) {i:Nat}(ht:U4 F.v F.I=some i):Nw F (F.took i):=by
 have h:=(UT ht).1;unfold Uv at h;refine⟨rfl,rfl,Oh F i,λm h1 h2 h3=>?_⟩;show QI (Pf F.v i) m=_;unfold Pf;rw[RN _ _ (by omega),RN _ _ (by omega)]
theorem fP (b:Int):(re b).length=2:=rfl
theorem JB.named {F:QH}(h:JB F) {k:Nat}(hk:k<70) {b:Int}(h0:0<=b) (h1:b<65536):JB (F.named k b)/\Nw F (F.named k b):=by
 unfold QH.named;split
 ·have h2:=h.setX (j:=4+k) (by omega) (by omega) h0 h1;exact⟨h2.keep,(Nw.setX F _ _).trans (Nw.keep h2)⟩
 ·split
  ·rename_i hi;obtain⟨h2,h3⟩:=Ws hi;have XS:=Jg h.good.plan;exact⟨h.lay (by omega) (by omega) (by rw[fP];omega),Nw.lay F (by omega)⟩
  ·exact⟨h,Nw.refl F⟩
theorem JB.withInd {F F1:QH}(h:JB F) {k:Nat}(hw:F.withInd k=some F1):JB F1/\Nw F F1:=by
 unfold QH.withInd at hw;split at hw
 ·cases ht:U4 F.v F.I with
  | none=>rw[ht]at hw;cases hw
  | some i => rw[ht]at hw;injection hw with hw;subst hw;have hi:=ag h.good ht;have h2:=(h.took ht).setX (j:=10) (by omega) (by omega) (b:=(i:Int)) (by omega) (by omega);exact⟨h2.keep,((Nw.took F ht).trans (Nw.setX _ _ _)).trans (Nw.keep h2)⟩
 ·injection hw with hw;subst hw;exact⟨h,Nw.refl F⟩
theorem JB.placed {F:QH}(h:JB F) {k:Nat}(hk:k<70):JB (F.placed k).1/\Nw F (F.placed k).1/\((F.placed k).2.2=0->∃q:Nat,(F.placed k).2.1=(q:Int)/\3+(F.I+1)/2<=(q:Int)/\q<F.v.length):=by
 by_cases ha:VT F.v F.I F.x k= -1
 ·cases hw:F.withInd k with
  | none=>rw[Bt ha hw];exact⟨h,Nw.refl F,λh=>absurd h (by simp)⟩
  | some F1 =>
   obtain⟨h1,f1⟩:=h.withInd hw;cases ht:U4 F1.v F1.I with
   | none=>rw[Dr ha hw ht];exact⟨h1,f1,λh=>absurd h (by simp)⟩
   | some i =>
    rw[Is ha hw ht];have hi:=ag h1.good ht;obtain⟨t1,t2,_⟩:=UT ht;obtain⟨h2,f2⟩:=(h1.took ht).named hk (b:=(i:Int)) (by omega) (by omega);refine⟨h2,(f1.trans (Nw.took F1 ht)).trans f2,λ_=>⟨i,rfl,?_,?_⟩⟩
    ·unfold Uv at t1;rw[f1.I]at t1;exact t1
    ·rw[←f1.len];exact t2
 ·rw[Ir ha];obtain⟨h1,h2⟩:=Ws (jt ha);have XS:=Jg h.good.plan;exact⟨h,Nw.refl F,λ_=>⟨(VT F.v F.I F.x k).toNat,by simp only;omega,by omega,by omega⟩⟩
theorem JB.wr {off:Nat}{d:List UInt8}(he:off+d.length<=8960) (m:Nat):∀(p:Nat) (F:QH),off+d.length-p<=m->off<=p->JB F->JB (F.wr off d p).1/\Nw F (F.wr off d p).1:=by
 induction m with
 | zero => intro p F hm hp h;rw[ap (by omega)];exact⟨h,Nw.refl F⟩
 | succ m ih =>
  intro p F hm hp h;by_cases Qn:p<off+d.length
  ·obtain⟨h1,f1,hq⟩:=h.placed (k:=p/128) (by omega);by_cases h0:(F.placed (p/128)).2.2=0
   ·rw[Qdi Qn h0];obtain⟨q,wT,wU,hq2⟩:=hq h0;have hmod:=Nat.mod_lt p (show 128 > 0 by omega);rw[wT,mU];have hq3:3<=q:=by have XS:=Jg h.good.plan;omega
    clear hq;have h2:=h1.lay (q:=q) (p:=p%128) (d:=(d.drop (p-off)).take (min (128-p%128) (off+d.length-p))) hq3 (by rw[f1.len];exact hq2) (by rw[MT,Nx];omega);have f2:=Nw.lay (F.placed (p/128)).1 (q:=q) (p:=p%128) (d:=(d.drop (p-off)).take (min (128-p%128) (off+d.length-p))) (by rw[f1.I];exact wU);obtain⟨h3,f3⟩:=ih (p+min (128-p%128) (off+d.length-p)) _ (by omega) (by omega) h2;exact⟨h3,(f1.trans f2).trans f3⟩
   ·rw[qM Qn h0];exact⟨h1,f1⟩
  ·rw[ap Qn];exact⟨h,Nw.refl F⟩
theorem JB.of {v:List (List UInt8)}{I k:Int}(hg:Ji v I) (h1:1<=k) (h2:k<=I):JB (J9 v I k):=⟨hg,h1,h2,XU v k,CD _ _⟩
def Ha (v:List (List UInt8)) (I k off size:Int):List UInt8 × Int :=
 if off<0\/size<0 then ([],1) else if JL (J9 v I k).x<=off then ([],0) else (NI (J9 v I k) off.toNat size.toNat,0)
theorem Li (F B:Option Addr) (fc bc:Nat) (fr bl:List (List UInt8)) (s:List UInt8) (hs:s.length<=9223372036854775807) (w:World) (hF:Strs w F fr.length fr) (hB:Strs w B bl.length bl) (Mx:fr.length<=9223372036854775807) (SA:bl.length<=9223372036854775807) :
  Calls prog 9 #[.agg #[.slice F fr.length fc,.slice B bl.length bc,.string (Qb s)]] w λe w'=>(∃n:Int,e=.returned (.int .i64 n)/\(n<=0->fr.length<=20/\bl.length<=80/\s.length<=4000))/\Ext w w':=by
 have hz:=Qh;have x0:=(Qg w).alloc (.cells #[.slice F fr.length fc,.slice B bl.length bc,.string (Qb s)] 24);have bx:=Qs w 24 #[.slice F fr.length fc,.slice B bl.length bc,.string (Qb s)];have HF:=Qa (hF.ext x0);have HB:=Qa (hB.ext x0);clear hF hB;go_enter func9,ntmps9;go_upto_region 1 with fail;generalize w.alloc (.cells #[.slice F fr.length fc,.slice B bl.length bc,.string (Qb s)] 24)=w0 at x0 bx HF HB ⊢;have HBX:=Qa bx;generalize w.heap.size=G at *;have q0:w0.cell? ⟨G,0,none⟩=some (.slice F fr.length fc):=bx.cell 0;have q1:w0.cell? ⟨G,1,none⟩=some (.slice B bl.length bc):=bx.cell 1;have q2:w0.cell? ⟨G,2,none⟩=some (.string (Qb s)):=bx.cell 2;clear bx;by_cases c1:(20:Int)<fr.length
 ·go_wp2_with fail;go_ret;exact⟨⟨1,rfl,λh=>by omega⟩,x0⟩
 ·by_cases c2:(80:Int)<bl.length
  ·go_wp2_with fail;go_ret;exact⟨⟨1,rfl,λh=>by omega⟩,x0⟩
  ·by_cases c5:(4000:Int)<s.length
   ·go_wp2_with fail;go_ret;exact⟨⟨1,rfl,λh=>by omega⟩,x0⟩
   go_upto_region 4 with fail;have Qgr:=Qa (show fr.length<=20/\bl.length<=80/\s.length<=4000 by omega);clear c1 c2 c5;go_loop [3,24] (λ_ i=>∃k:Nat,k<=fr.length/\i=.int .i64 k) (λ_ i=>fr.length-(intOf i).toNat);case atStart=>exact⟨0,by omega,rfl⟩
   case round =>
    obtain⟨k,hk,rfl⟩:=hrel;by_cases Qn:k<fr.length
    ·obtain⟨b,o,hA,Qf⟩:=HF.o.2 (by omega);subst hA;have ND:=Qf k Qn;have Y6:(k:Int)<(fr.length:Int):=by omega
     clear Qf;generalize fr[k]=t at *;by_cases c3:(200:Int)<t.length
     ·go_wp2_with fail;go_ret;exact⟨⟨1,rfl,λh=>by omega⟩,x0⟩
     ·go_wp2_with fail;go_round;case rel=>exact⟨k+1,by omega,by go_num⟩
      case measure=>simp[intOf];omega
    ·have Gu:¬(k:Int)<(fr.length:Int):=by omega
     go_upto_region 10 with fail;go_loop [4,38] (λ_ i=>∃k:Nat,k<=bl.length/\i=.int .i64 k) (λ_ i=>bl.length-(intOf i).toNat);case atStart=>exact⟨0,by omega,rfl⟩
     case round =>
      obtain⟨k2,KN,rfl⟩:=hrel;by_cases Vq:k2<bl.length
      ·obtain⟨b,o,hA,Qf⟩:=HB.o.2 (by omega);subst hA;have ND:=Qf k2 Vq;have Y6:(k2:Int)<(bl.length:Int):=by omega
       clear Qf;generalize bl[k2]=t at *;by_cases c3:(200:Int)<t.length
       ·go_wp2_with fail;go_ret;exact⟨⟨1,rfl,λh=>by omega⟩,x0⟩
       ·go_wp2_with fail;go_round;case rel=>exact⟨k2+1,by omega,by go_num⟩
        case measure=>simp[intOf];omega
      ·have hkn2:¬(k2:Int)<(bl.length:Int):=by omega
       go_wp2_with fail;go_ret;exact⟨⟨0,rfl,λ_=>Qgr.o⟩,x0⟩
theorem I5 (F B:Option Addr) (fc bc:Nat) (fr bl:List (List UInt8)) (w:World) (hF:Strs w F fr.length fr) (hB:Strs w B bl.length bl) (Mx:fr.length<=9223372036854775807) (SA:bl.length<=9223372036854775807) :
  Calls prog 9 #[.agg #[.slice F fr.length fc,.slice B bl.length bc,.string ⟨#[]⟩]] w λe w'=>(∃n:Int,e=.returned (.int .i64 n)/\(n<=0->fr.length<=20/\bl.length<=80))/\Ext w w' :=
 (Li F B fc bc fr bl [] (by decide) w hF hB Mx SA).mono λe w' ⟨⟨n,h1,h2⟩,x⟩=>⟨⟨n,h1,λh=>⟨(h2 h).1,(h2 h).2.1⟩⟩,x⟩
def iD (m:QO) (e:Ending):Prop:=∃n,e=.returned (.int .i64 n)/\(n<=0->m.pr.n<=8/\m.pe.n<=60/\m.di.n<=32/\m.pi.n<=8/\m.fr.n<=20/\m.bl.n<=80)
theorem dR (m:QO) (d:Qz) (w:World) (hi:Q0 w m d) :
  Calls prog 13 #[.agg m.cells] w λe w'=>iD m e/\Ext w w':=by
 have hz:=Qh;have x0:=(Qg w).alloc (.cells m.cells 38);have bm:=Qs w 38 m.cells;have hF:=hi.fr.strs;have hB:=hi.bl.strs;have Mx:m.fr.n=d.fr.length:=hi.fr.1;have SA:m.bl.n=d.bl.length:=hi.bl.1;have k1:=hi.frk.2.1;have k2:=hi.blk.2.1;rw[Mx]at hF k1;rw[SA]at hB k2;have HG:=Qa (λw h1 h2=>I5 m.fr.A m.bl.A m.fr.c m.bl.c d.fr d.bl w h1 h2 (YQ k1) (YQ k2));have HF:=Qa (hF.ext x0);have HB:=Qa (hB.ext x0);have fe:=Qa Mx;have qU:=Qa SA;have m1:=hi.prk.2.1;have m2:=hi.pek.2.1;have m3:=hi.dik.2.1;have m4:=hi.pik.2.1;clear hF hB k1 k2 hi Mx SA;unfold iD;go_enter func13,ntmps13;go_upto_region 1 with fail;generalize w.alloc (.cells m.cells 38)=w0 at x0 bm HF HB ⊢;generalize w.heap.size=G at bm ⊢;have q5:w0.cell? ⟨G,5,none⟩=some (.slice m.pr.A m.pr.n m.pr.c):=bm.cell 5;have ID:w0.cell? ⟨G,14,none⟩=some (.slice m.pe.A m.pe.n m.pe.c):=bm.cell 14;have eU:w0.cell? ⟨G,16,none⟩=some (.slice m.di.A m.di.n m.di.c):=bm.cell 16;have q8:w0.cell? ⟨G,8,none⟩=some (.slice m.pi.A m.pi.n m.pi.c):=bm.cell 8;have gL:w0.cell? ⟨G,10,none⟩=some (.string (Qb m.inn)):=bm.cell 10;have q7:w0.cell? ⟨G,7,none⟩=some (.string (Qb m.init)):=bm.cell 7;have q4:w0.cell? ⟨G,4,none⟩=some (.slice m.fr.A d.fr.length m.fr.c):=by rw[←fe.o];exact bm.cell 4
 have IC:w0.cell? ⟨G,13,none⟩=some (.slice m.bl.A d.bl.length m.bl.c):=by rw[←qU.o];exact bm.cell 13
 clear bm;by_cases c1:(8:Int)<m.pr.n
 ·go_wp2_with fail;go_ret;exact⟨⟨1,rfl,λh=>by omega⟩,x0⟩
 by_cases c2:(60:Int)<m.pe.n
 ·go_wp2_with fail;go_ret;exact⟨⟨1,rfl,λh=>by omega⟩,x0⟩
 by_cases c3:(32:Int)<m.di.n
 ·go_wp2_with fail;go_ret;exact⟨⟨1,rfl,λh=>by omega⟩,x0⟩
 by_cases c4:(8:Int)<m.pi.n
 ·go_wp2_with fail;go_ret;exact⟨⟨1,rfl,λh=>by omega⟩,x0⟩
 by_cases c5:(300:Int)<m.inn.length
 ·go_wp2_with fail;go_ret;exact⟨⟨1,rfl,λh=>by omega⟩,x0⟩
 by_cases c6:(300:Int)<m.init.length
 ·go_wp2_with fail;go_ret;exact⟨⟨1,rfl,λh=>by omega⟩,x0⟩
 go_wp2_with (go_at_call 9;refine(HG.o _ HF.o HB.o).mono ?_;rintro e w1 ⟨⟨n,rfl,hn⟩,x1⟩;have HN:=Qa hn;clear hn)
 go_ret;exact⟨⟨n,rfl,λh=>⟨by omega,by omega,by omega,by omega,by have:=HN.o h;have:=fe.o;omega,by have:=HN.o h;have:=qU.o;omega⟩⟩,x0.trans x1⟩
end Go.Proofs.YtfaplefkakpgcaaGreatDoor
