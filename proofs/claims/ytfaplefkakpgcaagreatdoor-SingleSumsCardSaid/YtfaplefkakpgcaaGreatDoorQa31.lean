import Derived.Test.YtfaplefkakpgcaaGreatDoorQa22
import Derived.Test.YtfaplefkakpgcaaGreatDoorQa13
set_option linter.unusedVariables false
set_option linter.unusedSimpArgs false
set_option maxHeartbeats 32000000
set_option maxRecDepth 100000
namespace Go.Proofs.YtfaplefkakpgcaaGreatDoor
open Go.Proofs.Tryz
open Go.RowKit
def Wk (l:List XJ):List Value:=l.flatMap λx=>[Value.string (Qb x.1),Value.int .i64 x.2]
theorem DN:∀(l:List XJ) (j:Nat) (h:j<l.length),(Wk l)[j*2]? =some (.string (Qb l[j].1))/\(Wk l)[j*2+1]? =some (.int .i64 l[j].2)
 | x::l,0,_=>⟨rfl,rfl⟩
 | x::l,j+1,h=>by have e:Wk (x::l)=Value.string (Qb x.1)::Value.int .i64 x.2::Wk l:=rfl;have ih:=DN l j (by simpa using h);rw[e,show(j+1)*2=j*2+1+1 by omega];simp only[gt];exact ih
theorem Hq (a b:List XJ):Wk (a++b)=Wk a++Wk b:=by simp[Wk]
def St (w:World) (A:Option Addr) (n:Nat) (l:List XJ):Prop :=
 n=l.length/\(0<n->∃b o,A=some ⟨b,o,none⟩/\∀(j:Nat) (h:j<l.length),w.cell? ⟨b,o+j*2,none⟩=some (.string (Qb l[j].1))/\w.cell? ⟨b,o+j*2+1,none⟩=some (.int .i64 l[j].2))
theorem St.ext {w w':World}{A:Option Addr}{n:Nat}{l:List XJ}(h:St w A n l) (k:Ext w w'):St w' A n l :=
 ⟨h.1,λhn=>by obtain⟨b,o,e,hc⟩:=h.2 hn;exact⟨b,o,e,λj hj=>⟨k.keep (hc j hj).1,k.keep (hc j hj).2⟩⟩⟩
theorem cR:(prog.info? 154).map (λi=>(i.zero,i.size,i.bytes))=some (some (.agg #[.string ⟨#[]⟩,.int .i64 0]),2,24):=by kernel_rfl
def ZF (w:World) (base:Nat) (u:Value) (l:List XJ):Prop:=w.ownsRow base 154 2 u l.length (Wk l)
theorem ZF.nil (w:World) (base:Nat):ZF w base (.slice none 0 0) []:=ap _ _ _ _
theorem ZF.ext {w w':World}{base:Nat}{u:Value}{l:List XJ}(h:ZF w base u l) (k:Ext w w'):ZF w' base u l:=Qe h k
theorem ZF.base {w:World}{base base':Nat}{u:Value}{l:List XJ}(h:ZF w base u l) (k:base'<=base):ZF w base' u l:=Zy h k
theorem ZF.form {w:World}{base:Nat}{u:Value}{l:List XJ}(h:ZF w base u l):∃A cap,u=.slice A l.length cap/\St w A l.length l:=by
 rcases h.2 with⟨rfl,h0⟩|⟨g,cap,cur,rfl,hb,hh,hcap,_,VH,htake⟩
 ·exact⟨none,0,by rw[h0],rfl,λhn=>by omega⟩
 ·refine⟨_,cap,rfl,rfl,λhn=>⟨g,0,rfl,λj hj=>?_⟩⟩;have hc:∀i,i<2*l.length->w.cell? ⟨g,0+i,none⟩=(Wk l)[i]? :=λi hi=>by
   rw[Ux,cell_of_row w g i cur _ _ hh,←htake,Ty,Qv (by omega)];simp
  have:=DN l j hj;exact⟨(hc _ (by omega)).trans this.1,(by rw[Wed];exact(hc _ (by omega)).trans this.2)⟩
section
variable {ops:Array Oper}{rest:List Oper}{o:Oper}{a:Act}{w:World}{Q:Exit->Act->World->Prop}
theorem DO:(prog.info? 154).map (·.size)=some 2:=by kernel_rfl
theorem AO (x y:Operand) (Q7:o.guard=none) (ho:o.op=.store 154 x y) (g:Nat) (s:ByteArray) (i:Int) (old:Array Value) (t:TypeId) (hx:a.eval x=.pointer (some ⟨g,0,none⟩)) (hy:a.eval y=.agg #[.string s,.int .i64 i])
  (hb:Box w g t old) (hold:old.size=2) (hK:∀w',Box w' g t #[.string s,.int .i64 i]->w.grownBy w' (some g)->wpList prog ops Q rest (a.put o.dst undef) w'):wpList prog ops Q (o::rest) a w :=
 Yv _ x y Q7 ho g _ _ t hx hy hb DO hold (by simp[Value.oneCell']) hK
theorem AM (x:Operand) (Q7:o.guard=none) (ho:o.op=.load 154 x) (g:Nat) (cs:Array Value) (t:TypeId) (hx:a.eval x=.pointer (some ⟨g,0,none⟩))
  (hb:Box w g t cs) (hl:cs.size=2) (hK:wpList prog ops Q rest (a.put o.dst (.agg cs)) w):wpList prog ops Q (o::rest) a w :=
 XZ _ x Q7 ho g _ t _ hx hb underlying154 rfl (by rw[hl];exact DO) hK
end
theorem Dl {ops:Array Oper}{rest:List Oper}{o:Oper}{a:Act}{w:World}{Q:Exit->Act->World->Prop}{B g n:Nat}{u:Value}{l:List XJ}{y:XJ}(Q7:o.guard=none) (sl x:Operand)
  (ho:o.op=.call { callee:=.builtin .append,args:=#[sl,x],argTypes:=#[150,150] }) (hs:a.eval sl=u) (hx:a.eval x=.slice (some ⟨g,0,none⟩) 1 1)
  (h0:w.ownsRow B 154 2 u n (Wk l)) (hb:Box w g 154 #[.string (Qb y.1),.int .i64 y.2]) (hn:n<=1000000) (hB:B<=w.heap.size)
  (hK:∀u' w',w'.ownsRow B 154 2 u' (n+1) (Wk (l++[y]))->w.grownBy w' u.ownBlock->wpList prog ops Q rest (a.put o.dst u') w'):wpList prog ops Q (o::rest) a w:=by
 refine DC Q7 λK Ky=>?_;obtain⟨i,hi,hz,h1,h2⟩:=SQ cR;obtain⟨v',w',hr,ho2,hg,_,_⟩:=mM (P:=prog) w B 150 o.type 154 i _ 2 24 underlying150 hi hz h1 h2 rfl (by decide) u n (Wk l) h0 ⟨g,0,none⟩ 1 1 [.string (Qb y.1),.int .i64 y.2] rfl (λj u hj=>by
  have ha:(⟨g,0,none⟩:Addr).add j=⟨g,j,none⟩:=by unfold Addr.add;split<;>simp_all
  rw[ha,hb.cell j];simpa using hj) (λu hu=>by rcases(by simpa using hu:u=.string (Qb y.1)\/u=.int .i64 y.2) with rfl|rfl<;>rfl) (by unfold maxLen;omega) (by omega) hB
 unfold Oper.wp execOp;simp only[ho,resolve,invoke,builtin,WW,Fp,MZ,fG,FN,Cy,hs,hx,hr];refine Ky _ _ (hK v' w' ?_ hg);rw[Hq];exact ho2
theorem ZF.snoc {w:World}{B n:Nat}{u:Value}{l:List XJ}{y:XJ}(h:w.ownsRow B 154 2 u (n+1) (Wk (l++[y]))) (hn:n=l.length):ZF w B u (l++[y]):=by
 subst hn;unfold ZF;rw[Kh];exact h
theorem Ext.under {w0 w w':World}{B:Nat}(h:Ext w0 w) (k:Below B w w') (hB:w0.heap.size<=B):Ext w0 w':=fK h (hZ k hB)
def Yw (B:Nat) (w:World) (g:Nat) (F:Qt):Prop:=Q0 F/\B<=g/\∃b cap,Box w g 162 (Zx ⟨some ⟨b,0,none⟩,F.v.length,cap⟩ F)/\w.ownsRow B 9 1 (.slice (some ⟨b,0,none⟩) F.v.length cap) F.v.length (Q5 F.v)
theorem Yw.ext {B:Nat}{w w':World}{g:Nat}{F:Qt}(h:Yw B w g F) (x:Ext w w'):Yw B w' g F:=by
 obtain⟨ho,hB,b,cap,h1,h2⟩:=h;exact⟨ho,hB,b,cap,h1.ext x,Qe h2 x⟩
def Qt.lay (F:Qt) (q p:Nat) (d:List UInt8):Qt:={ F with v:=F.v.set q (UB (F.v.getD q []) p d) }
theorem Q0.lay {F:Qt}(h:Q0 F) {q p:Nat}{d:List UInt8}(hq:3<=q) (hl:q<F.v.length) (hp:p+d.length<=128):Q0 (F.lay q p d):=by
 have hb:=Ym h.good hl;exact⟨h.good.set (by omega) (by omega) (by rw[Mr _ _ _ (by omega),hb]),h.n1,h.n2,h.len,h.fits⟩
def Qt.keep (F:Qt):Qt:={ F with v:=putAt F.v F.n F.x }
theorem Q0.keep {F:Qt}(h:Q0 F):Q0 F.keep:=⟨h.good.putAt h.n1 h.n2 F.x,h.n1,h.n2,h.len,h.fits⟩
def Qt.took (F:Qt) (i:Nat):Qt:={ F with v:=Nx F.v i }
theorem Q0.took {F:Qt}(h:Q0 F) {i:Nat}(ht:Kb F.v F.I=some i):Q0 (F.took i):=⟨h.good.taken ht,h.n1,h.n2,h.len,h.fits⟩
theorem Be:∀k:Fin 12,4<=Zc k->Yl k=2:=by decide
theorem F4:∀k:Fin 12,Zc k=3->Yl k=4:=by decide
theorem C7 {x:List Int}(h:P7 x=true) (hx:x.length=12) {j:Nat}(hj:3<=j) (Nf:j<12) {i:Int}(h0:0<=i) (h1:i<65536):P7 (x.set j i)=true:=by
 unfold P7 at *;rw[Pv]at *;intro k hk;have Xn:=VY (h k hk);refine Ve ?_;by_cases e:Zc k=j
 ·have hg:(x.set j i).getD (Zc k) 0=i:=by rw[e];simp[List.getD,hx,Nf]
  rw[hg];by_cases e3:j=3
  ·rw[F4 k (by omega)];exact⟨h0,by simp;omega⟩
  ·rw[Be k (by omega)];exact⟨h0,by simpa using h1⟩
 ·have:(x.set j i).getD (Zc k) 0=x.getD (Zc k) 0:=by simp[List.getD,Fq e]
  rw[this];exact Xn
def Qt.setX (F:Qt) (j:Nat) (b:Int):Qt:={ F with x:=F.x.set j b }
theorem Q0.setX {F:Qt}(h:Q0 F) {j:Nat}(hj:3<=j) (Nf:j<12) {b:Int}(h0:0<=b) (h1:b<65536):Q0 (F.setX j b) :=
 ⟨h.good,h.n1,h.n2,by show(F.x.set j b).length=12;rw[mS];exact h.len,C7 h.fits h.len hj Nf h0 h1⟩
theorem EU (F:Qt) (s:Sl) (hx:F.x.length=12) {j:Nat}(hj:j<12) (b:Int):Zx s (F.setX j b)=(Zx s F).setIfInBounds (8+j) (.int .i64 b):=by
 obtain⟨y0,y1,y2,y3,y4,y5,y6,y7,y8,y9,y10,y11,he⟩:=Lv hx;unfold Zx Iv Qt.setX;simp only[he];rcases(by omega:j=0\/j=1\/j=2\/j=3\/j=4\/j=5\/j=6\/j=7\/j=8\/j=9\/j=10\/j=11) with rfl|rfl|rfl|rfl|rfl|rfl|rfl|rfl|rfl|rfl|rfl|rfl<;>rfl
theorem Yw.setX {B:Nat}{w:World}{g:Nat}{F:Qt}(h:Yw B w g F) {j:Nat}(hj:3<=j) (Nf:j<12) {b:Int}(h0:0<=b) (h1:b<65536):Yw B (w.setCell ⟨g,8+j,none⟩ (.int .i64 b)) g (F.setX j b):=by
 obtain⟨ZL,hB,b1,cap,Ye,own⟩:=h;refine⟨ZL.setX hj Nf h0 h1,hB,b1,cap,?_,VN own Ye (by decide) _⟩;have e:=Ye.set (8+j) (.int .i64 b);rw[←EU F _ ZL.len Nf b]at e;exact e
def gC (b:Int):List UInt8:=[b8 (b%256),b8 (b/256)]
def Qt.named (F:Qt) (k:Nat) (b:Int):Qt :=
 if k<6 then (F.setX (4+k) b).keep else if FC F.v F.I (F.x.getD 10 0) then F.lay (F.x.getD 10 0).toNat (2*(k-6)) (gC b) else F
theorem Yw.cell {B:Nat}{w:World}{g:Nat}{F:Qt}(h:Yw B w g F):∃s,Box w g 162 (Zx s F):=by
 obtain⟨_,_,b,cap,Ye,_⟩:=h;exact⟨_,Ye⟩
def Qt.withInd (F:Qt) (k:Nat):Option Qt :=
 if 6<=k/\FC F.v F.I (F.x.getD 10 0)=false then (Kb F.v F.I).map λi=>((F.took i).setX 10 (i:Int)).keep else some F
def Qt.placed (F:Qt) (k:Nat):Qt × Int × Int :=
 if UN F.v F.I F.x k≠-1 then (F,UN F.v F.I F.x k,0) else
  match F.withInd k with
  | none=>(F,0,10)
  | some F1=>match Kb F1.v F1.I with
   | none=>(F1,0,10)
   | some i=>((F1.took i).named k (i:Int),(i:Int),0)
theorem EF {F:Qt}{k:Nat}(h:UN F.v F.I F.x k≠-1):F.placed k=(F,UN F.v F.I F.x k,0):=by unfold Qt.placed;rw[Qv h]
theorem GA {F:Qt}{k:Nat}(h:UN F.v F.I F.x k= -1) (h1:F.withInd k=none):F.placed k=(F,0,10):=by
 unfold Qt.placed;rw[Qr (λh2=>h2 h),h1]
theorem LB {F F1:Qt}{k:Nat}(h:UN F.v F.I F.x k= -1) (h1:F.withInd k=some F1) (h2:Kb F1.v F1.I=none):F.placed k=(F1,0,10):=by
 unfold Qt.placed;rw[Qr (λh2=>h2 h),h1];simp only[h2]
theorem EG {F F1:Qt}{k i:Nat}(h:UN F.v F.I F.x k= -1) (h1:F.withInd k=some F1) (h2:Kb F1.v F1.I=some i):F.placed k=((F1.took i).named k (i:Int),(i:Int),0):=by
 unfold Qt.placed;rw[Qr (λh2=>h2 h),h1];simp only[h2]
theorem Cn {v:List (List UInt8)}{I:Int}{i:Nat}(hg:Ji v I) (h:Kb v I=some i):i<223:=by
 have:=(VU h).2.1;have:=QM hg.plan;omega
def Qt.wr (off:Nat) (d:List UInt8) (p:Nat) (F:Qt):Qt × Int :=
 if h:p<off+d.length then
  if (F.placed (p/128)).2.2≠0 then ((F.placed (p/128)).1,(F.placed (p/128)).2.2)
  else Qt.wr off d (p+min (128-p%128) (off+d.length-p)) ((F.placed (p/128)).1.lay (F.placed (p/128)).2.1.toNat (p%128) ((d.drop (p-off)).take (min (128-p%128) (off+d.length-p))))
 else (F,0)
termination_by off+d.length-p
decreasing_by
 have:=kE p (show 128 > 0 by omega);omega
theorem Cr {off:Nat}{d:List UInt8}{p:Nat}{F:Qt}(h:¬p<off+d.length):F.wr off d p=(F,0):=by
 rw[Qt.wr,dif_neg h]
theorem eY {off:Nat}{d:List UInt8}{p:Nat}{F:Qt}(h:p<off+d.length) (he:(F.placed (p/128)).2.2≠0):F.wr off d p=((F.placed (p/128)).1,(F.placed (p/128)).2.2):=by
 rw[Qt.wr,dif_pos h,Qv he]
theorem ov {off:Nat}{d:List UInt8}{p:Nat}{F:Qt}(h:p<off+d.length) (he:(F.placed (p/128)).2.2=0):F.wr off d p=Qt.wr off d (p+min (128-p%128) (off+d.length-p)) ((F.placed (p/128)).1.lay (F.placed (p/128)).2.1.toNat (p%128) ((d.drop (p-off)).take (min (128-p%128) (off+d.length-p)))):=by
 rw[Qt.wr,dif_pos h,Qr (λh=>h he)]
theorem Ej {v:List (List UInt8)}{I:Int}{x:List Int}{k:Nat}(h:UN v I x k≠-1):FC v I (UN v I x k)=true:=by
 unfold UN at *;split
 ·rename_i h1;exact h1
 ·rename_i h1;rw[Qr h1]at h;exact absurd rfl h
theorem El (F:Qt):F.keep.v.length=F.v.length:=Am _ _ _
theorem BN (F:Qt) (q p:Nat) (d:List UInt8):(F.lay q p d).v.length=F.v.length:=mS
theorem Dc (F:Qt) (i:Nat):(F.took i).v.length=F.v.length:=E8 _ _
def Jb (v:List (List UInt8)) (I k:Int):Qt:=⟨v,I,k,QV v k⟩
theorem Yw.of_opened {B:Nat}{w:World}{g:Nat}{v:List (List UInt8)}{I k:Int}{s:Sl}(hg:Ji v I) (h1:1<=k) (h2:k<=I) (hB:B<=g) (hs:s.n=v.length) (Ye:Box w g 162 (Zx s (Jb v I k))) (own:w.ownsRow B 9 1 (.slice s.A s.n s.c) v.length (Q5 v)):Yw B w g (Jb v I k):=by
 have Uz:=QM hg.plan;obtain⟨b,cap,e,_⟩:=Strs.own' own (by omega);injection e with e1 e2 e3;obtain⟨A,n,c⟩:=s;simp only at e1 e2 e3 hs;subst e1 e2 e3;exact⟨⟨hg,h1,h2,Uf v k,Hv _ _⟩,hB,b,_,Ye,own⟩
end Go.Proofs.YtfaplefkakpgcaaGreatDoor
namespace Go.Proofs.YtfaplefkakpgcaaGreatDoor
open Go.RowKit Go.Shelf
attribute [local go_sem] A9
theorem Vh.set {b1 b2:Nat}{A W:World}(h:Vh b1 b2 A W) (p:Addr) (h1:b1≠p.block) (h2:b2≠p.block) (u:Value):Vh b1 b2 A (W.setCell p u):=h.trans λcs t =>
 ⟨λe=>(kC W p u b1 h1).trans e,λe=>(kC W p u b2 h2).trans e⟩
theorem Nl {w:World}{B b cap:Nat}{v:List (List UInt8)}(own:w.ownsRow B 9 1 (.slice (some ⟨b,0,none⟩) v.length cap) v.length (Q5 v)):Strs w (some ⟨b,0,none⟩) v.length v :=
 ⟨rfl,λ_=>⟨b,0,rfl,λj hj=>by rw[Ux];exact(own.cellAt j (by omega)).trans (by simp[Q5,hj])⟩⟩
end Go.Proofs.YtfaplefkakpgcaaGreatDoor
namespace Go.Proofs.YtfaplefkakpgcaaGreatDoor
open Go.RowKit
theorem WO.ext {B b:Nat}{l:List UInt8}{w w':World}(h:WO B b l w) (x:Ext w w'):WO B b l w':=by
 obtain⟨hB,v,hb,Zt,QY⟩:=h;exact⟨hB,v,Box.ext hb x,Qe Zt x,QY⟩
theorem WO.more {B b base z n:Nat}{l:List UInt8}{w w':World}{u:Value}{xs:List Value}{t:TypeId}(h:WO B b l w) (o:w.ownsRow base t z u n xs) (h1:t≠169) (h2:t≠5) (hg:w.grownBy w' u.ownBlock):WO B b l w':=by
 obtain⟨hB,v,hb,Zt,QY⟩:=h;refine⟨hB,v,Box.grown hb hg (Jz o hb h1),Zt.kept hg ?_,QY⟩;rcases Zt.2 with⟨e,_⟩|⟨g,cap,cur,e,_,hh,_⟩
 ·exact .inl (by rw[e];rfl)
 ·exact .inr (by rw[e];exact Jz o (show Box w g 5 cur from hh) h2)
theorem WO.box {B b:Nat}{l:List UInt8}{w:World}(h:WO B b l w):∃cs,Box w b 169 cs:=by
 obtain⟨hB,v,hb,Zt,QY⟩:=h;exact⟨_,hb⟩
theorem PU (w:World):Sr w.heap.size w.heap.size (w.alloc (.cells #[.pointer none,.slice none 0 0] 169)):=by
 rcases Lib.fresh_isBuilder 169 5 w with h|h
 ·exact h
 ·exact absurd h.cell0 (by rw[Box.cell (QA w _ _) 0];simp)
end Go.Proofs.YtfaplefkakpgcaaGreatDoor
namespace Go.Proofs.YtfaplefkakpgcaaGreatDoor
open Go.Proofs.Tryz
open Go.RowKit Go.Shelf
attribute [local go_sem] A9
def WR (B b:Nat) (l:List UInt8) (w:World):Prop:=Sr B b w/\l=[]\/WO B b l w
theorem DH {B b:Nat}{p:Value}{l:List Value}{w w':World}{row:Option Nat}(h:Lib.BuilderAt 169 5 B b p l w) (hg:w.grownBy w' row) (hr:∀r,row=some r->∃o:Obj,w.heap[r]? =some o/\o.isCells=false) :
  Lib.BuilderAt 169 5 B b p l w':=by
 obtain⟨hB,v,hb,Zt,QY⟩:=h;refine⟨hB,v,Box.grown hb hg (λe=>?_),Zt.kept hg ?_,QY⟩
 ·obtain⟨o,ho,hc⟩:=hr b e.symm;rw[hb]at ho;cases ho;cases hc
 ·rcases Zt.2 with⟨e,_⟩|⟨g,cap,cur,e,_,hh,_⟩
  ·exact .inl (by rw[e];rfl)
  ·refine .inr (λe2=>?_);rw[e]at e2;obtain⟨o,ho,hc⟩:=hr g e2.symm;rw[hh]at ho;cases ho;cases hc
theorem He {β:Type} (B b:Nat) (f:β->List UInt8):Own (λs W=>WR B b (f s) W):=λs X Y row hs hg hr=>by
 rcases hs with⟨h,e⟩|h
 ·exact .inl ⟨DH h hg hr,e⟩
 ·exact .inr (DH h hg hr)
theorem WR.ext {B b:Nat}{l:List UInt8}{w w':World}(h:WR B b l w) (x:Ext w w'):WR B b l w':=by
 rcases h with⟨h,e⟩|h
 ·refine .inl ⟨?_,e⟩;obtain⟨hB,v,hb,Zt,QY⟩:=h;exact⟨hB,v,Box.ext hb x,Qe Zt x,QY⟩
 ·exact .inr (h.ext x)
theorem WR.isCells {B b:Nat}{l:List UInt8}{w:World}(h:WR B b l w):∃cs,Box w b 169 cs:=by
 rcases h with⟨⟨hB,v,hb,_⟩,_⟩|h
 ·exact⟨_,hb⟩
 ·exact h.box
theorem NC (B b:Nat) (l:List UInt8) (w:World) (h:WR B b l w) (hB:B<=w.heap.size) :
  Calls prog 120 #[.pointer (some ⟨b,0,none⟩)] w λe w'=>e=.returned (.string (Qb l))/\Below B w w'/\Lib.OthersKept 5 (some b) w w':=by
 rcases h with⟨h,rfl⟩|h
 ·refine(Tryz.Builder_String_any_k B b [] w (.inl (Lib.BuilderAtF.of h)) hB).mono ?_;rintro e w' ⟨rfl,_,hb,hk⟩;exact⟨rfl,hb,hk⟩
 ·exact Px B b l w h hB
theorem ZM {B b:Nat}{w w':World}{cs:Array Value}(h:Lib.OthersKept 5 (some b) w w') (hb:Box w b 169 cs) (hs:w.heap.size<=w'.heap.size):KeepsFrom B w w':=⟨hs,λk o hk ho hc=>h k o ho (λe=>by
  cases e;have Sg:w.heap[b]? =some (.cells cs 169 (0,0)):=hb;rw[Sg]at ho;cases ho;cases hc) (λc fz e=>by subst e;cases hc)⟩
theorem Vh.others {b1 b2 b:Nat}{w w':World}(h:Lib.OthersKept 5 (some b) w w') (h1:b1≠b) (h2:b2≠b) (c1:∀cs t,w.heap[b1]? =some (Obj.cells cs t (0,0))->t≠5) (c2:∀cs t,w.heap[b2]? =some (Obj.cells cs t (0,0))->t≠5):Vh b1 b2 w w':=λcs t =>
 ⟨λe=>h b1 _ e (λh=>h1 (by injection h)) (λc fz e2=>by cases e2;exact c1 _ _ e rfl),λe=>h b2 _ e (λh=>h2 (by injection h)) (λc fz e2=>by cases e2;exact c2 _ _ e rfl)⟩
theorem MK {w w':World}{b n:Nat}{v:List (List UInt8)}(h:Strs w (some ⟨b,0,none⟩) n v) (e:w'.heap[b]? =w.heap[b]?):Strs w' (some ⟨b,0,none⟩) n v:=⟨h.1,λhn=>by
 obtain⟨b',o',e1,h2⟩:=h.2 hn;injection e1 with e1;injection e1 with e1 e2 _;subst e1 e2;exact⟨b,0,rfl,λj hj=>by rw[←h2 j hj];unfold World.cell?;rw[e]⟩⟩
def Ze (off:Int) (x:Nat):Int:=max (wrap64 (off-wrap64 ((x:Int)*128))) 0
def Ps (e:Int) (x:Nat):Int:=min (wrap64 (e-wrap64 ((x:Int)*128))) 128
def VO (F:Qt) (off e:Int) (x:Nat):List UInt8 :=
 if Ps e x<=Ze off x then [] else if UN F.v F.I F.x x= -1 then zs (Ps e x-Ze off x).toNat
 else ((F.v.getD (UN F.v F.I F.x x).toNat []).drop (Ze off x).toNat).take (Ps e x-Ze off x).toNat
theorem Rz (F:Qt) (off e:Int) (x:Nat):(VO F off e x).length<=128:=by
 have h1:0<=Ze off x:=Int.le_max_right _ _;have h2:Ps e x<=128:=Int.min_le_right _ _;unfold VO;split
 ·simp
 ·split
  ·rw[NB];omega
  ·rw[WV];omega
theorem Nb {pc:Nat->List UInt8}(h:∀x,(pc x).length<=128) (pre:List Nat):(pre.flatMap pc).length<=128*pre.length:=by
 induction pre with
 | nil=>simp
 | cons a l ih=>rw[AV,Kh,YV];have:=h a;omega
def FV (F:Qt) (off size:Int):Int:=if size<J7 F.x-off then off+size else J7 F.x
def JH (e:Int):Nat:=((e+127)/128).toNat
def UD (F:Qt) (off size:Int):List UInt8:=(List.range (min (JH (FV F off size)) 70)).flatMap (VO F off (FV F off size))
theorem Me (A:Option Addr) (n c:Nat) (v:List (List UInt8)) (I k:Int) (off size:Nat) (w:World) (hv:Strs w A n v) (hg:Ji v I) (Y9:1<=k) (Xn:k<=I) (UT:(off:Int)<J7 (Jb v I k).x) (VH:(size:Int)<=9223372036854775807) (hend:J7 (Jb v I k).x-(off:Int)<=(size:Int)) :
  Calls prog 60 #[.slice A n c,.int .i64 k,.int .i64 (off:Int),.int .i64 (size:Int)] w λe w'=>e=.returned (.tuple #[.string (Qb (UD (Jb v I k) off size)),.int .i64 0])/\Ext w w':=by
 have HO:=Qa (λw h=>VM A n c v I k w h hg Y9 Xn);have eh:=Qa (λ(B g:Nat) (w:World) (s:Sl) hB hs Ye own=>Yw.of_opened (B:=B) (w:=w) (g:=g) (s:=s) hg Y9 Xn hB hs Ye own);have HV:=Qa hv;clear hv hg Y9 Xn;generalize hG:w.heap.size=G at *;refine(Pp (n:=6)).1 ?_;refine callsIn_of_wp_marks func60 rfl trivial ?_ rfl;simp only[ntmps60,N1,YV,Tz,Nat.reduceAdd,Nat.reduceSub,ah,ak,aq,an,Cx,DB];refine fQ.2 ?_;have b6:=QA w 3 #[.int .i64 (off:Int)];have x6:Ext w (w.alloc (.cells #[.int .i64 (off:Int)] 3)):=(Qf w).alloc _;have MT:=Qa (HV.o.ext x6);go_upto_region 1 with fail;rw[hG]at b6;have vM:G+1<=(w.alloc (.cells #[.int .i64 (off:Int)] 3)).heap.size:=by rw[Ki,hG];exact QW _
 generalize w.alloc (.cells #[.int .i64 (off:Int)] 3)=w1 at *
 go_upto_region 2 with(first
  | (go_at_call 115;refine(HO.o _ MT.o).mono ?_;rintro e w2 ⟨⟨s,rfl,Rb,Zh⟩,x2⟩)
  | (refine YP (.tmp 10) (.tmp 22) rfl rfl w2.heap.size s (Jb v I k) _ 162 rfl rfl (QA _ _ _) rfl ?_;intro w3 b3 g3))
 have xa:Ext w2 (w2.alloc (.cells V8 162)):=(Qf w2).alloc _;have Po:Ext w2 w3:=xa.grown g3 (λj e=>by cases e;exact QW _);have WD:=(Qe Zh xa).kept g3 (.inr (Jz (Qe Zh xa) (QA w2 162 V8) (by decide)).symm);have mz:=eh.o w1.heap.size w2.heap.size w3 s x2.size Rb b3 WD;have HX:=Qa (x6.trans (x2.trans Po));have CB:=(b6.ext x2).ext Po;have nR:=x2.size;clear HO eh HV MT Zh Rb b3 WD xa Po x2 g3 b6 x6;generalize Si:w2.heap.size=g at *;generalize hFO:Jb v I k=F at *;have pH:=Qa hFO;clear hFO Si;obtain⟨hOk,hBg,b,cap,Ye,own⟩:=mz;generalize Zx s ⟨v,I,k,QV v k⟩=fc at *;have hr:=Nl own;have gg:=Qa (λw h=>Nc g ⟨some ⟨b,0,none⟩,F.v.length,cap⟩ F w h);have fh:J7 F.x<=8960:=by unfold J7;omega
 have d1:decide ((off:Int)<0)=false:=by simp
 have d2:decide ((size:Int)<0)=false:=by simp
 have Lk:=CB.cell 0;have lg:=Qa (show UD F off size=(List.range (min (JH (J7 F.x)) 70)).flatMap (VO F off (J7 F.x)) from by unfold UD FV;rw[Qr (by omega)]);generalize hzz:J7 F.x=z at *;have d3:decide (z<=(off:Int))=false:=by simp;omega
 have d4:decide ((size:Int)<z-(off:Int))=false:=by simp;omega
 have w9:IntKind.i64.wrap (z-(off:Int))=z-(off:Int):=by rw[ZU];omega
 have Dg:IntKind.i64.wrap (z+128)=z+128:=by rw[ZU];omega
 have aS:IntKind.i64.wrap (z+128-1)=z+127:=by rw[ZU];omega
 have Sq:Ext w3 (w3.alloc (.cells #[.int .i64 z] 3)):=(Qf w3).alloc _;have M2:=QA w3 3 #[.int .i64 z];have Sc:=CB.ext Sq;have Ee:=Ye.ext Sq;have kI:(w3.alloc (.cells #[.int .i64 z] 3)).cell? ⟨G,0,none⟩=some (.int .i64 (off:Int)):=Sc.cell 0;have Fs:(w3.alloc (.cells #[.int .i64 z] 3)).cell? ⟨w3.heap.size,0,none⟩=some (.int .i64 z):=M2.cell 0;go_upto_region 7 with(go_at_call 116;(have hq:=gg.o _ Ye;with_reducible (refine hq.mono ?_));clear hq;rintro e w6 ⟨rfl,rfl⟩)
 have Cs:(w3.alloc (.cells #[.int .i64 z] 3)).heap.size=w3.heap.size+1:=Ki _ _;have sr:=Ye.lt;have h63:=CB.lt;have np:=hr.ext Sq;have gi:=Qa (HX.o.trans Sq);have FB:=PU (w3.alloc (.cells #[.int .i64 z] 3));rw[Cs]at FB;have hbE:b<w3.heap.size:=by
  rcases own.2 with⟨h,_⟩|⟨g',cap',cur,e,_,hh,_⟩
  ·cases h
  ·injection e with e1 _ _;injection e1 with e1;injection e1 with e1 _ _;subst e1;exact(SK.1 hh).1
 go_upto_region 11 with fail;clear Ye CB Sq HX Lk hr own gg;have xB:Ext (w3.alloc (.cells #[.int .i64 z] 3)) ((w3.alloc (.cells #[.int .i64 z] 3)).alloc (.cells #[.pointer none,.slice none 0 0] 169)):=(Qf _).alloc _;have FP:=M2.ext xB;have mf:=Sc.ext xB;have Ed:=Ee.ext xB;have ix:=np.ext xB;have lz:=Qa (gi.o.trans xB);have zB:((w3.alloc (.cells #[.int .i64 z] 3)).alloc (.cells #[.pointer none,.slice none 0 0] 169)).heap.size=w3.heap.size+2:=by rw[Ki,Cs]
 have my:((z+127)/128:Int)=(JH z:Nat):=by unfold JH;omega
 have sH:Int.tdiv (z+127) 128=(JH z:Nat):=by rw[Int.tdiv_eq_ediv_of_nonneg (by omega)];exact my
 have sG:JH z<=70:=by unfold JH;omega
 generalize Ec:JH z=cb at *;have lI:=Qa (TR g ⟨some ⟨b,0,none⟩,F.v.length,cap⟩ F (cb:Int) _ Ed ix hOk);have iI:=FP.cell 0;go_upto_region 12 with fail;clear xB M2 Sc Ee np gi kI Fs Cs;generalize (w3.alloc (.cells #[.int .i64 z] 3)).alloc (.cells #[.pointer none,.slice none 0 0] 169)=wB at *;generalize hE:w3.heap.size=E at *;clear hE w3;go_wp2_with (go_at_call 117;refine lI.o.mono ?_;rintro e w5 ⟨⟨b1,b2,rfl,ZS,Kj,le1,le2,ne12⟩,x5⟩)
 refine(fQ (n:=6)).1 ?_;gi_wp2_with fail;have sN:∀W,Below (E+1) wB W->Ext w W:=λW h=>lz.o.under h (by omega);have sF:∀W,Below (E+1) wB W->Box W G 3 #[.int .i64 (off:Int)]/\Box W E 3 #[.int .i64 z]/\Box W g 162 (Zx ⟨some ⟨b,0,none⟩,F.v.length,cap⟩ F):=λW h => ⟨(h.block G (by omega)).trans mf,(h.block E (by omega)).trans FP,(h.block g (by omega)).trans Ed⟩
 have sI:∀W,Below (E+1) wB W->Strs W (some ⟨b,0,none⟩) F.v.length F.v:=λW h=>MK ix (h.block b (by omega));have tg:Below (E+1) wB w5:=hZ x5 (by omega);have qT:WR (E+1) (E+1) [] w5:=WR.ext (.inl ⟨FB,rfl⟩) x5;have hs5:=x5.size;have ko:=Qa (show∀x,VO F off z x=if Ps z x<=Ze off x then [] else if UN F.v F.I F.x x= -1 then zs (Ps z x-Ze off x).toNat else ((F.v.getD (UN F.v F.I F.x x).toNat []).drop (Ze off x).toNat).take (Ps z x-Ze off x).toNat fromλx=>rfl);have HQ:=Qa (λx (h:UN F.v F.I F.x x≠-1)=>Rl (Ej h));have bM:=Qa (Rz F off z);have py:=Qa hOk.good;have hdt:(0:Int)<=3+(F.I+1)/2:=by have:=QM hOk.good.plan;omega
 generalize VO F off z=pc at *;generalize UN F.v F.I F.x=f at *;clear lI mf FP Ed ix iI x5 FB d1 d2 d3 d4 w9 Dg aS my sH
 refine wpIn_rangeFunc_ownH rfl (by decide) (gf:=182) (lb:=#[.pointer (some ⟨b1,0,none⟩),.pointer (some ⟨b2,0,none⟩)]) rfl trivial (enters_of func182 (by kernel_rfl) rfl)
  (NF 5 (by decide) b1 b2 cb f w5 ZS Kj) Vh.trans Vh.book (bj _ _) (λ_=>rfl)
  (λpre W=>Below (E+1) wB W/\WR (E+1) (E+1) (pre.flatMap pc) W/\pre.length<=70/\Box W b1 237 (JC f 70)/\Box W b2 3 #[.int .i64 (cb:Int)])
  (λ_ _ _=>False)
  (OwnFrom.and (ownFrom_below (by omega) (by omega)) (OwnFrom.and (Own.from (He _ _ _) _) (OwnFrom.and (ownFrom_pure _ _) (OwnFrom.and (Own.from (JM _ _ _) _) (Own.from (JM _ _ _) _)))))
  (λ_ _ _ _ _ hs _ _=>hs) ⟨tg,qT,by simp,ZS,Kj⟩
  (λx a' W=>a'={ tmps:=#[.slice A n c,.int .i64 k,.int .i64 (off:Int),.int .i64 (size:Int),undef,undef,.pointer (some ⟨G,0,none⟩),undef,.string ⟨#[]⟩,.int .i64 0,.pointer (some ⟨g,0,none⟩),.int .i64 0,.pointer (some ⟨E,0,none⟩),.pointer (some ⟨E+1,0,none⟩),.int .i64 (x:Int),.int .i64 (f x),undef,undef,.tuple #[.agg fc,.int .i64 0],.slice A n c,.int .i64 k,.tuple #[.agg fc,.int .i64 0],.agg fc,.int .i64 0,.int .i64 0,.bool false,undef,.int .i64 (off:Int),.bool false,.bool false,.int .i64 (size:Int),.bool false,.bool false,.int .i64 z,.int .i64 (off:Int),.int .i64 z,.bool false,.int .i64 (size:Int),.int .i64 z,.int .i64 (off:Int),.int .i64 (z-(off:Int)),.bool false,undef,undef,undef,.int .i64 z,.int .i64 (z+128),.int .i64 (z+127),.int .i64 (cb:Int),.func (.func 182) #[] #[.pointer (some ⟨b1,0,none⟩),.pointer (some ⟨b2,0,none⟩)],.int .i64 (x:Int),.int .i64 (f x),undef,undef,undef,undef,undef,undef,undef,undef,undef,undef,undef,undef,undef,undef,undef,undef,undef,undef,undef,undef,undef,undef,undef,undef,undef,undef,undef,undef,undef,undef],defers:=[] })
  (λx a' _ X Y row hs hg hr=>hs) ?assign ?body ?done ?stop
 case assign => rintro l pre x W K ⟨i1,i2,i3,i4,i5⟩ hK;simp only[bz];gi_wp2;exact hK _ _ (Jf (Qf W)) (Vh.ext (Qf W)) ⟨i1,i2,i3,i4,i5⟩ rfl
 case body =>
  rintro l pre x a' W dL ⟨r,hr⟩ ⟨i1,i2,i3,i4,i5⟩ rfl hlt70;obtain⟨j1,j2,j3⟩:=sF W i1;have c6:W.cell? ⟨G,0,none⟩=some (.int .i64 (off:Int)):=j1.cell 0;have Fs:W.cell? ⟨E,0,none⟩=some (.int .i64 z):=j2.cell 0;gi_wp2
  -- WEB BEGINS
  refine Ke 12 [[],[],[1],[0,2],[3],[],[],[6],[5,7],[8],[4],[9]] (Wy [Xp (.int .i64 ((off:Int))),Xp (.int .i64 ((x:Int))),Xp (.int .i64 (wrap64 ((x:Int)*128))),Xp (.int .i64 (wrap64 ((off:Int)-wrap64 ((x:Int)*128)))),Xp (.int .i64 (Ze off x)),Xp (.int .i64 (z)),Xp (.int .i64 ((x:Int))),Xp (.int .i64 (wrap64 ((x:Int)*128))),Xp (.int .i64 (wrap64 (z-wrap64 ((x:Int)*128)))),Xp (.int .i64 (Ps z x)),Xp (.int .i64 (Ze off x)),Xp (.int .i64 (Ps z x))]) (by rintro⟨_,_,h⟩;exact h) (by kernel_rfl) (by kernel_rfl) (by kernel_rfl) (Uh (λp hp=>by simp only[TA,Td,L1]at hp;rcases hp with rfl|rfl|rfl|rfl|rfl|rfl|rfl|rfl|rfl|rfl|rfl|rfl<;>first|exact Wv _)) (λus=>?_);simp only[Yh,Yt,YB,Yu];rw[Qx];refine YA (λw' hx hd=>?_) ?_
  ·clear hd;have e6:=hx.keep c6;have mo:=hx.keep Fs;refine Qk 52 rfl (by simp) rfl ?_;go_wp2_with fail;exact⟨Qf _,rfl⟩
  simp only[S_];rw[Qx];refine YA (λw' hx hd=>?_) ?_
  ·clear hd;refine Qk 53 rfl (by simp[Act.put]) rfl ?_;go_wp2_with fail;exact⟨Qf _,rfl⟩
  simp only[S_];rw[Qx];refine YA (λw' hx hd=>?_) ?_
  ·have h1:=hd 1 (by simp);clear hd;generalize us 1=u1 at *;obtain rfl:u1=.int .i64 ((x:Int)):=h1;refine Qk 54 rfl (by simp[Act.put]) rfl ?_;go_wp2_with fail;exact⟨Qf _,rfl⟩
  simp only[S_];rw[Qx];refine YA (λw' hx hd=>?_) ?_
  ·have h0:=hd 0 (by simp);have h2:=hd 2 (by simp);clear hd;generalize us 0=u0 at *;generalize us 2=u2 at *;obtain rfl:u0=.int .i64 ((off:Int)):=h0;obtain rfl:u2=.int .i64 (wrap64 ((x:Int)*128)):=h2;refine Qk 55 rfl (by simp[Act.put]) rfl ?_;go_wp2_with fail;exact⟨Qf _,rfl⟩
  simp only[S_];rw[Qx];refine YA (λw' hx hd=>?_) ?_
  ·have h3:=hd 3 (by simp);clear hd;generalize us 3=u3 at *;obtain rfl:u3=.int .i64 (wrap64 ((off:Int)-wrap64 ((x:Int)*128))):=h3;refine Qk 56 rfl (by simp[Act.put]) rfl ?_;go_wp2_with fail;exact⟨Qf _,rfl⟩
  simp only[S_];rw[Qx];refine YA (λw' hx hd=>?_) ?_
  ·clear hd;have e6:=hx.keep c6;have mo:=hx.keep Fs;refine Qk 57 rfl (by simp[Act.put]) rfl ?_;go_wp2_with fail;exact⟨Qf _,rfl⟩
  simp only[S_];rw[Qx];refine YA (λw' hx hd=>?_) ?_
  ·clear hd;refine Qk 58 rfl (by simp[Act.put]) rfl ?_;go_wp2_with fail;exact⟨Qf _,rfl⟩
  simp only[S_];rw[Qx];refine YA (λw' hx hd=>?_) ?_
  ·have h6:=hd 6 (by simp);clear hd;generalize us 6=u6 at *;obtain rfl:u6=.int .i64 ((x:Int)):=h6;refine Qk 59 rfl (by simp[Act.put]) rfl ?_;go_wp2_with fail;exact⟨Qf _,rfl⟩
  simp only[S_];rw[Qx];refine YA (λw' hx hd=>?_) ?_
  ·have h5:=hd 5 (by simp);have h7:=hd 7 (by simp);clear hd;generalize us 5=u5 at *;generalize us 7=u7 at *;obtain rfl:u5=.int .i64 (z):=h5;obtain rfl:u7=.int .i64 (wrap64 ((x:Int)*128)):=h7;refine Qk 60 rfl (by simp[Act.put]) rfl ?_;go_wp2_with fail;exact⟨Qf _,rfl⟩
  simp only[S_];rw[Qx];refine YA (λw' hx hd=>?_) ?_
  ·have h8:=hd 8 (by simp);clear hd;generalize us 8=u8 at *;obtain rfl:u8=.int .i64 (wrap64 (z-wrap64 ((x:Int)*128))):=h8;refine Qk 61 rfl (by simp[Act.put]) rfl ?_;go_wp2_with fail;exact⟨Qf _,rfl⟩
  simp only[S_];rw[Qx];refine YA (λw' hx hd=>?_) ?_
  ·have h4:=hd 4 (by simp);clear hd;generalize us 4=u4 at *;obtain rfl:u4=.int .i64 (Ze off x):=h4;refine Qk 16 rfl (by simp[Act.put]) rfl ?_;go_wp2_with fail;exact⟨Qf _,rfl⟩
  simp only[S_];rw[Qx];refine YA (λw' hx hd=>?_) ?_
  ·have h9:=hd 9 (by simp);clear hd;generalize us 9=u9 at *;obtain rfl:u9=.int .i64 (Ps z x):=h9;refine Qk 17 rfl (by simp[Act.put]) rfl ?_;go_wp2_with fail;exact⟨Qf _,rfl⟩
  simp only[S_];rw[Qx];intro w' hx hv;have DV:=hv 10 (by omega);have mv:=hv 11 (by omega);clear hv;generalize us 10=u10 at *;generalize us 11=u11 at *;obtain rfl:u10=.int .i64 (Ze off x):=DV;obtain rfl:u11=.int .i64 (Ps z x):=mv;have HW:=Qa hx;go_wp2_with fail;have N6:=ko.o x;have sY:0<=Ze off x:=Int.le_max_right _ _;have tN:Ps z x<=128:=Int.min_le_right _ _;have IY:Below (E+1) wB w':=fK i1 (hZ HW.o (by have:=i1.size;omega));have IZ:=i2.ext HW.o;have tT:=j3.ext HW.o;have Uz:=Nb bM.o pre;have tL:=IY.size;clear hx c6 Fs j1 j2 j3;generalize Ze off x=fr at *;generalize Ps z x=tt at *;by_cases hc:tt<=fr
  ·rw[Qv hc]at N6;gi_wp2_with fail;refine⟨Jf HW.o,Vh.ext HW.o,IY,?_,by simp;omega,i4.ext HW.o,i5.ext HW.o⟩;rw[AY,j7,N6,SO];exact IZ
  rw[Qr hc]at N6;obtain⟨fa,rfl⟩:∃k:Nat,fr=(k:Int):=⟨fr.toNat,by omega⟩
  obtain⟨ta,rfl⟩:∃k:Nat,tt=(k:Int):=⟨tt.toNat,by omega⟩
  have sq:fa<ta:=by omega
  have Kk:ta<=128:=by omega
  have hm:((ta:Int)-(fa:Int)).toNat=ta-fa:=by omega
  rw[hm,gp]at N6;by_cases hq:f x= -1
  ·rw[Qv hq]at N6;rw[hq];have hw:IntKind.i64.wrap ((ta:Int)-(fa:Int))=((ta-fa:Nat):Int):=by rw[ZU];omega
   have HR:=Qa (λw=>VQ (ta-fa) w (by omega));have HS:=Qa (λw2 (x2:Ext w' w2)=>Zr (E+1) (E+1) (pre.flatMap pc) (zs (ta-fa)) w2 (IZ.ext x2) (by have:=x2.size;omega) (by omega) (by simp[zs];omega));have HP:=Qa N6;clear N6 hq hm;generalize hmm:ta-fa=m at *;clear hmm
   gi_wp2_with (first
    | (refine⟨trivial,?_⟩;gi_at_call 119;refine(CallsIn.inRound l (Pp.2 (HR.o _))).mono ?_;rintro e w2 ⟨rfl,x2⟩)
    | (refine⟨trivial,?_⟩;gi_at_call 118;refine(CallsIn.inRound l (Pp.2 (HS.o _ x2))).mono ?_;rintro e w3 ⟨rfl,f3,q3,k3⟩))
   have LV:=HW.o.trans x2;obtain⟨cs,hcs⟩:=(IZ.ext x2).isCells;have k4:=i4.ext LV;have k5:=i5.ext LV;have hk:=Vh.others k3 (show b1≠E+1 by omega) (show b2≠E+1 by omega) (λcs t e=>by rw[show w2.heap[b1]? =_ from k4]at e;cases e;decide) (λcs t e=>by rw[show w2.heap[b2]? =_ from k5]at e;cases e;decide);refine⟨(Jf LV).trans (ZM k3 hcs q3.size),(Vh.ext LV).trans hk,(IY.trans (hZ x2 (by omega))).trans q3,?_,by simp;omega,(hk _ _).1 k4,(hk _ _).2 k5⟩;rw[AY,j7,HP.o];exact .inr f3
  rw[Qr hq]at N6;have Sk:=HQ.o x hq;have nt:=sI w' IY;have cv:w'.cell? ⟨g,0,none⟩=some (.slice (some ⟨b,0,none⟩) F.v.length cap):=tT.cell 0;obtain⟨b',o',he,Qd⟩:=nt.2 (by omega);cases he;obtain⟨qn,hqn⟩:∃q:Nat,f x=(q:Int):=⟨(f x).toNat,by omega⟩
  rw[hqn]at Sk N6;rw[hqn];have cb:w'.cell? ⟨b,qn,none⟩=some (.string (Qb (F.v.getD qn []))):=by have:=W6 Qd (k:=qn) (by omega);rwa [Ux]at this
  have Ec:(F.v.getD qn []).length=128:=Ym py.o (by omega);rw[gp]at N6;clear Qd nt hq;have vr:(qn:Int)<(F.v.length:Int):=Sk.2;generalize F.v.getD qn []=blk at *;have hsb:(Qb blk).size=128:=by rw[Qh,Ec]
  have HS:=Qa (show Calls prog 118 #[.pointer (some ⟨E+1,0,none⟩),.string ((Qb blk).extract fa ta)] w' _ from by
   rw[JJ];exact Zr (E+1) (E+1) (pre.flatMap pc) ((blk.drop fa).take (ta-fa)) w' IZ (by omega) (by omega) (by simp;omega))
  have HP:=Qa N6;clear N6 hm hqn hc Sk;gi_wp2_with (refine⟨trivial,?_⟩;gi_at_call 118;refine(CallsIn.inRound l (Pp.2 HS.o)).mono ?_;rintro e w3 ⟨rfl,f3,q3,k3⟩)
  have LV:=HW.o;obtain⟨cs,hcs⟩:=IZ.isCells;have k4:=i4.ext LV;have k5:=i5.ext LV;have hk:=Vh.others k3 (show b1≠E+1 by omega) (show b2≠E+1 by omega) (λcs t e=>by rw[show w'.heap[b1]? =_ from k4]at e;cases e;decide) (λcs t e=>by rw[show w'.heap[b2]? =_ from k5]at e;cases e;decide);refine⟨(Jf LV).trans (ZM k3 hcs q3.size),(Vh.ext LV).trans hk,IY.trans q3,?_,by simp;omega,(hk _ _).1 k4,(hk _ _).2 k5⟩;rw[AY,j7,HP.o];exact .inr f3
  -- WEB ENDS
 case done =>
  rintro D ys W hD hys ⟨i1,i2,i3,i4,i5⟩ hK;subst hys;have HS:=Qa (NC (E+1) (E+1) _ W i2 (by have:=i1.size;omega));have HE:=Qa lg.o;clear lg;have i1s:=i1.size;generalize (List.range (min cb 70)).flatMap pc=R at *;gi_wp2_with fail;go_wp2_with (go_at_call 120;refine HS.o.mono ?_;rintro e w6 ⟨rfl,q6,k6⟩)
  obtain⟨cs,hcs⟩:=i2.isCells;have nB:=(ZM (B:=E+1) k6 hcs q6.size).2 D _ (by omega) hK rfl;refine⟨by simp,.inl ⟨_,_,rfl,run_takeDeferred nB,?_⟩⟩;exact⟨_,results_tmp2 rfl _ _ _,by rw[pH.o,HE.o];simp,(sN _ (i1.trans q6)).putObj (.deferred none) nB (by have:=lz.o.size;omega)⟩
 case stop => rintro D c pre W hD _ h;exact h.elim
end Go.Proofs.YtfaplefkakpgcaaGreatDoor
namespace Go.Proofs.YtfaplefkakpgcaaGreatDoor
open Go.Proofs.Tryz
open Go.RowKit
def oN (B:Nat) (t:TypeId) (cs:Array Value):World->Value->Prop:=λw u=>∃g,u=.pointer (some ⟨g,0,none⟩)/\B<=g/\Box w g t cs
theorem BK (B:Nat) (t:TypeId) (cs:Array Value):Tx (oN B t cs):=λ_ _ _ hx ⟨g,e,h,hb⟩=>⟨g,e,h,hb.ext hx⟩
theorem Et {l:List XJ}(x:XJ) {k:Nat}(h:l.length=k+1):Wx l x=N8 (l[k]'(by omega)).1 x.1:=by
 unfold Wx;rw[List.getLast?_eq_getElem?,show l.length-1=k by omega,JZ (by omega)]
theorem M7 (b:List UInt8) (w:World) (hb:b.length<=8960) :
  Calls prog 175 #[.string (Qb b)] w λe w'=>∃u,e=.returned (.tuple #[u,.bool (JN b).isSome])/\Ext w w'/\ZF w' w.heap.size u ((JN b).getD []):=by
 have hz:=Qh;by_cases hm:b.length%32=0;case neg =>
  have HN:=Qa (show JN b=none from by unfold JN;rw[Qr hm]);have sx:((b.length:Int)%32 != 0)=true:=by simp;omega
  go_enter func175,ntmps175;go_wp2_with fail;go_ret2;rw[HN.o];exact⟨_,rfl,Qf _,ZF.nil _ _⟩
 have sx:((b.length:Int)%32 != 0)=false:=by simp;omega
 have HE:=Qa (show JN b=Z6 b (b.length/32) from by unfold JN;rw[Qv hm]);have PN:=Qa (λk (h:Z6 b k=none) (hk:k<=b.length/32)=>FW h _ hk);obtain⟨N,hN⟩:∃N,b.length/32=N:=⟨_,rfl⟩
 have hbN:b.length=32*N:=by omega
 have vQ:N<=280:=by omega
 rw[hN]at HE PN;go_enter func175,ntmps175;go_wp2_with fail;clear hm hN;go_loopw [0,4,5,6,7] (λr v _ _ _ wr=>∃(k:Nat) (l:List XJ),k<=N/\r=.string (Qb (b.drop (32*k)))/\Ext w wr/\Z6 b k=some l/\ZF wr w.heap.size v l) (λr _ _ _ _ _=>(match r with|.string s=>s.size|_=>0));case atStart=>exact⟨0,[],by omega,by simp,Qf _,rfl,ZF.nil _ _⟩
 case round =>
  obtain⟨k,l,hk,rfl,hx,hl,own⟩:=hrel;have vy:=hx.size;by_cases Qo:k<N
  ·have qM:(b.drop (32*k)).length=b.length-32*k:=by simp
   have Uz:(Xa b k).length=32:=by simp[Xa];omega
   have QY:(Qb (b.drop (32*k))).toList.isEmpty=false:=by rw[Ql,List.isEmpty_eq_false_iff];intro e;rw[e]at qM;simp at qM;omega
   have qJ:(Qb (b.drop (32*k))).extract 0 32=Qb (Xa b k):=by rw[JJ];rfl
   have PM:=Qa (λh=>PN.o (k+1) (Ir hl h) (by omega));have SC:=Qa (λh1 h2=>CU hl h1 h2);have kN:(Qb (b.drop (32*k))).extract 32 (Qb (b.drop (32*k))).size=Qb (b.drop (32*(k+1))):=by rw[JJ,hU,Qh,show 32*k+32=32*(k+1) by omega,AX (by simp;omega)]
   have Bs:=W8 hl;clear hl;generalize Xa b k=o at *;generalize b.drop (32*k)=rest at *;have hrl2:32<=rest.length:=by omega
   have VH:(Qb rest).size=rest.length:=Qh _;have hop:(Qb o).size=32:=by rw[Qh,Uz]
   have Q7:∀h:2<(Qb o).size,(Qb o)[2]'h=o.getD 2 0:=λh=>by rw[ZG,JZ (by omega)];rfl
   have vi:IntKind.i64.wrap ((o.getD 2 0).toNat:Int)=((o.getD 2 0).toNat:Int):=by have:=(o.getD 2 0).toNat_lt;rw[ZU];omega
   have nU:wrap64 ((o.getD 2 0).toNat:Int)=((o.getD 2 0).toNat:Int):=by have:=(o.getD 2 0).toNat_lt;unfold wrap64;omega
   have nQ:=(o.getD 2 0).toNat_lt;have af:Zv (kY o=(decide ((o.getD 2 0).toNat<=24)&&decide (1<=(XP o).2)&&decide ((XP o).2<=64)&&YG (XP o).1&&decide (W7 (XP o)=o))):=rfl;have ee:Zv (XP o=((o.drop 4).take (o.getD 2 0).toNat,(Yp (o.take 2):Int))):=rfl;generalize o.getD 2 0=ch at *;obtain⟨long,hlong⟩:∃n,ch.toNat=n:=⟨_,rfl⟩
   rw[hlong]at vi nU nQ af ee;go_upto_region 8 with fail;clear vi nU;by_cases c0:24<long
   ·have HN:=Qa (HE.o.trans (PM.o (.inl (by rw[af.o,show decide (long<=24)=false by simp;omega];simp))));have oE:(24:Int)<(long:Int):=by omega
    go_wp2_with fail;go_ret2;rw[HN.o];exact⟨_,rfl,hx,ZF.nil _ _⟩
   have oE:¬(24:Int)<(long:Int):=by omega
   have tQ:decide ((24:Int)<(long:Int))=false:=by simp;omega
   have kU:=WV (i:=long) (l:=o.drop 4);have IQ:(o.take 2).length=2:=by simp;omega
   have dM:=Lx (o.take 2);rw[IQ]at dM;have HG:=Qa (λw=>ID (o.take 2) w (.inr (.inl IQ)));have Cv:Zv ((Qb o).extract 4 (4+long)=Qb ((o.drop 4).take long)):=by rw[JJ,show 4+long-4=long by omega];exact rfl
   have gh:Zv ((Qb o).extract 0 2=Qb (o.take 2)):=by rw[JJ];exact rfl
   have Sj:((o.drop 4).take long).length<=24:=by rw[kU];omega
   have hi64:Yp (o.take 2)<65536:=by simpa using dM
   clear kU dM;generalize Yp (o.take 2)=ino at *;generalize (o.drop 4).take long=name at *;rw[ee.o]at PM SC af;simp only at af;have wa:IntKind.i64.wrap (4+(long:Int))=((4+long:Nat):Int):=by rw[ZU];omega
   have wb:IntKind.i64.wrap (ino:Int)=(ino:Int):=by rw[ZU];omega
   have wb2:wrap64 (ino:Int)=(ino:Int):=by unfold wrap64;omega
   go_upto_region 10 with fail;refine YS 10 [[],[],[1],[0,2],[],[4],[5],[6],[3,7],[]] [.inl (.string (Qb (o))),.inl (.int .i64 ((long:Int))),.inl (.int .i64 (((4+long:Nat):Int))),.inl (.string (Qb (name))),.inl (.string (Qb (o))),.inl (.string (Qb (o.take 2))),.inl (.int .u64 (ino:Int)),.inl (.int .i64 ((ino:Int))),.inl (.agg #[.string (Qb name),.int .i64 (ino:Int)]),.inr ⟨oN wr.heap.size 154 #[.string ⟨#[]⟩,.int .i64 0],BK _ _ _⟩] (by kernel_rfl) (by kernel_rfl) rfl (λus=>?_);simp only[Yh,Yt,YB,Yu]
   iterate 6
    refine xW (λw' hx hd=>?_) ?_
    ·have oG:=Cv.o;have vx:=gh.o;go_wp2_with fail;exact Qf _
    simp only[S_]
   refine xW (λw' hx hd=>?_) ?_
   ·go_wp2_with (go_at_call 164;refine(HG.o _).mono ?_;rintro e w2 ⟨rfl,rfl⟩)
    exact Qf _
   simp only[S_]
   iterate 2
    refine xW (λw' hx hd=>?_) ?_
    ·go_wp2_with fail;exact Qf _
    simp only[S_]
   refine xR (λw' hx hd=>?_) ?_
   ·go_wp2_with fail;exact⟨(Qf w').alloc _,_,rfl,hx.size,QA _ _ _⟩
   simp only[S_];rw[K0];intro w' hx hv;have h9:=hv 9 (by omega);clear hv;generalize us 9=u9 at *;obtain⟨g,rfl,hg,bg⟩:=h9;have HW:=Qa hx;clear hx;go_upto_region 11 with(refine AO (.tmp 7) (.tmp 31) rfl rfl g (Qb name) (ino:Int) _ 154 rfl rfl bg rfl ?_;intro W2 bx g2)
   have xr:Ext wr W2:=HW.o.grown g2 (λj e=>by cases e;exact hg);clear bg wa wb wb2;have k0:W2.cell? ⟨g,0,none⟩=some (.string (Qb name)):=bx.cell 0;have k1:W2.cell? ⟨g,1,none⟩=some (.int .i64 (ino:Int)):=bx.cell 1;have HM:=Qa (λw=>Wj name w (by omega));have pF:=Qa (λw h1=>FT (name,(ino:Int)) w Sj h1 (by simp;omega));simp only at pF;by_cases c1:ino<1
   ·have HN:=Qa (HE.o.trans (PM.o (.inl (by rw[af.o,show decide (1<=(ino:Int))=false by simp;omega];simp))));have oG:(ino:Int)<1:=by omega
    go_wp2_with fail;go_ret2;rw[HN.o];exact⟨_,rfl,hx.trans xr,ZF.nil _ _⟩
   have oG:¬(ino:Int)<1:=by omega
   have hx11:decide ((ino:Int)<1)=false:=by simp;omega
   by_cases c2:64<ino
   ·have HN:=Qa (HE.o.trans (PM.o (.inl (by rw[af.o,show decide ((ino:Int)<=64)=false by simp;omega];simp))));have vx:(64:Int)<(ino:Int):=by omega
    go_wp2_with fail;go_ret2;rw[HN.o];exact⟨_,rfl,hx.trans xr,ZF.nil _ _⟩
   have vx:¬(64:Int)<(ino:Int):=by omega
   have hx22:decide ((64:Int)<(ino:Int))=false:=by simp;omega
   cases c3:YG name with
   | false =>
    have HN:=Qa (HE.o.trans (PM.o (.inl (by rw[af.o,c3];simp))));rw[c3]at HM;clear c3;go_wp2_with (go_at_call 110;refine(HM.o _).mono ?_;rintro e w3 ⟨rfl,x3⟩)
    go_ret2;rw[HN.o];exact⟨_,rfl,(hx.trans xr).trans x3,ZF.nil _ _⟩
   | true =>
   have gO:=Qa (λw=>pF.o w (by omega));by_cases c4:W7 (name,(ino:Int))=o;case neg =>
    have HN:=Qa (HE.o.trans (PM.o (.inl (by rw[af.o,show decide (W7 (name,(ino:Int))=o)=false by simpa using c4];simp))));have d4:((Qb (W7 (name,(ino:Int)))).toList==(Qb o).toList)=false:=by rw[Ql,Ql];simpa using c4
    have d5:¬(Qb (W7 (name,(ino:Int)))).toList=(Qb o).toList:=by rw[Ql,Ql];exact c4
    rw[c3]at HM;clear c3 c4 pF;generalize W7 (name,(ino:Int))=eo at *
    go_wp2_with (first
     | (go_at_call 110;refine(HM.o _).mono ?_;rintro e w3 ⟨rfl,x3⟩;have m0:=x3.keep k0;have m1:=x3.keep k1)
     | (go_at_call 212;refine(gO.o _).mono ?_;rintro e w4 ⟨rfl,x4⟩))
    go_ret2;rw[HN.o];exact⟨_,rfl,((hx.trans xr).trans x3).trans x4,ZF.nil _ _⟩
   have ZL:kY o=true:=by rw[af.o,c3,c4];simp;omega
   have Dx:=Qa (SC.o ZL);have d4:((Qb (W7 (name,(ino:Int)))).toList==(Qb o).toList)=true:=by rw[c4];simp
   have d5:(Qb (W7 (name,(ino:Int)))).toList=(Qb o).toList:=by rw[c4]
   rw[c3]at HM;clear c3 pF SC ZL;have qX:=Qa c4;clear c4 oE tQ;generalize W7 (name,(ino:Int))=eo at *
   go_upto_region 13 with(first
    | (go_at_call 110;refine(HM.o _).mono ?_;rintro e w3 ⟨rfl,x3⟩;have m0:=x3.keep k0;have m1:=x3.keep k1)
    | (go_at_call 212;refine(gO.o _).mono ?_;rintro e w4 ⟨rfl,x4⟩))
   have oy:=(xr.trans x3).trans x4;have fT:=(bx.ext x3).ext x4;clear k0 k1 m0 m1 bx xr x3 x4 HM gO d4 d5 qX af ee;have Vw:=ZF.ext own oy;obtain⟨A4,cap4,rfl,at4⟩:=Vw.form;rw[Bs]at at4 ⊢;go_cut [66] (λs wx=>s=.bool (!(Wx l (name,(ino:Int))))/\Ext w4 wx);case first =>
    have k0:∀y:Qg w4,y.now.cell? ⟨g,0,none⟩=some (.string (Qb name)):=λy=>y.ext.keep (fT.cell 0);clear Dx PM PN HE kN qJ Cv gh own Vw fT oy;cases k with
    | zero =>
     obtain rfl:=bd Bs;have HV:=Qa (show Wx [] (name,(ino:Int))=true from rfl);refine Qp (by kernel_rfl) (by kernel_rfl) ?_;repeat (go_big_quiet_step (fail))
     refine Y7 ?_;rintro w5 ⟨y,rfl⟩;go_wp2_with fail;go_meet;exact⟨by rw[HV.o];rfl,y.ext⟩
    | succ q =>
     obtain⟨bb,oo,rfl,Qd⟩:=at4.2 (by omega);have hq:=(Qd q (by omega)).1;have HV:=Qa (Et (name,(ino:Int)) Bs);simp only at HV;clear Qd at4;have k1:∀y:Qg w4,y.now.cell? ⟨bb,oo+q*2,none⟩=some (.string (Qb (l[q]'(by omega)).1)):=λy=>y.ext.keep hq;clear hq;generalize (l[q]'(by omega)).1=last at *;have t1:IntKind.i64.wrap (((q+1:Nat):Int)-1)=(q:Int):=by rw[ZU];omega
     have t2:decide ((0:Int)<((q+1:Nat):Int))=true:=Ve (by omega);have t3:(q:Int)<((q+1:Nat):Int):=by omega
     cases hl:N8 last name with
     | false =>
      have SB:=Qa (HV.o.trans hl);have Fw:Op.bytesLess (Qb last).toList (Qb name).toList=false:=by rw[Ql,Ql];exact hl
      clear hl HV;refine Qp (by kernel_rfl) (by kernel_rfl) ?_;repeat (go_big_quiet_step (fail))
      refine Y7 ?_;rintro w5 ⟨y,rfl⟩;go_wp2_with fail;go_meet;exact⟨by rw[SB.o];rfl,y.ext⟩
     | true =>
      have SB:=Qa (HV.o.trans hl);have Fw:Op.bytesLess (Qb last).toList (Qb name).toList=true:=by rw[Ql,Ql];exact hl
      clear hl HV;refine Qp (by kernel_rfl) (by kernel_rfl) ?_;repeat (go_big_quiet_step (fail))
      refine Y7 ?_;rintro w5 ⟨y,rfl⟩;go_wp2_with fail;go_meet;exact⟨by rw[SB.o];rfl,y.ext⟩
   case rest =>
    obtain⟨rfl,hxc⟩:=hcut;cases hv:Wx l (name,(ino:Int)) with
    | false => have HN:=Qa (HE.o.trans (PM.o (.inr hv)));clear hv Dx PM PN HE;go_wp2_with fail;go_ret2;rw[HN.o];exact⟨_,rfl,hx.trans (oy.trans hxc),ZF.nil _ _⟩
    | true =>
     have HN:=Qa (Dx.o hv);have iE:=fT.ext hxc;have Ru:=ZF.ext Vw hxc;have wL:=oy.trans hxc;clear hv Dx PM PN HE own Vw at4 fT oy hxc Cv gh HG hlong;unfold ZF at Ru;rw[Bs]at Ru
     go_wp2_with (first
      | (refine AM (.tmp 7) rfl rfl g _ 154 rfl iE rfl ?_)
      | (refine Dl (y:=(name,(ino:Int))) rfl (.tmp 67) (.tmp 69) rfl rfl rfl (Qe Ru ((Qf wc).alloc _)) (QA _ _ _) (by omega) (by simp;have:=wL.size;omega) ?_;intro u' w6 own6 hg6))
     have a7:=Qa (show∀j,(Value.slice A4 k cap4).ownBlock=some j->w.heap.size<=j fromλj e=>Jc Ru e);have x6:Ext w w6:=((hx.trans wL).alloc _).grown hg6 (λj e=>a7.o j e);go_roundw;case rel=>exact⟨k+1,l++[(name,(ino:Int))],by omega,by rw[←kN,VH,qM,hbN],x6,HN.o,ZF.snoc own6 Bs.symm⟩
     case measure=>simp;omega
  ·obtain rfl:k=N:=by omega
   have HN:=Qa (HE.o.trans hl);have QY:(Qb (b.drop (32*k))).toList.isEmpty=true:=by rw[Ql,List.drop_eq_nil_of_le (by omega)];rfl
   clear hl HE PN;go_wp2_with fail;go_ret2;rw[HN.o];exact⟨_,rfl,hx,own⟩
end Go.Proofs.YtfaplefkakpgcaaGreatDoor
namespace Go.Proofs.YtfaplefkakpgcaaGreatDoor
open Go.Proofs.Tryz
open Go.RowKit Go.Shelf
theorem TW (A:Option Addr) (n c:Nat) (v:List (List UInt8)) (I k:Int) (off size:Nat) (w:World) (hv:Strs w A n v) (hg:Ji v I) (Y9:1<=k) (Xn:k<=I) (UT:J7 (Jb v I k).x<=(off:Int)) :
  Calls prog 60 #[.slice A n c,.int .i64 k,.int .i64 (off:Int),.int .i64 (size:Int)] w λe w'=>e=.returned (.tuple #[.string (Qb []),.int .i64 0])/\Ext w w':=by
 have HO:=Qa (λw h=>VM A n c v I k w h hg Y9 Xn);have eh:=Qa (λ(B g:Nat) (w:World) (s:Sl) hB hs Ye own=>Yw.of_opened (B:=B) (w:=w) (g:=g) (s:=s) hg Y9 Xn hB hs Ye own);have HV:=Qa hv;clear hv hg Y9 Xn;generalize hG:w.heap.size=G at *;go_enter func60,ntmps60;have b6:=QA w 3 #[.int .i64 (off:Int)];have x6:Ext w (w.alloc (.cells #[.int .i64 (off:Int)] 3)):=(Qf w).alloc _;have MT:=Qa (HV.o.ext x6);go_upto_region 1 with fail;rw[hG]at b6;have vM:G+1<=(w.alloc (.cells #[.int .i64 (off:Int)] 3)).heap.size:=by rw[Ki,hG];exact QW _
 generalize w.alloc (.cells #[.int .i64 (off:Int)] 3)=w1 at *
 go_upto_region 2 with(first
  | (go_at_call 115;refine(HO.o _ MT.o).mono ?_;rintro e w2 ⟨⟨s,rfl,Rb,Zh⟩,x2⟩)
  | (refine YP (.tmp 10) (.tmp 22) rfl rfl w2.heap.size s (Jb v I k) _ 162 rfl rfl (QA _ _ _) rfl ?_;intro w3 b3 g3))
 have xa:Ext w2 (w2.alloc (.cells V8 162)):=(Qf w2).alloc _;have Po:Ext w2 w3:=xa.grown g3 (λj e=>by cases e;exact QW _);have WD:=(Qe Zh xa).kept g3 (.inr (Jz (Qe Zh xa) (QA w2 162 V8) (by decide)).symm);have mz:=eh.o w1.heap.size w2.heap.size w3 s x2.size Rb b3 WD;have HX:=Qa (x6.trans (x2.trans Po));have CB:=(b6.ext x2).ext Po;have nR:=x2.size;clear HO eh HV MT Zh Rb b3 WD xa Po x2 g3 b6 x6;generalize Si:w2.heap.size=g at *;generalize hFO:Jb v I k=F at *;have pH:=Qa hFO;clear hFO Si;obtain⟨hOk,hBg,b,cap,Ye,own⟩:=mz;generalize Zx s ⟨v,I,k,QV v k⟩=fc at *;have hr:=Nl own;have gg:=Qa (λw h=>Nc g ⟨some ⟨b,0,none⟩,F.v.length,cap⟩ F w h);have fh:J7 F.x<=8960:=by unfold J7;omega
 have d1:decide ((off:Int)<0)=false:=by simp
 have d2:decide ((size:Int)<0)=false:=by simp
 have Lk:=CB.cell 0;generalize hzz:J7 F.x=z at *;have d3:decide (z<=(off:Int))=true:=by simp;omega
 have Sq:Ext w3 (w3.alloc (.cells #[.int .i64 z] 3)):=(Qf w3).alloc _;have M2:=QA w3 3 #[.int .i64 z];have Sc:=CB.ext Sq;have kI:(w3.alloc (.cells #[.int .i64 z] 3)).cell? ⟨G,0,none⟩=some (.int .i64 (off:Int)):=Sc.cell 0;have Fs:(w3.alloc (.cells #[.int .i64 z] 3)).cell? ⟨w3.heap.size,0,none⟩=some (.int .i64 z):=M2.cell 0;have gi:=Qa (HX.o.trans Sq);go_wp2_with (go_at_call 116;(have hq:=gg.o _ Ye;with_reducible (refine hq.mono ?_));clear hq;rintro e w6 ⟨rfl,rfl⟩)
 go_ret2;exact⟨rfl,gi.o⟩
def VZ (v:List (List UInt8)) (I k:Int):List UInt8:=UD (Jb v I k) 0 8960
theorem CR {v:List (List UInt8)}{I k:Int}(h:J7 (Jb v I k).x<=0):VZ v I k=[]:=by
 unfold VZ UD FV;rw[Qr (by omega),show JH (J7 (Jb v I k).x)=0 by unfold JH;omega];rfl
theorem Bb (A:Option Addr) (n c:Nat) (v:List (List UInt8)) (I k:Int) (w:World) (hv:Strs w A n v) (hg:Ji v I) (Y9:1<=k) (Xn:k<=I) :
  Calls prog 60 #[.slice A n c,.int .i64 k,.int .i64 0,.int .i64 8960] w λe w'=>e=.returned (.tuple #[.string (Qb (VZ v I k)),.int .i64 0])/\Ext w w':=by
 by_cases h:J7 (Jb v I k).x<=0
 ·rw[CR h];exact TW A n c v I k 0 8960 w hv hg Y9 Xn (by simpa using h)
 ·exact Me A n c v I k 0 8960 w hv hg Y9 Xn (by simp;omega) (by simp) (by unfold J7;simp;omega)
theorem TL (v:List (List UInt8)) (I k:Int):(VZ v I k).length<=8960:=by
 unfold VZ UD;have:=Nb (Rz (Jb v I k) ((0:Nat):Int) (FV (Jb v I k) ((0:Nat):Int) ((8960:Nat):Int))) (List.range (min (JH (FV (Jb v I k) ((0:Nat):Int) ((8960:Nat):Int))) 70));rw[mO]at this;refine Y6 ?_ (Y6 this (by omega));exact QW _
end Go.Proofs.YtfaplefkakpgcaaGreatDoor
namespace Go.Proofs.YtfaplefkakpgcaaGreatDoor
open Go.Proofs.Tryz
open Go.RowKit
def QF (v:List (List UInt8)) (I k:Int):List XJ × Int :=
 if k<1\/I<k then ([],2) else if (QV v k).getD 0 0≠2 then ([],11) else match JN (VZ v I k) with
  | none=>([],3)
  | some l=>(l,0)
theorem TQ {v:List (List UInt8)}{I k:Int}(h:(QF v I k).2=0):1<=k/\k<=I/\(QV v k).getD 0 0=2/\JN (VZ v I k)=some (QF v I k).1:=by
 unfold QF at *;by_cases h1:k<1\/I<k
 ·rw[Qv h1]at h;simp at h
 rw[Qr h1]at h ⊢;by_cases h2:(QV v k).getD 0 0≠2
 ·rw[Qv h2]at h;simp at h
 rw[Qr h2]at h ⊢;cases h3:JN (VZ v I k) with
 | none=>rw[h3]at h;simp at h
 | some l=>exact⟨by omega,by omega,by simpa using h2,rfl⟩
theorem P2 {v:List (List UInt8)}{I k:Int}(h:(QF v I k).2≠0):(QF v I k).1=[]:=by
 unfold QF at *;by_cases h1:k<1\/I<k
 ·rw[Qv h1]
 rw[Qr h1]at h ⊢;by_cases h2:(QV v k).getD 0 0≠2
 ·rw[Qv h2]
 rw[Qr h2]at h ⊢;cases h3:JN (VZ v I k) with
 | none=>rfl
 | some l=>rw[h3]at h;simp at h
theorem Uc (v:List (List UInt8)) (I k:Int):(QF v I k).1.length<=280:=by
 by_cases h:(QF v I k).2=0
 ·have h1:=(Kt (TQ h).2.2.2).2;have h2:=TL v I k;omega
 ·rw[P2 h];simp
theorem TO (v:List (List UInt8)) (I k:Int):FG (QF v I k).1:=by
 by_cases h:(QF v I k).2=0
 ·exact(Kt (TQ h).2.2.2).1
 ·rw[P2 h];exact⟨λx hx=>absurd hx Td,List.Pairwise.nil⟩
theorem P1 (A:Option Addr) (n c:Nat) (v:List (List UInt8)) (I k:Int) (w:World) (hv:Strs w A n v) (hg:Ji v I) :
  Calls prog 107 #[.slice A n c,.int .i64 k] w λe w'=>∃u,e=.returned (.tuple #[u,.int .i64 (QF v I k).2])/\Ext w w'/\ZF w' w.heap.size u (QF v I k).1:=by
 by_cases h1:k<1\/I<k
 ·have HP:=Qa (show QF v I k=([],2) from by unfold QF;rw[Qv h1]);have HG:=Qa (λw h=>Tl A n c v I k w h hg h1);go_enter func107,ntmps107
  go_wp2_with (first
   | (go_at_call 69;refine(HG.o _ hv).mono ?_;rintro e w1 ⟨rfl,x1⟩)
   | (refine QR (.tmp 6) (.tmp 15) rfl rfl w1.heap.size _ QE 121 rfl rfl (QA _ _ _) rfl rfl ?_;intro w2 b2 g2))
  go_ret2;rw[HP.o];exact⟨_,rfl,(x1.alloc _).grown g2 (λk e=>by cases e;exact x1.size),ZF.nil _ _⟩
 have Y9:1<=k:=by omega
 have Xn:k<=I:=by omega
 have HG:=Qa (λw h=>KA A n c v I k w h hg Y9 Xn);have HR:=Qa (λw h=>Bb A n c v I k w h hg Y9 Xn);have hl:(QV v k).length=12:=rfl;have Ln:(Qj (QV v k))[0]? =some (.int .i64 ((QV v k).getD 0 0)):=rfl;by_cases h2:(QV v k).getD 0 0≠2
 ·have HP:=Qa (show QF v I k=([],11) from by unfold QF;rw[Qr h1,Qv h2]);have d2:((QV v k).getD 0 0 != 2)=true:=by simpa using h2
  clear h2;generalize (QV v k).getD 0 0=kd at *;generalize QV v k=x at *;go_enter func107,ntmps107
  go_wp2_with (first
   | (go_at_call 69;refine(HG.o _ hv).mono ?_;rintro e w1 ⟨rfl,x1⟩)
   | (refine QR (.tmp 6) (.tmp 15) rfl rfl w1.heap.size _ QE 121 rfl rfl (QA _ _ _) hl rfl ?_;intro w2 b2 g2;have c2:=(b2.cell 0).trans Ln))
  go_ret2;rw[HP.o];exact⟨_,rfl,(x1.alloc _).grown g2 (λk e=>by cases e;exact x1.size),ZF.nil _ _⟩
 have hk:(QV v k).getD 0 0=2:=by simpa using h2
 have ag:=Qa (show QF v I k=match JN (VZ v I k) with|none=>([],3)|some l=>(l,0) from by unfold QF;rw[Qr h1,Qr h2]);have dI:=TL v I k;have ee:=Qa (λw=>M7 (VZ v I k) w dI);clear h2;generalize VZ v I k=d at *;generalize QF v I k=R at *;rw[hk]at Ln;clear hk;generalize QV v k=x at *;cases he:JN d with
 | none =>
  rw[he]at ee ag;clear he;go_enter func107,ntmps107
  go_wp2_with (first
   | (go_at_call 69;refine(HG.o _ hv).mono ?_;rintro e w1 ⟨rfl,x1⟩)
   | (refine QR (.tmp 6) (.tmp 15) rfl rfl w1.heap.size _ QE 121 rfl rfl (QA _ _ _) hl rfl ?_;intro w2 b2 g2;have c2:=(b2.cell 0).trans Ln;have x2:=(x1.alloc (.cells (Qj QE) 121)).grown g2 (λk e=>by cases e;exact x1.size))
   | (go_at_call 60;refine(HR.o _ (hv.ext x2)).mono ?_;rintro e w3 ⟨rfl,x3⟩)
   | (go_at_call 175;refine(ee.o _).mono ?_;rintro e w4 ⟨u,rfl,x4,Vw⟩))
  go_ret2;rw[ag.o];exact⟨_,rfl,x2.trans (x3.trans x4),ZF.nil _ _⟩
 | some l =>
  rw[he]at ee ag;clear he;go_enter func107,ntmps107
  go_wp2_with (first
   | (go_at_call 69;refine(HG.o _ hv).mono ?_;rintro e w1 ⟨rfl,x1⟩)
   | (refine QR (.tmp 6) (.tmp 15) rfl rfl w1.heap.size _ QE 121 rfl rfl (QA _ _ _) hl rfl ?_;intro w2 b2 g2;have c2:=(b2.cell 0).trans Ln;have x2:=(x1.alloc (.cells (Qj QE) 121)).grown g2 (λk e=>by cases e;exact x1.size))
   | (go_at_call 60;refine(HR.o _ (hv.ext x2)).mono ?_;rintro e w3 ⟨rfl,x3⟩)
   | (go_at_call 175;refine(ee.o _).mono ?_;rintro e w4 ⟨u,rfl,x4,Vw⟩))
  go_ret2;rw[ag.o];exact⟨_,rfl,x2.trans (x3.trans x4),Vw.base (by have:=x2.size;have:=x3.size;omega)⟩
structure Uu (F G:Qt):Prop where
 I:G.I=F.I
 n:G.n=F.n
 len:G.v.length=F.v.length
 ino:∀m,1<=m->m<=F.I->m≠F.n->QV G.v m=QV F.v m
theorem Uu.refl (F:Qt):Uu F F:=⟨rfl,rfl,rfl,λ_ _ _ _=>rfl⟩
theorem Uu.trans {F G H:Qt}(h:Uu F G) (k:Uu G H):Uu F H :=
 ⟨k.I.trans h.I,k.n.trans h.n,k.len.trans h.len,λm h1 h2 h3=>(k.ino m h1 (by rw[h.I];exact h2) (by rw[h.n];exact h3)).trans (h.ino m h1 h2 h3)⟩
theorem Uu.setX (F:Qt) (j:Nat) (b:Int):Uu F (F.setX j b):=⟨rfl,rfl,rfl,λ_ _ _ _=>rfl⟩
theorem Uu.keep {F:Qt}(h:Q0 F):Uu F F.keep:=⟨rfl,rfl,El F,λm h1 h2 h3=>Lo h.good h.n1 h.n2 h1 h3 F.x⟩
theorem Uu.lay (F:Qt) {q p:Nat}{d:List UInt8}(hq:3+(F.I+1)/2<=(q:Int)):Uu F (F.lay q p d) :=
 ⟨rfl,rfl,BN F q p d,λm h1 h2 h3=>Nh _ _ (by omega)⟩
theorem Uu.took (F:Qt) {i:Nat}(ht:Kb F.v F.I=some i):Uu F (F.took i):=by
 have h:=(VU ht).1;unfold VE at h;refine⟨rfl,rfl,Dc F i,λm h1 h2 h3=>?_⟩;show QV (Nx F.v i) m=_;unfold Nx;rw[Nh _ _ (by omega),Nh _ _ (by omega)]
theorem AE (b:Int):(gC b).length=2:=rfl
theorem Q0.named {F:Qt}(h:Q0 F) {k:Nat}(hk:k<70) {b:Int}(h0:0<=b) (h1:b<65536):Q0 (F.named k b)/\Uu F (F.named k b):=by
 unfold Qt.named;split
 ·have h2:=h.setX (j:=4+k) (by omega) (by omega) h0 h1;exact⟨h2.keep,(Uu.setX F _ _).trans (Uu.keep h2)⟩
 ·split
  ·rename_i hi;obtain⟨h2,h3⟩:=Rl hi;have Uz:=QM h.good.plan;exact⟨h.lay (by omega) (by omega) (by rw[AE];omega),Uu.lay F (by omega)⟩
  ·exact⟨h,Uu.refl F⟩
theorem Q0.withInd {F F1:Qt}(h:Q0 F) {k:Nat}(hw:F.withInd k=some F1):Q0 F1/\Uu F F1:=by
 unfold Qt.withInd at hw;split at hw
 ·cases ht:Kb F.v F.I with
  | none=>rw[ht]at hw;cases hw
  | some i => rw[ht]at hw;injection hw with hw;subst hw;have hi:=Cn h.good ht;have h2:=(h.took ht).setX (j:=10) (by omega) (by omega) (b:=(i:Int)) (by omega) (by omega);exact⟨h2.keep,((Uu.took F ht).trans (Uu.setX _ _ _)).trans (Uu.keep h2)⟩
 ·injection hw with hw;subst hw;exact⟨h,Uu.refl F⟩
theorem Q0.placed {F:Qt}(h:Q0 F) {k:Nat}(hk:k<70):Q0 (F.placed k).1/\Uu F (F.placed k).1/\((F.placed k).2.2=0->∃q:Nat,(F.placed k).2.1=(q:Int)/\3+(F.I+1)/2<=(q:Int)/\q<F.v.length):=by
 by_cases ha:UN F.v F.I F.x k= -1
 ·cases hw:F.withInd k with
  | none=>rw[GA ha hw];exact⟨h,Uu.refl F,λh=>absurd h (by simp)⟩
  | some F1 =>
   obtain⟨h1,f1⟩:=h.withInd hw;cases ht:Kb F1.v F1.I with
   | none=>rw[LB ha hw ht];exact⟨h1,f1,λh=>absurd h (by simp)⟩
   | some i =>
    rw[EG ha hw ht];have hi:=Cn h1.good ht;obtain⟨t1,t2,_⟩:=VU ht;obtain⟨h2,f2⟩:=(h1.took ht).named hk (b:=(i:Int)) (by omega) (by omega);refine⟨h2,(f1.trans (Uu.took F1 ht)).trans f2,λ_=>⟨i,rfl,?_,?_⟩⟩
    ·unfold VE at t1;rw[f1.I]at t1;exact t1
    ·rw[←f1.len];exact t2
 ·rw[EF ha];obtain⟨h1,h2⟩:=Rl (Ej ha);have Uz:=QM h.good.plan;exact⟨h,Uu.refl F,λ_=>⟨(UN F.v F.I F.x k).toNat,by simp only;omega,by omega,by omega⟩⟩
theorem Q0.wr {off:Nat}{d:List UInt8}(he:off+d.length<=8960) (m:Nat):∀(p:Nat) (F:Qt),off+d.length-p<=m->off<=p->Q0 F->Q0 (F.wr off d p).1/\Uu F (F.wr off d p).1:=by
 induction m with
 | zero => intro p F hm hp h;rw[Cr (by omega)];exact⟨h,Uu.refl F⟩
 | succ m ih =>
  intro p F hm hp h;by_cases Qo:p<off+d.length
  ·obtain⟨h1,f1,hq⟩:=h.placed (k:=p/128) (by omega);by_cases h0:(F.placed (p/128)).2.2=0
   ·rw[ov Qo h0];obtain⟨q,nh,vp,iq⟩:=hq h0;have s9:=kE p (show 128 > 0 by omega);rw[nh,gp];have hq3:3<=q:=by have Uz:=QM h.good.plan;omega
    clear hq;have h2:=h1.lay (q:=q) (p:=p%128) (d:=(d.drop (p-off)).take (min (128-p%128) (off+d.length-p))) hq3 (by rw[f1.len];exact iq) (by rw[WV,WQ];omega);have f2:=Uu.lay (F.placed (p/128)).1 (q:=q) (p:=p%128) (d:=(d.drop (p-off)).take (min (128-p%128) (off+d.length-p))) (by rw[f1.I];exact vp);obtain⟨h3,f3⟩:=ih (p+min (128-p%128) (off+d.length-p)) _ (by omega) (by omega) h2;exact⟨h3,(f1.trans f2).trans f3⟩
   ·rw[eY Qo h0];exact⟨h1,f1⟩
  ·rw[Cr Qo];exact⟨h,Uu.refl F⟩
theorem Q0.of {v:List (List UInt8)}{I k:Int}(hg:Ji v I) (h1:1<=k) (h2:k<=I):Q0 (Jb v I k):=⟨hg,h1,h2,Uf v k,Hv _ _⟩
end Go.Proofs.YtfaplefkakpgcaaGreatDoor
namespace Go.Proofs.YtfaplefkakpgcaaGreatDoor
open Go.Proofs.Tryz
open Go.RowKit Go.Shelf
attribute [local go_sem] A9
theorem F3 (A:Option Addr) (n c:Nat) (v:List (List UInt8)) (I k:Int) (off size:Nat) (w:World) (hv:Strs w A n v) (hg:Ji v I) (Y9:1<=k) (Xn:k<=I) (UT:(off:Int)<J7 (Jb v I k).x) (VH:(size:Int)<=9223372036854775807) (hend:(size:Int)<J7 (Jb v I k).x-(off:Int)) :
  Calls prog 60 #[.slice A n c,.int .i64 k,.int .i64 (off:Int),.int .i64 (size:Int)] w λe w'=>e=.returned (.tuple #[.string (Qb (UD (Jb v I k) off size)),.int .i64 0])/\Ext w w':=by
 have HO:=Qa (λw h=>VM A n c v I k w h hg Y9 Xn);have eh:=Qa (λ(B g:Nat) (w:World) (s:Sl) hB hs Ye own=>Yw.of_opened (B:=B) (w:=w) (g:=g) (s:=s) hg Y9 Xn hB hs Ye own);have HV:=Qa hv;clear hv hg Y9 Xn;generalize hG:w.heap.size=G at *;refine(Pp (n:=6)).1 ?_;refine callsIn_of_wp_marks func60 rfl trivial ?_ rfl;simp only[ntmps60,N1,YV,Tz,Nat.reduceAdd,Nat.reduceSub,ah,ak,aq,an,Cx,DB];refine fQ.2 ?_;have b6:=QA w 3 #[.int .i64 (off:Int)];have x6:Ext w (w.alloc (.cells #[.int .i64 (off:Int)] 3)):=(Qf w).alloc _;have MT:=Qa (HV.o.ext x6);go_upto_region 1 with fail;rw[hG]at b6;have vM:G+1<=(w.alloc (.cells #[.int .i64 (off:Int)] 3)).heap.size:=by rw[Ki,hG];exact QW _
 generalize w.alloc (.cells #[.int .i64 (off:Int)] 3)=w1 at *
 go_upto_region 2 with(first
  | (go_at_call 115;refine(HO.o _ MT.o).mono ?_;rintro e w2 ⟨⟨s,rfl,Rb,Zh⟩,x2⟩)
  | (refine YP (.tmp 10) (.tmp 22) rfl rfl w2.heap.size s (Jb v I k) _ 162 rfl rfl (QA _ _ _) rfl ?_;intro w3 b3 g3))
 have xa:Ext w2 (w2.alloc (.cells V8 162)):=(Qf w2).alloc _;have Po:Ext w2 w3:=xa.grown g3 (λj e=>by cases e;exact QW _);have WD:=(Qe Zh xa).kept g3 (.inr (Jz (Qe Zh xa) (QA w2 162 V8) (by decide)).symm);have mz:=eh.o w1.heap.size w2.heap.size w3 s x2.size Rb b3 WD;have HX:=Qa (x6.trans (x2.trans Po));have CB:=(b6.ext x2).ext Po;have nR:=x2.size;clear HO eh HV MT Zh Rb b3 WD xa Po x2 g3 b6 x6;generalize Si:w2.heap.size=g at *;generalize hFO:Jb v I k=F at *;have pH:=Qa hFO;clear hFO Si;obtain⟨hOk,hBg,b,cap,Ye,own⟩:=mz;generalize Zx s ⟨v,I,k,QV v k⟩=fc at *;have hr:=Nl own;have gg:=Qa (λw h=>Nc g ⟨some ⟨b,0,none⟩,F.v.length,cap⟩ F w h);have fh:J7 F.x<=8960:=by unfold J7;omega
 have d1:decide ((off:Int)<0)=false:=by simp
 have d2:decide ((size:Int)<0)=false:=by simp
 have Lk:=CB.cell 0;have lg:=Qa (show UD F off size=(List.range (min (JH ((off:Int)+(size:Int))) 70)).flatMap (VO F off ((off:Int)+(size:Int))) from by unfold UD FV;rw[Qv (by omega)]);generalize hzz:J7 F.x=z at *;have d3:decide (z<=(off:Int))=false:=by simp;omega
 have d4:decide ((size:Int)<z-(off:Int))=true:=by simp;omega
 have wad:IntKind.i64.wrap ((off:Int)+(size:Int))=(off:Int)+(size:Int):=by rw[ZU];omega
 have hez:(off:Int)+(size:Int)<=8960:=by omega
 have hez0:(0:Int)<=(off:Int)+(size:Int):=by omega
 have w9:IntKind.i64.wrap (z-(off:Int))=z-(off:Int):=by rw[ZU];omega
 have Sq:Ext w3 (w3.alloc (.cells #[.int .i64 z] 3)):=(Qf w3).alloc _;have M2:=QA w3 3 #[.int .i64 z];have Sc:=CB.ext Sq;have Ee:=Ye.ext Sq;have kI:(w3.alloc (.cells #[.int .i64 z] 3)).cell? ⟨G,0,none⟩=some (.int .i64 (off:Int)):=Sc.cell 0;have Fs:(w3.alloc (.cells #[.int .i64 z] 3)).cell? ⟨w3.heap.size,0,none⟩=some (.int .i64 z):=M2.cell 0;go_upto_region 7 with(go_at_call 116;(have hq:=gg.o _ Ye;with_reducible (refine hq.mono ?_));clear hq;rintro e w6 ⟨rfl,rfl⟩)
 have rX:=M2.frozen 0;have sr:=Ye.lt;have h63:=CB.lt;have hbE:b<w3.heap.size:=by
  rcases own.2 with⟨h,_⟩|⟨g',cap',cur,e,_,hh,_⟩
  ·cases h
  ·injection e with e1 _ _;injection e1 with e1;injection e1 with e1 _ _;subst e1;exact(SK.1 hh).1
 go_upto_region 11 with fail;have ab:Ext w3 (w3.alloc (.cells #[.int .i64 ((off:Int)+(size:Int))] 3)):=(Qf w3).alloc _;have me:=QA w3 3 #[.int .i64 ((off:Int)+(size:Int))];have Cs:(w3.alloc (.cells #[.int .i64 ((off:Int)+(size:Int))] 3)).heap.size=w3.heap.size+1:=Ki _ _;clear Sc Ee kI Fs rX M2 Sq;generalize w3.alloc (.cells #[.int .i64 ((off:Int)+(size:Int))] 3)=wq at *;have M2:Box wq w3.heap.size 3 #[.int .i64 ((off:Int)+(size:Int))]:=me;have Sc:=CB.ext ab;have Ee:=Ye.ext ab;have np:=hr.ext ab;have kI:wq.cell? ⟨G,0,none⟩=some (.int .i64 (off:Int)):=Sc.cell 0;have Fs:wq.cell? ⟨w3.heap.size,0,none⟩=some (.int .i64 ((off:Int)+(size:Int))):=M2.cell 0;have gi:=Qa (HX.o.trans ab);have FB:=PU wq;rw[Cs]at FB;clear Ye CB ab me HX Lk hr own gg;obtain⟨ez,hezq⟩:∃ez:Int,ez=(off:Int)+(size:Int):=⟨_,rfl⟩
 have HEZ:=Qa hezq;have Dg:IntKind.i64.wrap ((off:Int)+(size:Int)+128)=(off:Int)+(size:Int)+128:=by rw[ZU];omega
 have aS:IntKind.i64.wrap ((off:Int)+(size:Int)+128-1)=(off:Int)+(size:Int)+127:=by rw[ZU];omega
 clear hezq;have xB:Ext wq (wq.alloc (.cells #[.pointer none,.slice none 0 0] 169)):=(Qf _).alloc _;have FP:=M2.ext xB;have mf:=Sc.ext xB;have Ed:=Ee.ext xB;have ix:=np.ext xB;have lz:=Qa (gi.o.trans xB);have zB:(wq.alloc (.cells #[.pointer none,.slice none 0 0] 169)).heap.size=w3.heap.size+2:=by rw[Ki,Cs]
 have my:((((off:Int)+(size:Int))+127)/128:Int)=(JH ((off:Int)+(size:Int)):Nat):=by unfold JH;omega
 have sH:Int.tdiv (((off:Int)+(size:Int))+127) 128=(JH ((off:Int)+(size:Int)):Nat):=by rw[Int.tdiv_eq_ediv_of_nonneg (by omega)];exact my
 have sG:JH ((off:Int)+(size:Int))<=70:=by unfold JH;omega
 generalize Ec:JH ((off:Int)+(size:Int))=cb at *;have lI:=Qa (TR g ⟨some ⟨b,0,none⟩,F.v.length,cap⟩ F (cb:Int) _ Ed ix hOk);have iI:=FP.cell 0;go_upto_region 12 with fail;clear xB M2 Sc Ee np gi kI Fs Cs;generalize wq.alloc (.cells #[.pointer none,.slice none 0 0] 169)=wB at *;generalize hE:w3.heap.size=E at *;clear hE w3;go_wp2_with (go_at_call 117;refine lI.o.mono ?_;rintro e w5 ⟨⟨b1,b2,rfl,ZS,Kj,le1,le2,ne12⟩,x5⟩)
 refine(fQ (n:=6)).1 ?_;gi_wp2_with fail;have sN:∀W,Below (E+1) wB W->Ext w W:=λW h=>lz.o.under h (by omega);have sF:∀W,Below (E+1) wB W->Box W G 3 #[.int .i64 (off:Int)]/\Box W E 3 #[.int .i64 ((off:Int)+(size:Int))]/\Box W g 162 (Zx ⟨some ⟨b,0,none⟩,F.v.length,cap⟩ F):=λW h => ⟨(h.block G (by omega)).trans mf,(h.block E (by omega)).trans FP,(h.block g (by omega)).trans Ed⟩
 have sI:∀W,Below (E+1) wB W->Strs W (some ⟨b,0,none⟩) F.v.length F.v:=λW h=>MK ix (h.block b (by omega));have tg:Below (E+1) wB w5:=hZ x5 (by omega);have qT:WR (E+1) (E+1) [] w5:=WR.ext (.inl ⟨FB,rfl⟩) x5;have hs5:=x5.size;have ko:=Qa (show∀x,VO F off ((off:Int)+(size:Int)) x=if Ps ((off:Int)+(size:Int)) x<=Ze off x then [] else if UN F.v F.I F.x x= -1 then zs (Ps ((off:Int)+(size:Int)) x-Ze off x).toNat else ((F.v.getD (UN F.v F.I F.x x).toNat []).drop (Ze off x).toNat).take (Ps ((off:Int)+(size:Int)) x-Ze off x).toNat fromλx=>rfl);have HQ:=Qa (λx (h:UN F.v F.I F.x x≠-1)=>Rl (Ej h));have bM:=Qa (Rz F off ((off:Int)+(size:Int)));have py:=Qa hOk.good;have hdt:(0:Int)<=3+(F.I+1)/2:=by have:=QM hOk.good.plan;omega
 generalize VO F off ((off:Int)+(size:Int))=pc at *;generalize UN F.v F.I F.x=f at *;clear lI mf FP Ed ix iI x5 FB d1 d2 d3 d4 w9 Dg aS my sH
 refine wpIn_rangeFunc_ownH rfl (by decide) (gf:=182) (lb:=#[.pointer (some ⟨b1,0,none⟩),.pointer (some ⟨b2,0,none⟩)]) rfl trivial (enters_of func182 (by kernel_rfl) rfl)
  (NF 5 (by decide) b1 b2 cb f w5 ZS Kj) Vh.trans Vh.book (bj _ _) (λ_=>rfl)
  (λpre W=>Below (E+1) wB W/\WR (E+1) (E+1) (pre.flatMap pc) W/\pre.length<=70/\Box W b1 237 (JC f 70)/\Box W b2 3 #[.int .i64 (cb:Int)])
  (λ_ _ _=>False)
  (OwnFrom.and (ownFrom_below (by omega) (by omega)) (OwnFrom.and (Own.from (He _ _ _) _) (OwnFrom.and (ownFrom_pure _ _) (OwnFrom.and (Own.from (JM _ _ _) _) (Own.from (JM _ _ _) _)))))
  (λ_ _ _ _ _ hs _ _=>hs) ⟨tg,qT,by simp,ZS,Kj⟩
  (λx a' W=>a'={ tmps:=#[.slice A n c,.int .i64 k,.int .i64 (off:Int),.int .i64 (size:Int),undef,undef,.pointer (some ⟨G,0,none⟩),undef,.string ⟨#[]⟩,.int .i64 0,.pointer (some ⟨g,0,none⟩),.int .i64 0,.pointer (some ⟨E,0,none⟩),.pointer (some ⟨E+1,0,none⟩),.int .i64 (x:Int),.int .i64 (f x),undef,undef,.tuple #[.agg fc,.int .i64 0],.slice A n c,.int .i64 k,.tuple #[.agg fc,.int .i64 0],.agg fc,.int .i64 0,.int .i64 0,.bool false,undef,.int .i64 (off:Int),.bool false,.bool false,.int .i64 (size:Int),.bool false,.bool false,.int .i64 z,.int .i64 (off:Int),.int .i64 z,.bool false,.int .i64 (size:Int),.int .i64 z,.int .i64 (off:Int),.int .i64 (z-(off:Int)),.bool true,.int .i64 (off:Int),.int .i64 (size:Int),.int .i64 ((off:Int)+(size:Int)),.int .i64 ((off:Int)+(size:Int)),.int .i64 ((off:Int)+(size:Int)+128),.int .i64 ((off:Int)+(size:Int)+127),.int .i64 (cb:Int),.func (.func 182) #[] #[.pointer (some ⟨b1,0,none⟩),.pointer (some ⟨b2,0,none⟩)],.int .i64 (x:Int),.int .i64 (f x),undef,undef,undef,undef,undef,undef,undef,undef,undef,undef,undef,undef,undef,undef,undef,undef,undef,undef,undef,undef,undef,undef,undef,undef,undef,undef,undef,undef,undef,undef],defers:=[] })
  (λx a' _ X Y row hs hg hr=>hs) ?assign ?body ?done ?stop
 case assign => rintro l pre x W K ⟨i1,i2,i3,i4,i5⟩ hK;simp only[bz];gi_wp2;exact hK _ _ (Jf (Qf W)) (Vh.ext (Qf W)) ⟨i1,i2,i3,i4,i5⟩ rfl
 case body =>
  rintro l pre x a' W dL ⟨r,hr⟩ ⟨i1,i2,i3,i4,i5⟩ rfl hlt70;obtain⟨j1,j2,j3⟩:=sF W i1;have c6:W.cell? ⟨G,0,none⟩=some (.int .i64 (off:Int)):=j1.cell 0;have Fs:W.cell? ⟨E,0,none⟩=some (.int .i64 ((off:Int)+(size:Int))):=j2.cell 0;gi_wp2
  -- WEB BEGINS
  refine Ke 12 [[],[],[1],[0,2],[3],[],[],[6],[5,7],[8],[4],[9]] (Wy [Xp (.int .i64 ((off:Int))),Xp (.int .i64 ((x:Int))),Xp (.int .i64 (wrap64 ((x:Int)*128))),Xp (.int .i64 (wrap64 ((off:Int)-wrap64 ((x:Int)*128)))),Xp (.int .i64 (Ze off x)),Xp (.int .i64 (((off:Int)+(size:Int)))),Xp (.int .i64 ((x:Int))),Xp (.int .i64 (wrap64 ((x:Int)*128))),Xp (.int .i64 (wrap64 (((off:Int)+(size:Int))-wrap64 ((x:Int)*128)))),Xp (.int .i64 (Ps ((off:Int)+(size:Int)) x)),Xp (.int .i64 (Ze off x)),Xp (.int .i64 (Ps ((off:Int)+(size:Int)) x))]) (by rintro⟨_,_,h⟩;exact h) (by kernel_rfl) (by kernel_rfl) (by kernel_rfl) (Uh (λp hp=>by simp only[TA,Td,L1]at hp;rcases hp with rfl|rfl|rfl|rfl|rfl|rfl|rfl|rfl|rfl|rfl|rfl|rfl<;>first|exact Wv _)) (λus=>?_);simp only[Yh,Yt,YB,Yu];rw[Qx];refine YA (λw' hx hd=>?_) ?_
  ·clear hd;have e6:=hx.keep c6;have mo:=hx.keep Fs;refine Qk 52 rfl (by simp) rfl ?_;go_wp2_with fail;exact⟨Qf _,rfl⟩
  simp only[S_];rw[Qx];refine YA (λw' hx hd=>?_) ?_
  ·clear hd;refine Qk 53 rfl (by simp[Act.put]) rfl ?_;go_wp2_with fail;exact⟨Qf _,rfl⟩
  simp only[S_];rw[Qx];refine YA (λw' hx hd=>?_) ?_
  ·have h1:=hd 1 (by simp);clear hd;generalize us 1=u1 at *;obtain rfl:u1=.int .i64 ((x:Int)):=h1;refine Qk 54 rfl (by simp[Act.put]) rfl ?_;go_wp2_with fail;exact⟨Qf _,rfl⟩
  simp only[S_];rw[Qx];refine YA (λw' hx hd=>?_) ?_
  ·have h0:=hd 0 (by simp);have h2:=hd 2 (by simp);clear hd;generalize us 0=u0 at *;generalize us 2=u2 at *;obtain rfl:u0=.int .i64 ((off:Int)):=h0;obtain rfl:u2=.int .i64 (wrap64 ((x:Int)*128)):=h2;refine Qk 55 rfl (by simp[Act.put]) rfl ?_;go_wp2_with fail;exact⟨Qf _,rfl⟩
  simp only[S_];rw[Qx];refine YA (λw' hx hd=>?_) ?_
  ·have h3:=hd 3 (by simp);clear hd;generalize us 3=u3 at *;obtain rfl:u3=.int .i64 (wrap64 ((off:Int)-wrap64 ((x:Int)*128))):=h3;refine Qk 56 rfl (by simp[Act.put]) rfl ?_;go_wp2_with fail;exact⟨Qf _,rfl⟩
  simp only[S_];rw[Qx];refine YA (λw' hx hd=>?_) ?_
  ·clear hd;have e6:=hx.keep c6;have mo:=hx.keep Fs;refine Qk 57 rfl (by simp[Act.put]) rfl ?_;go_wp2_with fail;exact⟨Qf _,rfl⟩
  simp only[S_];rw[Qx];refine YA (λw' hx hd=>?_) ?_
  ·clear hd;refine Qk 58 rfl (by simp[Act.put]) rfl ?_;go_wp2_with fail;exact⟨Qf _,rfl⟩
  simp only[S_];rw[Qx];refine YA (λw' hx hd=>?_) ?_
  ·have h6:=hd 6 (by simp);clear hd;generalize us 6=u6 at *;obtain rfl:u6=.int .i64 ((x:Int)):=h6;refine Qk 59 rfl (by simp[Act.put]) rfl ?_;go_wp2_with fail;exact⟨Qf _,rfl⟩
  simp only[S_];rw[Qx];refine YA (λw' hx hd=>?_) ?_
  ·have h5:=hd 5 (by simp);have h7:=hd 7 (by simp);clear hd;generalize us 5=u5 at *;generalize us 7=u7 at *;obtain rfl:u5=.int .i64 (((off:Int)+(size:Int))):=h5;obtain rfl:u7=.int .i64 (wrap64 ((x:Int)*128)):=h7;refine Qk 60 rfl (by simp[Act.put]) rfl ?_;go_wp2_with fail;exact⟨Qf _,rfl⟩
  simp only[S_];rw[Qx];refine YA (λw' hx hd=>?_) ?_
  ·have h8:=hd 8 (by simp);clear hd;generalize us 8=u8 at *;obtain rfl:u8=.int .i64 (wrap64 (((off:Int)+(size:Int))-wrap64 ((x:Int)*128))):=h8;refine Qk 61 rfl (by simp[Act.put]) rfl ?_;go_wp2_with fail;exact⟨Qf _,rfl⟩
  simp only[S_];rw[Qx];refine YA (λw' hx hd=>?_) ?_
  ·have h4:=hd 4 (by simp);clear hd;generalize us 4=u4 at *;obtain rfl:u4=.int .i64 (Ze off x):=h4;refine Qk 16 rfl (by simp[Act.put]) rfl ?_;go_wp2_with fail;exact⟨Qf _,rfl⟩
  simp only[S_];rw[Qx];refine YA (λw' hx hd=>?_) ?_
  ·have h9:=hd 9 (by simp);clear hd;generalize us 9=u9 at *;obtain rfl:u9=.int .i64 (Ps ((off:Int)+(size:Int)) x):=h9;refine Qk 17 rfl (by simp[Act.put]) rfl ?_;go_wp2_with fail;exact⟨Qf _,rfl⟩
  simp only[S_];rw[Qx];intro w' hx hv;have DV:=hv 10 (by omega);have mv:=hv 11 (by omega);clear hv;generalize us 10=u10 at *;generalize us 11=u11 at *;obtain rfl:u10=.int .i64 (Ze off x):=DV;obtain rfl:u11=.int .i64 (Ps ((off:Int)+(size:Int)) x):=mv;have HW:=Qa hx;go_wp2_with fail;have N6:=ko.o x;have sY:0<=Ze off x:=Int.le_max_right _ _;have tN:Ps ((off:Int)+(size:Int)) x<=128:=Int.min_le_right _ _;have IY:Below (E+1) wB w':=fK i1 (hZ HW.o (by have:=i1.size;omega));have IZ:=i2.ext HW.o;have tT:=j3.ext HW.o;have Uz:=Nb bM.o pre;have tL:=IY.size;clear hx c6 Fs j1 j2 j3;generalize Ze off x=fr at *;generalize Ps ((off:Int)+(size:Int)) x=tt at *;by_cases hc:tt<=fr
  ·rw[Qv hc]at N6;gi_wp2_with fail;refine⟨Jf HW.o,Vh.ext HW.o,IY,?_,by simp;omega,i4.ext HW.o,i5.ext HW.o⟩;rw[AY,j7,N6,SO];exact IZ
  rw[Qr hc]at N6;obtain⟨fa,rfl⟩:∃k:Nat,fr=(k:Int):=⟨fr.toNat,by omega⟩
  obtain⟨ta,rfl⟩:∃k:Nat,tt=(k:Int):=⟨tt.toNat,by omega⟩
  have sq:fa<ta:=by omega
  have Kk:ta<=128:=by omega
  have hm:((ta:Int)-(fa:Int)).toNat=ta-fa:=by omega
  rw[hm,gp]at N6;by_cases hq:f x= -1
  ·rw[Qv hq]at N6;rw[hq];have hw:IntKind.i64.wrap ((ta:Int)-(fa:Int))=((ta-fa:Nat):Int):=by rw[ZU];omega
   have HR:=Qa (λw=>VQ (ta-fa) w (by omega));have HS:=Qa (λw2 (x2:Ext w' w2)=>Zr (E+1) (E+1) (pre.flatMap pc) (zs (ta-fa)) w2 (IZ.ext x2) (by have:=x2.size;omega) (by omega) (by simp[zs];omega));have HP:=Qa N6;clear N6 hq hm;generalize hmm:ta-fa=m at *;clear hmm
   gi_wp2_with (first
    | (refine⟨trivial,?_⟩;gi_at_call 119;refine(CallsIn.inRound l (Pp.2 (HR.o _))).mono ?_;rintro e w2 ⟨rfl,x2⟩)
    | (refine⟨trivial,?_⟩;gi_at_call 118;refine(CallsIn.inRound l (Pp.2 (HS.o _ x2))).mono ?_;rintro e w3 ⟨rfl,f3,q3,k3⟩))
   have LV:=HW.o.trans x2;obtain⟨cs,hcs⟩:=(IZ.ext x2).isCells;have k4:=i4.ext LV;have k5:=i5.ext LV;have hk:=Vh.others k3 (show b1≠E+1 by omega) (show b2≠E+1 by omega) (λcs t e=>by rw[show w2.heap[b1]? =_ from k4]at e;cases e;decide) (λcs t e=>by rw[show w2.heap[b2]? =_ from k5]at e;cases e;decide);refine⟨(Jf LV).trans (ZM k3 hcs q3.size),(Vh.ext LV).trans hk,(IY.trans (hZ x2 (by omega))).trans q3,?_,by simp;omega,(hk _ _).1 k4,(hk _ _).2 k5⟩;rw[AY,j7,HP.o];exact .inr f3
  rw[Qr hq]at N6;have Sk:=HQ.o x hq;have nt:=sI w' IY;have cv:w'.cell? ⟨g,0,none⟩=some (.slice (some ⟨b,0,none⟩) F.v.length cap):=tT.cell 0;obtain⟨b',o',he,Qd⟩:=nt.2 (by omega);cases he;obtain⟨qn,hqn⟩:∃q:Nat,f x=(q:Int):=⟨(f x).toNat,by omega⟩
  rw[hqn]at Sk N6;rw[hqn];have cb:w'.cell? ⟨b,qn,none⟩=some (.string (Qb (F.v.getD qn []))):=by have:=W6 Qd (k:=qn) (by omega);rwa [Ux]at this
  have Ec:(F.v.getD qn []).length=128:=Ym py.o (by omega);rw[gp]at N6;clear Qd nt hq;have vr:(qn:Int)<(F.v.length:Int):=Sk.2;generalize F.v.getD qn []=blk at *;have hsb:(Qb blk).size=128:=by rw[Qh,Ec]
  have HS:=Qa (show Calls prog 118 #[.pointer (some ⟨E+1,0,none⟩),.string ((Qb blk).extract fa ta)] w' _ from by
   rw[JJ];exact Zr (E+1) (E+1) (pre.flatMap pc) ((blk.drop fa).take (ta-fa)) w' IZ (by omega) (by omega) (by simp;omega))
  have HP:=Qa N6;clear N6 hm hqn hc Sk;gi_wp2_with (refine⟨trivial,?_⟩;gi_at_call 118;refine(CallsIn.inRound l (Pp.2 HS.o)).mono ?_;rintro e w3 ⟨rfl,f3,q3,k3⟩)
  have LV:=HW.o;obtain⟨cs,hcs⟩:=IZ.isCells;have k4:=i4.ext LV;have k5:=i5.ext LV;have hk:=Vh.others k3 (show b1≠E+1 by omega) (show b2≠E+1 by omega) (λcs t e=>by rw[show w'.heap[b1]? =_ from k4]at e;cases e;decide) (λcs t e=>by rw[show w'.heap[b2]? =_ from k5]at e;cases e;decide);refine⟨(Jf LV).trans (ZM k3 hcs q3.size),(Vh.ext LV).trans hk,IY.trans q3,?_,by simp;omega,(hk _ _).1 k4,(hk _ _).2 k5⟩;rw[AY,j7,HP.o];exact .inr f3
  -- WEB ENDS
 case done =>
  rintro D ys W hD hys ⟨i1,i2,i3,i4,i5⟩ hK;subst hys;have HS:=Qa (NC (E+1) (E+1) _ W i2 (by have:=i1.size;omega));have HE:=Qa lg.o;clear lg;have i1s:=i1.size;generalize (List.range (min cb 70)).flatMap pc=R at *;gi_wp2_with fail;go_wp2_with (go_at_call 120;refine HS.o.mono ?_;rintro e w6 ⟨rfl,q6,k6⟩)
  obtain⟨cs,hcs⟩:=i2.isCells;have nB:=(ZM (B:=E+1) k6 hcs q6.size).2 D _ (by omega) hK rfl;refine⟨by simp,.inl ⟨_,_,rfl,run_takeDeferred nB,?_⟩⟩;exact⟨_,results_tmp2 rfl _ _ _,by rw[pH.o,HE.o];simp,(sN _ (i1.trans q6)).putObj (.deferred none) nB (by have:=lz.o.size;omega)⟩
 case stop => rintro D c pre W hD _ h;exact h.elim
end Go.Proofs.YtfaplefkakpgcaaGreatDoor
namespace Go.Proofs.YtfaplefkakpgcaaGreatDoor
open Go.Proofs.Tryz
open Go.RowKit
def NQ (v:List (List UInt8)) (I k off size:Int):List UInt8 × Int :=
 if off<0\/size<0 then ([],1) else if J7 (Jb v I k).x<=off then ([],0) else (UD (Jb v I k) off.toNat size.toNat,0)
theorem Bd (A:Option Addr) (n c:Nat) (v:List (List UInt8)) (I k off size:Int) (w:World) (hv:Strs w A n v) (hg:Ji v I) (Y9:1<=k) (Xn:k<=I) (hneg:off<0\/size<0) :
  Calls prog 60 #[.slice A n c,.int .i64 k,.int .i64 off,.int .i64 size] w λe w'=>e=.returned (.tuple #[.string ⟨#[]⟩,.int .i64 1])/\Ext w w':=by
 have HO:=Qa (λw h=>VM A n c v I k w h hg Y9 Xn);have HV:=Qa hv;have x0:Ext w (w.alloc (.cells #[.int .i64 off] 3)):=(Qf w).alloc _;have b0:=QA w 3 #[.int .i64 off];clear hv hg Y9 Xn;rcases(by omega:off<0\/(¬off<0/\size<0)) with h1|⟨h1,h2⟩
 ·have d1:decide (off<0)=true:=Ve h1;clear hneg h1;go_enter func60,ntmps60;go_upto_region 1 with fail;generalize w.alloc (.cells #[.int .i64 off] 3)=w1 at *
  go_wp2_with (first
   | (go_at_call 115;refine(HO.o _ (HV.o.ext x0)).mono ?_;rintro e w2 ⟨⟨s,rfl,Rb,Zh⟩,x2⟩;have xa:Ext w2 (w2.alloc (.cells V8 162)):=(Qf w2).alloc _)
   | (refine YP (.tmp 10) (.tmp 22) rfl rfl w2.heap.size s (Jb v I k) _ 162 rfl rfl (QA _ _ _) rfl ?_;intro w3 b3 g3;have Po:Ext w2 w3:=xa.grown g3 (λj e=>by cases e;exact QW _);have c3:w3.cell? ⟨w.heap.size,0,none⟩=some (.int .i64 off):=((b0.ext x2).ext Po).cell 0))
  go_ret2;exact⟨rfl,x0.trans (x2.trans Po)⟩
 ·have d1:decide (off<0)=false:=XI h1;have d2:decide (size<0)=true:=Ve h2;clear hneg h1 h2;go_enter func60,ntmps60;go_upto_region 1 with fail;generalize w.alloc (.cells #[.int .i64 off] 3)=w1 at *
  go_wp2_with (first
   | (go_at_call 115;refine(HO.o _ (HV.o.ext x0)).mono ?_;rintro e w2 ⟨⟨s,rfl,Rb,Zh⟩,x2⟩;have xa:Ext w2 (w2.alloc (.cells V8 162)):=(Qf w2).alloc _)
   | (refine YP (.tmp 10) (.tmp 22) rfl rfl w2.heap.size s (Jb v I k) _ 162 rfl rfl (QA _ _ _) rfl ?_;intro w3 b3 g3;have Po:Ext w2 w3:=xa.grown g3 (λj e=>by cases e;exact QW _);have c3:w3.cell? ⟨w.heap.size,0,none⟩=some (.int .i64 off):=((b0.ext x2).ext Po).cell 0))
  go_ret2;exact⟨rfl,x0.trans (x2.trans Po)⟩
theorem Bc (A:Option Addr) (n c:Nat) (v:List (List UInt8)) (I k off size:Int) (w:World) (hv:Strs w A n v) (hg:Ji v I) (Y9:1<=k) (Xn:k<=I) (ho:off<=9223372036854775807) (hs:size<=9223372036854775807) :
  Calls prog 60 #[.slice A n c,.int .i64 k,.int .i64 off,.int .i64 size] w λe w'=>e=.returned (.tuple #[.string (Qb (NQ v I k off size).1),.int .i64 (NQ v I k off size).2])/\Ext w w':=by
 unfold NQ;by_cases h1:off<0\/size<0
 ·rw[Qv h1];exact Bd A n c v I k off size w hv hg Y9 Xn h1
 rw[Qr h1];obtain⟨o,rfl⟩:∃o:Nat,off=(o:Int):=⟨off.toNat,by omega⟩
 obtain⟨s,rfl⟩:∃s:Nat,size=(s:Int):=⟨size.toNat,by omega⟩
 by_cases h2:J7 (Jb v I k).x<=(o:Int)
 ·rw[Qv h2];exact TW A n c v I k o s w hv hg Y9 Xn h2
 rw[Qr h2];simp only[gp];by_cases h3:(s:Int)<J7 (Jb v I k).x-(o:Int)
 ·exact F3 A n c v I k o s w hv hg Y9 Xn (by omega) hs h3
 ·exact Me A n c v I k o s w hv hg Y9 Xn (by omega) hs (by omega)
theorem F8 (F B:Option Addr) (fc bc:Nat) (fr bl:List (List UInt8)) (s:List UInt8) (hs:s.length<=9223372036854775807) (w:World) (hF:Strs w F fr.length fr) (hB:Strs w B bl.length bl) (Eg:fr.length<=9223372036854775807) (ay:bl.length<=9223372036854775807) :
  Calls prog 9 #[.agg #[.slice F fr.length fc,.slice B bl.length bc,.string (Qb s)]] w λe w'=>(∃n:Int,e=.returned (.int .i64 n)/\(n<=0->fr.length<=20/\bl.length<=80/\s.length<=4000))/\Ext w w':=by
 have hz:=Qh;have x0:=(Qf w).alloc (.cells #[.slice F fr.length fc,.slice B bl.length bc,.string (Qb s)] 24);have bx:=QA w 24 #[.slice F fr.length fc,.slice B bl.length bc,.string (Qb s)];have HF:=Qa (hF.ext x0);have HB:=Qa (hB.ext x0);clear hF hB;go_enter func9,ntmps9;go_upto_region 1 with fail;generalize w.alloc (.cells #[.slice F fr.length fc,.slice B bl.length bc,.string (Qb s)] 24)=w0 at x0 bx HF HB ⊢;have tq:=Qa bx;generalize w.heap.size=G at *;have q0:w0.cell? ⟨G,0,none⟩=some (.slice F fr.length fc):=bx.cell 0;have q1:w0.cell? ⟨G,1,none⟩=some (.slice B bl.length bc):=bx.cell 1;have q2:w0.cell? ⟨G,2,none⟩=some (.string (Qb s)):=bx.cell 2;clear bx;by_cases c1:(20:Int)<fr.length
 ·go_wp2_with fail;go_ret;exact⟨⟨1,rfl,λh=>by omega⟩,x0⟩
 ·by_cases c2:(80:Int)<bl.length
  ·go_wp2_with fail;go_ret;exact⟨⟨1,rfl,λh=>by omega⟩,x0⟩
  ·by_cases c5:(4000:Int)<s.length
   ·go_wp2_with fail;go_ret;exact⟨⟨1,rfl,λh=>by omega⟩,x0⟩
   go_upto_region 4 with fail;have qV:=Qa (show fr.length<=20/\bl.length<=80/\s.length<=4000 by omega);clear c1 c2 c5;go_loop [3,24] (λ_ i=>∃k:Nat,k<=fr.length/\i=.int .i64 k) (λ_ i=>fr.length-(intOf i).toNat);case atStart=>exact⟨0,by omega,rfl⟩
   case round =>
    obtain⟨k,hk,rfl⟩:=hrel;by_cases Qo:k<fr.length
    ·obtain⟨b,o,hA,Qd⟩:=HF.o.2 (by omega);subst hA;have dH:=Qd k Qo;have Vf:(k:Int)<(fr.length:Int):=by omega
     clear Qd;generalize fr[k]=t at *;by_cases c3:(200:Int)<t.length
     ·go_wp2_with fail;go_ret;exact⟨⟨1,rfl,λh=>by omega⟩,x0⟩
     ·go_wp2_with fail;go_round;case rel=>exact⟨k+1,by omega,by go_num⟩
      case measure=>simp[intOf];omega
    ·have Fv:¬(k:Int)<(fr.length:Int):=by omega
     go_upto_region 10 with fail;go_loop [4,38] (λ_ i=>∃k:Nat,k<=bl.length/\i=.int .i64 k) (λ_ i=>bl.length-(intOf i).toNat);case atStart=>exact⟨0,by omega,rfl⟩
     case round =>
      obtain⟨k2,Xn,rfl⟩:=hrel;by_cases Kk:k2<bl.length
      ·obtain⟨b,o,hA,Qd⟩:=HB.o.2 (by omega);subst hA;have dH:=Qd k2 Kk;have Vf:(k2:Int)<(bl.length:Int):=by omega
       clear Qd;generalize bl[k2]=t at *;by_cases c3:(200:Int)<t.length
       ·go_wp2_with fail;go_ret;exact⟨⟨1,rfl,λh=>by omega⟩,x0⟩
       ·go_wp2_with fail;go_round;case rel=>exact⟨k2+1,by omega,by go_num⟩
        case measure=>simp[intOf];omega
      ·have hkn2:¬(k2:Int)<(bl.length:Int):=by omega
       go_wp2_with fail;go_ret;exact⟨⟨0,rfl,λ_=>qV.o⟩,x0⟩
theorem EX (F B:Option Addr) (fc bc:Nat) (fr bl:List (List UInt8)) (w:World) (hF:Strs w F fr.length fr) (hB:Strs w B bl.length bl) (Eg:fr.length<=9223372036854775807) (ay:bl.length<=9223372036854775807) :
  Calls prog 9 #[.agg #[.slice F fr.length fc,.slice B bl.length bc,.string ⟨#[]⟩]] w λe w'=>(∃n:Int,e=.returned (.int .i64 n)/\(n<=0->fr.length<=20/\bl.length<=80))/\Ext w w' :=
 (F8 F B fc bc fr bl [] (by decide) w hF hB Eg ay).mono λe w' ⟨⟨n,h1,h2⟩,x⟩=>⟨⟨n,h1,λh=>⟨(h2 h).1,(h2 h).2.1⟩⟩,x⟩
def SD (m:Q1) (e:Ending):Prop:=∃n,e=.returned (.int .i64 n)/\(n<=0->m.pr.n<=8/\m.pe.n<=60/\m.di.n<=32/\m.pi.n<=8/\m.fr.n<=20/\m.bl.n<=80)
theorem BJ (m:Q1) (d:QL) (w:World) (hi:Jg w m d) :
  Calls prog 13 #[.agg m.cells] w λe w'=>SD m e/\Ext w w':=by
 have hz:=Qh;have x0:=(Qf w).alloc (.cells m.cells 38);have bm:=QA w 38 m.cells;have hF:=hi.fr.strs;have hB:=hi.bl.strs;have Eg:m.fr.n=d.fr.length:=hi.fr.1;have ay:m.bl.n=d.bl.length:=hi.bl.1;have k1:=hi.frk.2.1;have k2:=hi.blk.2.1;rw[Eg]at hF k1;rw[ay]at hB k2;have HG:=Qa (λw h1 h2=>EX m.fr.A m.bl.A m.fr.c m.bl.c d.fr d.bl w h1 h2 (Xr k1) (Xr k2));have HF:=Qa (hF.ext x0);have HB:=Qa (hB.ext x0);have ef:=Qa Eg;have tp:=Qa ay;have m1:=hi.prk.2.1;have m2:=hi.pek.2.1;have m3:=hi.dik.2.1;have m4:=hi.pik.2.1;clear hF hB k1 k2 hi Eg ay;unfold SD;go_enter func13,ntmps13;go_upto_region 1 with fail;generalize w.alloc (.cells m.cells 38)=w0 at x0 bm HF HB ⊢;generalize w.heap.size=G at bm ⊢;have q5:w0.cell? ⟨G,5,none⟩=some (.slice m.pr.A m.pr.n m.pr.c):=bm.cell 5;have fq:w0.cell? ⟨G,14,none⟩=some (.slice m.pe.A m.pe.n m.pe.c):=bm.cell 14;have kg:w0.cell? ⟨G,16,none⟩=some (.slice m.di.A m.di.n m.di.c):=bm.cell 16;have q8:w0.cell? ⟨G,8,none⟩=some (.slice m.pi.A m.pi.n m.pi.c):=bm.cell 8;have ke:w0.cell? ⟨G,10,none⟩=some (.string (Qb m.inn)):=bm.cell 10;have q7:w0.cell? ⟨G,7,none⟩=some (.string (Qb m.init)):=bm.cell 7;have q4:w0.cell? ⟨G,4,none⟩=some (.slice m.fr.A d.fr.length m.fr.c):=by rw[←ef.o];exact bm.cell 4
 have fo:w0.cell? ⟨G,13,none⟩=some (.slice m.bl.A d.bl.length m.bl.c):=by rw[←tp.o];exact bm.cell 13
 clear bm;by_cases c1:(8:Int)<m.pr.n
 ·go_wp2_with fail;go_ret;exact⟨⟨1,rfl,λh=>by omega⟩,x0⟩
 by_cases c2:(60:Int)<m.pe.n
 ·go_wp2_with fail;go_ret;exact⟨⟨1,rfl,λh=>by omega⟩,x0⟩
 by_cases c3:(32:Int)<m.di.n
 ·go_wp2_with fail;go_ret;exact⟨⟨1,rfl,λh=>by omega⟩,x0⟩
 by_cases c4:(8:Int)<m.pi.n
 ·go_wp2_with fail;go_ret;exact⟨⟨1,rfl,λh=>by omega⟩,x0⟩
 by_cases c5:(300:Int)<m.inn.length
 ·go_wp2_with fail;go_ret;exact⟨⟨1,rfl,λh=>by omega⟩,x0⟩
 by_cases c6:(300:Int)<m.init.length
 ·go_wp2_with fail;go_ret;exact⟨⟨1,rfl,λh=>by omega⟩,x0⟩
 go_wp2_with (go_at_call 9;refine(HG.o _ HF.o HB.o).mono ?_;rintro e w1 ⟨⟨n,rfl,hn⟩,x1⟩;have HN:=Qa hn;clear hn)
 go_ret;exact⟨⟨n,rfl,λh=>⟨by omega,by omega,by omega,by omega,by have:=HN.o h;have:=ef.o;omega,by have:=HN.o h;have:=tp.o;omega⟩⟩,x0.trans x1⟩
end Go.Proofs.YtfaplefkakpgcaaGreatDoor
