/- Rows of a directory's entries in memory. -/
import Derived.Test.YtfaplefkakpgcaaGreatDoorXf33
import Derived.Test.YtfaplefkakpgcaaGreatDoorXf20
import Derived.Test.YtfaplefkakpgcaaGreatDoorXf10
import Derived.Test.YtfaplefkakpgcaaGreatDoorXf21
import Derived.Test.YtfaplefkakpgcaaGreatDoorXf7
import Derived.Test.YtfaplefkakpgcaaGreatDoorXf8
import Derived.Test.YtfaplefkakpgcaaGreatDoorXf9
import Derived.Test.YtfaplefkakpgcaaGreatDoorXf5
import Derived.Test.YtfaplefkakpgcaaGreatDoorXf14
set_option linter.unusedVariables false
set_option linter.unusedSimpArgs false
set_option maxHeartbeats 32000000
set_option maxRecDepth 100000
namespace Go.Proofs.YtfaplefkakpgcaaGreatDoor
open Go.Proofs.Tryz
open Go.RowKit
def entL (l:List Ent):List Value:=l.flatMap λx=>[Value.string (str x.1),Value.int .i64 x.2]
theorem entL_at:∀(l:List Ent) (j:Nat) (h:j<l.length),(entL l)[j*2]? =some (.string (str l[j].1))/\(entL l)[j*2+1]? =some (.int .i64 l[j].2)
 | x::l,0,_=>⟨rfl,rfl⟩
 | x::l,j+1,h=>by have e:entL (x::l)=Value.string (str x.1)::Value.int .i64 x.2::entL l:=rfl;have ih:=entL_at l j (by simpa using h);rw[e,show(j+1)*2=j*2+1+1 by omega];simp only[List.getElem?_cons_succ];exact ih
theorem entL_append (a b:List Ent):entL (a++b)=entL a++entL b:=by simp[entL]
def Ents (w:World) (A:Option Addr) (n:Nat) (l:List Ent):Prop :=
 n=l.length/\(0<n->∃b o,A=some ⟨b,o,none⟩/\∀(j:Nat) (h:j<l.length),w.cell? ⟨b,o+j*2,none⟩=some (.string (str l[j].1))/\w.cell? ⟨b,o+j*2+1,none⟩=some (.int .i64 l[j].2))
theorem Ents.ext {w w':World}{A:Option Addr}{n:Nat}{l:List Ent}(h:Ents w A n l) (k:Ext w w'):Ents w' A n l :=
 ⟨h.1,λhn=>by obtain⟨b,o,e,hc⟩:=h.2 hn;exact⟨b,o,e,λj hj=>⟨k.keep (hc j hj).1,k.keep (hc j hj).2⟩⟩⟩
theorem entInfo:(prog.info? 154).map (λi=>(i.zero,i.size,i.bytes))=some (some (.agg #[.string ⟨#[]⟩,.int .i64 0]),2,24):=by kernel_rfl
def OwnE (w:World) (base:Nat) (u:Value) (l:List Ent):Prop:=w.ownsRow base 154 2 u l.length (entL l)
theorem OwnE.nil (w:World) (base:Nat):OwnE w base (.slice none 0 0) []:=World.ownsRow_nil _ _ _ _
theorem OwnE.ext {w w':World}{base:Nat}{u:Value}{l:List Ent}(h:OwnE w base u l) (k:Ext w w'):OwnE w' base u l:=own_ext h k
theorem OwnE.base {w:World}{base base':Nat}{u:Value}{l:List Ent}(h:OwnE w base u l) (k:base'<=base):OwnE w base' u l:=own_base h k
theorem OwnE.form {w:World}{base:Nat}{u:Value}{l:List Ent}(h:OwnE w base u l):∃A cap,u=.slice A l.length cap/\Ents w A l.length l:=by
 rcases h.2 with⟨rfl,h0⟩|⟨g,cap,cur,rfl,hb,hh,hcap,_,hsz,htake⟩
 ·exact⟨none,0,by rw[h0],rfl,λhn=>by omega⟩
 ·refine⟨_,cap,rfl,rfl,λhn=>⟨g,0,rfl,λj hj=>?_⟩⟩;have hc:∀i,i<2*l.length->w.cell? ⟨g,0+i,none⟩=(entL l)[i]? :=λi hi=>by
   rw[Nat.zero_add,cell_of_row w g i cur _ _ hh,← htake,List.getElem?_take,if_pos (by omega)];simp
  have:=entL_at l j hj;exact⟨(hc _ (by omega)).trans this.1,(by rw[Nat.add_assoc];exact(hc _ (by omega)).trans this.2)⟩
section
variable {ops:Array Oper}{rest:List Oper}{o:Oper}{a:Act}{w:World}{Q:Exit->Act->World->Prop}
theorem entSize:(prog.info? 154).map (·.size)=some 2:=by kernel_rfl
theorem wp_st_ent (x y:Operand) (hgd:o.guard=none) (ho:o.op=.store 154 x y) (g:Nat) (s:ByteArray) (i:Int) (old:Array Value) (t:TypeId) (hx:a.eval x=.pointer (some ⟨g,0,none⟩)) (hy:a.eval y=.agg #[.string s,.int .i64 i])
  (hb:Box w g t old) (hold:old.size=2) (hK:∀w',Box w' g t #[.string s,.int .i64 i]->w.grownBy w' (some g)->wpList prog ops Q rest (a.put o.dst undef) w'):wpList prog ops Q (o::rest) a w :=
 wp_st _ x y hgd ho g _ _ t hx hy hb entSize hold (by simp[Value.oneCell']) hK
theorem wp_ld_ent (x:Operand) (hgd:o.guard=none) (ho:o.op=.load 154 x) (g:Nat) (cs:Array Value) (t:TypeId) (hx:a.eval x=.pointer (some ⟨g,0,none⟩))
  (hb:Box w g t cs) (hl:cs.size=2) (hK:wpList prog ops Q rest (a.put o.dst (.agg cs)) w):wpList prog ops Q (o::rest) a w :=
 wp_ld _ x hgd ho g _ t _ hx hb underlying154 rfl (by rw[hl];exact entSize) hK
end
theorem wp_app_ent {ops:Array Oper}{rest:List Oper}{o:Oper}{a:Act}{w:World}{Q:Exit->Act->World->Prop}{B g n:Nat}{u:Value}{l:List Ent}{y:Ent}(hgd:o.guard=none) (sl x:Operand)
  (ho:o.op=.call { callee:=.builtin .append,args:=#[sl,x],argTypes:=#[150,150] }) (hs:a.eval sl=u) (hx:a.eval x=.slice (some ⟨g,0,none⟩) 1 1)
  (h0:w.ownsRow B 154 2 u n (entL l)) (hb:Box w g 154 #[.string (str y.1),.int .i64 y.2]) (hn:n<=1000000) (hB:B<=w.heap.size)
  (hK:∀u' w',w'.ownsRow B 154 2 u' (n+1) (entL (l++[y]))->w.grownBy w' u.ownBlock->wpList prog ops Q rest (a.put o.dst u') w'):wpList prog ops Q (o::rest) a w:=by
 refine wpList_plain hgd λK hK'=>?_;obtain⟨i,hi,hz,h1,h2⟩:=info_parts entInfo;obtain⟨v',w',hr,ho2,hg,_,_⟩:=run_append_own_at (P:=prog) w B 150 o.type 154 i _ 2 24 underlying150 hi hz h1 h2 rfl (by decide) u n (entL l) h0 ⟨g,0,none⟩ 1 1 [.string (str y.1),.int .i64 y.2] rfl (λj u hj=>by
  have ha:(⟨g,0,none⟩:Addr).add j=⟨g,j,none⟩:=by unfold Addr.add;split<;>simp_all
  rw[ha,hb.cell j];simpa using hj) (λu hu=>by rcases(by simpa using hu:u=.string (str y.1)\/u=.int .i64 y.2) with rfl|rfl<;>rfl) (by unfold maxLen;omega) (by omega) hB
 unfold Oper.wp execOp;simp only[ho,resolve,invoke,builtin,Sem.run_bind,Sem.run_pure,Result.andThen_ok,List.map_toArray,List.map_cons,List.map_nil,hs,hx,hr];refine hK' _ _ (hK v' w' ?_ hg);rw[entL_append];exact ho2
theorem OwnE.snoc {w:World}{B n:Nat}{u:Value}{l:List Ent}{y:Ent}(h:w.ownsRow B 154 2 u (n+1) (entL (l++[y]))) (hn:n=l.length):OwnE w B u (l++[y]):=by
 subst hn;unfold OwnE;rw[List.length_append];exact h
theorem Ext.under {w0 w w':World}{B:Nat}(h:Ext w0 w) (k:Below B w w') (hB:w0.heap.size<=B):Ext w0 w':=Below.trans h (Below.mono k hB)
def FileIn (B:Nat) (w:World) (g:Nat) (F:FileT):Prop:=FileOk F/\B<=g/\∃b cap,Box w g 162 (fileC ⟨some ⟨b,0,none⟩,F.v.length,cap⟩ F)/\w.ownsRow B 9 1 (.slice (some ⟨b,0,none⟩) F.v.length cap) F.v.length (strL F.v)
theorem FileIn.ext {B:Nat}{w w':World}{g:Nat}{F:FileT}(h:FileIn B w g F) (x:Ext w w'):FileIn B w' g F:=by
 obtain⟨ho,hB,b,cap,h1,h2⟩:=h;exact⟨ho,hB,b,cap,h1.ext x,own_ext h2 x⟩
def FileT.lay (F:FileT) (q p:Nat) (d:List UInt8):FileT:={ F with v:=F.v.set q (overL (F.v.getD q []) p d) }
theorem FileOk.lay {F:FileT}(h:FileOk F) {q p:Nat}{d:List UInt8}(hq:3<=q) (hl:q<F.v.length) (hp:p+d.length<=128):FileOk (F.lay q p d):=by
 have hb:=getD_len h.good hl;exact⟨h.good.set (by omega) (by omega) (by rw[overL_len _ _ _ (by omega),hb]),h.n1,h.n2,h.len,h.fits⟩
def FileT.keep (F:FileT):FileT:={ F with v:=putAt F.v F.n F.x }
theorem FileOk.keep {F:FileT}(h:FileOk F):FileOk F.keep:=⟨h.good.putAt h.n1 h.n2 F.x,h.n1,h.n2,h.len,h.fits⟩
def FileT.took (F:FileT) (i:Nat):FileT:={ F with v:=takenV F.v i }
theorem FileOk.took {F:FileT}(h:FileOk F) {i:Nat}(ht:takeI F.v F.I=some i):FileOk (F.took i):=⟨h.good.taken ht,h.n1,h.n2,h.len,h.fits⟩
theorem fsize_two:∀k:Fin 12,4<=fplace k->fsize k=2:=by decide
theorem fsize_four:∀k:Fin 12,fplace k=3->fsize k=4:=by decide
theorem fits_setj {x:List Int}(h:fitsB x=true) (hx:x.length=12) {j:Nat}(hj:3<=j) (hj2:j<12) {i:Int}(h0:0<=i) (h1:i<65536):fitsB (x.set j i)=true:=by
 unfold fitsB at *;rw[List.all_eq_true]at *;intro k hk;have hk2:=of_decide_eq_true (h k hk);refine decide_eq_true ?_;by_cases e:fplace k=j
 ·have hg:(x.set j i).getD (fplace k) 0=i:=by rw[e];simp[List.getD,hx,hj2]
  rw[hg];by_cases e3:j=3
  ·rw[fsize_four k (by omega)];exact⟨h0,by simp;omega⟩
  ·rw[fsize_two k (by omega)];exact⟨h0,by simpa using h1⟩
 ·have:(x.set j i).getD (fplace k) 0=x.getD (fplace k) 0:=by simp[List.getD,Ne.symm e]
  rw[this];exact hk2
def FileT.setX (F:FileT) (j:Nat) (b:Int):FileT:={ F with x:=F.x.set j b }
theorem FileOk.setX {F:FileT}(h:FileOk F) {j:Nat}(hj:3<=j) (hj2:j<12) {b:Int}(h0:0<=b) (h1:b<65536):FileOk (F.setX j b) :=
 ⟨h.good,h.n1,h.n2,by show(F.x.set j b).length=12;rw[List.length_set];exact h.len,fits_setj h.fits h.len hj hj2 h0 h1⟩
theorem setX_cells (F:FileT) (s:Sl) (hx:F.x.length=12) {j:Nat}(hj:j<12) (b:Int):fileC s (F.setX j b)=(fileC s F).setIfInBounds (8+j) (.int .i64 b):=by
 obtain⟨y0,y1,y2,y3,y4,y5,y6,y7,y8,y9,y10,y11,he⟩:=list12 hx;unfold fileC fileL FileT.setX;simp only[he];rcases(by omega:j=0\/j=1\/j=2\/j=3\/j=4\/j=5\/j=6\/j=7\/j=8\/j=9\/j=10\/j=11) with rfl|rfl|rfl|rfl|rfl|rfl|rfl|rfl|rfl|rfl|rfl|rfl<;>rfl
theorem FileIn.setX {B:Nat}{w:World}{g:Nat}{F:FileT}(h:FileIn B w g F) {j:Nat}(hj:3<=j) (hj2:j<12) {b:Int}(h0:0<=b) (h1:b<65536):FileIn B (w.setCell ⟨g,8+j,none⟩ (.int .i64 b)) g (F.setX j b):=by
 obtain⟨hok,hB,b1,cap,hbx,own⟩:=h;refine⟨hok.setX hj hj2 h0 h1,hB,b1,cap,?_,own_setBox own hbx (by decide) _⟩;have e:=hbx.set (8+j) (.int .i64 b);rw[← setX_cells F _ hok.len hj2 b]at e;exact e
def two2L (b:Int):List UInt8:=[b8 (b%256),b8 (b/256)]
def FileT.named (F:FileT) (k:Nat) (b:Int):FileT :=
 if k<6 then (F.setX (4+k) b).keep else if isB F.v F.I (F.x.getD 10 0) then F.lay (F.x.getD 10 0).toNat (2*(k-6)) (two2L b) else F
theorem FileIn.cell {B:Nat}{w:World}{g:Nat}{F:FileT}(h:FileIn B w g F):∃s,Box w g 162 (fileC s F):=by
 obtain⟨_,_,b,cap,hbx,_⟩:=h;exact⟨_,hbx⟩
def FileT.withInd (F:FileT) (k:Nat):Option FileT :=
 if 6<=k/\isB F.v F.I (F.x.getD 10 0)=false then (takeI F.v F.I).map λi=>((F.took i).setX 10 (i:Int)).keep else some F
def FileT.placed (F:FileT) (k:Nat):FileT × Int × Int :=
 if atP F.v F.I F.x k≠-1 then (F,atP F.v F.I F.x k,0) else
  match F.withInd k with
  | none=>(F,0,10)
  | some F1=>match takeI F1.v F1.I with
   | none=>(F1,0,10)
   | some i=>((F1.took i).named k (i:Int),(i:Int),0)
theorem placed_has {F:FileT}{k:Nat}(h:atP F.v F.I F.x k≠-1):F.placed k=(F,atP F.v F.I F.x k,0):=by unfold FileT.placed;rw[if_pos h]
theorem placed_full {F:FileT}{k:Nat}(h:atP F.v F.I F.x k= -1) (h1:F.withInd k=none):F.placed k=(F,0,10):=by
 unfold FileT.placed;rw[if_neg (λh2=>h2 h),h1]
theorem placed_full2 {F F1:FileT}{k:Nat}(h:atP F.v F.I F.x k= -1) (h1:F.withInd k=some F1) (h2:takeI F1.v F1.I=none):F.placed k=(F1,0,10):=by
 unfold FileT.placed;rw[if_neg (λh2=>h2 h),h1];simp only[h2]
theorem placed_new {F F1:FileT}{k i:Nat}(h:atP F.v F.I F.x k= -1) (h1:F.withInd k=some F1) (h2:takeI F1.v F1.I=some i):F.placed k=((F1.took i).named k (i:Int),(i:Int),0):=by
 unfold FileT.placed;rw[if_neg (λh2=>h2 h),h1];simp only[h2]
theorem take_lt {v:List (List UInt8)}{I:Int}{i:Nat}(hg:Good v I) (h:takeI v I=some i):i<223:=by
 have:=(takeI_some h).2.1;have:=plan_bd hg.plan;omega
theorem FileIn.strs {B:Nat}{w:World}{g:Nat}{F:FileT}(h:FileIn B w g F):∃s:Sl,Box w g 162 (fileC s F)/\Strs w s.A s.n F.v:=by
 obtain⟨_,_,b,cap,hbx,own⟩:=h;exact⟨_,hbx,Strs.own own⟩
def FileT.wr (off:Nat) (d:List UInt8) (p:Nat) (F:FileT):FileT × Int :=
 if h:p<off+d.length then
  if (F.placed (p/128)).2.2≠0 then ((F.placed (p/128)).1,(F.placed (p/128)).2.2)
  else FileT.wr off d (p+min (128-p%128) (off+d.length-p)) ((F.placed (p/128)).1.lay (F.placed (p/128)).2.1.toNat (p%128) ((d.drop (p-off)).take (min (128-p%128) (off+d.length-p))))
 else (F,0)
termination_by off+d.length-p
decreasing_by
 have:=Nat.mod_lt p (show 128 > 0 by omega);omega
theorem wr_done {off:Nat}{d:List UInt8}{p:Nat}{F:FileT}(h:¬p<off+d.length):F.wr off d p=(F,0):=by
 rw[FileT.wr,dif_neg h]
theorem wr_full {off:Nat}{d:List UInt8}{p:Nat}{F:FileT}(h:p<off+d.length) (he:(F.placed (p/128)).2.2≠0):F.wr off d p=((F.placed (p/128)).1,(F.placed (p/128)).2.2):=by
 rw[FileT.wr,dif_pos h,if_pos he]
theorem wr_on {off:Nat}{d:List UInt8}{p:Nat}{F:FileT}(h:p<off+d.length) (he:(F.placed (p/128)).2.2=0):F.wr off d p=FileT.wr off d (p+min (128-p%128) (off+d.length-p)) ((F.placed (p/128)).1.lay (F.placed (p/128)).2.1.toNat (p%128) ((d.drop (p-off)).take (min (128-p%128) (off+d.length-p)))):=by
 rw[FileT.wr,dif_pos h,if_neg (λh=>h he)]
theorem isB_of {v:List (List UInt8)}{I:Int}{x:List Int}{k:Nat}(h:atP v I x k≠-1):isB v I (atP v I x k)=true:=by
 unfold atP at *;split
 ·rename_i h1;exact h1
 ·rename_i h1;rw[if_neg h1]at h;exact absurd rfl h
theorem keep_v_len (F:FileT):F.keep.v.length=F.v.length:=putAt_len _ _ _
theorem lay_v_len (F:FileT) (q p:Nat) (d:List UInt8):(F.lay q p d).v.length=F.v.length:=List.length_set
theorem took_v_len (F:FileT) (i:Nat):(F.took i).v.length=F.v.length:=takenV_len _ _
def fileOf (v:List (List UInt8)) (I k:Int):FileT:=⟨v,I,k,inoAt v k⟩
theorem FileIn.of_opened {B:Nat}{w:World}{g:Nat}{v:List (List UInt8)}{I k:Int}{s:Sl}(hg:Good v I) (h1:1<=k) (h2:k<=I) (hB:B<=g) (hs:s.n=v.length) (hbx:Box w g 162 (fileC s (fileOf v I k))) (own:w.ownsRow B 9 1 (.slice s.A s.n s.c) v.length (strL v)):FileIn B w g (fileOf v I k):=by
 have hpl:=plan_bd hg.plan;obtain⟨b,cap,e,_⟩:=Strs.own' own (by omega);injection e with e1 e2 e3;obtain⟨A,n,c⟩:=s;simp only at e1 e2 e3 hs;subst e1 e2 e3;exact⟨⟨hg,h1,h2,inoAt_len v k,fits_ino _ _⟩,hB,b,_,hbx,own⟩
end Go.Proofs.YtfaplefkakpgcaaGreatDoor
namespace Go.Proofs.YtfaplefkakpgcaaGreatDoor
open Go.RowKit Go.Shelf
attribute [local go_sem] Oper.semAt_some
theorem KpB.set {b1 b2:Nat}{A W:World}(h:KpB b1 b2 A W) (p:Addr) (h1:b1≠p.block) (h2:b2≠p.block) (u:Value):KpB b1 b2 A (W.setCell p u):=h.trans λcs t =>
 ⟨λe=>(Below.heap_setCell W p u b1 h1).trans e,λe=>(Below.heap_setCell W p u b2 h2).trans e⟩
theorem own_strsN {w:World}{B b cap:Nat}{v:List (List UInt8)}(own:w.ownsRow B 9 1 (.slice (some ⟨b,0,none⟩) v.length cap) v.length (strL v)):Strs w (some ⟨b,0,none⟩) v.length v :=
 ⟨rfl,λ_=>⟨b,0,rfl,λj hj=>by rw[Nat.zero_add];exact(own.cellAt j (by omega)).trans (by simp[strL,hj])⟩⟩
end Go.Proofs.YtfaplefkakpgcaaGreatDoor
namespace Go.Proofs.YtfaplefkakpgcaaGreatDoor
open Go.RowKit
theorem Bld.ext {B b:Nat}{l:List UInt8}{w w':World}(h:Bld B b l w) (x:Ext w w'):Bld B b l w':=by
 obtain⟨hB,v,hb,hown,hne⟩:=h;exact⟨hB,v,Box.ext hb x,own_ext hown x,hne⟩
theorem Bld.box {B b:Nat}{l:List UInt8}{w:World}(h:Bld B b l w):∃cs,Box w b 169 cs:=by
 obtain⟨hB,v,hb,hown,hne⟩:=h;exact⟨_,hb⟩
theorem bld_fresh (w:World):Bld0 w.heap.size w.heap.size (w.alloc (.cells #[.pointer none,.slice none 0 0] 169)):=by
 rcases Lib.fresh_isBuilder 169 5 w with h|h
 ·exact h
 ·exact absurd h.cell0 (by rw[Box.cell (Box.new w _ _) 0];simp)
end Go.Proofs.YtfaplefkakpgcaaGreatDoor
namespace Go.Proofs.YtfaplefkakpgcaaGreatDoor
open Go.Proofs.Tryz
open Go.RowKit Go.Shelf
attribute [local go_sem] Oper.semAt_some
def BldS (B b:Nat) (l:List UInt8) (w:World):Prop:=Bld0 B b w/\l=[]\/Bld B b l w
theorem ba_kept {B b:Nat}{p:Value}{l:List Value}{w w':World}{row:Option Nat}(h:Lib.BuilderAt 169 5 B b p l w) (hg:w.grownBy w' row) (hr:∀r,row=some r->∃o:Obj,w.heap[r]? =some o/\o.isCells=false) :
  Lib.BuilderAt 169 5 B b p l w':=by
 obtain⟨hB,v,hb,hown,hne⟩:=h;refine⟨hB,v,Box.grown hb hg (λe=>?_),hown.kept hg ?_,hne⟩
 ·obtain⟨o,ho,hc⟩:=hr b e.symm;rw[hb]at ho;cases ho;cases hc
 ·rcases hown.2 with⟨e,_⟩|⟨g,cap,cur,e,_,hh,_⟩
  ·exact .inl (by rw[e];rfl)
  ·refine .inr (λe2=>?_);rw[e]at e2;obtain⟨o,ho,hc⟩:=hr g e2.symm;rw[hh]at ho;cases ho;cases hc
theorem bldS_own {β:Type} (B b:Nat) (f:β->List UInt8):Own (λs W=>BldS B b (f s) W):=λs X Y row hs hg hr=>by
 rcases hs with⟨h,e⟩|h
 ·exact .inl ⟨ba_kept h hg hr,e⟩
 ·exact .inr (ba_kept h hg hr)
theorem BldS.ext {B b:Nat}{l:List UInt8}{w w':World}(h:BldS B b l w) (x:Ext w w'):BldS B b l w':=by
 rcases h with⟨h,e⟩|h
 ·refine .inl ⟨?_,e⟩;obtain⟨hB,v,hb,hown,hne⟩:=h;exact⟨hB,v,Box.ext hb x,own_ext hown x,hne⟩
 ·exact .inr (h.ext x)
theorem BldS.isCells {B b:Nat}{l:List UInt8}{w:World}(h:BldS B b l w):∃cs,Box w b 169 cs:=by
 rcases h with⟨⟨hB,v,hb,_⟩,_⟩|h
 ·exact⟨_,hb⟩
 ·exact h.box
theorem bldS_string (B b:Nat) (l:List UInt8) (w:World) (h:BldS B b l w) (hB:B<=w.heap.size) :
  Calls prog 120 #[.pointer (some ⟨b,0,none⟩)] w λe w'=>e=.returned (.string (str l))/\Below B w w'/\Lib.OthersKept 5 (some b) w w':=by
 rcases h with⟨h,rfl⟩|h
 ·refine(Tryz.Builder_String_any_k B b [] w (.inl (Lib.BuilderAtF.of h)) hB).mono ?_;rintro e w' ⟨rfl,_,hb,hk⟩;exact⟨rfl,hb,hk⟩
 ·exact bldString_any B b l w h hB
theorem keeps_others {B b:Nat}{w w':World}{cs:Array Value}(h:Lib.OthersKept 5 (some b) w w') (hb:Box w b 169 cs) (hs:w.heap.size<=w'.heap.size):KeepsFrom B w w':=⟨hs,λk o hk ho hc=>h k o ho (λe=>by
  cases e;have hb':w.heap[b]? =some (.cells cs 169 (0,0)):=hb;rw[hb']at ho;cases ho;cases hc) (λc fz e=>by subst e;cases hc)⟩
theorem KpB.others {b1 b2 b:Nat}{w w':World}(h:Lib.OthersKept 5 (some b) w w') (h1:b1≠b) (h2:b2≠b) (c1:∀cs t,w.heap[b1]? =some (Obj.cells cs t (0,0))->t≠5) (c2:∀cs t,w.heap[b2]? =some (Obj.cells cs t (0,0))->t≠5):KpB b1 b2 w w':=λcs t =>
 ⟨λe=>h b1 _ e (λh=>h1 (by injection h)) (λc fz e2=>by cases e2;exact c1 _ _ e rfl),λe=>h b2 _ e (λh=>h2 (by injection h)) (λc fz e2=>by cases e2;exact c2 _ _ e rfl)⟩
theorem strs_same {w w':World}{b n:Nat}{v:List (List UInt8)}(h:Strs w (some ⟨b,0,none⟩) n v) (e:w'.heap[b]? =w.heap[b]?):Strs w' (some ⟨b,0,none⟩) n v:=⟨h.1,λhn=>by
 obtain⟨b',o',e1,h2⟩:=h.2 hn;injection e1 with e1;injection e1 with e1 e2 _;subst e1 e2;exact⟨b,0,rfl,λj hj=>by rw[← h2 j hj];unfold World.cell?;rw[e]⟩⟩
def fromP (off:Int) (x:Nat):Int:=max (wrap64 (off-wrap64 ((x:Int)*128))) 0
def toP (e:Int) (x:Nat):Int:=min (wrap64 (e-wrap64 ((x:Int)*128))) 128
def pieceP (F:FileT) (off e:Int) (x:Nat):List UInt8 :=
 if toP e x<=fromP off x then [] else if atP F.v F.I F.x x= -1 then zs (toP e x-fromP off x).toNat
 else ((F.v.getD (atP F.v F.I F.x x).toNat []).drop (fromP off x).toNat).take (toP e x-fromP off x).toNat
theorem piece_le (F:FileT) (off e:Int) (x:Nat):(pieceP F off e x).length<=128:=by
 have h1:0<=fromP off x:=Int.le_max_right _ _;have h2:toP e x<=128:=Int.min_le_right _ _;unfold pieceP;split
 ·simp
 ·split
  ·rw[zs_len];omega
  ·rw[List.length_take];omega
theorem flatpc_le {pc:Nat->List UInt8}(h:∀x,(pc x).length<=128) (pre:List Nat):(pre.flatMap pc).length<=128*pre.length:=by
 induction pre with
 | nil=>simp
 | cons a l ih=>rw[List.flatMap_cons,List.length_append,List.length_cons];have:=h a;omega
def endP (F:FileT) (off size:Int):Int:=if size<sizeP F.x-off then off+size else sizeP F.x
def blocksP (e:Int):Nat:=((e+127)/128).toNat
def readP (F:FileT) (off size:Int):List UInt8:=(List.range (min (blocksP (endP F off size)) 70)).flatMap (pieceP F off (endP F off size))
theorem fread_yes (A:Option Addr) (n c:Nat) (v:List (List UInt8)) (I k:Int) (off size:Nat) (w:World) (hv:Strs w A n v) (hg:Good v I) (hk1:1<=k) (hk2:k<=I) (hin:(off:Int)<sizeP (fileOf v I k).x) (hsz:(size:Int)<=9223372036854775807) (hend:sizeP (fileOf v I k).x-(off:Int)<=(size:Int)) :
  Calls prog 60 #[.slice A n c,.int .i64 k,.int .i64 (off:Int),.int .i64 (size:Int)] w λe w'=>e=.returned (.tuple #[.string (str (readP (fileOf v I k) off size)),.int .i64 0])/\Ext w w':=by
 have HO:=lh_ (λw h=>opened_yes A n c v I k w h hg hk1 hk2);have HFO:=lh_ (λ(B g:Nat) (w:World) (s:Sl) hB hs hbx own=>FileIn.of_opened (B:=B) (w:=w) (g:=g) (s:=s) hg hk1 hk2 hB hs hbx own);have HV:=lh_ hv;clear hv hg hk1 hk2;generalize hG:w.heap.size=G at *;refine(callsIn_wide (n:=6)).1 ?_;refine callsIn_of_wp_marks func60 rfl trivial ?_ rfl;simp only[ntmps60,List.size_toArray,List.length_cons,List.length_nil,Nat.reduceAdd,Nat.reduceSub,Array.replicate_succ,Array.replicate_zero,List.push_toArray,List.append_toArray,List.nil_append,List.cons_append];refine wpIn_wide.2 ?_;have b6:=Box.new w 3 #[.int .i64 (off:Int)];have x6:Ext w (w.alloc (.cells #[.int .i64 (off:Int)] 3)):=(Ext.refl w).alloc _;have HV1:=lh_ (HV.out.ext x6);go_upto_region 1 with fail;rw[hG]at b6;have hG6:G+1<=(w.alloc (.cells #[.int .i64 (off:Int)] 3)).heap.size:=by rw[World.size_alloc,hG];exact Nat.le_refl _
 generalize w.alloc (.cells #[.int .i64 (off:Int)] 3)=w1 at *
 go_upto_region 2 with(first
  | (go_at_call 115;refine(HO.out _ HV1.out).mono ?_;rintro e w2 ⟨⟨s,rfl,hsn,own2⟩,x2⟩)
  | (refine wp_st_file (.tmp 10) (.tmp 22) rfl rfl w2.heap.size s (fileOf v I k) _ 162 rfl rfl (Box.new _ _ _) rfl ?_;intro w3 b3 g3))
 have xa:Ext w2 (w2.alloc (.cells fileZ 162)):=(Ext.refl w2).alloc _;have x23:Ext w2 w3:=xa.grown g3 (λj e=>by cases e;exact Nat.le_refl _);have own3:=(own_ext own2 xa).kept g3 (.inr (own_ne (own_ext own2 xa) (Box.new w2 162 fileZ) (by decide)).symm);have hF0:=HFO.out w1.heap.size w2.heap.size w3 s x2.size hsn b3 own3;have HX:=lh_ (x6.trans (x2.trans x23));have b63:=(b6.ext x2).ext x23;have hle2:=x2.size;clear HO HFO HV HV1 own2 hsn b3 own3 xa x23 x2 g3 b6 x6;generalize hg2:w2.heap.size=g at *;generalize hFO:fileOf v I k=F at *;have HFE:=lh_ hFO;clear hFO hg2;obtain⟨hOk,hBg,b,cap,hbx,own⟩:=hF0;generalize fileC s ⟨v,I,k,inoAt v k⟩=fc at *;have hr:=own_strsN own;have HSz:=lh_ (λw h=>fsize_any g ⟨some ⟨b,0,none⟩,F.v.length,cap⟩ F w h);have hz1:sizeP F.x<=8960:=by unfold sizeP;omega
 have d1:decide ((off:Int)<0)=false:=by simp
 have d2:decide ((size:Int)<0)=false:=by simp
 have hcell6:=b63.cell 0;have HRD:=lh_ (show readP F off size=(List.range (min (blocksP (sizeP F.x)) 70)).flatMap (pieceP F off (sizeP F.x)) from by unfold readP endP;rw[if_neg (by omega)]);generalize hzz:sizeP F.x=z at *;have d3:decide (z<=(off:Int))=false:=by simp;omega
 have d4:decide ((size:Int)<z-(off:Int))=false:=by simp;omega
 have w9:IntKind.i64.wrap (z-(off:Int))=z-(off:Int):=by rw[IntKind.wrap_i64];omega
 have w10:IntKind.i64.wrap (z+128)=z+128:=by rw[IntKind.wrap_i64];omega
 have w11:IntKind.i64.wrap (z+128-1)=z+127:=by rw[IntKind.wrap_i64];omega
 have x34:Ext w3 (w3.alloc (.cells #[.int .i64 z] 3)):=(Ext.refl w3).alloc _;have b12:=Box.new w3 3 #[.int .i64 z];have b6a:=b63.ext x34;have hbxa:=hbx.ext x34;have c6a:(w3.alloc (.cells #[.int .i64 z] 3)).cell? ⟨G,0,none⟩=some (.int .i64 (off:Int)):=b6a.cell 0;have c12:(w3.alloc (.cells #[.int .i64 z] 3)).cell? ⟨w3.heap.size,0,none⟩=some (.int .i64 z):=b12.cell 0;go_upto_region 7 with(go_at_call 116;(have hq:=HSz.out _ hbx;with_reducible (refine hq.mono ?_));clear hq;rintro e w6 ⟨rfl,rfl⟩)
 have z12:(w3.alloc (.cells #[.int .i64 z] 3)).heap.size=w3.heap.size+1:=World.size_alloc _ _;have hlt3:=hbx.lt;have h63:=b63.lt;have hrr:=hr.ext x34;have HX4:=lh_ (HX.out.trans x34);have FB:=bld_fresh (w3.alloc (.cells #[.int .i64 z] 3));rw[z12]at FB;have hbE:b<w3.heap.size:=by
  rcases own.2 with⟨h,_⟩|⟨g',cap',cur,e,_,hh,_⟩
  ·cases h
  ·injection e with e1 _ _;injection e1 with e1;injection e1 with e1 _ _;subst e1;exact(Array.getElem?_eq_some_iff.1 hh).1
 go_upto_region 11 with fail;clear hbx b63 x34 HX hcell6 hr own HSz;have xB:Ext (w3.alloc (.cells #[.int .i64 z] 3)) ((w3.alloc (.cells #[.int .i64 z] 3)).alloc (.cells #[.pointer none,.slice none 0 0] 169)):=(Ext.refl _).alloc _;have b12B:=b12.ext xB;have b6B:=b6a.ext xB;have hbxB:=hbxa.ext xB;have hrB:=hrr.ext xB;have HXB:=lh_ (HX4.out.trans xB);have zB:((w3.alloc (.cells #[.int .i64 z] 3)).alloc (.cells #[.pointer none,.slice none 0 0] 169)).heap.size=w3.heap.size+2:=by rw[World.size_alloc,z12]
 have hCP:((z+127)/128:Int)=(blocksP z:Nat):=by unfold blocksP;omega
 have hCT:Int.tdiv (z+127) 128=(blocksP z:Nat):=by rw[Int.tdiv_eq_ediv_of_nonneg (by omega)];exact hCP
 have hC70:blocksP z<=70:=by unfold blocksP;omega
 generalize hbl:blocksP z=cb at *;have HFI:=lh_ (ffirst_any g ⟨some ⟨b,0,none⟩,F.v.length,cap⟩ F (cb:Int) _ hbxB hrB hOk);have c12B:=b12B.cell 0;go_upto_region 12 with fail;clear xB b12 b6a hbxa hrr HX4 c6a c12 z12;generalize (w3.alloc (.cells #[.int .i64 z] 3)).alloc (.cells #[.pointer none,.slice none 0 0] 169)=wB at *;generalize hE:w3.heap.size=E at *;clear hE w3;go_wp2_with (go_at_call 117;refine HFI.out.mono ?_;rintro e w5 ⟨⟨b1,b2,rfl,hb1,hb2,le1,le2,ne12⟩,x5⟩)
 refine(wpIn_wide (n:=6)).1 ?_;gi_wp2_with fail;have hXE:∀W,Below (E+1) wB W->Ext w W:=λW h=>HXB.out.under h (by omega);have hBB:∀W,Below (E+1) wB W->Box W G 3 #[.int .i64 (off:Int)]/\Box W E 3 #[.int .i64 z]/\Box W g 162 (fileC ⟨some ⟨b,0,none⟩,F.v.length,cap⟩ F):=λW h => ⟨(h.block G (by omega)).trans b6B,(h.block E (by omega)).trans b12B,(h.block g (by omega)).trans hbxB⟩
 have hSS:∀W,Below (E+1) wB W->Strs W (some ⟨b,0,none⟩) F.v.length F.v:=λW h=>strs_same hrB (h.block b (by omega));have x5B:Below (E+1) wB w5:=Below.mono x5 (by omega);have FB5:BldS (E+1) (E+1) [] w5:=BldS.ext (.inl ⟨FB,rfl⟩) x5;have hs5:=x5.size;have HAt:=lh_ (show∀x,pieceP F off z x=if toP z x<=fromP off x then [] else if atP F.v F.I F.x x= -1 then zs (toP z x-fromP off x).toNat else ((F.v.getD (atP F.v F.I F.x x).toNat []).drop (fromP off x).toNat).take (toP z x-fromP off x).toNat fromλx=>rfl);have HQ:=lh_ (λx (h:atP F.v F.I F.x x≠-1)=>isB_le (isB_of h));have HPC:=lh_ (piece_le F off z);have hGd:=lh_ hOk.good;have hdt:(0:Int)<=3+(F.I+1)/2:=by have:=plan_bd hOk.good.plan;omega
 generalize pieceP F off z=pc at *;generalize atP F.v F.I F.x=f at *;clear HFI b6B b12B hbxB hrB c12B x5 FB d1 d2 d3 d4 w9 w10 w11 hCP hCT
 refine wpIn_rangeFunc_ownH rfl (by decide) (gf:=182) (lb:=#[.pointer (some ⟨b1,0,none⟩),.pointer (some ⟨b2,0,none⟩)]) rfl trivial (enters_of func182 (by kernel_rfl) rfl)
  (first_stops 5 (by decide) b1 b2 cb f w5 hb1 hb2) KpB.trans KpB.book (Below.refl _ _) (λ_=>rfl)
  (λpre W=>Below (E+1) wB W/\BldS (E+1) (E+1) (pre.flatMap pc) W/\pre.length<=70/\Box W b1 237 (partC f 70)/\Box W b2 3 #[.int .i64 (cb:Int)])
  (λ_ _ _=>False)
  (OwnFrom.and (ownFrom_below (by omega) (by omega)) (OwnFrom.and (Own.from (bldS_own _ _ _) _) (OwnFrom.and (ownFrom_pure _ _) (OwnFrom.and (Own.from (box_own _ _ _) _) (Own.from (box_own _ _ _) _)))))
  (λ_ _ _ _ _ hs _ _=>hs) ⟨x5B,FB5,by simp,hb1,hb2⟩
  (λx a' W=>a'={ tmps:=#[.slice A n c,.int .i64 k,.int .i64 (off:Int),.int .i64 (size:Int),undef,undef,.pointer (some ⟨G,0,none⟩),undef,.string ⟨#[]⟩,.int .i64 0,.pointer (some ⟨g,0,none⟩),.int .i64 0,.pointer (some ⟨E,0,none⟩),.pointer (some ⟨E+1,0,none⟩),.int .i64 (x:Int),.int .i64 (f x),undef,undef,.tuple #[.agg fc,.int .i64 0],.slice A n c,.int .i64 k,.tuple #[.agg fc,.int .i64 0],.agg fc,.int .i64 0,.int .i64 0,.bool false,undef,.int .i64 (off:Int),.bool false,.bool false,.int .i64 (size:Int),.bool false,.bool false,.int .i64 z,.int .i64 (off:Int),.int .i64 z,.bool false,.int .i64 (size:Int),.int .i64 z,.int .i64 (off:Int),.int .i64 (z-(off:Int)),.bool false,undef,undef,undef,.int .i64 z,.int .i64 (z+128),.int .i64 (z+127),.int .i64 (cb:Int),.func (.func 182) #[] #[.pointer (some ⟨b1,0,none⟩),.pointer (some ⟨b2,0,none⟩)],.int .i64 (x:Int),.int .i64 (f x),undef,undef,undef,undef,undef,undef,undef,undef,undef,undef,undef,undef,undef,undef,undef,undef,undef,undef,undef,undef,undef,undef,undef,undef,undef,undef,undef,undef,undef,undef],defers:=[] })
  (λx a' _ X Y row hs hg hr=>hs) ?assign ?body ?done ?stop
 case assign => rintro l pre x W K ⟨i1,i2,i3,i4,i5⟩ hK;simp only[benc];gi_wp2;exact hK _ _ (keeps_ext (Ext.refl W)) (KpB.ext (Ext.refl W)) ⟨i1,i2,i3,i4,i5⟩ rfl
 case body =>
  rintro l pre x a' W hl0 ⟨r,hr⟩ ⟨i1,i2,i3,i4,i5⟩ rfl hlt70;obtain⟨j1,j2,j3⟩:=hBB W i1;have c6:W.cell? ⟨G,0,none⟩=some (.int .i64 (off:Int)):=j1.cell 0;have c12:W.cell? ⟨E,0,none⟩=some (.int .i64 z):=j2.cell 0;gi_wp2
  -- WEB BEGINS
  refine wpIn_round_web' 12 [[],[],[1],[0,2],[3],[],[],[6],[5,7],[8],[4],[9]] (listV [isV (.int .i64 ((off:Int))),isV (.int .i64 ((x:Int))),isV (.int .i64 (wrap64 ((x:Int)*128))),isV (.int .i64 (wrap64 ((off:Int)-wrap64 ((x:Int)*128)))),isV (.int .i64 (fromP off x)),isV (.int .i64 (z)),isV (.int .i64 ((x:Int))),isV (.int .i64 (wrap64 ((x:Int)*128))),isV (.int .i64 (wrap64 (z-wrap64 ((x:Int)*128)))),isV (.int .i64 (toP z x)),isV (.int .i64 (fromP off x)),isV (.int .i64 (toP z x))]) (by rintro⟨_,_,h⟩;exact h) (by kernel_rfl) (by kernel_rfl) (by kernel_rfl) (listV_ext (λp hp=>by simp only[List.mem_cons,List.not_mem_nil,or_false]at hp;rcases hp with rfl|rfl|rfl|rfl|rfl|rfl|rfl|rfl|rfl|rfl|rfl|rfl<;>first|exact lasts_is _)) (λus=>?_);simp only[List.take_succ_cons,List.take_zero,List.drop_succ_cons,List.drop_zero];rw[mWalk];refine And.intro (λw' hx hd=>?_) ?_
  ·clear hd;have e6:=hx.keep c6;have e12:=hx.keep c12;refine web_of_list 52 rfl (by simp) rfl ?_;go_wp2_with fail;exact⟨Ext.refl _,rfl⟩
  simp only[pS_,pN_,sA_,s0_,s1_];rw[mWalk];refine And.intro (λw' hx hd=>?_) ?_
  ·clear hd;refine web_of_list 53 rfl (by simp[Act.put]) rfl ?_;go_wp2_with fail;exact⟨Ext.refl _,rfl⟩
  simp only[pS_,pN_,sA_,s0_,s1_];rw[mWalk];refine And.intro (λw' hx hd=>?_) ?_
  ·have h1:=hd 1 (by simp);clear hd;generalize us 1=u1 at *;obtain rfl:u1=.int .i64 ((x:Int)):=h1;refine web_of_list 54 rfl (by simp[Act.put]) rfl ?_;go_wp2_with fail;exact⟨Ext.refl _,rfl⟩
  simp only[pS_,pN_,sA_,s0_,s1_];rw[mWalk];refine And.intro (λw' hx hd=>?_) ?_
  ·have h0:=hd 0 (by simp);have h2:=hd 2 (by simp);clear hd;generalize us 0=u0 at *;generalize us 2=u2 at *;obtain rfl:u0=.int .i64 ((off:Int)):=h0;obtain rfl:u2=.int .i64 (wrap64 ((x:Int)*128)):=h2;refine web_of_list 55 rfl (by simp[Act.put]) rfl ?_;go_wp2_with fail;exact⟨Ext.refl _,rfl⟩
  simp only[pS_,pN_,sA_,s0_,s1_];rw[mWalk];refine And.intro (λw' hx hd=>?_) ?_
  ·have h3:=hd 3 (by simp);clear hd;generalize us 3=u3 at *;obtain rfl:u3=.int .i64 (wrap64 ((off:Int)-wrap64 ((x:Int)*128))):=h3;refine web_of_list 56 rfl (by simp[Act.put]) rfl ?_;go_wp2_with fail;exact⟨Ext.refl _,rfl⟩
  simp only[pS_,pN_,sA_,s0_,s1_];rw[mWalk];refine And.intro (λw' hx hd=>?_) ?_
  ·clear hd;have e6:=hx.keep c6;have e12:=hx.keep c12;refine web_of_list 57 rfl (by simp[Act.put]) rfl ?_;go_wp2_with fail;exact⟨Ext.refl _,rfl⟩
  simp only[pS_,pN_,sA_,s0_,s1_];rw[mWalk];refine And.intro (λw' hx hd=>?_) ?_
  ·clear hd;refine web_of_list 58 rfl (by simp[Act.put]) rfl ?_;go_wp2_with fail;exact⟨Ext.refl _,rfl⟩
  simp only[pS_,pN_,sA_,s0_,s1_];rw[mWalk];refine And.intro (λw' hx hd=>?_) ?_
  ·have h6:=hd 6 (by simp);clear hd;generalize us 6=u6 at *;obtain rfl:u6=.int .i64 ((x:Int)):=h6;refine web_of_list 59 rfl (by simp[Act.put]) rfl ?_;go_wp2_with fail;exact⟨Ext.refl _,rfl⟩
  simp only[pS_,pN_,sA_,s0_,s1_];rw[mWalk];refine And.intro (λw' hx hd=>?_) ?_
  ·have h5:=hd 5 (by simp);have h7:=hd 7 (by simp);clear hd;generalize us 5=u5 at *;generalize us 7=u7 at *;obtain rfl:u5=.int .i64 (z):=h5;obtain rfl:u7=.int .i64 (wrap64 ((x:Int)*128)):=h7;refine web_of_list 60 rfl (by simp[Act.put]) rfl ?_;go_wp2_with fail;exact⟨Ext.refl _,rfl⟩
  simp only[pS_,pN_,sA_,s0_,s1_];rw[mWalk];refine And.intro (λw' hx hd=>?_) ?_
  ·have h8:=hd 8 (by simp);clear hd;generalize us 8=u8 at *;obtain rfl:u8=.int .i64 (wrap64 (z-wrap64 ((x:Int)*128))):=h8;refine web_of_list 61 rfl (by simp[Act.put]) rfl ?_;go_wp2_with fail;exact⟨Ext.refl _,rfl⟩
  simp only[pS_,pN_,sA_,s0_,s1_];rw[mWalk];refine And.intro (λw' hx hd=>?_) ?_
  ·have h4:=hd 4 (by simp);clear hd;generalize us 4=u4 at *;obtain rfl:u4=.int .i64 (fromP off x):=h4;refine web_of_list 16 rfl (by simp[Act.put]) rfl ?_;go_wp2_with fail;exact⟨Ext.refl _,rfl⟩
  simp only[pS_,pN_,sA_,s0_,s1_];rw[mWalk];refine And.intro (λw' hx hd=>?_) ?_
  ·have h9:=hd 9 (by simp);clear hd;generalize us 9=u9 at *;obtain rfl:u9=.int .i64 (toP z x):=h9;refine web_of_list 17 rfl (by simp[Act.put]) rfl ?_;go_wp2_with fail;exact⟨Ext.refl _,rfl⟩
  simp only[pS_,pN_,sA_,s0_,s1_];rw[mWalk];intro w' hx hv;have h10:=hv 10 (by omega);have h11:=hv 11 (by omega);clear hv;generalize us 10=u10 at *;generalize us 11=u11 at *;obtain rfl:u10=.int .i64 (fromP off x):=h10;obtain rfl:u11=.int .i64 (toP z x):=h11;have HW:=lh_ hx;go_wp2_with fail;have hpx:=HAt.out x;have hfr0:0<=fromP off x:=Int.le_max_right _ _;have hto0:toP z x<=128:=Int.min_le_right _ _;have i1':Below (E+1) wB w':=Below.trans i1 (Below.mono HW.out (by have:=i1.size;omega));have i2':=i2.ext HW.out;have j3':=j3.ext HW.out;have hpl:=flatpc_le HPC.out pre;have hszW:=i1'.size;clear hx c6 c12 j1 j2 j3;generalize fromP off x=fr at *;generalize toP z x=tt at *;by_cases hc:tt<=fr
  ·rw[if_pos hc]at hpx;gi_wp2_with fail;refine⟨keeps_ext HW.out,KpB.ext HW.out,i1',?_,by simp;omega,i4.ext HW.out,i5.ext HW.out⟩;rw[List.flatMap_append,List.flatMap_singleton,hpx,List.append_nil];exact i2'
  rw[if_neg hc]at hpx;obtain⟨fa,rfl⟩:∃k:Nat,fr=(k:Int):=⟨fr.toNat,by omega⟩
  obtain⟨ta,rfl⟩:∃k:Nat,tt=(k:Int):=⟨tt.toNat,by omega⟩
  have hlt1:fa<ta:=by omega
  have hlt2:ta<=128:=by omega
  have hm:((ta:Int)-(fa:Int)).toNat=ta-fa:=by omega
  rw[hm,Int.toNat_natCast]at hpx;by_cases hq:f x= -1
  ·rw[if_pos hq]at hpx;rw[hq];have hw:IntKind.i64.wrap ((ta:Int)-(fa:Int))=((ta-fa:Nat):Int):=by rw[IntKind.wrap_i64];omega
   have HR:=lh_ (λw=>repeat_any (ta-fa) w (by omega));have HS:=lh_ (λw2 (x2:Ext w' w2)=>writeString_keeps (E+1) (E+1) (pre.flatMap pc) (zs (ta-fa)) w2 (i2'.ext x2) (by have:=x2.size;omega) (by omega) (by simp[zs];omega));have HP:=lh_ hpx;clear hpx hq hm;generalize hmm:ta-fa=m at *;clear hmm
   gi_wp2_with (first
    | (refine⟨trivial,?_⟩;gi_at_call 119;refine(CallsIn.inRound l (callsIn_wide.2 (HR.out _))).mono ?_;rintro e w2 ⟨rfl,x2⟩)
    | (refine⟨trivial,?_⟩;gi_at_call 118;refine(CallsIn.inRound l (callsIn_wide.2 (HS.out _ x2))).mono ?_;rintro e w3 ⟨rfl,f3,q3,k3⟩))
   have x12:=HW.out.trans x2;obtain⟨cs,hcs⟩:=(i2'.ext x2).isCells;have k4:=i4.ext x12;have k5:=i5.ext x12;have hk:=KpB.others k3 (show b1≠E+1 by omega) (show b2≠E+1 by omega) (λcs t e=>by rw[show w2.heap[b1]? =_ from k4]at e;cases e;decide) (λcs t e=>by rw[show w2.heap[b2]? =_ from k5]at e;cases e;decide);refine⟨(keeps_ext x12).trans (keeps_others k3 hcs q3.size),(KpB.ext x12).trans hk,(i1'.trans (Below.mono x2 (by omega))).trans q3,?_,by simp;omega,(hk _ _).1 k4,(hk _ _).2 k5⟩;rw[List.flatMap_append,List.flatMap_singleton,HP.out];exact .inr f3
  rw[if_neg hq]at hpx;have hqb:=HQ.out x hq;have hss:=hSS w' i1';have cv:w'.cell? ⟨g,0,none⟩=some (.slice (some ⟨b,0,none⟩) F.v.length cap):=j3'.cell 0;obtain⟨b',o',he,hcell⟩:=hss.2 (by omega);cases he;obtain⟨qn,hqn⟩:∃q:Nat,f x=(q:Int):=⟨(f x).toNat,by omega⟩
  rw[hqn]at hqb hpx;rw[hqn];have cb:w'.cell? ⟨b,qn,none⟩=some (.string (str (F.v.getD qn []))):=by have:=cell_getD hcell (k:=qn) (by omega);rwa [Nat.zero_add]at this
  have hbl:(F.v.getD qn []).length=128:=getD_len hGd.out (by omega);rw[Int.toNat_natCast]at hpx;clear hcell hss hq;have hqs:(qn:Int)<(F.v.length:Int):=hqb.2;generalize F.v.getD qn []=blk at *;have hsb:(str blk).size=128:=by rw[str_size,hbl]
  have HS:=lh_ (show Calls prog 118 #[.pointer (some ⟨E+1,0,none⟩),.string ((str blk).extract fa ta)] w' _ from by
   rw[str_ext];exact writeString_keeps (E+1) (E+1) (pre.flatMap pc) ((blk.drop fa).take (ta-fa)) w' i2' (by omega) (by omega) (by simp;omega))
  have HP:=lh_ hpx;clear hpx hm hqn hc hqb;gi_wp2_with (refine⟨trivial,?_⟩;gi_at_call 118;refine(CallsIn.inRound l (callsIn_wide.2 HS.out)).mono ?_;rintro e w3 ⟨rfl,f3,q3,k3⟩)
  have x12:=HW.out;obtain⟨cs,hcs⟩:=i2'.isCells;have k4:=i4.ext x12;have k5:=i5.ext x12;have hk:=KpB.others k3 (show b1≠E+1 by omega) (show b2≠E+1 by omega) (λcs t e=>by rw[show w'.heap[b1]? =_ from k4]at e;cases e;decide) (λcs t e=>by rw[show w'.heap[b2]? =_ from k5]at e;cases e;decide);refine⟨(keeps_ext x12).trans (keeps_others k3 hcs q3.size),(KpB.ext x12).trans hk,i1'.trans q3,?_,by simp;omega,(hk _ _).1 k4,(hk _ _).2 k5⟩;rw[List.flatMap_append,List.flatMap_singleton,HP.out];exact .inr f3
  -- WEB ENDS
 case done =>
  rintro D ys W hD hys ⟨i1,i2,i3,i4,i5⟩ hK;subst hys;have HS:=lh_ (bldS_string (E+1) (E+1) _ W i2 (by have:=i1.size;omega));have HE:=lh_ HRD.out;clear HRD;have i1s:=i1.size;generalize (List.range (min cb 70)).flatMap pc=R at *;gi_wp2_with fail;go_wp2_with (go_at_call 120;refine HS.out.mono ?_;rintro e w6 ⟨rfl,q6,k6⟩)
  obtain⟨cs,hcs⟩:=i2.isCells;have hK6:=(keeps_others (B:=E+1) k6 hcs q6.size).2 D _ (by omega) hK rfl;refine⟨by simp,.inl ⟨_,_,rfl,run_takeDeferred hK6,?_⟩⟩;exact⟨_,results_tmp2 rfl _ _ _,by rw[HFE.out,HE.out];simp,(hXE _ (i1.trans q6)).putObj (.deferred none) hK6 (by have:=HXB.out.size;omega)⟩
 case stop => rintro D c pre W hD _ h;exact h.elim
end Go.Proofs.YtfaplefkakpgcaaGreatDoor
namespace Go.Proofs.YtfaplefkakpgcaaGreatDoor
open Go.Proofs.Tryz
open Go.RowKit
def newV (B:Nat) (t:TypeId) (cs:Array Value):World->Value->Prop:=λw u=>∃g,u=.pointer (some ⟨g,0,none⟩)/\B<=g/\Box w g t cs
theorem lasts_new (B:Nat) (t:TypeId) (cs:Array Value):Lasts (newV B t cs):=λ_ _ _ hx ⟨g,e,h,hb⟩=>⟨g,e,h,hb.ext hx⟩
theorem lessE_last {l:List Ent}(x:Ent) {k:Nat}(h:l.length=k+1):lessE l x=ltB (l[k]'(by omega)).1 x.1:=by
 unfold lessE;rw[List.getLast?_eq_getElem?,show l.length-1=k by omega,List.getElem?_eq_getElem (by omega)]
theorem dentries_any (b:List UInt8) (w:World) (hb:b.length<=8960) :
  Calls prog 175 #[.string (str b)] w λe w'=>∃u,e=.returned (.tuple #[u,.bool (entriesP b).isSome])/\Ext w w'/\OwnE w' w.heap.size u ((entriesP b).getD []):=by
 have hz:=str_size;by_cases hm:b.length%32=0;case neg =>
  have HN:=lh_ (show entriesP b=none from by unfold entriesP;rw[if_neg hm]);have hmi:((b.length:Int)%32 != 0)=true:=by simp;omega
  go_enter func175,ntmps175;go_wp2_with fail;go_ret2;rw[HN.out];exact⟨_,rfl,Ext.refl _,OwnE.nil _ _⟩
 have hmi:((b.length:Int)%32 != 0)=false:=by simp;omega
 have HE:=lh_ (show entriesP b=entsP b (b.length/32) from by unfold entriesP;rw[if_pos hm]);have HNone:=lh_ (λk (h:entsP b k=none) (hk:k<=b.length/32)=>entsP_none h _ hk);obtain⟨N,hN⟩:∃N,b.length/32=N:=⟨_,rfl⟩
 have hbN:b.length=32*N:=by omega
 have hN280:N<=280:=by omega
 rw[hN]at HE HNone;go_enter func175,ntmps175;go_wp2_with fail;clear hm hN;go_loopw [0,4,5,6,7] (λr v _ _ _ wr=>∃(k:Nat) (l:List Ent),k<=N/\r=.string (str (b.drop (32*k)))/\Ext w wr/\entsP b k=some l/\OwnE wr w.heap.size v l) (λr _ _ _ _ _=>(match r with|.string s=>s.size|_=>0));case atStart=>exact⟨0,[],by omega,by simp,Ext.refl _,rfl,OwnE.nil _ _⟩
 case round =>
  obtain⟨k,l,hk,rfl,hx,hl,own⟩:=hrel;have hxs:=hx.size;by_cases hlt:k<N
  ·have hrl:(b.drop (32*k)).length=b.length-32*k:=by simp
   have hpl:(pieceE b k).length=32:=by simp[pieceE];omega
   have hne:(str (b.drop (32*k))).toList.isEmpty=false:=by rw[str_toList,List.isEmpty_eq_false_iff];intro e;rw[e]at hrl;simp at hrl;omega
   have hpc:(str (b.drop (32*k))).extract 0 32=str (pieceE b k):=by rw[str_ext];rfl
   have HNo:=lh_ (λh=>HNone.out (k+1) (entsP_no hl h) (by omega));have HYes:=lh_ (λh1 h2=>entsP_yes hl h1 h2);have hdr:(str (b.drop (32*k))).extract 32 (str (b.drop (32*k))).size=str (b.drop (32*(k+1))):=by rw[str_ext,List.drop_drop,str_size,show 32*k+32=32*(k+1) by omega,List.take_of_length_le (by simp;omega)]
   have hll:=entsP_len hl;clear hl;generalize pieceE b k=o at *;generalize b.drop (32*k)=rest at *;have hrl2:32<=rest.length:=by omega
   have hsz:(str rest).size=rest.length:=str_size _;have hop:(str o).size=32:=by rw[str_size,hpl]
   have hgd:∀h:2<(str o).size,(str o)[2]'h=o.getD 2 0:=λh=>by rw[List.getD_eq_getElem?_getD,List.getElem?_eq_getElem (by omega)];rfl
   have hlw:IntKind.i64.wrap ((o.getD 2 0).toNat:Int)=((o.getD 2 0).toNat:Int):=by have:=(o.getD 2 0).toNat_lt;rw[IntKind.wrap_i64];omega
   have hlw2:wrap64 ((o.getD 2 0).toNat:Int)=((o.getD 2 0).toNat:Int):=by have:=(o.getD 2 0).toNat_lt;unfold wrap64;omega
   have hl256:=(o.getD 2 0).toNat_lt;have HOk:Hid (okE o=(decide ((o.getD 2 0).toNat<=24)&&decide (1<=(entOf o).2)&&decide ((entOf o).2<=64)&&mayD (entOf o).1&&decide (entP (entOf o)=o))):=rfl;have HEn:Hid (entOf o=((o.drop 4).take (o.getD 2 0).toNat,(numL (o.take 2):Int))):=rfl;generalize o.getD 2 0=ch at *;obtain⟨long,hlong⟩:∃n,ch.toNat=n:=⟨_,rfl⟩
   rw[hlong]at hlw hlw2 hl256 HOk HEn;go_upto_region 8 with fail;clear hlw hlw2;by_cases c0:24<long
   ·have HN:=lh_ (HE.out.trans (HNo.out (.inl (by rw[HOk.out,show decide (long<=24)=false by simp;omega];simp))));have hx0:(24:Int)<(long:Int):=by omega
    go_wp2_with fail;go_ret2;rw[HN.out];exact⟨_,rfl,hx,OwnE.nil _ _⟩
   have hx0:¬(24:Int)<(long:Int):=by omega
   have hx00:decide ((24:Int)<(long:Int))=false:=by simp;omega
   have hl1:=List.length_take (i:=long) (l:=o.drop 4);have hl2:(o.take 2).length=2:=by simp;omega
   have hn1:=numL_lt (o.take 2);rw[hl2]at hn1;have HG:=lh_ (λw=>get_z (o.take 2) w (.inr (.inl hl2)));have HX1:Hid ((str o).extract 4 (4+long)=str ((o.drop 4).take long)):=by rw[str_ext,show 4+long-4=long by omega];exact rfl
   have HX2:Hid ((str o).extract 0 2=str (o.take 2)):=by rw[str_ext];exact rfl
   have hnl:((o.drop 4).take long).length<=24:=by rw[hl1];omega
   have hi64:numL (o.take 2)<65536:=by simpa using hn1
   clear hl1 hn1;generalize numL (o.take 2)=ino at *;generalize (o.drop 4).take long=name at *;rw[HEn.out]at HNo HYes HOk;simp only at HOk;have wa:IntKind.i64.wrap (4+(long:Int))=((4+long:Nat):Int):=by rw[IntKind.wrap_i64];omega
   have wb:IntKind.i64.wrap (ino:Int)=(ino:Int):=by rw[IntKind.wrap_i64];omega
   have wb2:wrap64 (ino:Int)=(ino:Int):=by unfold wrap64;omega
   go_upto_region 10 with fail;refine wp_region_web' 10 [[],[],[1],[0,2],[],[4],[5],[6],[3,7],[]] (listV [isV (.string (str (o))),isV (.int .i64 ((long:Int))),isV (.int .i64 (((4+long:Nat):Int))),isV (.string (str (name))),isV (.string (str (o))),isV (.string (str (o.take 2))),isV (.int .u64 (ino:Int)),isV (.int .i64 ((ino:Int))),isV (.agg #[.string (str name),.int .i64 (ino:Int)]),newV wr.heap.size 154 #[.string ⟨#[]⟩,.int .i64 0]]) (by kernel_rfl) (by kernel_rfl) (listV_ext (λp hp=>by simp only[List.mem_cons,List.not_mem_nil,or_false]at hp;rcases hp with rfl|rfl|rfl|rfl|rfl|rfl|rfl|rfl|rfl|rfl<;>first|exact lasts_is _|exact lasts_new _ _ _)) (λus=>?_);simp only[List.take_succ_cons,List.take_zero,List.drop_succ_cons,List.drop_zero];rw[mWalk];refine And.intro (λw' hx hd=>?_) ?_
   ·clear hd;refine web_of_list 23 rfl (by simp) rfl ?_;go_wp2_with fail;exact⟨Ext.refl _,rfl⟩
   simp only[pS_,pN_,sA_,s0_,s1_];rw[mWalk];refine And.intro (λw' hx hd=>?_) ?_
   ·clear hd;refine web_of_list 24 rfl (by simp[Act.put]) rfl ?_;go_wp2_with fail;exact⟨Ext.refl _,rfl⟩
   simp only[pS_,pN_,sA_,s0_,s1_];rw[mWalk];refine And.intro (λw' hx hd=>?_) ?_
   ·have h1:=hd 1 (by simp);clear hd;generalize us 1=u1 at *;obtain rfl:u1=.int .i64 (long:Int):=h1;refine web_of_list 25 rfl (by simp[Act.put]) rfl ?_;go_wp2_with fail;exact⟨Ext.refl _,rfl⟩
   simp only[pS_,pN_,sA_,s0_,s1_];rw[mWalk];refine And.intro (λw' hx hd=>?_) ?_
   ·have h0:=hd 0 (by simp);have h2:=hd 2 (by simp);clear hd;generalize us 0=u0 at *;generalize us 2=u2 at *;obtain rfl:u0=.string (str o):=h0;obtain rfl:u2=.int .i64 ((4+long:Nat):Int):=h2;have hx1:=HX1.out;refine web_of_list 26 rfl (by simp[Act.put]) rfl ?_;go_wp2_with fail;exact⟨Ext.refl _,rfl⟩
   simp only[pS_,pN_,sA_,s0_,s1_];rw[mWalk];refine And.intro (λw' hx hd=>?_) ?_
   ·clear hd;refine web_of_list 27 rfl (by simp[Act.put]) rfl ?_;go_wp2_with fail;exact⟨Ext.refl _,rfl⟩
   simp only[pS_,pN_,sA_,s0_,s1_];rw[mWalk];refine And.intro (λw' hx hd=>?_) ?_
   ·have h4:=hd 4 (by simp);clear hd;generalize us 4=u4 at *;obtain rfl:u4=.string (str o):=h4;have hx2:=HX2.out;refine web_of_list 28 rfl (by simp[Act.put]) rfl ?_;go_wp2_with fail;exact⟨Ext.refl _,rfl⟩
   simp only[pS_,pN_,sA_,s0_,s1_];rw[mWalk];refine And.intro (λw' hx hd=>?_) ?_
   ·have h5:=hd 5 (by simp);clear hd;generalize us 5=u5 at *;obtain rfl:u5=.string (str (o.take 2)):=h5;refine web_of_list 29 rfl (by simp[Act.put]) rfl ?_;go_wp2_with (go_at_call 164;refine(HG.out _).mono ?_;rintro e w2 ⟨rfl,rfl⟩)
    exact⟨Ext.refl _,rfl⟩
   simp only[pS_,pN_,sA_,s0_,s1_];rw[mWalk];refine And.intro (λw' hx hd=>?_) ?_
   ·have h6:=hd 6 (by simp);clear hd;generalize us 6=u6 at *;obtain rfl:u6=.int .u64 (ino:Int):=h6;refine web_of_list 30 rfl (by simp[Act.put]) rfl ?_;go_wp2_with fail;exact⟨Ext.refl _,rfl⟩
   simp only[pS_,pN_,sA_,s0_,s1_];rw[mWalk];refine And.intro (λw' hx hd=>?_) ?_
   ·have h3:=hd 3 (by simp);have h7:=hd 7 (by simp);clear hd;generalize us 3=u3 at *;generalize us 7=u7 at *;obtain rfl:u3=.string (str name):=h3;obtain rfl:u7=.int .i64 (ino:Int):=h7;refine web_of_list 31 rfl (by simp[Act.put]) rfl ?_;go_wp2_with fail;exact⟨Ext.refl _,rfl⟩
   simp only[pS_,pN_,sA_,s0_,s1_];rw[mWalk];refine And.intro (λw' hx hd=>?_) ?_
   ·clear hd;refine web_of_list 7 rfl (by simp[Act.put]) rfl ?_;go_wp2_with fail;exact⟨(Ext.refl w').alloc _,_,rfl,hx.size,Box.new _ _ _⟩
   simp only[pS_,pN_,sA_,s0_,s1_];rw[mWalk];intro w' hx hv;have h8:=hv 8 (by omega);have h9:=hv 9 (by omega);clear hv;generalize us 1=u1 at *;generalize us 8=u8 at *;generalize us 9=u9 at *;obtain rfl:u8=.agg #[.string (str name),.int .i64 (ino:Int)]:=h8;obtain⟨g,rfl,hg,bg⟩:=h9;have HW:=lh_ hx;clear hx;go_upto_region 11 with(refine wp_st_ent (.tmp 7) (.tmp 31) rfl rfl g (str name) (ino:Int) _ 154 rfl rfl bg rfl ?_;intro W2 bx g2)
   have xr:Ext wr W2:=HW.out.grown g2 (λj e=>by cases e;exact hg);clear bg wa wb wb2;have k0:W2.cell? ⟨g,0,none⟩=some (.string (str name)):=bx.cell 0;have k1:W2.cell? ⟨g,1,none⟩=some (.int .i64 (ino:Int)):=bx.cell 1;have HM:=lh_ (λw=>dmay_any name w (by omega));have HEt:=lh_ (λw h1=>dentry_any (name,(ino:Int)) w hnl h1 (by simp;omega));simp only at HEt;by_cases c1:ino<1
   ·have HN:=lh_ (HE.out.trans (HNo.out (.inl (by rw[HOk.out,show decide (1<=(ino:Int))=false by simp;omega];simp))));have hx1:(ino:Int)<1:=by omega
    go_wp2_with fail;go_ret2;rw[HN.out];exact⟨_,rfl,hx.trans xr,OwnE.nil _ _⟩
   have hx1:¬(ino:Int)<1:=by omega
   have hx11:decide ((ino:Int)<1)=false:=by simp;omega
   by_cases c2:64<ino
   ·have HN:=lh_ (HE.out.trans (HNo.out (.inl (by rw[HOk.out,show decide ((ino:Int)<=64)=false by simp;omega];simp))));have hx2:(64:Int)<(ino:Int):=by omega
    go_wp2_with fail;go_ret2;rw[HN.out];exact⟨_,rfl,hx.trans xr,OwnE.nil _ _⟩
   have hx2:¬(64:Int)<(ino:Int):=by omega
   have hx22:decide ((64:Int)<(ino:Int))=false:=by simp;omega
   cases c3:mayD name with
   | false =>
    have HN:=lh_ (HE.out.trans (HNo.out (.inl (by rw[HOk.out,c3];simp))));rw[c3]at HM;clear c3;go_wp2_with (go_at_call 110;refine(HM.out _).mono ?_;rintro e w3 ⟨rfl,x3⟩)
    go_ret2;rw[HN.out];exact⟨_,rfl,(hx.trans xr).trans x3,OwnE.nil _ _⟩
   | true =>
   have HEt2:=lh_ (λw=>HEt.out w (by omega));by_cases c4:entP (name,(ino:Int))=o;case neg =>
    have HN:=lh_ (HE.out.trans (HNo.out (.inl (by rw[HOk.out,show decide (entP (name,(ino:Int))=o)=false by simpa using c4];simp))));have d4:((str (entP (name,(ino:Int)))).toList==(str o).toList)=false:=by rw[str_toList,str_toList];simpa using c4
    have d5:¬(str (entP (name,(ino:Int)))).toList=(str o).toList:=by rw[str_toList,str_toList];exact c4
    rw[c3]at HM;clear c3 c4 HEt;generalize entP (name,(ino:Int))=eo at *
    go_wp2_with (first
     | (go_at_call 110;refine(HM.out _).mono ?_;rintro e w3 ⟨rfl,x3⟩;have m0:=x3.keep k0;have m1:=x3.keep k1)
     | (go_at_call 212;refine(HEt2.out _).mono ?_;rintro e w4 ⟨rfl,x4⟩))
    go_ret2;rw[HN.out];exact⟨_,rfl,((hx.trans xr).trans x3).trans x4,OwnE.nil _ _⟩
   have hok:okE o=true:=by rw[HOk.out,c3,c4];simp;omega
   have HYes2:=lh_ (HYes.out hok);have d4:((str (entP (name,(ino:Int)))).toList==(str o).toList)=true:=by rw[c4];simp
   have d5:(str (entP (name,(ino:Int)))).toList=(str o).toList:=by rw[c4]
   rw[c3]at HM;clear c3 HEt HYes hok;have HC4:=lh_ c4;clear c4 hx0 hx00;generalize entP (name,(ino:Int))=eo at *
   go_upto_region 13 with(first
    | (go_at_call 110;refine(HM.out _).mono ?_;rintro e w3 ⟨rfl,x3⟩;have m0:=x3.keep k0;have m1:=x3.keep k1)
    | (go_at_call 212;refine(HEt2.out _).mono ?_;rintro e w4 ⟨rfl,x4⟩))
   have xr4:=(xr.trans x3).trans x4;have bx4:=(bx.ext x3).ext x4;clear k0 k1 m0 m1 bx xr x3 x4 HM HEt2 d4 d5 HC4 HOk HEn;have own4:=OwnE.ext own xr4;obtain⟨A4,cap4,rfl,at4⟩:=own4.form;rw[hll]at at4 ⊢;go_cut [66] (λs wx=>s=.bool (!(lessE l (name,(ino:Int))))/\Ext w4 wx);case first =>
    have k0:∀y:Later w4,y.now.cell? ⟨g,0,none⟩=some (.string (str name)):=λy=>y.ext.keep (bx4.cell 0);clear HYes2 HNo HNone HE hdr hpc HX1 HX2 own own4 bx4 xr4;cases k with
    | zero =>
     obtain rfl:=List.eq_nil_of_length_eq_zero hll;have HV:=lh_ (show lessE [] (name,(ino:Int))=true from rfl);refine wp_region_later (by kernel_rfl) (by kernel_rfl) ?_;repeat (go_big_quiet_step (fail))
     refine wpQuiet_nil ?_;rintro w5 ⟨y,rfl⟩;go_wp2_with fail;go_meet;exact⟨by rw[HV.out];rfl,y.ext⟩
    | succ q =>
     obtain⟨bb,oo,rfl,hcell⟩:=at4.2 (by omega);have hq:=(hcell q (by omega)).1;have HV:=lh_ (lessE_last (name,(ino:Int)) hll);simp only at HV;clear hcell at4;have k1:∀y:Later w4,y.now.cell? ⟨bb,oo+q*2,none⟩=some (.string (str (l[q]'(by omega)).1)):=λy=>y.ext.keep hq;clear hq;generalize (l[q]'(by omega)).1=last at *;have t1:IntKind.i64.wrap (((q+1:Nat):Int)-1)=(q:Int):=by rw[IntKind.wrap_i64];omega
     have t2:decide ((0:Int)<((q+1:Nat):Int))=true:=decide_eq_true (by omega);have t3:(q:Int)<((q+1:Nat):Int):=by omega
     cases hl:ltB last name with
     | false =>
      have HV2:=lh_ (HV.out.trans hl);have hl':Op.bytesLess (str last).toList (str name).toList=false:=by rw[str_toList,str_toList];exact hl
      clear hl HV;refine wp_region_later (by kernel_rfl) (by kernel_rfl) ?_;repeat (go_big_quiet_step (fail))
      refine wpQuiet_nil ?_;rintro w5 ⟨y,rfl⟩;go_wp2_with fail;go_meet;exact⟨by rw[HV2.out];rfl,y.ext⟩
     | true =>
      have HV2:=lh_ (HV.out.trans hl);have hl':Op.bytesLess (str last).toList (str name).toList=true:=by rw[str_toList,str_toList];exact hl
      clear hl HV;refine wp_region_later (by kernel_rfl) (by kernel_rfl) ?_;repeat (go_big_quiet_step (fail))
      refine wpQuiet_nil ?_;rintro w5 ⟨y,rfl⟩;go_wp2_with fail;go_meet;exact⟨by rw[HV2.out];rfl,y.ext⟩
   case rest =>
    obtain⟨rfl,hxc⟩:=hcut;cases hv:lessE l (name,(ino:Int)) with
    | false => have HN:=lh_ (HE.out.trans (HNo.out (.inr hv)));clear hv HYes2 HNo HNone HE;go_wp2_with fail;go_ret2;rw[HN.out];exact⟨_,rfl,hx.trans (xr4.trans hxc),OwnE.nil _ _⟩
    | true =>
     have HN:=lh_ (HYes2.out hv);have bx5:=bx4.ext hxc;have own5:=OwnE.ext own4 hxc;have xr5:=xr4.trans hxc;clear hv HYes2 HNo HNone HE own own4 at4 bx4 xr4 hxc HX1 HX2 HG hlong;unfold OwnE at own5;rw[hll]at own5
     go_wp2_with (first
      | (refine wp_ld_ent (.tmp 7) rfl rfl g _ 154 rfl bx5 rfl ?_)
      | (refine wp_app_ent (y:=(name,(ino:Int))) rfl (.tmp 67) (.tmp 69) rfl rfl rfl (own_ext own5 ((Ext.refl wc).alloc _)) (Box.new _ _ _) (by omega) (by simp;have:=xr5.size;omega) ?_;intro u' w6 own6 hg6))
     have hlo:=lh_ (show∀j,(Value.slice A4 k cap4).ownBlock=some j->w.heap.size<=j fromλj e=>own_low own5 e);have x6:Ext w w6:=((hx.trans xr5).alloc _).grown hg6 (λj e=>hlo.out j e);go_roundw;case rel=>exact⟨k+1,l++[(name,(ino:Int))],by omega,by rw[← hdr,hsz,hrl,hbN],x6,HN.out,OwnE.snoc own6 hll.symm⟩
     case measure=>simp;omega
  ·obtain rfl:k=N:=by omega
   have HN:=lh_ (HE.out.trans hl);have hne:(str (b.drop (32*k))).toList.isEmpty=true:=by rw[str_toList,List.drop_eq_nil_of_le (by omega)];rfl
   clear hl HE HNone;go_wp2_with fail;go_ret2;rw[HN.out];exact⟨_,rfl,hx,own⟩
end Go.Proofs.YtfaplefkakpgcaaGreatDoor
namespace Go.Proofs.YtfaplefkakpgcaaGreatDoor
open Go.Proofs.Tryz
open Go.RowKit Go.Shelf
theorem fread_past (A:Option Addr) (n c:Nat) (v:List (List UInt8)) (I k:Int) (off size:Nat) (w:World) (hv:Strs w A n v) (hg:Good v I) (hk1:1<=k) (hk2:k<=I) (hin:sizeP (fileOf v I k).x<=(off:Int)) :
  Calls prog 60 #[.slice A n c,.int .i64 k,.int .i64 (off:Int),.int .i64 (size:Int)] w λe w'=>e=.returned (.tuple #[.string (str []),.int .i64 0])/\Ext w w':=by
 have HO:=lh_ (λw h=>opened_yes A n c v I k w h hg hk1 hk2);have HFO:=lh_ (λ(B g:Nat) (w:World) (s:Sl) hB hs hbx own=>FileIn.of_opened (B:=B) (w:=w) (g:=g) (s:=s) hg hk1 hk2 hB hs hbx own);have HV:=lh_ hv;clear hv hg hk1 hk2;generalize hG:w.heap.size=G at *;go_enter func60,ntmps60;have b6:=Box.new w 3 #[.int .i64 (off:Int)];have x6:Ext w (w.alloc (.cells #[.int .i64 (off:Int)] 3)):=(Ext.refl w).alloc _;have HV1:=lh_ (HV.out.ext x6);go_upto_region 1 with fail;rw[hG]at b6;have hG6:G+1<=(w.alloc (.cells #[.int .i64 (off:Int)] 3)).heap.size:=by rw[World.size_alloc,hG];exact Nat.le_refl _
 generalize w.alloc (.cells #[.int .i64 (off:Int)] 3)=w1 at *
 go_upto_region 2 with(first
  | (go_at_call 115;refine(HO.out _ HV1.out).mono ?_;rintro e w2 ⟨⟨s,rfl,hsn,own2⟩,x2⟩)
  | (refine wp_st_file (.tmp 10) (.tmp 22) rfl rfl w2.heap.size s (fileOf v I k) _ 162 rfl rfl (Box.new _ _ _) rfl ?_;intro w3 b3 g3))
 have xa:Ext w2 (w2.alloc (.cells fileZ 162)):=(Ext.refl w2).alloc _;have x23:Ext w2 w3:=xa.grown g3 (λj e=>by cases e;exact Nat.le_refl _);have own3:=(own_ext own2 xa).kept g3 (.inr (own_ne (own_ext own2 xa) (Box.new w2 162 fileZ) (by decide)).symm);have hF0:=HFO.out w1.heap.size w2.heap.size w3 s x2.size hsn b3 own3;have HX:=lh_ (x6.trans (x2.trans x23));have b63:=(b6.ext x2).ext x23;have hle2:=x2.size;clear HO HFO HV HV1 own2 hsn b3 own3 xa x23 x2 g3 b6 x6;generalize hg2:w2.heap.size=g at *;generalize hFO:fileOf v I k=F at *;have HFE:=lh_ hFO;clear hFO hg2;obtain⟨hOk,hBg,b,cap,hbx,own⟩:=hF0;generalize fileC s ⟨v,I,k,inoAt v k⟩=fc at *;have hr:=own_strsN own;have HSz:=lh_ (λw h=>fsize_any g ⟨some ⟨b,0,none⟩,F.v.length,cap⟩ F w h);have hz1:sizeP F.x<=8960:=by unfold sizeP;omega
 have d1:decide ((off:Int)<0)=false:=by simp
 have d2:decide ((size:Int)<0)=false:=by simp
 have hcell6:=b63.cell 0;generalize hzz:sizeP F.x=z at *;have d3:decide (z<=(off:Int))=true:=by simp;omega
 have x34:Ext w3 (w3.alloc (.cells #[.int .i64 z] 3)):=(Ext.refl w3).alloc _;have b12:=Box.new w3 3 #[.int .i64 z];have b6a:=b63.ext x34;have c6a:(w3.alloc (.cells #[.int .i64 z] 3)).cell? ⟨G,0,none⟩=some (.int .i64 (off:Int)):=b6a.cell 0;have c12:(w3.alloc (.cells #[.int .i64 z] 3)).cell? ⟨w3.heap.size,0,none⟩=some (.int .i64 z):=b12.cell 0;have HX4:=lh_ (HX.out.trans x34);go_wp2_with (go_at_call 116;(have hq:=HSz.out _ hbx;with_reducible (refine hq.mono ?_));clear hq;rintro e w6 ⟨rfl,rfl⟩)
 go_ret2;exact⟨rfl,HX4.out⟩
def dataP (v:List (List UInt8)) (I k:Int):List UInt8:=readP (fileOf v I k) 0 8960
theorem data_none {v:List (List UInt8)}{I k:Int}(h:sizeP (fileOf v I k).x<=0):dataP v I k=[]:=by
 unfold dataP readP endP;rw[if_neg (by omega),show blocksP (sizeP (fileOf v I k).x)=0 by unfold blocksP;omega];rfl
theorem fread_all (A:Option Addr) (n c:Nat) (v:List (List UInt8)) (I k:Int) (w:World) (hv:Strs w A n v) (hg:Good v I) (hk1:1<=k) (hk2:k<=I) :
  Calls prog 60 #[.slice A n c,.int .i64 k,.int .i64 0,.int .i64 8960] w λe w'=>e=.returned (.tuple #[.string (str (dataP v I k)),.int .i64 0])/\Ext w w':=by
 by_cases h:sizeP (fileOf v I k).x<=0
 ·rw[data_none h];exact fread_past A n c v I k 0 8960 w hv hg hk1 hk2 (by simpa using h)
 ·exact fread_yes A n c v I k 0 8960 w hv hg hk1 hk2 (by simp;omega) (by simp) (by unfold sizeP;simp;omega)
theorem data_len (v:List (List UInt8)) (I k:Int):(dataP v I k).length<=8960:=by
 unfold dataP readP;have:=flatpc_le (piece_le (fileOf v I k) ((0:Nat):Int) (endP (fileOf v I k) ((0:Nat):Int) ((8960:Nat):Int))) (List.range (min (blocksP (endP (fileOf v I k) ((0:Nat):Int) ((8960:Nat):Int))) 70));rw[List.length_range]at this;refine Nat.le_trans ?_ (Nat.le_trans this (by omega));exact Nat.le_refl _
end Go.Proofs.YtfaplefkakpgcaaGreatDoor
namespace Go.Proofs.YtfaplefkakpgcaaGreatDoor
open Go.Proofs.Tryz
open Go.RowKit
def dlistP (v:List (List UInt8)) (I k:Int):List Ent × Int :=
 if k<1\/I<k then ([],2) else if (inoAt v k).getD 0 0≠2 then ([],11) else match entriesP (dataP v I k) with
  | none=>([],3)
  | some l=>(l,0)
theorem dlist_ok {v:List (List UInt8)}{I k:Int}(h:(dlistP v I k).2=0):1<=k/\k<=I/\(inoAt v k).getD 0 0=2/\entriesP (dataP v I k)=some (dlistP v I k).1:=by
 unfold dlistP at *;by_cases h1:k<1\/I<k
 ·rw[if_pos h1]at h;simp at h
 rw[if_neg h1]at h ⊢;by_cases h2:(inoAt v k).getD 0 0≠2
 ·rw[if_pos h2]at h;simp at h
 rw[if_neg h2]at h ⊢;cases h3:entriesP (dataP v I k) with
 | none=>rw[h3]at h;simp at h
 | some l=>exact⟨by omega,by omega,by simpa using h2,rfl⟩
theorem dlist_bad {v:List (List UInt8)}{I k:Int}(h:(dlistP v I k).2≠0):(dlistP v I k).1=[]:=by
 unfold dlistP at *;by_cases h1:k<1\/I<k
 ·rw[if_pos h1]
 rw[if_neg h1]at h ⊢;by_cases h2:(inoAt v k).getD 0 0≠2
 ·rw[if_pos h2]
 rw[if_neg h2]at h ⊢;cases h3:entriesP (dataP v I k) with
 | none=>rfl
 | some l=>rw[h3]at h;simp at h
theorem dlist_len (v:List (List UInt8)) (I k:Int):(dlistP v I k).1.length<=280:=by
 by_cases h:(dlistP v I k).2=0
 ·have h1:=(entriesP_ok (dlist_ok h).2.2.2).2;have h2:=data_len v I k;omega
 ·rw[dlist_bad h];simp
theorem dlist_ents (v:List (List UInt8)) (I k:Int):EntsOk (dlistP v I k).1:=by
 by_cases h:(dlistP v I k).2=0
 ·exact(entriesP_ok (dlist_ok h).2.2.2).1
 ·rw[dlist_bad h];exact⟨λx hx=>absurd hx List.not_mem_nil,List.Pairwise.nil⟩
theorem dlist_any (A:Option Addr) (n c:Nat) (v:List (List UInt8)) (I k:Int) (w:World) (hv:Strs w A n v) (hg:Good v I) :
  Calls prog 107 #[.slice A n c,.int .i64 k] w λe w'=>∃u,e=.returned (.tuple #[u,.int .i64 (dlistP v I k).2])/\Ext w w'/\OwnE w' w.heap.size u (dlistP v I k).1:=by
 by_cases h1:k<1\/I<k
 ·have HP:=lh_ (show dlistP v I k=([],2) from by unfold dlistP;rw[if_pos h1]);have HG:=lh_ (λw h=>iget_no A n c v I k w h hg h1);go_enter func107,ntmps107
  go_wp2_with (first
   | (go_at_call 69;refine(HG.out _ hv).mono ?_;rintro e w1 ⟨rfl,x1⟩)
   | (refine wp_st_ino (.tmp 6) (.tmp 15) rfl rfl w1.heap.size _ zero12 121 rfl rfl (Box.new _ _ _) rfl rfl ?_;intro w2 b2 g2))
  go_ret2;rw[HP.out];exact⟨_,rfl,(x1.alloc _).grown g2 (λk e=>by cases e;exact x1.size),OwnE.nil _ _⟩
 have hk1:1<=k:=by omega
 have hk2:k<=I:=by omega
 have HG:=lh_ (λw h=>iget_yes A n c v I k w h hg hk1 hk2);have HR:=lh_ (λw h=>fread_all A n c v I k w h hg hk1 hk2);have hl:(inoAt v k).length=12:=rfl;have hx12:(intVals (inoAt v k))[0]? =some (.int .i64 ((inoAt v k).getD 0 0)):=rfl;by_cases h2:(inoAt v k).getD 0 0≠2
 ·have HP:=lh_ (show dlistP v I k=([],11) from by unfold dlistP;rw[if_neg h1,if_pos h2]);have d2:((inoAt v k).getD 0 0 != 2)=true:=by simpa using h2
  clear h2;generalize (inoAt v k).getD 0 0=kd at *;generalize inoAt v k=x at *;go_enter func107,ntmps107
  go_wp2_with (first
   | (go_at_call 69;refine(HG.out _ hv).mono ?_;rintro e w1 ⟨rfl,x1⟩)
   | (refine wp_st_ino (.tmp 6) (.tmp 15) rfl rfl w1.heap.size _ zero12 121 rfl rfl (Box.new _ _ _) hl rfl ?_;intro w2 b2 g2;have c2:=(b2.cell 0).trans hx12))
  go_ret2;rw[HP.out];exact⟨_,rfl,(x1.alloc _).grown g2 (λk e=>by cases e;exact x1.size),OwnE.nil _ _⟩
 have hk:(inoAt v k).getD 0 0=2:=by simpa using h2
 have HP0:=lh_ (show dlistP v I k=match entriesP (dataP v I k) with|none=>([],3)|some l=>(l,0) from by unfold dlistP;rw[if_neg h1,if_neg h2]);have hdl:=data_len v I k;have HEn:=lh_ (λw=>dentries_any (dataP v I k) w hdl);clear h2;generalize dataP v I k=d at *;generalize dlistP v I k=R at *;rw[hk]at hx12;clear hk;generalize inoAt v k=x at *;cases he:entriesP d with
 | none =>
  rw[he]at HEn HP0;clear he;go_enter func107,ntmps107
  go_wp2_with (first
   | (go_at_call 69;refine(HG.out _ hv).mono ?_;rintro e w1 ⟨rfl,x1⟩)
   | (refine wp_st_ino (.tmp 6) (.tmp 15) rfl rfl w1.heap.size _ zero12 121 rfl rfl (Box.new _ _ _) hl rfl ?_;intro w2 b2 g2;have c2:=(b2.cell 0).trans hx12;have x2:=(x1.alloc (.cells (intVals zero12) 121)).grown g2 (λk e=>by cases e;exact x1.size))
   | (go_at_call 60;refine(HR.out _ (hv.ext x2)).mono ?_;rintro e w3 ⟨rfl,x3⟩)
   | (go_at_call 175;refine(HEn.out _).mono ?_;rintro e w4 ⟨u,rfl,x4,own4⟩))
  go_ret2;rw[HP0.out];exact⟨_,rfl,x2.trans (x3.trans x4),OwnE.nil _ _⟩
 | some l =>
  rw[he]at HEn HP0;clear he;go_enter func107,ntmps107
  go_wp2_with (first
   | (go_at_call 69;refine(HG.out _ hv).mono ?_;rintro e w1 ⟨rfl,x1⟩)
   | (refine wp_st_ino (.tmp 6) (.tmp 15) rfl rfl w1.heap.size _ zero12 121 rfl rfl (Box.new _ _ _) hl rfl ?_;intro w2 b2 g2;have c2:=(b2.cell 0).trans hx12;have x2:=(x1.alloc (.cells (intVals zero12) 121)).grown g2 (λk e=>by cases e;exact x1.size))
   | (go_at_call 60;refine(HR.out _ (hv.ext x2)).mono ?_;rintro e w3 ⟨rfl,x3⟩)
   | (go_at_call 175;refine(HEn.out _).mono ?_;rintro e w4 ⟨u,rfl,x4,own4⟩))
  go_ret2;rw[HP0.out];exact⟨_,rfl,x2.trans (x3.trans x4),own4.base (by have:=x2.size;have:=x3.size;omega)⟩
structure Frm (F G:FileT):Prop where
 I:G.I=F.I
 n:G.n=F.n
 len:G.v.length=F.v.length
 ino:∀m,1<=m->m<=F.I->m≠F.n->inoAt G.v m=inoAt F.v m
theorem Frm.refl (F:FileT):Frm F F:=⟨rfl,rfl,rfl,λ_ _ _ _=>rfl⟩
theorem Frm.trans {F G H:FileT}(h:Frm F G) (k:Frm G H):Frm F H :=
 ⟨k.I.trans h.I,k.n.trans h.n,k.len.trans h.len,λm h1 h2 h3=>(k.ino m h1 (by rw[h.I];exact h2) (by rw[h.n];exact h3)).trans (h.ino m h1 h2 h3)⟩
theorem Frm.setX (F:FileT) (j:Nat) (b:Int):Frm F (F.setX j b):=⟨rfl,rfl,rfl,λ_ _ _ _=>rfl⟩
theorem Frm.keep {F:FileT}(h:FileOk F):Frm F F.keep:=⟨rfl,rfl,keep_v_len F,λm h1 h2 h3=>inoAt_put_ne h.good h.n1 h.n2 h1 h3 F.x⟩
theorem Frm.lay (F:FileT) {q p:Nat}{d:List UInt8}(hq:3+(F.I+1)/2<=(q:Int)):Frm F (F.lay q p d) :=
 ⟨rfl,rfl,lay_v_len F q p d,λm h1 h2 h3=>inoAt_set _ _ (by omega)⟩
theorem Frm.took (F:FileT) {i:Nat}(ht:takeI F.v F.I=some i):Frm F (F.took i):=by
 have h:=(takeI_some ht).1;unfold dataOf at h;refine⟨rfl,rfl,took_v_len F i,λm h1 h2 h3=>?_⟩;show inoAt (takenV F.v i) m=_;unfold takenV;rw[inoAt_set _ _ (by omega),inoAt_set _ _ (by omega)]
theorem two2L_len (b:Int):(two2L b).length=2:=rfl
theorem FileOk.named {F:FileT}(h:FileOk F) {k:Nat}(hk:k<70) {b:Int}(h0:0<=b) (h1:b<65536):FileOk (F.named k b)/\Frm F (F.named k b):=by
 unfold FileT.named;split
 ·have h2:=h.setX (j:=4+k) (by omega) (by omega) h0 h1;exact⟨h2.keep,(Frm.setX F _ _).trans (Frm.keep h2)⟩
 ·split
  ·rename_i hi;obtain⟨h2,h3⟩:=isB_le hi;have hpl:=plan_bd h.good.plan;exact⟨h.lay (by omega) (by omega) (by rw[two2L_len];omega),Frm.lay F (by omega)⟩
  ·exact⟨h,Frm.refl F⟩
theorem FileOk.withInd {F F1:FileT}(h:FileOk F) {k:Nat}(hw:F.withInd k=some F1):FileOk F1/\Frm F F1:=by
 unfold FileT.withInd at hw;split at hw
 ·cases ht:takeI F.v F.I with
  | none=>rw[ht]at hw;cases hw
  | some i => rw[ht]at hw;injection hw with hw;subst hw;have hi:=take_lt h.good ht;have h2:=(h.took ht).setX (j:=10) (by omega) (by omega) (b:=(i:Int)) (by omega) (by omega);exact⟨h2.keep,((Frm.took F ht).trans (Frm.setX _ _ _)).trans (Frm.keep h2)⟩
 ·injection hw with hw;subst hw;exact⟨h,Frm.refl F⟩
theorem FileOk.placed {F:FileT}(h:FileOk F) {k:Nat}(hk:k<70):FileOk (F.placed k).1/\Frm F (F.placed k).1/\((F.placed k).2.2=0->∃q:Nat,(F.placed k).2.1=(q:Int)/\3+(F.I+1)/2<=(q:Int)/\q<F.v.length):=by
 by_cases ha:atP F.v F.I F.x k= -1
 ·cases hw:F.withInd k with
  | none=>rw[placed_full ha hw];exact⟨h,Frm.refl F,λh=>absurd h (by simp)⟩
  | some F1 =>
   obtain⟨h1,f1⟩:=h.withInd hw;cases ht:takeI F1.v F1.I with
   | none=>rw[placed_full2 ha hw ht];exact⟨h1,f1,λh=>absurd h (by simp)⟩
   | some i =>
    rw[placed_new ha hw ht];have hi:=take_lt h1.good ht;obtain⟨t1,t2,_⟩:=takeI_some ht;obtain⟨h2,f2⟩:=(h1.took ht).named hk (b:=(i:Int)) (by omega) (by omega);refine⟨h2,(f1.trans (Frm.took F1 ht)).trans f2,λ_=>⟨i,rfl,?_,?_⟩⟩
    ·unfold dataOf at t1;rw[f1.I]at t1;exact t1
    ·rw[← f1.len];exact t2
 ·rw[placed_has ha];obtain⟨h1,h2⟩:=isB_le (isB_of ha);have hpl:=plan_bd h.good.plan;exact⟨h,Frm.refl F,λ_=>⟨(atP F.v F.I F.x k).toNat,by simp only;omega,by omega,by omega⟩⟩
theorem FileOk.wr {off:Nat}{d:List UInt8}(he:off+d.length<=8960) (m:Nat):∀(p:Nat) (F:FileT),off+d.length-p<=m->off<=p->FileOk F->FileOk (F.wr off d p).1/\Frm F (F.wr off d p).1:=by
 induction m with
 | zero => intro p F hm hp h;rw[wr_done (by omega)];exact⟨h,Frm.refl F⟩
 | succ m ih =>
  intro p F hm hp h;by_cases hlt:p<off+d.length
  ·obtain⟨h1,f1,hq⟩:=h.placed (k:=p/128) (by omega);by_cases h0:(F.placed (p/128)).2.2=0
   ·rw[wr_on hlt h0];obtain⟨q,hq0,hq1,hq2⟩:=hq h0;have hmod:=Nat.mod_lt p (show 128 > 0 by omega);rw[hq0,Int.toNat_natCast];have hq3:3<=q:=by have hpl:=plan_bd h.good.plan;omega
    clear hq;have h2:=h1.lay (q:=q) (p:=p%128) (d:=(d.drop (p-off)).take (min (128-p%128) (off+d.length-p))) hq3 (by rw[f1.len];exact hq2) (by rw[List.length_take,List.length_drop];omega);have f2:=Frm.lay (F.placed (p/128)).1 (q:=q) (p:=p%128) (d:=(d.drop (p-off)).take (min (128-p%128) (off+d.length-p))) (by rw[f1.I];exact hq1);obtain⟨h3,f3⟩:=ih (p+min (128-p%128) (off+d.length-p)) _ (by omega) (by omega) h2;exact⟨h3,(f1.trans f2).trans f3⟩
   ·rw[wr_full hlt h0];exact⟨h1,f1⟩
  ·rw[wr_done hlt];exact⟨h,Frm.refl F⟩
theorem FileOk.of {v:List (List UInt8)}{I k:Int}(hg:Good v I) (h1:1<=k) (h2:k<=I):FileOk (fileOf v I k):=⟨hg,h1,h2,inoAt_len v k,fits_ino _ _⟩
end Go.Proofs.YtfaplefkakpgcaaGreatDoor
namespace Go.Proofs.YtfaplefkakpgcaaGreatDoor
open Go.Proofs.Tryz
open Go.RowKit Go.Shelf
attribute [local go_sem] Oper.semAt_some
theorem fread_less (A:Option Addr) (n c:Nat) (v:List (List UInt8)) (I k:Int) (off size:Nat) (w:World) (hv:Strs w A n v) (hg:Good v I) (hk1:1<=k) (hk2:k<=I) (hin:(off:Int)<sizeP (fileOf v I k).x) (hsz:(size:Int)<=9223372036854775807) (hend:(size:Int)<sizeP (fileOf v I k).x-(off:Int)) :
  Calls prog 60 #[.slice A n c,.int .i64 k,.int .i64 (off:Int),.int .i64 (size:Int)] w λe w'=>e=.returned (.tuple #[.string (str (readP (fileOf v I k) off size)),.int .i64 0])/\Ext w w':=by
 have HO:=lh_ (λw h=>opened_yes A n c v I k w h hg hk1 hk2);have HFO:=lh_ (λ(B g:Nat) (w:World) (s:Sl) hB hs hbx own=>FileIn.of_opened (B:=B) (w:=w) (g:=g) (s:=s) hg hk1 hk2 hB hs hbx own);have HV:=lh_ hv;clear hv hg hk1 hk2;generalize hG:w.heap.size=G at *;refine(callsIn_wide (n:=6)).1 ?_;refine callsIn_of_wp_marks func60 rfl trivial ?_ rfl;simp only[ntmps60,List.size_toArray,List.length_cons,List.length_nil,Nat.reduceAdd,Nat.reduceSub,Array.replicate_succ,Array.replicate_zero,List.push_toArray,List.append_toArray,List.nil_append,List.cons_append];refine wpIn_wide.2 ?_;have b6:=Box.new w 3 #[.int .i64 (off:Int)];have x6:Ext w (w.alloc (.cells #[.int .i64 (off:Int)] 3)):=(Ext.refl w).alloc _;have HV1:=lh_ (HV.out.ext x6);go_upto_region 1 with fail;rw[hG]at b6;have hG6:G+1<=(w.alloc (.cells #[.int .i64 (off:Int)] 3)).heap.size:=by rw[World.size_alloc,hG];exact Nat.le_refl _
 generalize w.alloc (.cells #[.int .i64 (off:Int)] 3)=w1 at *
 go_upto_region 2 with(first
  | (go_at_call 115;refine(HO.out _ HV1.out).mono ?_;rintro e w2 ⟨⟨s,rfl,hsn,own2⟩,x2⟩)
  | (refine wp_st_file (.tmp 10) (.tmp 22) rfl rfl w2.heap.size s (fileOf v I k) _ 162 rfl rfl (Box.new _ _ _) rfl ?_;intro w3 b3 g3))
 have xa:Ext w2 (w2.alloc (.cells fileZ 162)):=(Ext.refl w2).alloc _;have x23:Ext w2 w3:=xa.grown g3 (λj e=>by cases e;exact Nat.le_refl _);have own3:=(own_ext own2 xa).kept g3 (.inr (own_ne (own_ext own2 xa) (Box.new w2 162 fileZ) (by decide)).symm);have hF0:=HFO.out w1.heap.size w2.heap.size w3 s x2.size hsn b3 own3;have HX:=lh_ (x6.trans (x2.trans x23));have b63:=(b6.ext x2).ext x23;have hle2:=x2.size;clear HO HFO HV HV1 own2 hsn b3 own3 xa x23 x2 g3 b6 x6;generalize hg2:w2.heap.size=g at *;generalize hFO:fileOf v I k=F at *;have HFE:=lh_ hFO;clear hFO hg2;obtain⟨hOk,hBg,b,cap,hbx,own⟩:=hF0;generalize fileC s ⟨v,I,k,inoAt v k⟩=fc at *;have hr:=own_strsN own;have HSz:=lh_ (λw h=>fsize_any g ⟨some ⟨b,0,none⟩,F.v.length,cap⟩ F w h);have hz1:sizeP F.x<=8960:=by unfold sizeP;omega
 have d1:decide ((off:Int)<0)=false:=by simp
 have d2:decide ((size:Int)<0)=false:=by simp
 have hcell6:=b63.cell 0;have HRD:=lh_ (show readP F off size=(List.range (min (blocksP ((off:Int)+(size:Int))) 70)).flatMap (pieceP F off ((off:Int)+(size:Int))) from by unfold readP endP;rw[if_pos (by omega)]);generalize hzz:sizeP F.x=z at *;have d3:decide (z<=(off:Int))=false:=by simp;omega
 have d4:decide ((size:Int)<z-(off:Int))=true:=by simp;omega
 have wad:IntKind.i64.wrap ((off:Int)+(size:Int))=(off:Int)+(size:Int):=by rw[IntKind.wrap_i64];omega
 have hez:(off:Int)+(size:Int)<=8960:=by omega
 have hez0:(0:Int)<=(off:Int)+(size:Int):=by omega
 have w9:IntKind.i64.wrap (z-(off:Int))=z-(off:Int):=by rw[IntKind.wrap_i64];omega
 have x34:Ext w3 (w3.alloc (.cells #[.int .i64 z] 3)):=(Ext.refl w3).alloc _;have b12:=Box.new w3 3 #[.int .i64 z];have b6a:=b63.ext x34;have hbxa:=hbx.ext x34;have c6a:(w3.alloc (.cells #[.int .i64 z] 3)).cell? ⟨G,0,none⟩=some (.int .i64 (off:Int)):=b6a.cell 0;have c12:(w3.alloc (.cells #[.int .i64 z] 3)).cell? ⟨w3.heap.size,0,none⟩=some (.int .i64 z):=b12.cell 0;go_upto_region 7 with(go_at_call 116;(have hq:=HSz.out _ hbx;with_reducible (refine hq.mono ?_));clear hq;rintro e w6 ⟨rfl,rfl⟩)
 have b12f:=b12.frozen 0;have hlt3:=hbx.lt;have h63:=b63.lt;have hbE:b<w3.heap.size:=by
  rcases own.2 with⟨h,_⟩|⟨g',cap',cur,e,_,hh,_⟩
  ·cases h
  ·injection e with e1 _ _;injection e1 with e1;injection e1 with e1 _ _;subst e1;exact(Array.getElem?_eq_some_iff.1 hh).1
 go_upto_region 11 with fail;have x34':Ext w3 (w3.alloc (.cells #[.int .i64 ((off:Int)+(size:Int))] 3)):=(Ext.refl w3).alloc _;have b12':=Box.new w3 3 #[.int .i64 ((off:Int)+(size:Int))];have z12:(w3.alloc (.cells #[.int .i64 ((off:Int)+(size:Int))] 3)).heap.size=w3.heap.size+1:=World.size_alloc _ _;clear b6a hbxa c6a c12 b12f b12 x34;generalize w3.alloc (.cells #[.int .i64 ((off:Int)+(size:Int))] 3)=wq at *;have b12:Box wq w3.heap.size 3 #[.int .i64 ((off:Int)+(size:Int))]:=b12';have b6a:=b63.ext x34';have hbxa:=hbx.ext x34';have hrr:=hr.ext x34';have c6a:wq.cell? ⟨G,0,none⟩=some (.int .i64 (off:Int)):=b6a.cell 0;have c12:wq.cell? ⟨w3.heap.size,0,none⟩=some (.int .i64 ((off:Int)+(size:Int))):=b12.cell 0;have HX4:=lh_ (HX.out.trans x34');have FB:=bld_fresh wq;rw[z12]at FB;clear hbx b63 x34' b12' HX hcell6 hr own HSz;obtain⟨ez,hezq⟩:∃ez:Int,ez=(off:Int)+(size:Int):=⟨_,rfl⟩
 have HEZ:=lh_ hezq;have w10:IntKind.i64.wrap ((off:Int)+(size:Int)+128)=(off:Int)+(size:Int)+128:=by rw[IntKind.wrap_i64];omega
 have w11:IntKind.i64.wrap ((off:Int)+(size:Int)+128-1)=(off:Int)+(size:Int)+127:=by rw[IntKind.wrap_i64];omega
 clear hezq;have xB:Ext wq (wq.alloc (.cells #[.pointer none,.slice none 0 0] 169)):=(Ext.refl _).alloc _;have b12B:=b12.ext xB;have b6B:=b6a.ext xB;have hbxB:=hbxa.ext xB;have hrB:=hrr.ext xB;have HXB:=lh_ (HX4.out.trans xB);have zB:(wq.alloc (.cells #[.pointer none,.slice none 0 0] 169)).heap.size=w3.heap.size+2:=by rw[World.size_alloc,z12]
 have hCP:((((off:Int)+(size:Int))+127)/128:Int)=(blocksP ((off:Int)+(size:Int)):Nat):=by unfold blocksP;omega
 have hCT:Int.tdiv (((off:Int)+(size:Int))+127) 128=(blocksP ((off:Int)+(size:Int)):Nat):=by rw[Int.tdiv_eq_ediv_of_nonneg (by omega)];exact hCP
 have hC70:blocksP ((off:Int)+(size:Int))<=70:=by unfold blocksP;omega
 generalize hbl:blocksP ((off:Int)+(size:Int))=cb at *;have HFI:=lh_ (ffirst_any g ⟨some ⟨b,0,none⟩,F.v.length,cap⟩ F (cb:Int) _ hbxB hrB hOk);have c12B:=b12B.cell 0;go_upto_region 12 with fail;clear xB b12 b6a hbxa hrr HX4 c6a c12 z12;generalize wq.alloc (.cells #[.pointer none,.slice none 0 0] 169)=wB at *;generalize hE:w3.heap.size=E at *;clear hE w3;go_wp2_with (go_at_call 117;refine HFI.out.mono ?_;rintro e w5 ⟨⟨b1,b2,rfl,hb1,hb2,le1,le2,ne12⟩,x5⟩)
 refine(wpIn_wide (n:=6)).1 ?_;gi_wp2_with fail;have hXE:∀W,Below (E+1) wB W->Ext w W:=λW h=>HXB.out.under h (by omega);have hBB:∀W,Below (E+1) wB W->Box W G 3 #[.int .i64 (off:Int)]/\Box W E 3 #[.int .i64 ((off:Int)+(size:Int))]/\Box W g 162 (fileC ⟨some ⟨b,0,none⟩,F.v.length,cap⟩ F):=λW h => ⟨(h.block G (by omega)).trans b6B,(h.block E (by omega)).trans b12B,(h.block g (by omega)).trans hbxB⟩
 have hSS:∀W,Below (E+1) wB W->Strs W (some ⟨b,0,none⟩) F.v.length F.v:=λW h=>strs_same hrB (h.block b (by omega));have x5B:Below (E+1) wB w5:=Below.mono x5 (by omega);have FB5:BldS (E+1) (E+1) [] w5:=BldS.ext (.inl ⟨FB,rfl⟩) x5;have hs5:=x5.size;have HAt:=lh_ (show∀x,pieceP F off ((off:Int)+(size:Int)) x=if toP ((off:Int)+(size:Int)) x<=fromP off x then [] else if atP F.v F.I F.x x= -1 then zs (toP ((off:Int)+(size:Int)) x-fromP off x).toNat else ((F.v.getD (atP F.v F.I F.x x).toNat []).drop (fromP off x).toNat).take (toP ((off:Int)+(size:Int)) x-fromP off x).toNat fromλx=>rfl);have HQ:=lh_ (λx (h:atP F.v F.I F.x x≠-1)=>isB_le (isB_of h));have HPC:=lh_ (piece_le F off ((off:Int)+(size:Int)));have hGd:=lh_ hOk.good;have hdt:(0:Int)<=3+(F.I+1)/2:=by have:=plan_bd hOk.good.plan;omega
 generalize pieceP F off ((off:Int)+(size:Int))=pc at *;generalize atP F.v F.I F.x=f at *;clear HFI b6B b12B hbxB hrB c12B x5 FB d1 d2 d3 d4 w9 w10 w11 hCP hCT
 refine wpIn_rangeFunc_ownH rfl (by decide) (gf:=182) (lb:=#[.pointer (some ⟨b1,0,none⟩),.pointer (some ⟨b2,0,none⟩)]) rfl trivial (enters_of func182 (by kernel_rfl) rfl)
  (first_stops 5 (by decide) b1 b2 cb f w5 hb1 hb2) KpB.trans KpB.book (Below.refl _ _) (λ_=>rfl)
  (λpre W=>Below (E+1) wB W/\BldS (E+1) (E+1) (pre.flatMap pc) W/\pre.length<=70/\Box W b1 237 (partC f 70)/\Box W b2 3 #[.int .i64 (cb:Int)])
  (λ_ _ _=>False)
  (OwnFrom.and (ownFrom_below (by omega) (by omega)) (OwnFrom.and (Own.from (bldS_own _ _ _) _) (OwnFrom.and (ownFrom_pure _ _) (OwnFrom.and (Own.from (box_own _ _ _) _) (Own.from (box_own _ _ _) _)))))
  (λ_ _ _ _ _ hs _ _=>hs) ⟨x5B,FB5,by simp,hb1,hb2⟩
  (λx a' W=>a'={ tmps:=#[.slice A n c,.int .i64 k,.int .i64 (off:Int),.int .i64 (size:Int),undef,undef,.pointer (some ⟨G,0,none⟩),undef,.string ⟨#[]⟩,.int .i64 0,.pointer (some ⟨g,0,none⟩),.int .i64 0,.pointer (some ⟨E,0,none⟩),.pointer (some ⟨E+1,0,none⟩),.int .i64 (x:Int),.int .i64 (f x),undef,undef,.tuple #[.agg fc,.int .i64 0],.slice A n c,.int .i64 k,.tuple #[.agg fc,.int .i64 0],.agg fc,.int .i64 0,.int .i64 0,.bool false,undef,.int .i64 (off:Int),.bool false,.bool false,.int .i64 (size:Int),.bool false,.bool false,.int .i64 z,.int .i64 (off:Int),.int .i64 z,.bool false,.int .i64 (size:Int),.int .i64 z,.int .i64 (off:Int),.int .i64 (z-(off:Int)),.bool true,.int .i64 (off:Int),.int .i64 (size:Int),.int .i64 ((off:Int)+(size:Int)),.int .i64 ((off:Int)+(size:Int)),.int .i64 ((off:Int)+(size:Int)+128),.int .i64 ((off:Int)+(size:Int)+127),.int .i64 (cb:Int),.func (.func 182) #[] #[.pointer (some ⟨b1,0,none⟩),.pointer (some ⟨b2,0,none⟩)],.int .i64 (x:Int),.int .i64 (f x),undef,undef,undef,undef,undef,undef,undef,undef,undef,undef,undef,undef,undef,undef,undef,undef,undef,undef,undef,undef,undef,undef,undef,undef,undef,undef,undef,undef,undef,undef],defers:=[] })
  (λx a' _ X Y row hs hg hr=>hs) ?assign ?body ?done ?stop
 case assign => rintro l pre x W K ⟨i1,i2,i3,i4,i5⟩ hK;simp only[benc];gi_wp2;exact hK _ _ (keeps_ext (Ext.refl W)) (KpB.ext (Ext.refl W)) ⟨i1,i2,i3,i4,i5⟩ rfl
 case body =>
  rintro l pre x a' W hl0 ⟨r,hr⟩ ⟨i1,i2,i3,i4,i5⟩ rfl hlt70;obtain⟨j1,j2,j3⟩:=hBB W i1;have c6:W.cell? ⟨G,0,none⟩=some (.int .i64 (off:Int)):=j1.cell 0;have c12:W.cell? ⟨E,0,none⟩=some (.int .i64 ((off:Int)+(size:Int))):=j2.cell 0;gi_wp2
  -- WEB BEGINS
  refine wpIn_round_web' 12 [[],[],[1],[0,2],[3],[],[],[6],[5,7],[8],[4],[9]] (listV [isV (.int .i64 ((off:Int))),isV (.int .i64 ((x:Int))),isV (.int .i64 (wrap64 ((x:Int)*128))),isV (.int .i64 (wrap64 ((off:Int)-wrap64 ((x:Int)*128)))),isV (.int .i64 (fromP off x)),isV (.int .i64 (((off:Int)+(size:Int)))),isV (.int .i64 ((x:Int))),isV (.int .i64 (wrap64 ((x:Int)*128))),isV (.int .i64 (wrap64 (((off:Int)+(size:Int))-wrap64 ((x:Int)*128)))),isV (.int .i64 (toP ((off:Int)+(size:Int)) x)),isV (.int .i64 (fromP off x)),isV (.int .i64 (toP ((off:Int)+(size:Int)) x))]) (by rintro⟨_,_,h⟩;exact h) (by kernel_rfl) (by kernel_rfl) (by kernel_rfl) (listV_ext (λp hp=>by simp only[List.mem_cons,List.not_mem_nil,or_false]at hp;rcases hp with rfl|rfl|rfl|rfl|rfl|rfl|rfl|rfl|rfl|rfl|rfl|rfl<;>first|exact lasts_is _)) (λus=>?_);simp only[List.take_succ_cons,List.take_zero,List.drop_succ_cons,List.drop_zero];rw[mWalk];refine And.intro (λw' hx hd=>?_) ?_
  ·clear hd;have e6:=hx.keep c6;have e12:=hx.keep c12;refine web_of_list 52 rfl (by simp) rfl ?_;go_wp2_with fail;exact⟨Ext.refl _,rfl⟩
  simp only[pS_,pN_,sA_,s0_,s1_];rw[mWalk];refine And.intro (λw' hx hd=>?_) ?_
  ·clear hd;refine web_of_list 53 rfl (by simp[Act.put]) rfl ?_;go_wp2_with fail;exact⟨Ext.refl _,rfl⟩
  simp only[pS_,pN_,sA_,s0_,s1_];rw[mWalk];refine And.intro (λw' hx hd=>?_) ?_
  ·have h1:=hd 1 (by simp);clear hd;generalize us 1=u1 at *;obtain rfl:u1=.int .i64 ((x:Int)):=h1;refine web_of_list 54 rfl (by simp[Act.put]) rfl ?_;go_wp2_with fail;exact⟨Ext.refl _,rfl⟩
  simp only[pS_,pN_,sA_,s0_,s1_];rw[mWalk];refine And.intro (λw' hx hd=>?_) ?_
  ·have h0:=hd 0 (by simp);have h2:=hd 2 (by simp);clear hd;generalize us 0=u0 at *;generalize us 2=u2 at *;obtain rfl:u0=.int .i64 ((off:Int)):=h0;obtain rfl:u2=.int .i64 (wrap64 ((x:Int)*128)):=h2;refine web_of_list 55 rfl (by simp[Act.put]) rfl ?_;go_wp2_with fail;exact⟨Ext.refl _,rfl⟩
  simp only[pS_,pN_,sA_,s0_,s1_];rw[mWalk];refine And.intro (λw' hx hd=>?_) ?_
  ·have h3:=hd 3 (by simp);clear hd;generalize us 3=u3 at *;obtain rfl:u3=.int .i64 (wrap64 ((off:Int)-wrap64 ((x:Int)*128))):=h3;refine web_of_list 56 rfl (by simp[Act.put]) rfl ?_;go_wp2_with fail;exact⟨Ext.refl _,rfl⟩
  simp only[pS_,pN_,sA_,s0_,s1_];rw[mWalk];refine And.intro (λw' hx hd=>?_) ?_
  ·clear hd;have e6:=hx.keep c6;have e12:=hx.keep c12;refine web_of_list 57 rfl (by simp[Act.put]) rfl ?_;go_wp2_with fail;exact⟨Ext.refl _,rfl⟩
  simp only[pS_,pN_,sA_,s0_,s1_];rw[mWalk];refine And.intro (λw' hx hd=>?_) ?_
  ·clear hd;refine web_of_list 58 rfl (by simp[Act.put]) rfl ?_;go_wp2_with fail;exact⟨Ext.refl _,rfl⟩
  simp only[pS_,pN_,sA_,s0_,s1_];rw[mWalk];refine And.intro (λw' hx hd=>?_) ?_
  ·have h6:=hd 6 (by simp);clear hd;generalize us 6=u6 at *;obtain rfl:u6=.int .i64 ((x:Int)):=h6;refine web_of_list 59 rfl (by simp[Act.put]) rfl ?_;go_wp2_with fail;exact⟨Ext.refl _,rfl⟩
  simp only[pS_,pN_,sA_,s0_,s1_];rw[mWalk];refine And.intro (λw' hx hd=>?_) ?_
  ·have h5:=hd 5 (by simp);have h7:=hd 7 (by simp);clear hd;generalize us 5=u5 at *;generalize us 7=u7 at *;obtain rfl:u5=.int .i64 (((off:Int)+(size:Int))):=h5;obtain rfl:u7=.int .i64 (wrap64 ((x:Int)*128)):=h7;refine web_of_list 60 rfl (by simp[Act.put]) rfl ?_;go_wp2_with fail;exact⟨Ext.refl _,rfl⟩
  simp only[pS_,pN_,sA_,s0_,s1_];rw[mWalk];refine And.intro (λw' hx hd=>?_) ?_
  ·have h8:=hd 8 (by simp);clear hd;generalize us 8=u8 at *;obtain rfl:u8=.int .i64 (wrap64 (((off:Int)+(size:Int))-wrap64 ((x:Int)*128))):=h8;refine web_of_list 61 rfl (by simp[Act.put]) rfl ?_;go_wp2_with fail;exact⟨Ext.refl _,rfl⟩
  simp only[pS_,pN_,sA_,s0_,s1_];rw[mWalk];refine And.intro (λw' hx hd=>?_) ?_
  ·have h4:=hd 4 (by simp);clear hd;generalize us 4=u4 at *;obtain rfl:u4=.int .i64 (fromP off x):=h4;refine web_of_list 16 rfl (by simp[Act.put]) rfl ?_;go_wp2_with fail;exact⟨Ext.refl _,rfl⟩
  simp only[pS_,pN_,sA_,s0_,s1_];rw[mWalk];refine And.intro (λw' hx hd=>?_) ?_
  ·have h9:=hd 9 (by simp);clear hd;generalize us 9=u9 at *;obtain rfl:u9=.int .i64 (toP ((off:Int)+(size:Int)) x):=h9;refine web_of_list 17 rfl (by simp[Act.put]) rfl ?_;go_wp2_with fail;exact⟨Ext.refl _,rfl⟩
  simp only[pS_,pN_,sA_,s0_,s1_];rw[mWalk];intro w' hx hv;have h10:=hv 10 (by omega);have h11:=hv 11 (by omega);clear hv;generalize us 10=u10 at *;generalize us 11=u11 at *;obtain rfl:u10=.int .i64 (fromP off x):=h10;obtain rfl:u11=.int .i64 (toP ((off:Int)+(size:Int)) x):=h11;have HW:=lh_ hx;go_wp2_with fail;have hpx:=HAt.out x;have hfr0:0<=fromP off x:=Int.le_max_right _ _;have hto0:toP ((off:Int)+(size:Int)) x<=128:=Int.min_le_right _ _;have i1':Below (E+1) wB w':=Below.trans i1 (Below.mono HW.out (by have:=i1.size;omega));have i2':=i2.ext HW.out;have j3':=j3.ext HW.out;have hpl:=flatpc_le HPC.out pre;have hszW:=i1'.size;clear hx c6 c12 j1 j2 j3;generalize fromP off x=fr at *;generalize toP ((off:Int)+(size:Int)) x=tt at *;by_cases hc:tt<=fr
  ·rw[if_pos hc]at hpx;gi_wp2_with fail;refine⟨keeps_ext HW.out,KpB.ext HW.out,i1',?_,by simp;omega,i4.ext HW.out,i5.ext HW.out⟩;rw[List.flatMap_append,List.flatMap_singleton,hpx,List.append_nil];exact i2'
  rw[if_neg hc]at hpx;obtain⟨fa,rfl⟩:∃k:Nat,fr=(k:Int):=⟨fr.toNat,by omega⟩
  obtain⟨ta,rfl⟩:∃k:Nat,tt=(k:Int):=⟨tt.toNat,by omega⟩
  have hlt1:fa<ta:=by omega
  have hlt2:ta<=128:=by omega
  have hm:((ta:Int)-(fa:Int)).toNat=ta-fa:=by omega
  rw[hm,Int.toNat_natCast]at hpx;by_cases hq:f x= -1
  ·rw[if_pos hq]at hpx;rw[hq];have hw:IntKind.i64.wrap ((ta:Int)-(fa:Int))=((ta-fa:Nat):Int):=by rw[IntKind.wrap_i64];omega
   have HR:=lh_ (λw=>repeat_any (ta-fa) w (by omega));have HS:=lh_ (λw2 (x2:Ext w' w2)=>writeString_keeps (E+1) (E+1) (pre.flatMap pc) (zs (ta-fa)) w2 (i2'.ext x2) (by have:=x2.size;omega) (by omega) (by simp[zs];omega));have HP:=lh_ hpx;clear hpx hq hm;generalize hmm:ta-fa=m at *;clear hmm
   gi_wp2_with (first
    | (refine⟨trivial,?_⟩;gi_at_call 119;refine(CallsIn.inRound l (callsIn_wide.2 (HR.out _))).mono ?_;rintro e w2 ⟨rfl,x2⟩)
    | (refine⟨trivial,?_⟩;gi_at_call 118;refine(CallsIn.inRound l (callsIn_wide.2 (HS.out _ x2))).mono ?_;rintro e w3 ⟨rfl,f3,q3,k3⟩))
   have x12:=HW.out.trans x2;obtain⟨cs,hcs⟩:=(i2'.ext x2).isCells;have k4:=i4.ext x12;have k5:=i5.ext x12;have hk:=KpB.others k3 (show b1≠E+1 by omega) (show b2≠E+1 by omega) (λcs t e=>by rw[show w2.heap[b1]? =_ from k4]at e;cases e;decide) (λcs t e=>by rw[show w2.heap[b2]? =_ from k5]at e;cases e;decide);refine⟨(keeps_ext x12).trans (keeps_others k3 hcs q3.size),(KpB.ext x12).trans hk,(i1'.trans (Below.mono x2 (by omega))).trans q3,?_,by simp;omega,(hk _ _).1 k4,(hk _ _).2 k5⟩;rw[List.flatMap_append,List.flatMap_singleton,HP.out];exact .inr f3
  rw[if_neg hq]at hpx;have hqb:=HQ.out x hq;have hss:=hSS w' i1';have cv:w'.cell? ⟨g,0,none⟩=some (.slice (some ⟨b,0,none⟩) F.v.length cap):=j3'.cell 0;obtain⟨b',o',he,hcell⟩:=hss.2 (by omega);cases he;obtain⟨qn,hqn⟩:∃q:Nat,f x=(q:Int):=⟨(f x).toNat,by omega⟩
  rw[hqn]at hqb hpx;rw[hqn];have cb:w'.cell? ⟨b,qn,none⟩=some (.string (str (F.v.getD qn []))):=by have:=cell_getD hcell (k:=qn) (by omega);rwa [Nat.zero_add]at this
  have hbl:(F.v.getD qn []).length=128:=getD_len hGd.out (by omega);rw[Int.toNat_natCast]at hpx;clear hcell hss hq;have hqs:(qn:Int)<(F.v.length:Int):=hqb.2;generalize F.v.getD qn []=blk at *;have hsb:(str blk).size=128:=by rw[str_size,hbl]
  have HS:=lh_ (show Calls prog 118 #[.pointer (some ⟨E+1,0,none⟩),.string ((str blk).extract fa ta)] w' _ from by
   rw[str_ext];exact writeString_keeps (E+1) (E+1) (pre.flatMap pc) ((blk.drop fa).take (ta-fa)) w' i2' (by omega) (by omega) (by simp;omega))
  have HP:=lh_ hpx;clear hpx hm hqn hc hqb;gi_wp2_with (refine⟨trivial,?_⟩;gi_at_call 118;refine(CallsIn.inRound l (callsIn_wide.2 HS.out)).mono ?_;rintro e w3 ⟨rfl,f3,q3,k3⟩)
  have x12:=HW.out;obtain⟨cs,hcs⟩:=i2'.isCells;have k4:=i4.ext x12;have k5:=i5.ext x12;have hk:=KpB.others k3 (show b1≠E+1 by omega) (show b2≠E+1 by omega) (λcs t e=>by rw[show w'.heap[b1]? =_ from k4]at e;cases e;decide) (λcs t e=>by rw[show w'.heap[b2]? =_ from k5]at e;cases e;decide);refine⟨(keeps_ext x12).trans (keeps_others k3 hcs q3.size),(KpB.ext x12).trans hk,i1'.trans q3,?_,by simp;omega,(hk _ _).1 k4,(hk _ _).2 k5⟩;rw[List.flatMap_append,List.flatMap_singleton,HP.out];exact .inr f3
  -- WEB ENDS
 case done =>
  rintro D ys W hD hys ⟨i1,i2,i3,i4,i5⟩ hK;subst hys;have HS:=lh_ (bldS_string (E+1) (E+1) _ W i2 (by have:=i1.size;omega));have HE:=lh_ HRD.out;clear HRD;have i1s:=i1.size;generalize (List.range (min cb 70)).flatMap pc=R at *;gi_wp2_with fail;go_wp2_with (go_at_call 120;refine HS.out.mono ?_;rintro e w6 ⟨rfl,q6,k6⟩)
  obtain⟨cs,hcs⟩:=i2.isCells;have hK6:=(keeps_others (B:=E+1) k6 hcs q6.size).2 D _ (by omega) hK rfl;refine⟨by simp,.inl ⟨_,_,rfl,run_takeDeferred hK6,?_⟩⟩;exact⟨_,results_tmp2 rfl _ _ _,by rw[HFE.out,HE.out];simp,(hXE _ (i1.trans q6)).putObj (.deferred none) hK6 (by have:=HXB.out.size;omega)⟩
 case stop => rintro D c pre W hD _ h;exact h.elim
end Go.Proofs.YtfaplefkakpgcaaGreatDoor
namespace Go.Proofs.YtfaplefkakpgcaaGreatDoor
open Go.Proofs.Tryz
open Go.RowKit
def readE (v:List (List UInt8)) (I k off size:Int):List UInt8 × Int :=
 if off<0\/size<0 then ([],1) else if sizeP (fileOf v I k).x<=off then ([],0) else (readP (fileOf v I k) off.toNat size.toNat,0)
theorem fread_neg (A:Option Addr) (n c:Nat) (v:List (List UInt8)) (I k off size:Int) (w:World) (hv:Strs w A n v) (hg:Good v I) (hk1:1<=k) (hk2:k<=I) (hneg:off<0\/size<0) :
  Calls prog 60 #[.slice A n c,.int .i64 k,.int .i64 off,.int .i64 size] w λe w'=>e=.returned (.tuple #[.string ⟨#[]⟩,.int .i64 1])/\Ext w w':=by
 have HO:=lh_ (λw h=>opened_yes A n c v I k w h hg hk1 hk2);have HV:=lh_ hv;have x0:Ext w (w.alloc (.cells #[.int .i64 off] 3)):=(Ext.refl w).alloc _;have b0:=Box.new w 3 #[.int .i64 off];clear hv hg hk1 hk2;rcases(by omega:off<0\/(¬off<0/\size<0)) with h1|⟨h1,h2⟩
 ·have d1:decide (off<0)=true:=decide_eq_true h1;clear hneg h1;go_enter func60,ntmps60;go_upto_region 1 with fail;generalize w.alloc (.cells #[.int .i64 off] 3)=w1 at *
  go_wp2_with (first
   | (go_at_call 115;refine(HO.out _ (HV.out.ext x0)).mono ?_;rintro e w2 ⟨⟨s,rfl,hsn,own2⟩,x2⟩;have xa:Ext w2 (w2.alloc (.cells fileZ 162)):=(Ext.refl w2).alloc _)
   | (refine wp_st_file (.tmp 10) (.tmp 22) rfl rfl w2.heap.size s (fileOf v I k) _ 162 rfl rfl (Box.new _ _ _) rfl ?_;intro w3 b3 g3;have x23:Ext w2 w3:=xa.grown g3 (λj e=>by cases e;exact Nat.le_refl _);have c3:w3.cell? ⟨w.heap.size,0,none⟩=some (.int .i64 off):=((b0.ext x2).ext x23).cell 0))
  go_ret2;exact⟨rfl,x0.trans (x2.trans x23)⟩
 ·have d1:decide (off<0)=false:=decide_eq_false h1;have d2:decide (size<0)=true:=decide_eq_true h2;clear hneg h1 h2;go_enter func60,ntmps60;go_upto_region 1 with fail;generalize w.alloc (.cells #[.int .i64 off] 3)=w1 at *
  go_wp2_with (first
   | (go_at_call 115;refine(HO.out _ (HV.out.ext x0)).mono ?_;rintro e w2 ⟨⟨s,rfl,hsn,own2⟩,x2⟩;have xa:Ext w2 (w2.alloc (.cells fileZ 162)):=(Ext.refl w2).alloc _)
   | (refine wp_st_file (.tmp 10) (.tmp 22) rfl rfl w2.heap.size s (fileOf v I k) _ 162 rfl rfl (Box.new _ _ _) rfl ?_;intro w3 b3 g3;have x23:Ext w2 w3:=xa.grown g3 (λj e=>by cases e;exact Nat.le_refl _);have c3:w3.cell? ⟨w.heap.size,0,none⟩=some (.int .i64 off):=((b0.ext x2).ext x23).cell 0))
  go_ret2;exact⟨rfl,x0.trans (x2.trans x23)⟩
theorem fread_any (A:Option Addr) (n c:Nat) (v:List (List UInt8)) (I k off size:Int) (w:World) (hv:Strs w A n v) (hg:Good v I) (hk1:1<=k) (hk2:k<=I) (ho:off<=9223372036854775807) (hs:size<=9223372036854775807) :
  Calls prog 60 #[.slice A n c,.int .i64 k,.int .i64 off,.int .i64 size] w λe w'=>e=.returned (.tuple #[.string (str (readE v I k off size).1),.int .i64 (readE v I k off size).2])/\Ext w w':=by
 unfold readE;by_cases h1:off<0\/size<0
 ·rw[if_pos h1];exact fread_neg A n c v I k off size w hv hg hk1 hk2 h1
 rw[if_neg h1];obtain⟨o,rfl⟩:∃o:Nat,off=(o:Int):=⟨off.toNat,by omega⟩
 obtain⟨s,rfl⟩:∃s:Nat,size=(s:Int):=⟨size.toNat,by omega⟩
 by_cases h2:sizeP (fileOf v I k).x<=(o:Int)
 ·rw[if_pos h2];exact fread_past A n c v I k o s w hv hg hk1 hk2 h2
 rw[if_neg h2];simp only[Int.toNat_natCast];by_cases h3:(s:Int)<sizeP (fileOf v I k).x-(o:Int)
 ·exact fread_less A n c v I k o s w hv hg hk1 hk2 (by omega) hs h3
 ·exact fread_yes A n c v I k o s w hv hg hk1 hk2 (by omega) hs (by omega)
end Go.Proofs.YtfaplefkakpgcaaGreatDoor
