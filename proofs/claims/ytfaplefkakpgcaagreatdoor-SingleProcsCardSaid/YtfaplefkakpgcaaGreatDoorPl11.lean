import Derived.Test.YtfaplefkakpgcaaGreatDoorPl9
import Derived.Test.YtfaplefkakpgcaaGreatDoorPl10
import Derived.Shelf.Abstract
import Derived.Shelf.RegionOpen
import Derived.OwnWalkIn
import Derived.TacticsInMore
import Derived.LoopNIn
import Derived.LoopIn
set_option linter.unusedVariables false
set_option linter.unusedSimpArgs false
set_option maxHeartbeats 32000000
set_option maxRecDepth 100000
namespace Go.Proofs.YtfaplefkakpgcaaGreatDoor
open Go.Proofs.Tryz
open Go.RowKit Go.Shelf
attribute [local go_sem] iN
def Xq (k:Fin 12):Int:=if k.val<2 then 1 else if k.val=3 then 4 else 2
def Yi (k:Fin 12):Nat:=if k.val=0 then 0 else if k.val=1 then 2 else if k.val=2 then 1 else if k.val=3 then 3 else k.val
def tp (g:Nat) (k:Fin 12):Array Value:=#[.agg #[.int .i64 (Xq k),.pointer (some ⟨g,Yi k,none⟩)]]
def KW:List (Fin 12):=[0,1,2,3,4,5,6,7,8,9,10,11]
def MO (W W':World):Prop:=∀(b:Nat) (cs:Array Value) (t:TypeId),W.heap[b]? =some (.cells cs t (0,0))->(t=265\/t=262)->W'.heap[b]? =some (.cells cs t (0,0))
theorem MO.refl (W:World):MO W W:=λ_ _ _ h _=>h
theorem MO.trans {A B C:World}(h:MO A B) (k:MO B C):MO A C:=λb cs t hb ht=>k b cs t (h b cs t hb ht) ht
theorem MO.book {w:World}(W:World) (l:Nat) (o o':Obj) (_:w.heap.size<=l) (h:W.heap[l]? =some o) (hc:o.isCells=false) (_:o.isWalk=false):MO W (W.putObj l o'):=by
 intro b cs t hb _;have Jt:b≠l:=by rintro rfl;rw[h]at hb;cases hb;cases hc
 have:=(grownBy_putObj' W l o').block b (Fa.1 hb).1 (λe=>Jt (by cases e;rfl));exact this.trans hb
theorem MO.ext {W W':World}(h:Ext W W'):MO W W':=λb cs t hb _=>Box.ext hb h
theorem MO.set {A W:World}(h:MO A W) {g:Nat}{t:TypeId}{cs:Array Value}(hg:Box W g t cs) (h1:t≠265) (h2:t≠262) (i:Nat) (u:Value):MO A (W.setCell ⟨g,i,none⟩ u):=by
 intro b cs' t' hb ht;have k:=h b cs' t' hb ht;have Jt:b≠g:=by
  rintro rfl;have FM:W.heap[b]? =some (.cells cs t (0,0)):=hg;rw[k]at FM;injection FM with e;injection e with _ e2;subst e2;rcases ht with h|h
  ·exact h1 h
  ·exact h2 h
 rw[vi W ⟨g,i,none⟩ u b Jt];exact k
theorem K5 {W W':World}(h:Ext W W'):W.grownBy W' none:=by
 have k:Below W.heap.size W W':=h;exact⟨k.os,k.tape,k.output,k.size,λj hj _=>k.block j hj⟩
theorem Sq (g:Nat) (w:World) :
  Calls prog 194 #[.pointer (some ⟨g,0,none⟩)] w λe w'=>e=.returned (.func (.func 222) #[] #[.pointer (some ⟨w.heap.size,0,none⟩)])/\w'=w.alloc (.cells #[.pointer (some ⟨g,0,none⟩)] 262):=by
 go_enter func194,ntmps194;go_wp2_with fail;go_ret;exact⟨rfl,rfl⟩
set_option maxRecDepth 512 in
theorem Sp (n:Nat) (hn:1<=n) (l Bn g:Nat) (J Jx:List (Fin 12)->World->Prop) (W:World) (hJ:AbidesFrom W.heap.size J)
  (hY:∀pre x W1,J pre W1->pre.length<12->YieldAt Fence.wide (n-1) prog l (tp g x) W1 λe W' =>
   (e=.returned (.bool true)/\J (pre++[x]) W'/\MO W1 W')\/(e=.returned (.bool false)/\Jx (pre++[x]) W'))
  (hB:Box W Bn 262 #[.pointer (some ⟨g,0,none⟩)]) (h0:J [] W) :
  CallsIn Fence.wide n prog 222 #[.func (.yield l) #[] #[],.pointer (some ⟨Bn,0,none⟩)] W λe W'=>(∃v,e=.returned v)/\
   ((∃ys,ys=KW/\J ys W')\/(∃pre,True/\Jx pre W')):=by
 have hc:=hB.cell 0;simp only[MR,nT]at hc;refine callsIn_of_wp func222 rfl trivial ?_ rfl;simp only[ntmps222,NS,XN,Mn,Nat.reduceAdd,Nat.reduceSub,nY,nX,nV,nZ,bQ,fu];gi_wp2;gi_region;gi_wp2
 gi_loopw [4,24] (λ_ i wr=>∃k:Nat,k<=4/\i=.int .i64 k/\J (KW.take k) wr/\Box wr Bn 262 #[.pointer (some ⟨g,0,none⟩)]/\
   Box wr W.heap.size 265 #[.int .i64 1,.pointer (some ⟨g,0,none⟩),.int .i64 1,.pointer (some ⟨g,2,none⟩),.int .i64 2,.pointer (some ⟨g,1,none⟩),.int .i64 4,.pointer (some ⟨g,3,none⟩)])
  (λ_ i _=>4-(intOf i).toNat)
 case atStart => have x1:Ext W (W.drew.alloc (.cells #[.int .i64 1,.pointer (some ⟨g,0,none⟩),.int .i64 1,.pointer (some ⟨g,2,none⟩),.int .i64 2,.pointer (some ⟨g,1,none⟩),.int .i64 4,.pointer (some ⟨g,3,none⟩)] 265)):=((Qg W).drew).alloc _;exact⟨0,by omega,rfl,hJ [] _ _ none h0 (K5 x1) (λr e=>by cases e),hB.ext x1,Qs _ _ _⟩
 case round =>
  obtain⟨k,hk,rfl,hJs,hBn,hA⟩:=hrel;have cn:=hBn.cell 0;simp only[MR,nT]at cn;rcases(by omega:k=0\/k=1\/k=2\/k=3\/k=4) with rfl|rfl|rfl|rfl|rfl
  ·have a0:wr.cell? ⟨W.heap.size,0,none⟩=some (.int .i64 1):=hA.cell 0;have a1:wr.cell? ⟨W.heap.size,1,none⟩=some (.pointer (some ⟨g,0,none⟩)):=hA.cell 1;have x1:Ext wr (wr.alloc (.cells #[.int .i64 1,.pointer (some ⟨g,0,none⟩)] 265)):=(Qg wr).alloc _;obtain⟨fn,tmps,assign,body,hy,hR⟩:=hY (KW.take 0) 0 _ (hJ _ _ _ none hJs (K5 x1) (λr e=>by cases e)) (by decide);have SG:(Instr.yield l #[.agg #[.int .i64 1,.pointer (some ⟨g,0,none⟩)]]).run prog (wr.alloc (.cells #[.int .i64 1,.pointer (some ⟨g,0,none⟩)] 265))=.ok (.round l fn tmps assign body) (wr.alloc (.cells #[.int .i64 1,.pointer (some ⟨g,0,none⟩)] 265)):=hy;clear hy;gi_wp2;refine hR.mono ?_;rintro e W3 (⟨rfl,hJ3,hk3⟩|⟨rfl,hJx3⟩)
   ·gi_wp2;go_roundw;case rel=>exact⟨1,by omega,rfl,hJ3,hk3 _ _ _ (hBn.ext x1) (Mp rfl),hk3 _ _ _ (hA.ext x1) (MU rfl)⟩
    case measure=>simp[intOf]
   ·gi_wp2;refine Jv (Cc rfl _ _ _) rfl ?_;exact⟨⟨_,rfl⟩,.inr ⟨_,trivial,hJx3⟩⟩
  ·have a0:wr.cell? ⟨W.heap.size,2,none⟩=some (.int .i64 1):=hA.cell 2;have a1:wr.cell? ⟨W.heap.size,3,none⟩=some (.pointer (some ⟨g,2,none⟩)):=hA.cell 3;have x1:Ext wr (wr.alloc (.cells #[.int .i64 1,.pointer (some ⟨g,2,none⟩)] 265)):=(Qg wr).alloc _;obtain⟨fn,tmps,assign,body,hy,hR⟩:=hY (KW.take 1) 1 _ (hJ _ _ _ none hJs (K5 x1) (λr e=>by cases e)) (by decide);have SG:(Instr.yield l #[.agg #[.int .i64 1,.pointer (some ⟨g,2,none⟩)]]).run prog (wr.alloc (.cells #[.int .i64 1,.pointer (some ⟨g,2,none⟩)] 265))=.ok (.round l fn tmps assign body) (wr.alloc (.cells #[.int .i64 1,.pointer (some ⟨g,2,none⟩)] 265)):=hy;clear hy;gi_wp2;refine hR.mono ?_;rintro e W3 (⟨rfl,hJ3,hk3⟩|⟨rfl,hJx3⟩)
   ·gi_wp2;go_roundw;case rel=>exact⟨2,by omega,rfl,hJ3,hk3 _ _ _ (hBn.ext x1) (Mp rfl),hk3 _ _ _ (hA.ext x1) (MU rfl)⟩
    case measure=>simp[intOf]
   ·gi_wp2;refine Jv (Cc rfl _ _ _) rfl ?_;exact⟨⟨_,rfl⟩,.inr ⟨_,trivial,hJx3⟩⟩
  ·have a0:wr.cell? ⟨W.heap.size,4,none⟩=some (.int .i64 2):=hA.cell 4;have a1:wr.cell? ⟨W.heap.size,5,none⟩=some (.pointer (some ⟨g,1,none⟩)):=hA.cell 5;have x1:Ext wr (wr.alloc (.cells #[.int .i64 2,.pointer (some ⟨g,1,none⟩)] 265)):=(Qg wr).alloc _;obtain⟨fn,tmps,assign,body,hy,hR⟩:=hY (KW.take 2) 2 _ (hJ _ _ _ none hJs (K5 x1) (λr e=>by cases e)) (by decide);have SG:(Instr.yield l #[.agg #[.int .i64 2,.pointer (some ⟨g,1,none⟩)]]).run prog (wr.alloc (.cells #[.int .i64 2,.pointer (some ⟨g,1,none⟩)] 265))=.ok (.round l fn tmps assign body) (wr.alloc (.cells #[.int .i64 2,.pointer (some ⟨g,1,none⟩)] 265)):=hy;clear hy;gi_wp2;refine hR.mono ?_;rintro e W3 (⟨rfl,hJ3,hk3⟩|⟨rfl,hJx3⟩)
   ·gi_wp2;go_roundw;case rel=>exact⟨3,by omega,rfl,hJ3,hk3 _ _ _ (hBn.ext x1) (Mp rfl),hk3 _ _ _ (hA.ext x1) (MU rfl)⟩
    case measure=>simp[intOf]
   ·gi_wp2;refine Jv (Cc rfl _ _ _) rfl ?_;exact⟨⟨_,rfl⟩,.inr ⟨_,trivial,hJx3⟩⟩
  ·have a0:wr.cell? ⟨W.heap.size,6,none⟩=some (.int .i64 4):=hA.cell 6;have a1:wr.cell? ⟨W.heap.size,7,none⟩=some (.pointer (some ⟨g,3,none⟩)):=hA.cell 7;have x1:Ext wr (wr.alloc (.cells #[.int .i64 4,.pointer (some ⟨g,3,none⟩)] 265)):=(Qg wr).alloc _;obtain⟨fn,tmps,assign,body,hy,hR⟩:=hY (KW.take 3) 3 _ (hJ _ _ _ none hJs (K5 x1) (λr e=>by cases e)) (by decide);have SG:(Instr.yield l #[.agg #[.int .i64 4,.pointer (some ⟨g,3,none⟩)]]).run prog (wr.alloc (.cells #[.int .i64 4,.pointer (some ⟨g,3,none⟩)] 265))=.ok (.round l fn tmps assign body) (wr.alloc (.cells #[.int .i64 4,.pointer (some ⟨g,3,none⟩)] 265)):=hy;clear hy;gi_wp2;refine hR.mono ?_;rintro e W3 (⟨rfl,hJ3,hk3⟩|⟨rfl,hJx3⟩)
   ·gi_wp2;go_roundw;case rel=>exact⟨4,by omega,rfl,hJ3,hk3 _ _ _ (hBn.ext x1) (Mp rfl),hk3 _ _ _ (hA.ext x1) (MU rfl)⟩
    case measure=>simp[intOf]
   ·gi_wp2;refine Jv (Cc rfl _ _ _) rfl ?_;exact⟨⟨_,rfl⟩,.inr ⟨_,trivial,hJx3⟩⟩
  ·clear hA;obtain⟨wo,rfl⟩:∃wo:World,wo=wr:=⟨_,rfl⟩
   gi_wp2
   gi_loopw [5,33] (λ_ i wx=>∃k:Nat,k<=6/\i=.int .i64 k/\J (KW.take (4+k)) wx/\Box wx Bn 262 #[.pointer (some ⟨g,0,none⟩)])
    (λ_ i _=>6-(intOf i).toNat)
   case atStart=>exact⟨0,by omega,rfl,hJs,hBn⟩
   case round =>
    clear hJs hBn cn;obtain⟨k,hk,rfl,hJs,hBn⟩:=hrel;have cn:=hBn.cell 0;simp only[MR,nT]at cn;rcases(by omega:k=0\/k=1\/k=2\/k=3\/k=4\/k=5\/k=6) with rfl|rfl|rfl|rfl|rfl|rfl|rfl
    ·obtain⟨fn,tmps,assign,body,hy,hR⟩:=hY (KW.take 4) 4 wr hJs (by decide);have SG:(Instr.yield l #[.agg #[.int .i64 2,.pointer (some ⟨g,4,none⟩)]]).run prog wr=.ok (.round l fn tmps assign body) wr:=hy;clear hy;gi_wp2;refine hR.mono ?_;rintro e W3 (⟨rfl,hJ3,hk3⟩|⟨rfl,hJx3⟩)
     ·gi_wp2;go_roundw;case rel=>first|exact⟨1,by omega,rfl,hJ3,hk3 _ _ _ hBn (Mp rfl)⟩|((repeat apply vx);exact⟨⟨1,by omega,rfl,hJ3,hk3 _ _ _ hBn (Mp rfl)⟩,rfl⟩)
      case measure=>simp[intOf]
     ·gi_wp2;refine Jv (Cc rfl _ _ _) rfl ?_;exact⟨⟨_,rfl⟩,.inr ⟨_,trivial,hJx3⟩⟩
    ·obtain⟨fn,tmps,assign,body,hy,hR⟩:=hY (KW.take 5) 5 wr hJs (by decide);have SG:(Instr.yield l #[.agg #[.int .i64 2,.pointer (some ⟨g,5,none⟩)]]).run prog wr=.ok (.round l fn tmps assign body) wr:=hy;clear hy;gi_wp2;refine hR.mono ?_;rintro e W3 (⟨rfl,hJ3,hk3⟩|⟨rfl,hJx3⟩)
     ·gi_wp2;go_roundw;case rel=>first|exact⟨2,by omega,rfl,hJ3,hk3 _ _ _ hBn (Mp rfl)⟩|((repeat apply vx);exact⟨⟨2,by omega,rfl,hJ3,hk3 _ _ _ hBn (Mp rfl)⟩,rfl⟩)
      case measure=>simp[intOf]
     ·gi_wp2;refine Jv (Cc rfl _ _ _) rfl ?_;exact⟨⟨_,rfl⟩,.inr ⟨_,trivial,hJx3⟩⟩
    ·obtain⟨fn,tmps,assign,body,hy,hR⟩:=hY (KW.take 6) 6 wr hJs (by decide);have SG:(Instr.yield l #[.agg #[.int .i64 2,.pointer (some ⟨g,6,none⟩)]]).run prog wr=.ok (.round l fn tmps assign body) wr:=hy;clear hy;gi_wp2;refine hR.mono ?_;rintro e W3 (⟨rfl,hJ3,hk3⟩|⟨rfl,hJx3⟩)
     ·gi_wp2;go_roundw;case rel=>first|exact⟨3,by omega,rfl,hJ3,hk3 _ _ _ hBn (Mp rfl)⟩|((repeat apply vx);exact⟨⟨3,by omega,rfl,hJ3,hk3 _ _ _ hBn (Mp rfl)⟩,rfl⟩)
      case measure=>simp[intOf]
     ·gi_wp2;refine Jv (Cc rfl _ _ _) rfl ?_;exact⟨⟨_,rfl⟩,.inr ⟨_,trivial,hJx3⟩⟩
    ·obtain⟨fn,tmps,assign,body,hy,hR⟩:=hY (KW.take 7) 7 wr hJs (by decide);have SG:(Instr.yield l #[.agg #[.int .i64 2,.pointer (some ⟨g,7,none⟩)]]).run prog wr=.ok (.round l fn tmps assign body) wr:=hy;clear hy;gi_wp2;refine hR.mono ?_;rintro e W3 (⟨rfl,hJ3,hk3⟩|⟨rfl,hJx3⟩)
     ·gi_wp2;go_roundw;case rel=>first|exact⟨4,by omega,rfl,hJ3,hk3 _ _ _ hBn (Mp rfl)⟩|((repeat apply vx);exact⟨⟨4,by omega,rfl,hJ3,hk3 _ _ _ hBn (Mp rfl)⟩,rfl⟩)
      case measure=>simp[intOf]
     ·gi_wp2;refine Jv (Cc rfl _ _ _) rfl ?_;exact⟨⟨_,rfl⟩,.inr ⟨_,trivial,hJx3⟩⟩
    ·obtain⟨fn,tmps,assign,body,hy,hR⟩:=hY (KW.take 8) 8 wr hJs (by decide);have SG:(Instr.yield l #[.agg #[.int .i64 2,.pointer (some ⟨g,8,none⟩)]]).run prog wr=.ok (.round l fn tmps assign body) wr:=hy;clear hy;gi_wp2;refine hR.mono ?_;rintro e W3 (⟨rfl,hJ3,hk3⟩|⟨rfl,hJx3⟩)
     ·gi_wp2;go_roundw;case rel=>first|exact⟨5,by omega,rfl,hJ3,hk3 _ _ _ hBn (Mp rfl)⟩|((repeat apply vx);exact⟨⟨5,by omega,rfl,hJ3,hk3 _ _ _ hBn (Mp rfl)⟩,rfl⟩)
      case measure=>simp[intOf]
     ·gi_wp2;refine Jv (Cc rfl _ _ _) rfl ?_;exact⟨⟨_,rfl⟩,.inr ⟨_,trivial,hJx3⟩⟩
    ·obtain⟨fn,tmps,assign,body,hy,hR⟩:=hY (KW.take 9) 9 wr hJs (by decide);have SG:(Instr.yield l #[.agg #[.int .i64 2,.pointer (some ⟨g,9,none⟩)]]).run prog wr=.ok (.round l fn tmps assign body) wr:=hy;clear hy;gi_wp2;refine hR.mono ?_;rintro e W3 (⟨rfl,hJ3,hk3⟩|⟨rfl,hJx3⟩)
     ·gi_wp2;go_roundw;case rel=>first|exact⟨6,by omega,rfl,hJ3,hk3 _ _ _ hBn (Mp rfl)⟩|((repeat apply vx);exact⟨⟨6,by omega,rfl,hJ3,hk3 _ _ _ hBn (Mp rfl)⟩,rfl⟩)
      case measure=>simp[intOf]
     ·gi_wp2;refine Jv (Cc rfl _ _ _) rfl ?_;exact⟨⟨_,rfl⟩,.inr ⟨_,trivial,hJx3⟩⟩
    ·obtain⟨fn,tmps,assign,body,hy,hR⟩:=hY (KW.take 10) 10 wr hJs (by decide);have SG:(Instr.yield l #[.agg #[.int .i64 2,.pointer (some ⟨g,10,none⟩)]]).run prog wr=.ok (.round l fn tmps assign body) wr:=hy;clear hy;gi_wp2;refine hR.mono ?_;rintro e W3 (⟨rfl,hJ3,hk3⟩|⟨rfl,hJx3⟩)
     ·have cn2:=Box.cell (hk3 _ _ _ hBn (Mp rfl)) 0;simp only[MR,nT]at cn2;clear hJs hBn cn hR SG;obtain⟨fn2,tmps2,assign2,body2,hy2,hR2⟩:=hY (KW.take 11) 11 W3 hJ3 (by decide);have wX:(Instr.yield l #[.agg #[.int .i64 2,.pointer (some ⟨g,11,none⟩)]]).run prog W3=.ok (.round l fn2 tmps2 assign2 body2) W3:=hy2;clear hy2;gi_wp2;refine hR2.mono ?_;rintro e W4 (⟨rfl,hJ4,AB⟩|⟨rfl,hJx4⟩)
      ·gi_wp2;go_end0;exact⟨⟨_,rfl⟩,.inl ⟨_,rfl,hJ4⟩⟩
      ·gi_wp2;go_end0;exact⟨⟨_,rfl⟩,.inr ⟨_,trivial,hJx4⟩⟩
     ·gi_wp2;go_end0;exact⟨⟨_,rfl⟩,.inr ⟨_,trivial,hJx3⟩⟩
theorem EX (n:Nat) (hn:1<=n) (Bn g:Nat) (w:World) (hB:Box w Bn 262 #[.pointer (some ⟨g,0,none⟩)]) :
  SeqStopsK Fence.wide n prog 222 #[.pointer (some ⟨Bn,0,none⟩)] (tp g) MO (λys=>ys=KW) (λ_=>True) 12 w:=λl J Jx W hW hJ _ hY h0 =>
 Sp n hn l Bn g J Jx W hJ hY (hB.ext hW) h0
attribute [local go_sem] iN
def QW (b:List UInt8) (o z:Nat):Int:=Z1 ((b.drop o).take z)
def U9 (b:List UInt8) (o:Nat):List Int:=[QW b o 1,QW b (o+2) 2,QW b (o+1) 1,QW b (o+4) 4,QW b (o+8) 2,QW b (o+10) 2,QW b (o+12) 2,QW b (o+14) 2,QW b (o+16) 2,QW b (o+18) 2,QW b (o+20) 2,QW b (o+22) 2]
def Qj (x:List Int):Array Value:=(x.map (Value.int .i64)).toArray
def jq (x:List Int):Value:=.agg (Qj x)
def KA (b:List UInt8):List (Fin 12)->List Int × Nat->List Int × Nat
 | [],s=>s
 | k::l,s=>KA b l (s.1.set (Yi k) (QW b s.2 (Xq k).toNat),s.2+(Xq k).toNat)
theorem Hv (b:List UInt8) (k:Fin 12):∀(l:List (Fin 12)) (s:List Int × Nat),KA b (l++[k]) s=((KA b l s).1.set (Yi k) (QW b (KA b l s).2 (Xq k).toNat),(KA b l s).2+(Xq k).toNat)
 | [],_=>rfl
 | _::l,_=>Hv b k l _
theorem CG (k:Fin 12):Xq k=1\/Xq k=2\/Xq k=4:=by unfold Xq;split<;>(try split)<;>simp
theorem cZ (k:Fin 12):Yi k<12:=by have:=k.isLt;unfold Yi;split<;>(try split)<;>(try split)<;>(try split)<;>omega
theorem Ez (b:List UInt8):∀(l:List (Fin 12)) (s:List Int × Nat),(KA b l s).1.length=s.1.length
 | [],_=>rfl
 | _::l,_=>by rw[KA,Ez b l];simp
theorem Ad (b:List UInt8):∀(l:List (Fin 12)) (s:List Int × Nat),(KA b l s).2<=s.2+4*l.length
 | [],_=>by simp[KA]
 | k::l,s=>by have:=Ad b l (s.1.set (Yi k) (QW b s.2 (Xq k).toNat),s.2+(Xq k).toNat);have:=CG k;simp only[KA,XN];simp only at *;omega
def Qy:List Int:=[0,0,0,0,0,0,0,0,0,0,0,0]
theorem fL (b:List UInt8) (o:Nat):(KA b KW (Qy,o)).1=U9 b o:=rfl
theorem Yh {β:Type} (g:Nat) (t:TypeId) (f:β->Array Value):Own (λs W=>Box W g t (f s)):=λs X Y row hs hg hrow=>by
 have AC:X.heap[g]? =some (.cells (f s) t (0,0)):=hs;refine(hg.block g hs.lt (λe=>?_)).trans AC;obtain⟨o,ho,hc⟩:=hrow g e.symm;rw[AC]at ho;cases ho;cases hc
theorem TC {β:Type} {B:Nat}{w₀:World}(hB:w₀.heap.size<=B):OwnFrom B (λ(_:β) W=>Ext w₀ W):=ownFrom_below (Q4 _) hB
theorem ZK {B:Nat}{W W':World}(h:Ext W W'):KeepsFrom B W W':=⟨h.size,λk _ _ hk _=>(Below.block h k (Fa.1 hk).1).trans hk⟩
theorem Box.ne {w:World}{g g':Nat}{t t':TypeId}{cs cs':Array Value}(h:Box w g t cs) (h':Box w g' t' cs') (Jt:t≠t'):g≠g':=by
 rintro rfl;have h1:w.heap[g]? =some (.cells cs t (0,0)):=h;have h2:w.heap[g]? =some (.cells cs' t' (0,0)):=h';rw[h1]at h2;injection h2 with e;injection e with _ e2;exact Jt e2
theorem Box.far {w:World}{g:Nat}{t:TypeId}{cs:Array Value}(h:Box w g t cs) {p:Addr}(hp:g≠p.block) (u:Value):Box (w.setCell p u) g t cs:=(vi w p u g hp).trans h
theorem O7 (blk:List UInt8) (a e z:Nat) (w:World) (hz:e=a+z) (h:z=1\/z=2\/z=4) (hl:e<=blk.length) :
  Calls prog 164 #[.string ((Qb blk).extract a e)] w λe w'=>e=.returned (.int .u64 (QW blk a z))/\w=w':=by
 subst hz;rw[J6,show a+z-a=z by omega];exact jP _ w (by simp[MT,Nx];omega)
theorem O5 (b:List UInt8) (o z:Nat) (h:z<=4):0<=QW b o z/\QW b o z<4294967296:=by
 unfold QW;have h1:=Nb ((b.drop o).take z);have h2:((b.drop o).take z).length<=4:=by simp[MT];omega
 have h3:(256:Nat)^((b.drop o).take z).length<=256^4:=sw (by omega) h2;have h4:(256:Nat)^4=4294967296:=by decide
 omega
theorem Box.at {w:World}{g:Nat}{t:TypeId}{x:List Int}(h:Box w g t (Qj x)) (i:Nat) (hi:i<x.length):w.cell? ⟨g,i,none⟩=some (.int .i64 (x.getD i 0)):=by
 rw[h.cell i];simp[Qj,List.getD,hi]
theorem Box.cells12 {w:World}{g:Nat}{t:TypeId}{x:List Int}(h:Box w g t (Qj x)) (hx:x.length=12) :
  w.cell? ⟨g,0,none⟩=some (.int .i64 (x.getD 0 0))/\w.cell? ⟨g,1,none⟩=some (.int .i64 (x.getD 1 0))/\w.cell? ⟨g,2,none⟩=some (.int .i64 (x.getD 2 0))/\w.cell? ⟨g,3,none⟩=some (.int .i64 (x.getD 3 0))/\
  w.cell? ⟨g,4,none⟩=some (.int .i64 (x.getD 4 0))/\w.cell? ⟨g,5,none⟩=some (.int .i64 (x.getD 5 0))/\w.cell? ⟨g,6,none⟩=some (.int .i64 (x.getD 6 0))/\w.cell? ⟨g,7,none⟩=some (.int .i64 (x.getD 7 0))/\
  w.cell? ⟨g,8,none⟩=some (.int .i64 (x.getD 8 0))/\w.cell? ⟨g,9,none⟩=some (.int .i64 (x.getD 9 0))/\w.cell? ⟨g,10,none⟩=some (.int .i64 (x.getD 10 0))/\w.cell? ⟨g,11,none⟩=some (.int .i64 (x.getD 11 0)) :=
 ⟨h.at 0 (by omega),h.at 1 (by omega),h.at 2 (by omega),h.at 3 (by omega),h.at 4 (by omega),h.at 5 (by omega),h.at 6 (by omega),h.at 7 (by omega),h.at 8 (by omega),h.at 9 (by omega),h.at 10 (by omega),h.at 11 (by omega)⟩
theorem Dh {x:List Int}(hx:x.length=12):∃a b c d e f g h i j k l,x=[a,b,c,d,e,f,g,h,i,j,k,l]:=by
 match x,hx with
 | [a,b,c,d,e,f,g,h,i,j,k,l],_=>exact⟨a,b,c,d,e,f,g,h,i,j,k,l,rfl⟩
structure nS (a W:World) (g:Nat) (t:TypeId) (cs:Array Value) (D:Nat) (ob:Obj):Prop where
 box:Box W g t cs
 ext:Ext a W
 low:a.heap.size<=g
 obj:W.heap[D]? =some ob
 cells:ob.isCells=false
theorem nS.set {a W:World}{g:Nat}{t:TypeId}{cs:Array Value}{D:Nat}{ob:Obj}(h:nS a W g t cs D ob) (i:Nat) (v:Value):nS a (W.setCell ⟨g,i,none⟩ v) g t (cs.setIfInBounds i v) D ob :=
 ⟨h.box.set i v,h.ext.setCell h.low v,h.low,(KeepsOthers.setCell _ _ _).same D _ h.obj h.cells,h.cells⟩
theorem Qdb {a W:World}{g D:Nat}{t:TypeId}{cs:List Int}{ob:Obj}(m0 m1 m2 m3 m4 m5 m6 m7 m8 m9 m10 m11:Int) (hb:Box W g t (Qj cs)) (Ll:cs.length=12) (hx:Ext a W) (hg:a.heap.size<=g) (hK:W.heap[D]? =some ob) (hko:ob.isCells=false) :
  ∃W',(((((((((((W.setCell ⟨g,0,none⟩ (.int .i64 m0)).setCell ⟨g,1,none⟩ (.int .i64 m1)).setCell ⟨g,2,none⟩ (.int .i64 m2)).setCell ⟨g,3,none⟩ (.int .i64 m3)).setCell ⟨g,4,none⟩ (.int .i64 m4)).setCell ⟨g,5,none⟩ (.int .i64 m5)).setCell ⟨g,6,none⟩ (.int .i64 m6)).setCell ⟨g,7,none⟩ (.int .i64 m7)).setCell ⟨g,8,none⟩ (.int .i64 m8)).setCell ⟨g,9,none⟩ (.int .i64 m9)).setCell ⟨g,10,none⟩ (.int .i64 m10)).setCell ⟨g,11,none⟩ (.int .i64 m11)=W'/\
   Box W' g t (Qj [m0,m1,m2,m3,m4,m5,m6,m7,m8,m9,m10,m11])/\Ext a W'/\W'.heap[D]? =some ob:=by
 obtain⟨n0,n1,n2,n3,n4,n5,n6,n7,n8,n9,n10,n11,rfl⟩:=Dh Ll;have T:nS a W g t _ D ob:=⟨hb,hx,hg,hK,hko⟩
 have T':=(((((((((((T.set 0 (.int .i64 m0)).set 1 (.int .i64 m1)).set 2 (.int .i64 m2)).set 3 (.int .i64 m3)).set 4 (.int .i64 m4)).set 5 (.int .i64 m5)).set 6 (.int .i64 m6)).set 7 (.int .i64 m7)).set 8 (.int .i64 m8)).set 9 (.int .i64 m9)).set 10 (.int .i64 m10)).set 11 (.int .i64 m11);refine⟨_,rfl,?_,T'.ext,T'.obj⟩;have B:=T'.box;simp only[Qj,P4,Gz,vg,List.set_cons_zero,Wed]at B;exact B
theorem Box.putObj {w:World}{g:Nat}{t:TypeId}{cs:Array Value}(h:Box w g t cs) {D:Nat}{o:Obj}(o':Obj) (hD:w.heap[D]? =some o) (ho:o.isCells=false):Box (w.putObj D o') g t cs:=by
 have Jt:g≠D:=by rintro rfl;have h':w.heap[g]? =some (.cells cs t (0,0)):=h;rw[hD]at h';cases h';cases ho
 exact((grownBy_putObj' w D o').block g h.lt (λe=>Jt (by cases e;rfl))).trans h
theorem Ext.putObj {a w:World}(h:Ext a w) {D:Nat}{o:Obj}(o':Obj) (hD:w.heap[D]? =some o) (hl:a.heap.size<=D):Ext a (w.putObj D o') :=
 vz h (grownBy_putObj' w D o') h.size (λk e=>by cases e;exact hl)
theorem jp (b:List UInt8) (o:Nat):(U9 b o).length=12:=rfl
theorem li (b o n c:Nat) (B I k:Int) (blk:List UInt8) (w:World) (Vz:1<=k) (KN:k<=64) (hn:3+(k-1)/2<n)
  (hc:w.cell? ⟨b,o+(3+(k-1)/2).toNat,none⟩=some (.string (Qb blk))) (hl:blk.length=128) :
  Calls prog 134 #[.slice (some ⟨b,o,none⟩) n c,ZO B I,.int .i64 k] w λe w' => e=.returned (jq (U9 blk ((k-1)%2*64).toNat))/\Ext w w':=by
 have HP:=Qa (λw=>DV (n:=5).2 (eC B I k w Vz KN));have hkq:0<=3+(k-1)/2/\0<=(k-1)%2*64/\(k-1)%2*64<=64:=by omega
 generalize 3+(k-1)/2=q at *;generalize (k-1)%2*64=p0 at *;refine(DV (n:=6)).1 ?_;refine callsIn_of_wp_marks func134 rfl trivial ?_ rfl;simp only[ntmps134,NS,XN,Mn,Nat.reduceAdd,Nat.reduceSub,nY,nX,nV,nZ,bQ,fu];unfold ZO at HP ⊢
 gi_wp2_with (first
  | (refine⟨trivial,?_⟩;gi_at_call 193;refine(HP.o _).mono ?_;rintro e w1 ⟨rfl,x1⟩)
  | (refine⟨trivial,?_⟩;gi_at_call 194;refine(DV.2 (Sq _ _)).mono ?_;rintro e w2 ⟨rfl,rfl⟩))
 obtain⟨p,rfl⟩:=sq hkq.2.1;have wi:Ext w w1:=((((Qg w).alloc _).alloc _).alloc _).trans x1;have s1:=x1.size;simp only[YB]at s1;have bV1:Box w1 w.heap.size 22 #[.slice (some ⟨b,o,none⟩) n c]:=(((Qs w _ _).ext ((Qg _).alloc _)).ext ((Qg _).alloc _)).ext x1;have bR1:Box w1 (w.heap.size+1+1) 121 (Qj Qy):=by have:=(Qs ((w.alloc (.cells #[.slice (some ⟨b,o,none⟩) n c] 22)).alloc (.cells #[.int .i64 B,.int .i64 I,.int .i64 1,.int .i64 2,.int .i64 3,.int .i64 (3+(I+1)/2)] 144)) 121 (Qj Qy)).ext x1;simpa only[YB]using this
 clear x1 HP;have b7:=Qs w1 3 #[.int .i64 q];have x2:Ext w1 (w1.alloc (.cells #[.int .i64 q] 3)):=(Qg _).alloc _;have z2:(w1.alloc (.cells #[.int .i64 q] 3)).heap.size=w1.heap.size+1:=YB _ _;generalize w1.alloc (.cells #[.int .i64 q] 3)=w2 at b7 x2 z2 ⊢;have b8:=Qs w2 3 #[.int .i64 (p:Int)];have x3:Ext w2 (w2.alloc (.cells #[.int .i64 (p:Int)] 3)):=(Qg _).alloc _;have z3:(w2.alloc (.cells #[.int .i64 (p:Int)] 3)).heap.size=w1.heap.size+1+1:=by rw[YB,z2]
 rw[z2]at b8;generalize w2.alloc (.cells #[.int .i64 (p:Int)] 3)=w3 at b8 x3 z3 ⊢;have bX:=Qs w3 121 (Qj Qy);have x4:Ext w3 (w3.alloc (.cells (Qj Qy) 121)):=(Qg _).alloc _;have z4:(w3.alloc (.cells (Qj Qy) 121)).heap.size=w1.heap.size+1+1+1:=by rw[YB,z3]
 rw[z3]at bX;change Code.wpIn _ _ _ _ _ _ ((w3.alloc (.cells (Qj Qy) 121)).alloc _);generalize w3.alloc (.cells (Qj Qy) 121)=w4 at bX x4 z4 ⊢;have bN:=Qs w4 262 #[.pointer (some ⟨w1.heap.size+1+1,0,none⟩)];have x5:Ext w4 (w4.alloc (.cells #[.pointer (some ⟨w1.heap.size+1+1,0,none⟩)] 262)):=(Qg _).alloc _;rw[z4]at bN;generalize w4.alloc (.cells #[.pointer (some ⟨w1.heap.size+1+1,0,none⟩)] 262)=W0 at bN x5 ⊢;have y:=x2.trans (x3.trans (x4.trans x5));replace b7:=b7.ext (x3.trans (x4.trans x5));replace b8:=b8.ext (x4.trans x5);replace bX:=bX.ext x5;replace bV1:=bV1.ext y;replace bR1:=bR1.ext y;have X0:=wi.trans y;clear x2 x3 x4 x5 z2 z3 z4 wi y;generalize hG7:w1.heap.size=G7 at *;generalize hGV:w.heap.size=GV at *;clear hG7 w1;have zN:=bN.lt
 refine wpIn_rangeFunc_ownH rfl (by decide) (gf:=222) (lb:=#[.pointer (some ⟨G7+1+1+1,0,none⟩)]) rfl trivial (enters_of func222 (by kernel_rfl) rfl)
  (EX 5 (by decide) (G7+1+1+1) (G7+1+1) W0 bN) MO.trans MO.book (qw _ _) (λ_=>rfl)
  (λpre W=>Ext w W/\Box W GV 22 #[.slice (some ⟨b,o,none⟩) n c]/\Box W (GV+1+1) 121 (Qj Qy)/\Box W G7 3 #[.int .i64 q]/\
   Box W (G7+1) 3 #[.int .i64 ((KA blk pre (Qy,p)).2:Int)]/\Box W (G7+1+1) 121 (Qj (KA blk pre (Qy,p)).1))
  (λ_ _ _=>False)
  (OwnFrom.and (TC X0.size) (OwnFrom.and (Own.from (Yh _ _ _) _) (OwnFrom.and (Own.from (Yh _ _ _) _) (OwnFrom.and (Own.from (Yh _ _ _) _) (OwnFrom.and (Own.from (Yh _ _ _) _) (Own.from (Yh _ _ _) _))))))
  (λ_ _ _ _ _ hs _ _=>hs) ⟨X0,bV1,bR1,b7,b8,bX⟩
  (λx a' W=>∃Bx,Box W Bx 265 #[.int .i64 (Xq x),.pointer (some ⟨G7+1+1,Yi x,none⟩)]/\a'={ tmps:=#[.slice (some ⟨b,o,none⟩) n c,.agg #[.int .i64 B,.int .i64 I,.int .i64 1,.int .i64 2,.int .i64 3,.int .i64 (3+(I+1)/2)],.int .i64 k,.pointer (some ⟨GV,0,none⟩),.pointer (some ⟨GV+1,0,none⟩),undef,.pointer (some ⟨GV+1+1,0,none⟩),.pointer (some ⟨G7,0,none⟩),.pointer (some ⟨G7+1,0,none⟩),.pointer (some ⟨G7+1+1,0,none⟩),.pointer (some ⟨Bx,0,none⟩),.tuple #[.int .i64 q,.int .i64 (p:Int)],.agg #[.int .i64 B,.int .i64 I,.int .i64 1,.int .i64 2,.int .i64 3,.int .i64 (3+(I+1)/2)],.int .i64 k,.tuple #[.int .i64 q,.int .i64 (p:Int)],.int .i64 q,.int .i64 (p:Int),.func (.func 222) #[] #[.pointer (some ⟨G7+1+1+1,0,none⟩)],.agg #[.int .i64 (Xq x),.pointer (some ⟨G7+1+1,Yi x,none⟩)],undef,undef,undef,undef,undef,undef,undef,undef,undef,undef,undef,undef,undef,undef,undef,undef,undef,undef,undef,undef],defers:=[] })
  (λx a' _ X Y row hs hg hr=>?hAx) ?assign ?body ?done ?stop
 case hAx => obtain⟨Bx,hb,rfl⟩:=hs;exact⟨Bx,Own.from (Yh Bx _ (λ(_:Unit)=>_)) _ () X Y row hb hg hr,rfl⟩
 case assign => rintro l pre x W K ⟨i1,i2,i3,i4,i5,i6⟩ hK;simp only[tp];gi_wp2;have xx:Ext W (W.alloc (.cells #[.int .i64 (Xq x),.pointer (some ⟨G7+1+1,Yi x,none⟩)] 265)):=(Qg W).alloc _;exact hK _ _ (ZK xx) (MO.ext xx) ⟨i1.trans xx,i2.ext xx,i3.ext xx,i4.ext xx,i5.ext xx,i6.ext xx⟩ ⟨W.heap.size,Qs _ _ _,rfl⟩
 case body =>
  rintro l pre x a' W gC ⟨r,hr⟩ ⟨i1,i2,i3,i4,i5,i6⟩ ⟨Bx,bx,rfl⟩ Qn;have Az:=Ad blk pre (Qy,p);have AD:=Qa (Hv blk x pre (Qy,p));have hz:=CG x;have XS:=cZ x;have YW:=Ez blk pre (Qy,p);generalize KA blk pre (Qy,p)=s at *;generalize Xq x=z at *;generalize Yi x=fp at *;have hp64:(p:Int)<=64:=hkq.2.2;have dJ:s.2+4<=128:=by simp only at Az;omega
  obtain⟨z,rfl⟩:=sq (show 0<=z by omega);have hz':z=1\/z=2\/z=4:=by omega
  have cV:∀y:Qt W,y.now.cell? ⟨GV,0,none⟩=some (.slice (some ⟨b,o,none⟩) n c):=λy=>(i2.ext y.ext).cell 0;have c7:∀y:Qt W,y.now.cell? ⟨G7,0,none⟩=some (.int .i64 q):=λy=>(i4.ext y.ext).cell 0;have c8:∀y:Qt W,y.now.cell? ⟨G7+1,0,none⟩=some (.int .i64 (s.2:Int)):=λy=>(i5.ext y.ext).cell 0;have f0:∀y:Qt W,y.now.cell? ⟨Bx,0,none⟩=some (.int .i64 (z:Int)):=λy=>(bx.ext y.ext).cell 0;have f1:∀y:Qt W,y.now.cell? ⟨Bx,1,none⟩=some (.pointer (some ⟨G7+1+1,fp,none⟩)):=λy=>(bx.ext y.ext).cell 1;have cS:∀y:Qt W,y.now.cell? ⟨b,o+q.toNat,none⟩=some (.string (Qb blk)):=λy=>(i1.trans y.ext).keep hc;have VD:(Qb blk).size=128:=by rw[Qh,hl]
  have t1:(0:Int)<=(s.2:Int):=by omega
  have t2:IntKind.i64.wrap ((s.2:Int)+(z:Int))=(s.2:Int)+(z:Int):=ON _ (by omega);have t3:(0:Int)<=(s.2:Int)+(z:Int):=by omega
  have t4:((s.2:Int)+(z:Int)).toNat=s.2+z:=by omega
  have wT:=hkq.1;have HG:=Qa (λw=>O7 blk s.2 (s.2+z) z w rfl hz' (by omega));gi_wp2;refine Wa 15 (by rintro⟨_,_,h⟩;exact h) (by kernel_rfl) (by kernel_rfl) (by kernel_rfl) ?_;simp only[KG,KI,UY,KJ];repeat (go_big_quiet_step ((exact Jb (HG.o _))))
  refine VI ?_;rintro w2 ⟨y,rfl⟩;have hfz:fp<s.1.length:=by rw[YW];exact XS
  have j6:=i6.ext y.ext;have j5:=i5.ext y.ext;have jb:=bx.ext y.ext;have k6:y.now.cell? ⟨G7+1+1,fp,none⟩=some (.int .i64 (s.1[fp]'hfz)):=(j6.cell fp).trans (by simp[Qj,hfz]);have k6f:=j6.frozen fp;have g1:y.now.cell? ⟨Bx,0,none⟩=some (.int .i64 (z:Int)):=f0 y;have g2:y.now.cell? ⟨G7+1,0,none⟩=some (.int .i64 (s.2:Int)):=c8 y;have ne1:Bx≠G7+1+1:=bx.ne i6 (by decide);have ne2:G7+1≠G7+1+1:=by omega
  clear cV c7 c8 f0 f1 cS HG t2 t4;go_wp2_with fail;have hnb:=O5 blk s.2 z (by omega);rw[IntWalk.wrap64_in _ ⟨by omega,by omega⟩];have e1:=j6.set fp (.int .i64 (QW blk s.2 z));have e2:=j5.far (p:=⟨G7+1+1,fp,none⟩) ne2 (.int .i64 (QW blk s.2 z));have e3:=jb.far (p:=⟨G7+1+1,fp,none⟩) ne1 (.int .i64 (QW blk s.2 z));have e4:=(i2.ext y.ext).far (p:=⟨G7+1+1,fp,none⟩) (show GV≠G7+1+1 by omega) (.int .i64 (QW blk s.2 z));have e5:=(i3.ext y.ext).far (p:=⟨G7+1+1,fp,none⟩) (show GV+1+1≠G7+1+1 by omega) (.int .i64 (QW blk s.2 z));have e6:=(i4.ext y.ext).far (p:=⟨G7+1+1,fp,none⟩) (show G7≠G7+1+1 by omega) (.int .i64 (QW blk s.2 z));have e7:=(i1.trans y.ext).setCell (p:=⟨G7+1+1,fp,none⟩) (show w.heap.size<=G7+1+1 by omega) (.int .i64 (QW blk s.2 z));have e8:MO W (y.now.setCell ⟨G7+1+1,fp,none⟩ (.int .i64 (QW blk s.2 z))):=(MO.ext y.ext).set j6 (by decide) (by decide) fp _;have e9:KeepsFrom W0.heap.size W (y.now.setCell ⟨G7+1+1,fp,none⟩ (.int .i64 (QW blk s.2 z))):=(ZK y.ext).trans ((KeepsOthers.setCell _ _ _).from _);generalize y.now.setCell ⟨G7+1+1,fp,none⟩ (.int .i64 (QW blk s.2 z))=W5 at e1 e2 e3 e4 e5 e6 e7 e8 e9 ⊢;have r1:W5.cell? ⟨Bx,0,none⟩=some (.int .i64 (z:Int)):=e3.cell 0;have r2:W5.cell? ⟨G7+1,0,none⟩=some (.int .i64 (s.2:Int)):=e2.cell 0;have r2f:=e2.frozen 0;gi_wp2;have hL:(Qj s.1).setIfInBounds fp (.int .i64 (QW blk s.2 z))=Qj (s.1.set fp (QW blk s.2 z)):=by simp[Qj,List.map_set]
  rw[hL]at e1;refine⟨e9.trans ((KeepsOthers.setCell _ _ _).from _),e8.set e2 (by decide) (by decide) 0 _,e7.setCell (p:=⟨G7+1,0,none⟩) (show w.heap.size<=G7+1 by omega) _,e4.far (p:=⟨G7+1,0,none⟩) (show GV≠G7+1 by omega) _,e5.far (p:=⟨G7+1,0,none⟩) (show GV+1+1≠G7+1 by omega) _,e6.far (p:=⟨G7+1,0,none⟩) (show G7≠G7+1 by omega) _,?_,?_⟩
  ·rw[AD.o];exact e2.set 0 _
  ·rw[AD.o];exact e1.far (p:=⟨G7+1,0,none⟩) (show G7+1+1≠G7+1 by omega) _
 case done =>
  rintro D ys W hD rfl ⟨i1,i2,i3,i4,i5,i6⟩ hK;rw[fL]at i6;have Ls:=jp blk p;have HV:Zm (jq (U9 blk ((p:Int)).toNat)=jq (U9 blk p)):=rfl;generalize U9 blk p=x at i6 Ls HV;obtain⟨m0,m1,m2,m3,m4,m5,m6,m7,m8,m9,m10,m11,rfl⟩:=Dh Ls;obtain⟨q0,q1,q2,q3,q4,q5,q6,q7,q8,q9,gL,q11⟩:=i6.cells12 rfl;obtain⟨u0,u1,u2,u3,u4,u5,u6,u7,u8,u9,u10,u11⟩:=i3.cells12 rfl;have v0:=i3.frozen 0;have v1:=i3.frozen 1;have v2:=i3.frozen 2;have v3:=i3.frozen 3;have v4:=i3.frozen 4;have v5:=i3.frozen 5;have v6:=i3.frozen 6;have v7:=i3.frozen 7;have v8:=i3.frozen 8;have v9:=i3.frozen 9;have v10:=i3.frozen 10;have v11:=i3.frozen 11
  simp only[qo,qp]at q0 q1 q2 q3 q4 q5 q6 q7 q8 q9 gL q11;clear i2 i4 i5 i6;gi_wp2;obtain⟨W',eW,bF,xF,kF⟩:=Qdb m0 m1 m2 m3 m4 m5 m6 m7 m8 m9 m10 m11 i3 rfl i1 (show w.heap.size<=GV+1+1 by omega) hK rfl;rw[eW];clear eW u0 u1 u2 u3 u4 u5 u6 u7 u8 u9 u10 u11 v0 v1 v2 v3 v4 v5 v6 v7 v8 v9 v10 v11 q0 q1 q2 q3 q4 q5 q6 q7 q8 q9 gL q11;refine⟨by simp,.inl ⟨_,_,rfl,run_takeDeferred kF,?_⟩⟩;have xP:=xF.putObj (.deferred none) kF (show w.heap.size<=D by have:=X0.size;omega);have bP:=bF.putObj (.deferred none) kF rfl;generalize W'.putObj D (.deferred none)=WF at xP bP ⊢;obtain⟨q0,q1,q2,q3,q4,q5,q6,q7,q8,q9,gL,q11⟩:=bP.cells12 rfl;simp only[qo,qp]at q0 q1 q2 q3 q4 q5 q6 q7 q8 q9 gL q11;refine⟨_,?_,congrArg Ending.returned HV.o.symm,xP⟩;simp[results,Tryz.f134,go_sem,q0,q1,q2,q3,q4,q5,q6,q7,q8,q9,gL,q11,jq,Qj]
 case stop => rintro D c pre W _ _ h _;exact h.elim
attribute [local go_sem] iN
def Qjt (x:List Int) (k:Fin 12):Bool:=decide (0<=x.getD (Yi k) 0/\x.getD (Yi k) 0<256^(Xq k).toNat)
def Fw (x:List Int):Bool:=KW.all (Qjt x)
end Go.Proofs.YtfaplefkakpgcaaGreatDoor
