import Derived.Test.YtfaplefkakpgcaaGreatDoorQa11
import Derived.Shelf.Abstract
import Derived.Shelf.RegionOpen
import Derived.OwnWalkIn
import Derived.TacticsInMore
import Derived.LoopNIn
import Derived.LoopIn
import Derived.Test.YtfaplefkakpgcaaGreatDoorQa8
import Derived.Laws.Rows
set_option linter.unusedVariables false
set_option linter.unusedSimpArgs false
set_option maxHeartbeats 32000000
set_option maxRecDepth 100000
namespace Go.Proofs.YtfaplefkakpgcaaGreatDoor
open Go.Proofs.Tryz
open Go.RowKit Go.Shelf
attribute [local go_sem] A9
def Yl (k:Fin 12):Int:=if k.val<2 then 1 else if k.val=3 then 4 else 2
def Zc (k:Fin 12):Nat:=if k.val=0 then 0 else if k.val=1 then 2 else if k.val=2 then 1 else if k.val=3 then 3 else k.val
def iS (g:Nat) (k:Fin 12):Array Value:=#[.agg #[.int .i64 (Yl k),.pointer (some ⟨g,Zc k,none⟩)]]
def Vi:List (Fin 12):=[0,1,2,3,4,5,6,7,8,9,10,11]
def Tw (W W':World):Prop:=∀(b:Nat) (cs:Array Value) (t:TypeId),W.heap[b]? =some (.cells cs t (0,0))->(t=265\/t=262)->W'.heap[b]? =some (.cells cs t (0,0))
theorem Tw.refl (W:World):Tw W W:=λ_ _ _ h _=>h
theorem Tw.trans {A B C:World}(h:Tw A B) (k:Tw B C):Tw A C:=λb cs t hb ht=>k b cs t (h b cs t hb ht) ht
theorem Tw.book {w:World}(W:World) (l:Nat) (o o':Obj) (_:w.heap.size<=l) (h:W.heap[l]? =some o) (hc:o.isCells=false) (_:o.isWalk=false):Tw W (W.putObj l o'):=by
 intro b cs t hb _;have QY:b≠l:=by rintro rfl;rw[h]at hb;cases hb;cases hc
 have:=(grownBy_putObj' W l o').block b (SK.1 hb).1 (λe=>QY (by cases e;rfl));exact this.trans hb
theorem Tw.ext {W W':World}(h:Ext W W'):Tw W W':=λb cs t hb _=>Box.ext hb h
theorem Tw.set {A W:World}(h:Tw A W) {g:Nat}{t:TypeId}{cs:Array Value}(hg:Box W g t cs) (h1:t≠265) (h2:t≠262) (i:Nat) (u:Value):Tw A (W.setCell ⟨g,i,none⟩ u):=by
 intro b cs' t' hb ht;have k:=h b cs' t' hb ht;have QY:b≠g:=by
  rintro rfl;have sa:W.heap[b]? =some (.cells cs t (0,0)):=hg;rw[k]at sa;injection sa with e;injection e with _ e2;subst e2;rcases ht with h|h
  ·exact h1 h
  ·exact h2 h
 rw[kC W ⟨g,i,none⟩ u b QY];exact k
theorem Vo {W W':World}(h:Ext W W'):W.grownBy W' none:=by
 have k:Below W.heap.size W W':=h;exact⟨k.os,k.tape,k.output,k.size,λj hj _=>k.block j hj⟩
theorem F0 (g:Nat) (w:World) :
  Calls prog 194 #[.pointer (some ⟨g,0,none⟩)] w λe w'=>e=.returned (.func (.func 222) #[] #[.pointer (some ⟨w.heap.size,0,none⟩)])/\w'=w.alloc (.cells #[.pointer (some ⟨g,0,none⟩)] 262):=by
 go_enter func194,ntmps194;go_wp2_with fail;go_ret;exact⟨rfl,rfl⟩
set_option maxRecDepth 512 in
theorem FZ (n:Nat) (hn:1<=n) (l Bn g:Nat) (J Jx:List (Fin 12)->World->Prop) (W:World) (hJ:AbidesFrom W.heap.size J)
  (hY:∀pre x W1,J pre W1->pre.length<12->YieldAt Fence.wide (n-1) prog l (iS g x) W1 λe W' =>
   (e=.returned (.bool true)/\J (pre++[x]) W'/\Tw W1 W')\/(e=.returned (.bool false)/\Jx (pre++[x]) W'))
  (hB:Box W Bn 262 #[.pointer (some ⟨g,0,none⟩)]) (h0:J [] W) :
  CallsIn Fence.wide n prog 222 #[.func (.yield l) #[] #[],.pointer (some ⟨Bn,0,none⟩)] W λe W'=>(∃v,e=.returned v)/\
   ((∃ys,ys=Vi/\J ys W')\/(∃pre,True/\Jx pre W')):=by
 have hc:=hB.cell 0;simp only[MY,fE]at hc;refine callsIn_of_wp func222 rfl trivial ?_ rfl;simp only[ntmps222,N1,YV,Tz,Nat.reduceAdd,Nat.reduceSub,ah,ak,aq,an,Cx,DB];gi_wp2;gi_region;gi_wp2
 gi_loopw [4,24] (λ_ i wr=>∃k:Nat,k<=4/\i=.int .i64 k/\J (Vi.take k) wr/\Box wr Bn 262 #[.pointer (some ⟨g,0,none⟩)]/\
   Box wr W.heap.size 265 #[.int .i64 1,.pointer (some ⟨g,0,none⟩),.int .i64 1,.pointer (some ⟨g,2,none⟩),.int .i64 2,.pointer (some ⟨g,1,none⟩),.int .i64 4,.pointer (some ⟨g,3,none⟩)])
  (λ_ i _=>4-(intOf i).toNat)
 case atStart => have x1:Ext W (W.drew.alloc (.cells #[.int .i64 1,.pointer (some ⟨g,0,none⟩),.int .i64 1,.pointer (some ⟨g,2,none⟩),.int .i64 2,.pointer (some ⟨g,1,none⟩),.int .i64 4,.pointer (some ⟨g,3,none⟩)] 265)):=((Qf W).drew).alloc _;exact⟨0,by omega,rfl,hJ [] _ _ none h0 (Vo x1) (λr e=>by cases e),hB.ext x1,QA _ _ _⟩
 case round =>
  obtain⟨k,hk,rfl,hJs,hBn,hA⟩:=hrel;have cn:=hBn.cell 0;simp only[MY,fE]at cn;rcases(by omega:k=0\/k=1\/k=2\/k=3\/k=4) with rfl|rfl|rfl|rfl|rfl
  ·have a0:wr.cell? ⟨W.heap.size,0,none⟩=some (.int .i64 1):=hA.cell 0;have a1:wr.cell? ⟨W.heap.size,1,none⟩=some (.pointer (some ⟨g,0,none⟩)):=hA.cell 1;have x1:Ext wr (wr.alloc (.cells #[.int .i64 1,.pointer (some ⟨g,0,none⟩)] 265)):=(Qf wr).alloc _;obtain⟨fn,tmps,assign,body,hy,hR⟩:=hY (Vi.take 0) 0 _ (hJ _ _ _ none hJs (Vo x1) (λr e=>by cases e)) (by decide);have BB:(Instr.yield l #[.agg #[.int .i64 1,.pointer (some ⟨g,0,none⟩)]]).run prog (wr.alloc (.cells #[.int .i64 1,.pointer (some ⟨g,0,none⟩)] 265))=.ok (.round l fn tmps assign body) (wr.alloc (.cells #[.int .i64 1,.pointer (some ⟨g,0,none⟩)] 265)):=hy;clear hy;gi_wp2;refine hR.mono ?_;rintro e W3 (⟨rfl,hJ3,hk3⟩|⟨rfl,hJx3⟩)
   ·gi_wp2;go_roundw;case rel=>exact⟨1,by omega,rfl,hJ3,hk3 _ _ _ (hBn.ext x1) (PQ rfl),hk3 _ _ _ (hA.ext x1) (DD rfl)⟩
    case measure=>simp[intOf]
   ·gi_wp2;refine ZD (UL rfl _ _ _) rfl ?_;exact⟨⟨_,rfl⟩,.inr ⟨_,trivial,hJx3⟩⟩
  ·have a0:wr.cell? ⟨W.heap.size,2,none⟩=some (.int .i64 1):=hA.cell 2;have a1:wr.cell? ⟨W.heap.size,3,none⟩=some (.pointer (some ⟨g,2,none⟩)):=hA.cell 3;have x1:Ext wr (wr.alloc (.cells #[.int .i64 1,.pointer (some ⟨g,2,none⟩)] 265)):=(Qf wr).alloc _;obtain⟨fn,tmps,assign,body,hy,hR⟩:=hY (Vi.take 1) 1 _ (hJ _ _ _ none hJs (Vo x1) (λr e=>by cases e)) (by decide);have BB:(Instr.yield l #[.agg #[.int .i64 1,.pointer (some ⟨g,2,none⟩)]]).run prog (wr.alloc (.cells #[.int .i64 1,.pointer (some ⟨g,2,none⟩)] 265))=.ok (.round l fn tmps assign body) (wr.alloc (.cells #[.int .i64 1,.pointer (some ⟨g,2,none⟩)] 265)):=hy;clear hy;gi_wp2;refine hR.mono ?_;rintro e W3 (⟨rfl,hJ3,hk3⟩|⟨rfl,hJx3⟩)
   ·gi_wp2;go_roundw;case rel=>exact⟨2,by omega,rfl,hJ3,hk3 _ _ _ (hBn.ext x1) (PQ rfl),hk3 _ _ _ (hA.ext x1) (DD rfl)⟩
    case measure=>simp[intOf]
   ·gi_wp2;refine ZD (UL rfl _ _ _) rfl ?_;exact⟨⟨_,rfl⟩,.inr ⟨_,trivial,hJx3⟩⟩
  ·have a0:wr.cell? ⟨W.heap.size,4,none⟩=some (.int .i64 2):=hA.cell 4;have a1:wr.cell? ⟨W.heap.size,5,none⟩=some (.pointer (some ⟨g,1,none⟩)):=hA.cell 5;have x1:Ext wr (wr.alloc (.cells #[.int .i64 2,.pointer (some ⟨g,1,none⟩)] 265)):=(Qf wr).alloc _;obtain⟨fn,tmps,assign,body,hy,hR⟩:=hY (Vi.take 2) 2 _ (hJ _ _ _ none hJs (Vo x1) (λr e=>by cases e)) (by decide);have BB:(Instr.yield l #[.agg #[.int .i64 2,.pointer (some ⟨g,1,none⟩)]]).run prog (wr.alloc (.cells #[.int .i64 2,.pointer (some ⟨g,1,none⟩)] 265))=.ok (.round l fn tmps assign body) (wr.alloc (.cells #[.int .i64 2,.pointer (some ⟨g,1,none⟩)] 265)):=hy;clear hy;gi_wp2;refine hR.mono ?_;rintro e W3 (⟨rfl,hJ3,hk3⟩|⟨rfl,hJx3⟩)
   ·gi_wp2;go_roundw;case rel=>exact⟨3,by omega,rfl,hJ3,hk3 _ _ _ (hBn.ext x1) (PQ rfl),hk3 _ _ _ (hA.ext x1) (DD rfl)⟩
    case measure=>simp[intOf]
   ·gi_wp2;refine ZD (UL rfl _ _ _) rfl ?_;exact⟨⟨_,rfl⟩,.inr ⟨_,trivial,hJx3⟩⟩
  ·have a0:wr.cell? ⟨W.heap.size,6,none⟩=some (.int .i64 4):=hA.cell 6;have a1:wr.cell? ⟨W.heap.size,7,none⟩=some (.pointer (some ⟨g,3,none⟩)):=hA.cell 7;have x1:Ext wr (wr.alloc (.cells #[.int .i64 4,.pointer (some ⟨g,3,none⟩)] 265)):=(Qf wr).alloc _;obtain⟨fn,tmps,assign,body,hy,hR⟩:=hY (Vi.take 3) 3 _ (hJ _ _ _ none hJs (Vo x1) (λr e=>by cases e)) (by decide);have BB:(Instr.yield l #[.agg #[.int .i64 4,.pointer (some ⟨g,3,none⟩)]]).run prog (wr.alloc (.cells #[.int .i64 4,.pointer (some ⟨g,3,none⟩)] 265))=.ok (.round l fn tmps assign body) (wr.alloc (.cells #[.int .i64 4,.pointer (some ⟨g,3,none⟩)] 265)):=hy;clear hy;gi_wp2;refine hR.mono ?_;rintro e W3 (⟨rfl,hJ3,hk3⟩|⟨rfl,hJx3⟩)
   ·gi_wp2;go_roundw;case rel=>exact⟨4,by omega,rfl,hJ3,hk3 _ _ _ (hBn.ext x1) (PQ rfl),hk3 _ _ _ (hA.ext x1) (DD rfl)⟩
    case measure=>simp[intOf]
   ·gi_wp2;refine ZD (UL rfl _ _ _) rfl ?_;exact⟨⟨_,rfl⟩,.inr ⟨_,trivial,hJx3⟩⟩
  ·clear hA;obtain⟨wo,rfl⟩:∃wo:World,wo=wr:=⟨_,rfl⟩
   gi_wp2
   gi_loopw [5,33] (λ_ i wx=>∃k:Nat,k<=6/\i=.int .i64 k/\J (Vi.take (4+k)) wx/\Box wx Bn 262 #[.pointer (some ⟨g,0,none⟩)])
    (λ_ i _=>6-(intOf i).toNat)
   case atStart=>exact⟨0,by omega,rfl,hJs,hBn⟩
   case round =>
    clear hJs hBn cn;obtain⟨k,hk,rfl,hJs,hBn⟩:=hrel;have cn:=hBn.cell 0;simp only[MY,fE]at cn;rcases(by omega:k=0\/k=1\/k=2\/k=3\/k=4\/k=5\/k=6) with rfl|rfl|rfl|rfl|rfl|rfl|rfl
    ·obtain⟨fn,tmps,assign,body,hy,hR⟩:=hY (Vi.take 4) 4 wr hJs (by decide);have BB:(Instr.yield l #[.agg #[.int .i64 2,.pointer (some ⟨g,4,none⟩)]]).run prog wr=.ok (.round l fn tmps assign body) wr:=hy;clear hy;gi_wp2;refine hR.mono ?_;rintro e W3 (⟨rfl,hJ3,hk3⟩|⟨rfl,hJx3⟩)
     ·gi_wp2;go_roundw;case rel=>first|exact⟨1,by omega,rfl,hJ3,hk3 _ _ _ hBn (PQ rfl)⟩|((repeat apply kD);exact⟨⟨1,by omega,rfl,hJ3,hk3 _ _ _ hBn (PQ rfl)⟩,rfl⟩)
      case measure=>simp[intOf]
     ·gi_wp2;refine ZD (UL rfl _ _ _) rfl ?_;exact⟨⟨_,rfl⟩,.inr ⟨_,trivial,hJx3⟩⟩
    ·obtain⟨fn,tmps,assign,body,hy,hR⟩:=hY (Vi.take 5) 5 wr hJs (by decide);have BB:(Instr.yield l #[.agg #[.int .i64 2,.pointer (some ⟨g,5,none⟩)]]).run prog wr=.ok (.round l fn tmps assign body) wr:=hy;clear hy;gi_wp2;refine hR.mono ?_;rintro e W3 (⟨rfl,hJ3,hk3⟩|⟨rfl,hJx3⟩)
     ·gi_wp2;go_roundw;case rel=>first|exact⟨2,by omega,rfl,hJ3,hk3 _ _ _ hBn (PQ rfl)⟩|((repeat apply kD);exact⟨⟨2,by omega,rfl,hJ3,hk3 _ _ _ hBn (PQ rfl)⟩,rfl⟩)
      case measure=>simp[intOf]
     ·gi_wp2;refine ZD (UL rfl _ _ _) rfl ?_;exact⟨⟨_,rfl⟩,.inr ⟨_,trivial,hJx3⟩⟩
    ·obtain⟨fn,tmps,assign,body,hy,hR⟩:=hY (Vi.take 6) 6 wr hJs (by decide);have BB:(Instr.yield l #[.agg #[.int .i64 2,.pointer (some ⟨g,6,none⟩)]]).run prog wr=.ok (.round l fn tmps assign body) wr:=hy;clear hy;gi_wp2;refine hR.mono ?_;rintro e W3 (⟨rfl,hJ3,hk3⟩|⟨rfl,hJx3⟩)
     ·gi_wp2;go_roundw;case rel=>first|exact⟨3,by omega,rfl,hJ3,hk3 _ _ _ hBn (PQ rfl)⟩|((repeat apply kD);exact⟨⟨3,by omega,rfl,hJ3,hk3 _ _ _ hBn (PQ rfl)⟩,rfl⟩)
      case measure=>simp[intOf]
     ·gi_wp2;refine ZD (UL rfl _ _ _) rfl ?_;exact⟨⟨_,rfl⟩,.inr ⟨_,trivial,hJx3⟩⟩
    ·obtain⟨fn,tmps,assign,body,hy,hR⟩:=hY (Vi.take 7) 7 wr hJs (by decide);have BB:(Instr.yield l #[.agg #[.int .i64 2,.pointer (some ⟨g,7,none⟩)]]).run prog wr=.ok (.round l fn tmps assign body) wr:=hy;clear hy;gi_wp2;refine hR.mono ?_;rintro e W3 (⟨rfl,hJ3,hk3⟩|⟨rfl,hJx3⟩)
     ·gi_wp2;go_roundw;case rel=>first|exact⟨4,by omega,rfl,hJ3,hk3 _ _ _ hBn (PQ rfl)⟩|((repeat apply kD);exact⟨⟨4,by omega,rfl,hJ3,hk3 _ _ _ hBn (PQ rfl)⟩,rfl⟩)
      case measure=>simp[intOf]
     ·gi_wp2;refine ZD (UL rfl _ _ _) rfl ?_;exact⟨⟨_,rfl⟩,.inr ⟨_,trivial,hJx3⟩⟩
    ·obtain⟨fn,tmps,assign,body,hy,hR⟩:=hY (Vi.take 8) 8 wr hJs (by decide);have BB:(Instr.yield l #[.agg #[.int .i64 2,.pointer (some ⟨g,8,none⟩)]]).run prog wr=.ok (.round l fn tmps assign body) wr:=hy;clear hy;gi_wp2;refine hR.mono ?_;rintro e W3 (⟨rfl,hJ3,hk3⟩|⟨rfl,hJx3⟩)
     ·gi_wp2;go_roundw;case rel=>first|exact⟨5,by omega,rfl,hJ3,hk3 _ _ _ hBn (PQ rfl)⟩|((repeat apply kD);exact⟨⟨5,by omega,rfl,hJ3,hk3 _ _ _ hBn (PQ rfl)⟩,rfl⟩)
      case measure=>simp[intOf]
     ·gi_wp2;refine ZD (UL rfl _ _ _) rfl ?_;exact⟨⟨_,rfl⟩,.inr ⟨_,trivial,hJx3⟩⟩
    ·obtain⟨fn,tmps,assign,body,hy,hR⟩:=hY (Vi.take 9) 9 wr hJs (by decide);have BB:(Instr.yield l #[.agg #[.int .i64 2,.pointer (some ⟨g,9,none⟩)]]).run prog wr=.ok (.round l fn tmps assign body) wr:=hy;clear hy;gi_wp2;refine hR.mono ?_;rintro e W3 (⟨rfl,hJ3,hk3⟩|⟨rfl,hJx3⟩)
     ·gi_wp2;go_roundw;case rel=>first|exact⟨6,by omega,rfl,hJ3,hk3 _ _ _ hBn (PQ rfl)⟩|((repeat apply kD);exact⟨⟨6,by omega,rfl,hJ3,hk3 _ _ _ hBn (PQ rfl)⟩,rfl⟩)
      case measure=>simp[intOf]
     ·gi_wp2;refine ZD (UL rfl _ _ _) rfl ?_;exact⟨⟨_,rfl⟩,.inr ⟨_,trivial,hJx3⟩⟩
    ·obtain⟨fn,tmps,assign,body,hy,hR⟩:=hY (Vi.take 10) 10 wr hJs (by decide);have BB:(Instr.yield l #[.agg #[.int .i64 2,.pointer (some ⟨g,10,none⟩)]]).run prog wr=.ok (.round l fn tmps assign body) wr:=hy;clear hy;gi_wp2;refine hR.mono ?_;rintro e W3 (⟨rfl,hJ3,hk3⟩|⟨rfl,hJx3⟩)
     ·have cn2:=Box.cell (hk3 _ _ _ hBn (PQ rfl)) 0;simp only[MY,fE]at cn2;clear hJs hBn cn hR BB;obtain⟨fn2,tmps2,assign2,body2,hy2,hR2⟩:=hY (Vi.take 11) 11 W3 hJ3 (by decide);have tR:(Instr.yield l #[.agg #[.int .i64 2,.pointer (some ⟨g,11,none⟩)]]).run prog W3=.ok (.round l fn2 tmps2 assign2 body2) W3:=hy2;clear hy2;gi_wp2;refine hR2.mono ?_;rintro e W4 (⟨rfl,hJ4,hk4⟩|⟨rfl,hJx4⟩)
      ·gi_wp2;go_end0;exact⟨⟨_,rfl⟩,.inl ⟨_,rfl,hJ4⟩⟩
      ·gi_wp2;go_end0;exact⟨⟨_,rfl⟩,.inr ⟨_,trivial,hJx4⟩⟩
     ·gi_wp2;go_end0;exact⟨⟨_,rfl⟩,.inr ⟨_,trivial,hJx3⟩⟩
theorem Lb (n:Nat) (hn:1<=n) (Bn g:Nat) (w:World) (hB:Box w Bn 262 #[.pointer (some ⟨g,0,none⟩)]) :
  SeqStopsK Fence.wide n prog 222 #[.pointer (some ⟨Bn,0,none⟩)] (iS g) Tw (λys=>ys=Vi) (λ_=>True) 12 w:=λl J Jx W hW hJ _ hY h0 =>
 FZ n hn l Bn g J Jx W hJ hY (hB.ext hW) h0
attribute [local go_sem] A9
def JK (b:List UInt8) (o z:Nat):Int:=Yp ((b.drop o).take z)
def Rg (b:List UInt8) (o:Nat):List Int:=[JK b o 1,JK b (o+2) 2,JK b (o+1) 1,JK b (o+4) 4,JK b (o+8) 2,JK b (o+10) 2,JK b (o+12) 2,JK b (o+14) 2,JK b (o+16) 2,JK b (o+18) 2,JK b (o+20) 2,JK b (o+22) 2]
def Qj (x:List Int):Array Value:=(x.map (Value.int .i64)).toArray
def dP (x:List Int):Value:=.agg (Qj x)
def XY (b:List UInt8):List (Fin 12)->List Int × Nat->List Int × Nat
 | [],s=>s
 | k::l,s=>XY b l (s.1.set (Zc k) (JK b s.2 (Yl k).toNat),s.2+(Yl k).toNat)
theorem R3 (b:List UInt8) (k:Fin 12):∀(l:List (Fin 12)) (s:List Int × Nat),XY b (l++[k]) s=((XY b l s).1.set (Zc k) (JK b (XY b l s).2 (Yl k).toNat),(XY b l s).2+(Yl k).toNat)
 | [],_=>rfl
 | _::l,_=>R3 b k l _
theorem Hz (k:Fin 12):Yl k=1\/Yl k=2\/Yl k=4:=by unfold Yl;split<;>(try split)<;>simp
theorem C9 (k:Fin 12):Zc k<12:=by have:=k.isLt;unfold Zc;split<;>(try split)<;>(try split)<;>(try split)<;>omega
theorem ML (b:List UInt8):∀(l:List (Fin 12)) (s:List Int × Nat),(XY b l s).1.length=s.1.length
 | [],_=>rfl
 | _::l,_=>by rw[XY,ML b l];simp
theorem G6 (b:List UInt8):∀(l:List (Fin 12)) (s:List Int × Nat),(XY b l s).2<=s.2+4*l.length
 | [],_=>by simp[XY]
 | k::l,s=>by have:=G6 b l (s.1.set (Zc k) (JK b s.2 (Yl k).toNat),s.2+(Yl k).toNat);have:=Hz k;simp only[XY,YV];simp only at *;omega
def QE:List Int:=[0,0,0,0,0,0,0,0,0,0,0,0]
theorem AB (b:List UInt8) (o:Nat):(XY b Vi (QE,o)).1=Rg b o:=rfl
theorem JM {β:Type} (g:Nat) (t:TypeId) (f:β->Array Value):Own (λs W=>Box W g t (f s)):=λs X Y row hs hg hrow=>by
 have ff:X.heap[g]? =some (.cells (f s) t (0,0)):=hs;refine(hg.block g hs.lt (λe=>?_)).trans ff;obtain⟨o,ho,hc⟩:=hrow g e.symm;rw[ff]at ho;cases ho;cases hc
theorem Wl {β:Type} {B:Nat}{w₀:World}(hB:w₀.heap.size<=B):OwnFrom B (λ(_:β) W=>Ext w₀ W):=ownFrom_below (QW _) hB
theorem Jf {B:Nat}{W W':World}(h:Ext W W'):KeepsFrom B W W':=⟨h.size,λk _ _ hk _=>(Below.block h k (SK.1 hk).1).trans hk⟩
theorem Box.ne {w:World}{g g':Nat}{t t':TypeId}{cs cs':Array Value}(h:Box w g t cs) (h':Box w g' t' cs') (QY:t≠t'):g≠g':=by
 rintro rfl;have h1:w.heap[g]? =some (.cells cs t (0,0)):=h;have h2:w.heap[g]? =some (.cells cs' t' (0,0)):=h';rw[h1]at h2;injection h2 with e;injection e with _ e2;exact QY e2
theorem Box.far {w:World}{g:Nat}{t:TypeId}{cs:Array Value}(h:Box w g t cs) {p:Addr}(hp:g≠p.block) (u:Value):Box (w.setCell p u) g t cs:=(kC w p u g hp).trans h
theorem DT (blk:List UInt8) (a e z:Nat) (w:World) (hz:e=a+z) (h:z=1\/z=2\/z=4) (hl:e<=blk.length) :
  Calls prog 164 #[.string ((Qb blk).extract a e)] w λe w'=>e=.returned (.int .u64 (JK blk a z))/\w=w':=by
 subst hz;rw[JJ,show a+z-a=z by omega];exact ID _ w (by simp[WV,WQ];omega)
theorem DR (b:List UInt8) (o z:Nat) (h:z<=4):0<=JK b o z/\JK b o z<4294967296:=by
 unfold JK;have h1:=Lx ((b.drop o).take z);have h2:((b.drop o).take z).length<=4:=by simp[WV];omega
 have h3:(256:Nat)^((b.drop o).take z).length<=256^4:=mI (by omega) h2;have h4:(256:Nat)^4=4294967296:=by decide
 omega
theorem Box.at {w:World}{g:Nat}{t:TypeId}{x:List Int}(h:Box w g t (Qj x)) (i:Nat) (hi:i<x.length):w.cell? ⟨g,i,none⟩=some (.int .i64 (x.getD i 0)):=by
 rw[h.cell i];simp[Qj,List.getD,hi]
theorem Box.cells12 {w:World}{g:Nat}{t:TypeId}{x:List Int}(h:Box w g t (Qj x)) (hx:x.length=12) :
  w.cell? ⟨g,0,none⟩=some (.int .i64 (x.getD 0 0))/\w.cell? ⟨g,1,none⟩=some (.int .i64 (x.getD 1 0))/\w.cell? ⟨g,2,none⟩=some (.int .i64 (x.getD 2 0))/\w.cell? ⟨g,3,none⟩=some (.int .i64 (x.getD 3 0))/\
  w.cell? ⟨g,4,none⟩=some (.int .i64 (x.getD 4 0))/\w.cell? ⟨g,5,none⟩=some (.int .i64 (x.getD 5 0))/\w.cell? ⟨g,6,none⟩=some (.int .i64 (x.getD 6 0))/\w.cell? ⟨g,7,none⟩=some (.int .i64 (x.getD 7 0))/\
  w.cell? ⟨g,8,none⟩=some (.int .i64 (x.getD 8 0))/\w.cell? ⟨g,9,none⟩=some (.int .i64 (x.getD 9 0))/\w.cell? ⟨g,10,none⟩=some (.int .i64 (x.getD 10 0))/\w.cell? ⟨g,11,none⟩=some (.int .i64 (x.getD 11 0)) :=
 ⟨h.at 0 (by omega),h.at 1 (by omega),h.at 2 (by omega),h.at 3 (by omega),h.at 4 (by omega),h.at 5 (by omega),h.at 6 (by omega),h.at 7 (by omega),h.at 8 (by omega),h.at 9 (by omega),h.at 10 (by omega),h.at 11 (by omega)⟩
theorem Lv {x:List Int}(hx:x.length=12):∃a b c d e f g h i j k l,x=[a,b,c,d,e,f,g,h,i,j,k,l]:=by
 match x,hx with
 | [a,b,c,d,e,f,g,h,i,j,k,l],_=>exact⟨a,b,c,d,e,f,g,h,i,j,k,l,rfl⟩
structure bZ (a W:World) (g:Nat) (t:TypeId) (cs:Array Value) (D:Nat) (ob:Obj):Prop where
 box:Box W g t cs
 ext:Ext a W
 low:a.heap.size<=g
 obj:W.heap[D]? =some ob
 cells:ob.isCells=false
theorem bZ.set {a W:World}{g:Nat}{t:TypeId}{cs:Array Value}{D:Nat}{ob:Obj}(h:bZ a W g t cs D ob) (i:Nat) (v:Value):bZ a (W.setCell ⟨g,i,none⟩ v) g t (cs.setIfInBounds i v) D ob :=
 ⟨h.box.set i v,h.ext.setCell h.low v,h.low,(KeepsOthers.setCell _ _ _).same D _ h.obj h.cells,h.cells⟩
theorem oe {a W:World}{g D:Nat}{t:TypeId}{cs:List Int}{ob:Obj}(m0 m1 m2 m3 m4 m5 m6 m7 m8 m9 m10 m11:Int) (hb:Box W g t (Qj cs)) (hcs:cs.length=12) (hx:Ext a W) (hg:a.heap.size<=g) (hK:W.heap[D]? =some ob) (hko:ob.isCells=false) :
  ∃W',(((((((((((W.setCell ⟨g,0,none⟩ (.int .i64 m0)).setCell ⟨g,1,none⟩ (.int .i64 m1)).setCell ⟨g,2,none⟩ (.int .i64 m2)).setCell ⟨g,3,none⟩ (.int .i64 m3)).setCell ⟨g,4,none⟩ (.int .i64 m4)).setCell ⟨g,5,none⟩ (.int .i64 m5)).setCell ⟨g,6,none⟩ (.int .i64 m6)).setCell ⟨g,7,none⟩ (.int .i64 m7)).setCell ⟨g,8,none⟩ (.int .i64 m8)).setCell ⟨g,9,none⟩ (.int .i64 m9)).setCell ⟨g,10,none⟩ (.int .i64 m10)).setCell ⟨g,11,none⟩ (.int .i64 m11)=W'/\
   Box W' g t (Qj [m0,m1,m2,m3,m4,m5,m6,m7,m8,m9,m10,m11])/\Ext a W'/\W'.heap[D]? =some ob:=by
 obtain⟨n0,n1,n2,n3,n4,n5,n6,n7,n8,n9,n10,n11,rfl⟩:=Lv hcs;have T:bZ a W g t _ D ob:=⟨hb,hx,hg,hK,hko⟩
 have T':=(((((((((((T.set 0 (.int .i64 m0)).set 1 (.int .i64 m1)).set 2 (.int .i64 m2)).set 3 (.int .i64 m3)).set 4 (.int .i64 m4)).set 5 (.int .i64 m5)).set 6 (.int .i64 m6)).set 7 (.int .i64 m7)).set 8 (.int .i64 m8)).set 9 (.int .i64 m9)).set 10 (.int .i64 m10)).set 11 (.int .i64 m11);refine⟨_,rfl,?_,T'.ext,T'.obj⟩;have B:=T'.box;simp only[Qj,FN,Cy,kA,List.set_cons_zero,mL]at B;exact B
theorem Box.putObj {w:World}{g:Nat}{t:TypeId}{cs:Array Value}(h:Box w g t cs) {D:Nat}{o:Obj}(o':Obj) (hD:w.heap[D]? =some o) (ho:o.isCells=false):Box (w.putObj D o') g t cs:=by
 have QY:g≠D:=by rintro rfl;have h':w.heap[g]? =some (.cells cs t (0,0)):=h;rw[hD]at h';cases h';cases ho
 exact((grownBy_putObj' w D o').block g h.lt (λe=>QY (by cases e;rfl))).trans h
theorem Ext.putObj {a w:World}(h:Ext a w) {D:Nat}{o:Obj}(o':Obj) (hD:w.heap[D]? =some o) (hl:a.heap.size<=D):Ext a (w.putObj D o') :=
 Below.grown h (grownBy_putObj' w D o') h.size (λk e=>by cases e;exact hl)
theorem I1 (b:List UInt8) (o:Nat):(Rg b o).length=12:=rfl
theorem aJ (b o n c:Nat) (B I k:Int) (blk:List UInt8) (w:World) (Y9:1<=k) (Xn:k<=64) (hn:3+(k-1)/2<n)
  (hc:w.cell? ⟨b,o+(3+(k-1)/2).toNat,none⟩=some (.string (Qb blk))) (hl:blk.length=128) :
  Calls prog 134 #[.slice (some ⟨b,o,none⟩) n c,JO B I,.int .i64 k] w λe w' => e=.returned (dP (Rg blk ((k-1)%2*64).toNat))/\Ext w w':=by
 have HP:=Qa (λw=>Pp (n:=5).2 (Ae B I k w Y9 Xn));have se:0<=3+(k-1)/2/\0<=(k-1)%2*64/\(k-1)%2*64<=64:=by omega
 generalize 3+(k-1)/2=q at *;generalize (k-1)%2*64=p0 at *;refine(Pp (n:=6)).1 ?_;refine callsIn_of_wp_marks func134 rfl trivial ?_ rfl;simp only[ntmps134,N1,YV,Tz,Nat.reduceAdd,Nat.reduceSub,ah,ak,aq,an,Cx,DB];unfold JO at HP ⊢
 gi_wp2_with (first
  | (refine⟨trivial,?_⟩;gi_at_call 193;refine(HP.o _).mono ?_;rintro e w1 ⟨rfl,x1⟩)
  | (refine⟨trivial,?_⟩;gi_at_call 194;refine(Pp.2 (F0 _ _)).mono ?_;rintro e w2 ⟨rfl,rfl⟩))
 obtain⟨p,rfl⟩:=kB se.2.1;have kl:Ext w w1:=((((Qf w).alloc _).alloc _).alloc _).trans x1;have s1:=x1.size;simp only[Ki]at s1;have ra:Box w1 w.heap.size 22 #[.slice (some ⟨b,o,none⟩) n c]:=(((QA w _ _).ext ((Qf _).alloc _)).ext ((Qf _).alloc _)).ext x1;have rZ:Box w1 (w.heap.size+1+1) 121 (Qj QE):=by have:=(QA ((w.alloc (.cells #[.slice (some ⟨b,o,none⟩) n c] 22)).alloc (.cells #[.int .i64 B,.int .i64 I,.int .i64 1,.int .i64 2,.int .i64 3,.int .i64 (3+(I+1)/2)] 144)) 121 (Qj QE)).ext x1;simpa only[Ki]using this
 clear x1 HP;have b7:=QA w1 3 #[.int .i64 q];have x2:Ext w1 (w1.alloc (.cells #[.int .i64 q] 3)):=(Qf _).alloc _;have z2:(w1.alloc (.cells #[.int .i64 q] 3)).heap.size=w1.heap.size+1:=Ki _ _;generalize w1.alloc (.cells #[.int .i64 q] 3)=w2 at b7 x2 z2 ⊢;have b8:=QA w2 3 #[.int .i64 (p:Int)];have x3:Ext w2 (w2.alloc (.cells #[.int .i64 (p:Int)] 3)):=(Qf _).alloc _;have z3:(w2.alloc (.cells #[.int .i64 (p:Int)] 3)).heap.size=w1.heap.size+1+1:=by rw[Ki,z2]
 rw[z2]at b8;generalize w2.alloc (.cells #[.int .i64 (p:Int)] 3)=w3 at b8 x3 z3 ⊢;have bX:=QA w3 121 (Qj QE);have x4:Ext w3 (w3.alloc (.cells (Qj QE) 121)):=(Qf _).alloc _;have z4:(w3.alloc (.cells (Qj QE) 121)).heap.size=w1.heap.size+1+1+1:=by rw[Ki,z3]
 rw[z3]at bX;change Code.wpIn _ _ _ _ _ _ ((w3.alloc (.cells (Qj QE) 121)).alloc _);generalize w3.alloc (.cells (Qj QE) 121)=w4 at bX x4 z4 ⊢;have bN:=QA w4 262 #[.pointer (some ⟨w1.heap.size+1+1,0,none⟩)];have x5:Ext w4 (w4.alloc (.cells #[.pointer (some ⟨w1.heap.size+1+1,0,none⟩)] 262)):=(Qf _).alloc _;rw[z4]at bN;generalize w4.alloc (.cells #[.pointer (some ⟨w1.heap.size+1+1,0,none⟩)] 262)=W0 at bN x5 ⊢;have y:=x2.trans (x3.trans (x4.trans x5));replace b7:=b7.ext (x3.trans (x4.trans x5));replace b8:=b8.ext (x4.trans x5);replace bX:=bX.ext x5;replace ra:=ra.ext y;replace rZ:=rZ.ext y;have X0:=kl.trans y;clear x2 x3 x4 x5 z2 z3 z4 kl y;generalize hG7:w1.heap.size=G7 at *;generalize hGV:w.heap.size=GV at *;clear hG7 w1;have zN:=bN.lt
 refine wpIn_rangeFunc_ownH rfl (by decide) (gf:=222) (lb:=#[.pointer (some ⟨G7+1+1+1,0,none⟩)]) rfl trivial (enters_of func222 (by kernel_rfl) rfl)
  (Lb 5 (by decide) (G7+1+1+1) (G7+1+1) W0 bN) Tw.trans Tw.book (bj _ _) (λ_=>rfl)
  (λpre W=>Ext w W/\Box W GV 22 #[.slice (some ⟨b,o,none⟩) n c]/\Box W (GV+1+1) 121 (Qj QE)/\Box W G7 3 #[.int .i64 q]/\
   Box W (G7+1) 3 #[.int .i64 ((XY blk pre (QE,p)).2:Int)]/\Box W (G7+1+1) 121 (Qj (XY blk pre (QE,p)).1))
  (λ_ _ _=>False)
  (OwnFrom.and (Wl X0.size) (OwnFrom.and (Own.from (JM _ _ _) _) (OwnFrom.and (Own.from (JM _ _ _) _) (OwnFrom.and (Own.from (JM _ _ _) _) (OwnFrom.and (Own.from (JM _ _ _) _) (Own.from (JM _ _ _) _))))))
  (λ_ _ _ _ _ hs _ _=>hs) ⟨X0,ra,rZ,b7,b8,bX⟩
  (λx a' W=>∃Bx,Box W Bx 265 #[.int .i64 (Yl x),.pointer (some ⟨G7+1+1,Zc x,none⟩)]/\a'={ tmps:=#[.slice (some ⟨b,o,none⟩) n c,.agg #[.int .i64 B,.int .i64 I,.int .i64 1,.int .i64 2,.int .i64 3,.int .i64 (3+(I+1)/2)],.int .i64 k,.pointer (some ⟨GV,0,none⟩),.pointer (some ⟨GV+1,0,none⟩),undef,.pointer (some ⟨GV+1+1,0,none⟩),.pointer (some ⟨G7,0,none⟩),.pointer (some ⟨G7+1,0,none⟩),.pointer (some ⟨G7+1+1,0,none⟩),.pointer (some ⟨Bx,0,none⟩),.tuple #[.int .i64 q,.int .i64 (p:Int)],.agg #[.int .i64 B,.int .i64 I,.int .i64 1,.int .i64 2,.int .i64 3,.int .i64 (3+(I+1)/2)],.int .i64 k,.tuple #[.int .i64 q,.int .i64 (p:Int)],.int .i64 q,.int .i64 (p:Int),.func (.func 222) #[] #[.pointer (some ⟨G7+1+1+1,0,none⟩)],.agg #[.int .i64 (Yl x),.pointer (some ⟨G7+1+1,Zc x,none⟩)],undef,undef,undef,undef,undef,undef,undef,undef,undef,undef,undef,undef,undef,undef,undef,undef,undef,undef,undef,undef],defers:=[] })
  (λx a' _ X Y row hs hg hr=>?hAx) ?assign ?body ?done ?stop
 case hAx => obtain⟨Bx,hb,rfl⟩:=hs;exact⟨Bx,Own.from (JM Bx _ (λ(_:Unit)=>_)) _ () X Y row hb hg hr,rfl⟩
 case assign => rintro l pre x W K ⟨i1,i2,i3,i4,i5,i6⟩ hK;simp only[iS];gi_wp2;have xx:Ext W (W.alloc (.cells #[.int .i64 (Yl x),.pointer (some ⟨G7+1+1,Zc x,none⟩)] 265)):=(Qf W).alloc _;exact hK _ _ (Jf xx) (Tw.ext xx) ⟨i1.trans xx,i2.ext xx,i3.ext xx,i4.ext xx,i5.ext xx,i6.ext xx⟩ ⟨W.heap.size,QA _ _ _,rfl⟩
 case body =>
  rintro l pre x a' W dL ⟨r,hr⟩ ⟨i1,i2,i3,i4,i5,i6⟩ ⟨Bx,bx,rfl⟩ Qo;have dF:=G6 blk pre (QE,p);have Rb:=Qa (R3 blk x pre (QE,p));have hz:=Hz x;have Uz:=C9 x;have Vb:=ML blk pre (QE,p);generalize XY blk pre (QE,p)=s at *;generalize Yl x=z at *;generalize Zc x=fp at *;have hp64:(p:Int)<=64:=se.2.2;have kW:s.2+4<=128:=by simp only at dF;omega
  obtain⟨z,rfl⟩:=kB (show 0<=z by omega);have hz':z=1\/z=2\/z=4:=by omega
  have cV:∀y:Qg W,y.now.cell? ⟨GV,0,none⟩=some (.slice (some ⟨b,o,none⟩) n c):=λy=>(i2.ext y.ext).cell 0;have c7:∀y:Qg W,y.now.cell? ⟨G7,0,none⟩=some (.int .i64 q):=λy=>(i4.ext y.ext).cell 0;have c8:∀y:Qg W,y.now.cell? ⟨G7+1,0,none⟩=some (.int .i64 (s.2:Int)):=λy=>(i5.ext y.ext).cell 0;have f0:∀y:Qg W,y.now.cell? ⟨Bx,0,none⟩=some (.int .i64 (z:Int)):=λy=>(bx.ext y.ext).cell 0;have f1:∀y:Qg W,y.now.cell? ⟨Bx,1,none⟩=some (.pointer (some ⟨G7+1+1,fp,none⟩)):=λy=>(bx.ext y.ext).cell 1;have cS:∀y:Qg W,y.now.cell? ⟨b,o+q.toNat,none⟩=some (.string (Qb blk)):=λy=>(i1.trans y.ext).keep hc;have VH:(Qb blk).size=128:=by rw[Qh,hl]
  have t1:(0:Int)<=(s.2:Int):=by omega
  have t2:IntKind.i64.wrap ((s.2:Int)+(z:Int))=(s.2:Int)+(z:Int):=IntWalk.i64_in _ (by omega);have t3:(0:Int)<=(s.2:Int)+(z:Int):=by omega
  have t4:((s.2:Int)+(z:Int)).toNat=s.2+z:=by omega
  have nh:=se.1;have HG:=Qa (λw=>DT blk s.2 (s.2+z) z w rfl hz' (by omega));gi_wp2;refine Km 15 (by rintro⟨_,_,h⟩;exact h) (by kernel_rfl) (by kernel_rfl) (by kernel_rfl) ?_;simp only[Yh,Yt,YB,Yu];repeat (go_big_quiet_step ((exact Jq (HG.o _))))
  refine Y7 ?_;rintro w2 ⟨y,rfl⟩;have sZ:fp<s.1.length:=by rw[Vb];exact Uz
  have j6:=i6.ext y.ext;have j5:=i5.ext y.ext;have jb:=bx.ext y.ext;have k6:y.now.cell? ⟨G7+1+1,fp,none⟩=some (.int .i64 (s.1[fp]'sZ)):=(j6.cell fp).trans (by simp[Qj,sZ]);have k6f:=j6.frozen fp;have g1:y.now.cell? ⟨Bx,0,none⟩=some (.int .i64 (z:Int)):=f0 y;have g2:y.now.cell? ⟨G7+1,0,none⟩=some (.int .i64 (s.2:Int)):=c8 y;have ne1:Bx≠G7+1+1:=bx.ne i6 (by decide);have ne2:G7+1≠G7+1+1:=by omega
  clear cV c7 c8 f0 f1 cS HG t2 t4;go_wp2_with fail;have hnb:=DR blk s.2 z (by omega);rw[IntWalk.wrap64_in _ ⟨by omega,by omega⟩];have e1:=j6.set fp (.int .i64 (JK blk s.2 z));have e2:=j5.far (p:=⟨G7+1+1,fp,none⟩) ne2 (.int .i64 (JK blk s.2 z));have e3:=jb.far (p:=⟨G7+1+1,fp,none⟩) ne1 (.int .i64 (JK blk s.2 z));have e4:=(i2.ext y.ext).far (p:=⟨G7+1+1,fp,none⟩) (show GV≠G7+1+1 by omega) (.int .i64 (JK blk s.2 z));have e5:=(i3.ext y.ext).far (p:=⟨G7+1+1,fp,none⟩) (show GV+1+1≠G7+1+1 by omega) (.int .i64 (JK blk s.2 z));have e6:=(i4.ext y.ext).far (p:=⟨G7+1+1,fp,none⟩) (show G7≠G7+1+1 by omega) (.int .i64 (JK blk s.2 z));have e7:=(i1.trans y.ext).setCell (p:=⟨G7+1+1,fp,none⟩) (show w.heap.size<=G7+1+1 by omega) (.int .i64 (JK blk s.2 z));have e8:Tw W (y.now.setCell ⟨G7+1+1,fp,none⟩ (.int .i64 (JK blk s.2 z))):=(Tw.ext y.ext).set j6 (by decide) (by decide) fp _;have e9:KeepsFrom W0.heap.size W (y.now.setCell ⟨G7+1+1,fp,none⟩ (.int .i64 (JK blk s.2 z))):=(Jf y.ext).trans ((KeepsOthers.setCell _ _ _).from _);generalize y.now.setCell ⟨G7+1+1,fp,none⟩ (.int .i64 (JK blk s.2 z))=W5 at e1 e2 e3 e4 e5 e6 e7 e8 e9 ⊢;have r1:W5.cell? ⟨Bx,0,none⟩=some (.int .i64 (z:Int)):=e3.cell 0;have r2:W5.cell? ⟨G7+1,0,none⟩=some (.int .i64 (s.2:Int)):=e2.cell 0;have r2f:=e2.frozen 0;gi_wp2;have hL:(Qj s.1).setIfInBounds fp (.int .i64 (JK blk s.2 z))=Qj (s.1.set fp (JK blk s.2 z)):=by simp[Qj,List.map_set]
  rw[hL]at e1;refine⟨e9.trans ((KeepsOthers.setCell _ _ _).from _),e8.set e2 (by decide) (by decide) 0 _,e7.setCell (p:=⟨G7+1,0,none⟩) (show w.heap.size<=G7+1 by omega) _,e4.far (p:=⟨G7+1,0,none⟩) (show GV≠G7+1 by omega) _,e5.far (p:=⟨G7+1,0,none⟩) (show GV+1+1≠G7+1 by omega) _,e6.far (p:=⟨G7+1,0,none⟩) (show G7≠G7+1 by omega) _,?_,?_⟩
  ·rw[Rb.o];exact e2.set 0 _
  ·rw[Rb.o];exact e1.far (p:=⟨G7+1,0,none⟩) (show G7+1+1≠G7+1 by omega) _
 case done =>
  rintro D ys W hD rfl ⟨i1,i2,i3,i4,i5,i6⟩ hK;rw[AB]at i6;have Ln:=I1 blk p;have HV:Zv (dP (Rg blk ((p:Int)).toNat)=dP (Rg blk p)):=rfl;generalize Rg blk p=x at i6 Ln HV;obtain⟨m0,m1,m2,m3,m4,m5,m6,m7,m8,m9,m10,m11,rfl⟩:=Lv Ln;obtain⟨q0,q1,q2,q3,q4,q5,q6,q7,q8,q9,ke,q11⟩:=i6.cells12 rfl;obtain⟨u0,u1,u2,u3,u4,u5,u6,u7,u8,u9,u10,u11⟩:=i3.cells12 rfl;have v0:=i3.frozen 0;have v1:=i3.frozen 1;have v2:=i3.frozen 2;have v3:=i3.frozen 3;have v4:=i3.frozen 4;have v5:=i3.frozen 5;have v6:=i3.frozen 6;have v7:=i3.frozen 7;have v8:=i3.frozen 8;have v9:=i3.frozen 9;have v10:=i3.frozen 10;have v11:=i3.frozen 11
  simp only[pY,pZ]at q0 q1 q2 q3 q4 q5 q6 q7 q8 q9 ke q11;clear i2 i4 i5 i6;gi_wp2;obtain⟨W',eW,bF,xF,kF⟩:=oe m0 m1 m2 m3 m4 m5 m6 m7 m8 m9 m10 m11 i3 rfl i1 (show w.heap.size<=GV+1+1 by omega) hK rfl;rw[eW];clear eW u0 u1 u2 u3 u4 u5 u6 u7 u8 u9 u10 u11 v0 v1 v2 v3 v4 v5 v6 v7 v8 v9 v10 v11 q0 q1 q2 q3 q4 q5 q6 q7 q8 q9 ke q11;refine⟨by simp,.inl ⟨_,_,rfl,run_takeDeferred kF,?_⟩⟩;have xP:=xF.putObj (.deferred none) kF (show w.heap.size<=D by have:=X0.size;omega);have bP:=bF.putObj (.deferred none) kF rfl;generalize W'.putObj D (.deferred none)=WF at xP bP ⊢;obtain⟨q0,q1,q2,q3,q4,q5,q6,q7,q8,q9,ke,q11⟩:=bP.cells12 rfl;simp only[pY,pZ]at q0 q1 q2 q3 q4 q5 q6 q7 q8 q9 ke q11;refine⟨_,?_,congrArg Ending.returned HV.o.symm,xP⟩;simp[results,Tryz.f134,go_sem,q0,q1,q2,q3,q4,q5,q6,q7,q8,q9,ke,q11,dP,Qj]
 case stop => rintro D c pre W _ _ h _;exact h.elim
attribute [local go_sem] A9
def rv (x:List Int) (k:Fin 12):Bool:=decide (0<=x.getD (Zc k) 0/\x.getD (Zc k) 0<256^(Yl k).toNat)
def P7 (x:List Int):Bool:=Vi.all (rv x)
attribute [local go_sem] A9
theorem Tw.grown {A w w':World}{base size n:Nat}{e:TypeId}{v:Value}{xs:List Value}(h:Tw A w) (ho:w.ownsRow base e size v n xs) (hg:w.grownBy w' v.ownBlock) (h1:e≠265) (h2:e≠262):Tw A w':=by
 intro b cs t hb ht;have k:=h b cs t hb ht;refine Box.grown k hg (Jz ho k ?_);rcases ht with rfl|rfl
 ·exact h1
 ·exact h2
def Ic (x:List Int) (pre:List (Fin 12)):List UInt8:=pre.flatMap λk=>JA (x.getD (Zc k) 0) (Yl k).toNat
def jA (x:List Int):List UInt8:=Ic x Vi
theorem Rf (x:List Int):(jA x).length=24:=by
 simp only[jA,Ic,Vi,AV,pm,Kh,QO,Tz];rfl
def UB (b:List UInt8) (p:Nat) (s:List UInt8):List UInt8:=b.take p++s++b.drop (p+s.length)
theorem Mr (b:List UInt8) (p:Nat) (s:List UInt8) (h:p+s.length<=b.length):(UB b p s).length=b.length:=by simp[UB];omega
end Go.Proofs.YtfaplefkakpgcaaGreatDoor
namespace Go.Proofs.YtfaplefkakpgcaaGreatDoor
open Go.Proofs.Tryz
open Go.RowKit
theorem VS (w:World) (g:Nat) (cs:Array Value):w.grownBy (w.setRow g cs) (some g) :=
 ⟨rfl,rfl,rfl,by simp,λk _ QY=>setRow_other w g k cs (λe=>QY (by rw[e]))⟩
def Ls:TypeDesc->Bool
 | .struct _=>true
 | .array _ _=>true
 | _=>false
section
variable {ops:Array Oper}{rest:List Oper}{o:Oper}{a:Act}{w:World}{Q:Exit->Act->World->Prop}
theorem Yv (T:TypeId) (x y:Operand) (Q7:o.guard=none) (ho:o.op=.store T x y) (g:Nat) (cells old:Array Value) (t:TypeId) (hx:a.eval x=.pointer (some ⟨g,0,none⟩)) (hy:a.eval y=.agg cells)
  (hb:Box w g t old) (hi:(prog.info? T).map (·.size)=some cells.size) (hold:old.size=cells.size) (h1:cells.all (·.oneCell')=true)
  (hK:∀w',Box w' g t cells->w.grownBy w' (some g)->wpList prog ops Q rest (a.put o.dst undef) w'):wpList prog ops Q (o::rest) a w :=
 wpList_store_row Q7 T x y ho g cells hx hy t old hb hi hold h1 (hK _ (Wc hb) (VS w g cells))
theorem XZ (T:TypeId) (x:Operand) (Q7:o.guard=none) (ho:o.op=.load T x) (g:Nat) (cells:Array Value) (t:TypeId) (d:TypeDesc) (hx:a.eval x=.pointer (some ⟨g,0,none⟩))
  (hb:Box w g t cells) (hu:prog.underlying T=some d) (hd:Ls d=true) (hi:(prog.info? T).map (·.size)=some cells.size)
  (hK:wpList prog ops Q rest (a.put o.dst (.agg cells)) w):wpList prog ops Q (o::rest) a w :=
 wpList_load_row Q7 T x ho g hx t cells (0,0) d hb hu (by cases d<;>first|rfl|cases hd) hi hK
end
theorem JQ (x:List Int):(Qj x).size=x.length:=by simp[Qj]
theorem NH (x:List Int):(Qj x).all (·.oneCell')=true:=by
 rw[pX];intro v hv;simp only[Qj,List.mem_toArray,Pq]at hv;obtain⟨n,_,rfl⟩:=hv;rfl
theorem Ws:(prog.info? 121).map (·.size)=some 12:=by kernel_rfl
theorem QU:(prog.info? 144).map (·.size)=some 6:=by kernel_rfl
section
variable {ops:Array Oper}{rest:List Oper}{o:Oper}{a:Act}{w:World}{Q:Exit->Act->World->Prop}
theorem QR (x y:Operand) (Q7:o.guard=none) (ho:o.op=.store 121 x y) (g:Nat) (l l0:List Int) (t:TypeId) (hx:a.eval x=.pointer (some ⟨g,0,none⟩)) (hy:a.eval y=.agg (Qj l))
  (hb:Box w g t (Qj l0)) (hl:l.length=12) (dL:l0.length=12)
  (hK:∀w',Box w' g t (Qj l)->w.grownBy w' (some g)->wpList prog ops Q rest (a.put o.dst undef) w'):wpList prog ops Q (o::rest) a w :=
 Yv _ x y Q7 ho g _ _ t hx hy hb (by rw[JQ,hl];exact Ws) (by rw[JQ,JQ,hl,dL]) (NH l) hK
theorem AN (x:Operand) (Q7:o.guard=none) (ho:o.op=.load 121 x) (g:Nat) (l:List Int) (t:TypeId) (hx:a.eval x=.pointer (some ⟨g,0,none⟩))
  (hb:Box w g t (Qj l)) (hl:l.length=12) (hK:wpList prog ops Q rest (a.put o.dst (.agg (Qj l))) w):wpList prog ops Q (o::rest) a w :=
 XZ _ x Q7 ho g _ t _ hx hb underlying121 rfl (by rw[JQ,hl];exact Ws) hK
theorem YO (x:Operand) (Q7:o.guard=none) (ho:o.op=.load 144 x) (g:Nat) (l:List Int) (t:TypeId) (hx:a.eval x=.pointer (some ⟨g,0,none⟩))
  (hb:Box w g t (Qj l)) (hl:l.length=6) (hK:wpList prog ops Q rest (a.put o.dst (.agg (Qj l))) w):wpList prog ops Q (o::rest) a w :=
 XZ _ x Q7 ho g _ t _ hx hb underlying144 rfl (by rw[JQ,hl];exact QU) hK
theorem Qu (x y:Operand) (Q7:o.guard=none) (ho:o.op=.store 144 x y) (g:Nat) (l l0:List Int) (t:TypeId) (hx:a.eval x=.pointer (some ⟨g,0,none⟩)) (hy:a.eval y=.agg (Qj l))
  (hb:Box w g t (Qj l0)) (hl:l.length=6) (dL:l0.length=6)
  (hK:∀w',Box w' g t (Qj l)->w.grownBy w' (some g)->wpList prog ops Q rest (a.put o.dst undef) w'):wpList prog ops Q (o::rest) a w :=
 Yv _ x y Q7 ho g _ _ t hx hy hb (by rw[JQ,hl];exact QU) (by rw[JQ,JQ,hl,dL]) (NH l) hK
end
theorem Vn (B I:Int):JO B I=.agg (Qj [B,I,1,2,3,3+(I+1)/2]):=rfl
theorem Qn {fn:Func}{p s:Tmp}{ty:TypeId}(h:fn.results=#[.cell p ty,.tmp s]) (tmps:Array Value) (w:World) (g:Nat) (t:TypeId) (cs:Array Value) (d:TypeDesc) (v:Value)
  (hp:tmps.getD p undef=.pointer (some ⟨g,0,none⟩)) (hs:tmps.getD s undef=v) (hg:Box w g t cs)
  (hu:prog.underlying ty=some d) (hd:Ls d=true) (hi:(prog.info? ty).map (·.size)=some cs.size) :
  (results fn tmps).run prog w=.ok (.tuple #[.agg cs,v]) w:=by
 have nf:tmps[p]?.getD undef=.pointer (some ⟨g,0,none⟩):=by simpa using hp
 have ff:tmps[s]?.getD undef=v:=by simpa using hs
 simp[results,h,nf,ff,asAddr,mR w g t ty cs (0,0) d hg hu (by cases d<;>first|rfl|cases hd) hi]
theorem Ym {v:List (List UInt8)}{I:Int}(hg:Ji v I) {i:Nat}(hi:i<v.length):(v.getD i []).length=128:=by
 rw[ZG,JZ hi];exact hg.all i hi
theorem BH (A:Option Addr) (n c:Nat) (v:List (List UInt8)) (I k:Int) (w:World) (hv:Strs w A n v) (hg:Ji v I) (Y9:1<=k) (Xn:k<=I) :
  Calls prog 133 #[.slice A n c,.int .i64 k] w λe w'=>e=.returned (.tuple #[JO v.length I,.int .i64 0])/\Ext w w':=by
 have Uz:=QM hg.plan;have HO:=Qa (λw h=>Ly A n c v I w h hg);have d1:decide (k<1)=false:=by simp;omega
 have d2:decide (I<k)=false:=by simp;omega
 go_enter func133,ntmps133;go_wp2_with fail;refine(HO.o _ (hv.ext ((Qf _).alloc _))).mono ?_;rintro e w1 ⟨rfl,x1⟩;rw[Vn];have x0:Ext w w1:=((Qf w).alloc _).trans x1;have bR:Box w1 w.heap.size 144 (Qj [0,0,0,0,0,0]):=(QA w 144 _).ext x1;have Qo:=bR.lt;clear x1
 go_wp2_with (first
  | (refine Qu (.tmp 6) (.tmp 11) rfl rfl w1.heap.size _ [0,0,0,0,0,0] 144 rfl rfl (QA _ _ _) rfl rfl ?_;intro w2 b2 g2;have c1:w2.cell? ⟨w1.heap.size,1,none⟩=some (.int .i64 I):=b2.cell 1)
  | (refine YO (.tmp 6) rfl rfl w1.heap.size _ 144 rfl b2 rfl ?_)
  | (refine Qu (.tmp 4) (.tmp 26) rfl rfl w.heap.size _ [0,0,0,0,0,0] 144 rfl rfl ((bR.ext ((Qf _).alloc _)).grown g2 (by simp;omega)) rfl rfl ?_;intro w3 b3 g3))
 refine ZD (Qn rfl _ _ w.heap.size _ _ _ (.int .i64 0) rfl rfl b3 underlying144 rfl QU) rfl ⟨rfl,?_⟩;exact((x0.alloc _).grown g2 (λk e=>by cases e;exact x0.size)).grown g3 (λk e=>by cases e;exact QW _)
theorem I4 (A:Option Addr) (n c:Nat) (v:List (List UInt8)) (I k:Int) (w:World) (hv:Strs w A n v) (hg:Ji v I) (hk:k<1\/I<k) :
  Calls prog 133 #[.slice A n c,.int .i64 k] w λe w'=>e=.returned (.tuple #[Jj,.int .i64 2])/\Ext w w':=by
 have Uz:=QM hg.plan;have HO:=Qa (λw h=>Ly A n c v I w h hg);rcases(by omega:k<1\/(1<=k/\I<k)) with hk|⟨hk,Xn⟩
 ·have d1:decide (k<1)=true:=by simpa using hk
  go_enter func133,ntmps133;go_wp2_with fail;refine(HO.o _ (hv.ext ((Qf _).alloc _))).mono ?_;rintro e w1 ⟨rfl,x1⟩;rw[Vn];have x0:Ext w w1:=((Qf w).alloc _).trans x1;have bR:Box w1 w.heap.size 144 (Qj [0,0,0,0,0,0]):=(QA w 144 _).ext x1;have Qo:=bR.lt;clear x1
  go_wp2_with (first
   | (refine Qu (.tmp 6) (.tmp 11) rfl rfl w1.heap.size _ [0,0,0,0,0,0] 144 rfl rfl (QA _ _ _) rfl rfl ?_;intro w2 b2 g2;have c1:w2.cell? ⟨w1.heap.size,1,none⟩=some (.int .i64 I):=b2.cell 1)
   | (refine Qu (.tmp 4) (.tmp 25) rfl rfl w.heap.size [0,0,0,0,0,0] [0,0,0,0,0,0] 144 rfl rfl ((bR.ext ((Qf _).alloc _)).grown g2 (by simp;omega)) rfl rfl ?_;intro w3 b3 g3))
  refine ZD (Qn rfl _ _ w.heap.size _ _ _ (.int .i64 2) rfl rfl b3 underlying144 rfl QU) rfl ⟨rfl,?_⟩;exact((x0.alloc _).grown g2 (λk e=>by cases e;exact x0.size)).grown g3 (λk e=>by cases e;exact QW _)
 ·have d1:decide (k<1)=false:=by simp;omega
  have d2:decide (I<k)=true:=by simpa using Xn
  go_enter func133,ntmps133;go_wp2_with fail;refine(HO.o _ (hv.ext ((Qf _).alloc _))).mono ?_;rintro e w1 ⟨rfl,x1⟩;rw[Vn];have x0:Ext w w1:=((Qf w).alloc _).trans x1;have bR:Box w1 w.heap.size 144 (Qj [0,0,0,0,0,0]):=(QA w 144 _).ext x1;have Qo:=bR.lt;clear x1
  go_wp2_with (first
   | (refine Qu (.tmp 6) (.tmp 11) rfl rfl w1.heap.size _ [0,0,0,0,0,0] 144 rfl rfl (QA _ _ _) rfl rfl ?_;intro w2 b2 g2;have c1:w2.cell? ⟨w1.heap.size,1,none⟩=some (.int .i64 I):=b2.cell 1)
   | (refine Qu (.tmp 4) (.tmp 25) rfl rfl w.heap.size [0,0,0,0,0,0] [0,0,0,0,0,0] 144 rfl rfl ((bR.ext ((Qf _).alloc _)).grown g2 (by simp;omega)) rfl rfl ?_;intro w3 b3 g3))
  refine ZD (Qn rfl _ _ w.heap.size _ _ _ (.int .i64 2) rfl rfl b3 underlying144 rfl QU) rfl ⟨rfl,?_⟩;exact((x0.alloc _).grown g2 (λk e=>by cases e;exact x0.size)).grown g3 (λk e=>by cases e;exact QW _)
def QV (v:List (List UInt8)) (k:Int):List Int:=Rg (v.getD (3+(k-1)/2).toNat []) ((k-1)%2*64).toNat
theorem Uf (v:List (List UInt8)) (k:Int):(QV v k).length=12:=rfl
theorem Nk:Jj=.agg (Qj [0,0,0,0,0,0]):=rfl
theorem AD (b o n c:Nat) (v:List (List UInt8)) (I k:Int) (w:World) (hv:Strs w (some ⟨b,o,none⟩) n v) (hg:Ji v I) (Y9:1<=k) (Xn:k<=I) :
  Calls prog 134 #[.slice (some ⟨b,o,none⟩) n c,.agg (Qj [v.length,I,1,2,3,3+(I+1)/2]),.int .i64 k] w λe w'=>e=.returned (.agg (Qj (QV v k)))/\Ext w w':=by
 have Uz:=QM hg.plan;obtain⟨rfl,Kl⟩:=hv;obtain⟨b',o',e,Qd⟩:=Kl (by omega);cases e;have hi:(3+(k-1)/2).toNat<v.length:=by omega
 have hc:=Qd _ hi;refine aJ b o v.length c v.length I k (v.getD (3+(k-1)/2).toNat []) w Y9 (by omega) (by omega) ?_ (Ym hg hi);rw[hc,ZG,JZ hi];rfl
theorem KA (A:Option Addr) (n c:Nat) (v:List (List UInt8)) (I k:Int) (w:World) (hv:Strs w A n v) (hg:Ji v I) (Y9:1<=k) (Xn:k<=I) :
  Calls prog 69 #[.slice A n c,.int .i64 k] w λe w'=>e=.returned (.tuple #[.agg (Qj (QV v k)),.int .i64 0])/\Ext w w':=by
 have Uz:=QM hg.plan;have HO:=Qa (λw h=>BH A n c v I k w h hg Y9 Xn);obtain⟨b,o,rfl,_⟩:=hv.2 (by have:=hv.1;omega);have HT:=Qa (λw h=>AD b o n c v I k w h hg Y9 Xn);go_enter func69,ntmps69;go_wp2_with fail;refine(HO.o _ (hv.ext ((Qf _).alloc _))).mono ?_;rintro e w1 ⟨rfl,x1⟩;rw[Vn];have x0:Ext w w1:=((Qf w).alloc _).trans x1;have bR:Box w1 w.heap.size 121 (Qj QE):=(QA w 121 _).ext x1;have Qo:=bR.lt;clear x1
 go_wp2_with (first
  | (refine Qu (.tmp 6) (.tmp 12) rfl rfl w1.heap.size _ [0,0,0,0,0,0] 144 rfl rfl (QA _ _ _) rfl rfl ?_;intro w2 b2 g2;have x2:Ext w w2:=(x0.alloc _).grown g2 (λk e=>by cases e;exact x0.size))
  | (refine YO (.tmp 6) rfl rfl w1.heap.size _ 144 rfl b2 rfl ?_)
  | (go_at_call 134;refine(HT.o _ (hv.ext x2)).mono ?_;rintro e w3 ⟨rfl,x3⟩)
  | (refine QR (.tmp 4) (.tmp 21) rfl rfl w.heap.size _ QE 121 rfl rfl (((bR.ext ((Qf _).alloc _)).grown g2 (by simp;omega)).ext x3) rfl rfl ?_;intro w4 b4 g4))
 refine ZD (Qn rfl _ _ w.heap.size _ _ _ (.int .i64 0) rfl rfl b4 underlying121 rfl Ws) rfl ⟨rfl,?_⟩;exact(x2.trans x3).grown g4 (λk e=>by cases e;exact QW _)
theorem Tl (A:Option Addr) (n c:Nat) (v:List (List UInt8)) (I k:Int) (w:World) (hv:Strs w A n v) (hg:Ji v I) (hk:k<1\/I<k) :
  Calls prog 69 #[.slice A n c,.int .i64 k] w λe w'=>e=.returned (.tuple #[.agg (Qj QE),.int .i64 2])/\Ext w w':=by
 have HO:=Qa (λw h=>I4 A n c v I k w h hg hk);go_enter func69,ntmps69;go_wp2_with fail;refine(HO.o _ (hv.ext ((Qf _).alloc _))).mono ?_;rintro e w1 ⟨rfl,x1⟩;rw[Nk];have x0:Ext w w1:=((Qf w).alloc _).trans x1;have bR:Box w1 w.heap.size 121 (Qj QE):=(QA w 121 _).ext x1;have Qo:=bR.lt;clear x1
 go_wp2_with (first
  | (refine Qu (.tmp 6) (.tmp 12) rfl rfl w1.heap.size _ [0,0,0,0,0,0] 144 rfl rfl (QA _ _ _) rfl rfl ?_;intro w2 b2 g2;have x2:Ext w w2:=(x0.alloc _).grown g2 (λk e=>by cases e;exact x0.size))
  | (refine QR (.tmp 4) (.tmp 16) rfl rfl w.heap.size QE QE 121 rfl rfl ((bR.ext ((Qf _).alloc _)).grown g2 (by simp;omega)) rfl rfl ?_;intro w4 b4 g4))
 refine ZD (Qn rfl _ _ w.heap.size _ _ _ (.int .i64 2) rfl rfl b4 underlying121 rfl Ws) rfl ⟨rfl,?_⟩;exact x2.grown g4 (λk e=>by cases e;exact QW _)
def putAt (v:List (List UInt8)) (k:Int) (x:List Int):List (List UInt8):=v.set (3+(k-1)/2).toNat (UB (v.getD (3+(k-1)/2).toNat []) ((k-1)%2*64).toNat (jA x))
theorem Nt (B I:Int) (w:World) (h:YY B I=true) :
  Calls prog 168 #[.int .i64 B,.int .i64 I] w λe w'=>e=.returned (.tuple #[JO B I,.int .i64 0])/\Ext w w':=by
 have hp:=QM h;clear h;have d1:decide (B<16)=false:=by simp;omega
 have d2:decide (223<B)=false:=by simp;omega
 have d3:decide (I<4)=false:=by simp;omega
 have d4:decide (64<I)=false:=by simp;omega
 go_enter func168,ntmps168;go_wp2_with fail;exact ZD (v:=.tuple #[JO B I,.int .i64 0]) (by simp[results,Tryz.results168,go_sem,JO]) rfl ⟨rfl,((Qf _).alloc _).alloc _⟩
theorem ER (n:Nat) (w:World) (h:n<=100000) :
  Calls prog 209 #[.int .i64 n] w λe w'=>e=.returned (.string (Qb (zs n)))/\w=w':=by
 have hz:=Qh;have ig:=VT;have hk:(⟨#[0]⟩:ByteArray)=Qb [0]:=rfl;go_enter func209,ntmps209;go_wp2_with fail;go_loop [3,4] (λs i=>∃k:Nat,k<=n/\i=.int .i64 k/\s=.string (Qb (zs k))) (λ_ i=>n-(intOf i).toNat);case atStart=>exact⟨0,by omega,rfl,rfl⟩
 case round =>
  obtain⟨k,Xn,rfl,rfl⟩:=hrel;have hl:=NB k;have HZ:=Qa (show zs (k+1)=zs k++[0] from List.replicate_succ');by_cases Qo:k<n
  ·go_wp2_with fail;go_round;case rel=>exact⟨k+1,by omega,by go_num,by rw[HZ.o]⟩
   case measure=>simp[intOf];omega
  ·obtain rfl:k=n:=by omega
   go_wp2_with fail;go_ret;exact⟨rfl,rfl⟩
theorem GK (i:Nat) (m:List UInt8) (w:World) (hm:m.length=128) (hi:i<1024) :
  Calls prog 171 #[.string (Qb m),.int .i64 i] w λe w'=>e=.returned (.bool (YC m i))/\w=w':=by
 have hz:(Qb m).size=128:=by rw[Qh,hm]
 go_enter func171,ntmps171;go_wp2_with fail;go_ret;exact⟨KO (DJ m i (by omega)),rfl⟩
theorem ft (a b:UInt8) (w:World) :
  Calls prog 169 #[.string (Qb [a,b])] w λe w'=>e=.returned (.int .u64 ((a.toNat:Int)+256*b.toNat))/\w=w':=by
 have hz:=Qh;have ha:=a.toNat_lt;have hb:=b.toNat_lt;have e0:(Qb [a,b])[0]'(by rw[Qh];simp)=a:=rfl;have e1:(Qb [a,b])[1]'(by rw[Qh];simp)=b:=rfl;go_enter func169,ntmps169;go_wp2_with fail;refine am 3 ?_;rw[XN];go_wp2_with fail;rw[XN];go_wp2_with fail;rw[XN];go_wp2_with fail;go_ret;refine⟨Jk ?_,rfl⟩;omega
theorem Hm (w:World) (x:Int) (g:Nat) (hg:g=w.heap.size):(convert 167 9 (.slice (some ⟨g,0,none⟩) 1 1)).run prog (w.alloc (.cells #[.int .u8 x] 5))=.ok (.string (Qb [b8 x])) (w.alloc (.cells #[.int .u8 x] 5)):=by
 subst hg;exact Ks w [x] #[.int .u8 x] 5 1 1 rfl (λi hi=>by
  rcases(show i=0 by simp at hi;omega) with rfl;rfl)
theorem od (n:Int) (w:World) (h0:0<=n) (h1:n<=65535) :
  Calls prog 85 #[.int .u64 n,.int .i64 2] w λe w'=>e=.returned (.string (Qb [b8 (n%256),b8 (n/256)]))/\Ext w w':=by
 have hz:=Qh;have ig:=VT;have hk:(⟨#[]⟩:ByteArray)=Qb []:=rfl;have u1:n/256%256=n/256:=by omega
 have k1:=Hm w (n%256) w.heap.size rfl;have k2:=Hm (w.alloc (.cells #[.int .u8 (n%256)] 5)) (n/256) (w.heap.size+1) (by simp);go_enter func85,ntmps85;go_wp2_with fail;refine am 3 ?_;rw[XN];go_wp2_with fail;rw[XN];go_wp2_with fail;rw[XN];go_wp2_with fail;go_ret;exact⟨rfl,((Qf _).alloc _).alloc _⟩
theorem MF (B I:Int) (w:World) (h:YY B I=true) :
  Calls prog 170 #[JO B I] w λe w'=>e=.returned (.string (Qb (Zn B I)))/\Ext w w':=by
 have hp:=QM h;clear h;unfold JO;have hz:=Qh;have ig:=VT;have vz:=NB;have hk:(⟨#[104,105,98,49]⟩:ByteArray)=Qb [104,105,98,49]:=rfl;have u1:IntKind.u64.wrap B=B:=by rw[A5];omega
 have u2:IntKind.u64.wrap I=I:=by rw[A5];omega
 go_enter func170,ntmps170;go_wp2_with fail;generalize Xo:w.alloc _=w1;have PC:Ext w w1:=by rw[←Xo];exact(Qf _).alloc _
 have c0:∀x:Qg w1,x.now.cell? ⟨w.heap.size,0,none⟩=some (.int .i64 B):=λx=>x.ext.keep (by rw[←Xo];simp[go_sem]);have c1:∀x:Qg w1,x.now.cell? ⟨w.heap.size,1,none⟩=some (.int .i64 I):=λx=>x.ext.keep (by rw[←Xo];simp[go_sem]);clear Xo;refine Qp (by kernel_rfl) (by kernel_rfl) ?_;repeat (go_big_quiet_step ((first|(with_reducible exact Zg (od _ _ (by omega) (by omega)))|(with_reducible exact Jq (ER 120 _ (by omega))))))
 refine Y7 ?_;rintro w2 ⟨x,rfl⟩;clear c0 c1;go_wp2_with fail;go_ret;exact⟨rfl,PC.trans x.ext⟩
theorem OY (B I:Int) (w:World) (h:YY B I=false) :
  Calls prog 168 #[.int .i64 B,.int .i64 I] w λe w'=>(∃n:Int,(n=2\/n=10)/\e=.returned (.tuple #[Jj,.int .i64 n]))/\Ext w w':=by
 have hp:B<16\/(16<=B/\223<B)\/(16<=B/\B<=223/\I<4)\/(16<=B/\B<=223/\4<=I/\64<I)\/(16<=B/\B<=223/\4<=I/\I<=64/\B<=3+(I+1)/2):=by
  have:¬(16<=B/\B<=223/\4<=I/\I<=64/\3+(I+1)/2<B):=by simpa[YY]using h
  omega
 clear h;rcases hp with hp|hp|hp|hp|hp
 case' inr.inr.inr.inr =>
  have d1:decide (B<16)=false:=by simp;omega
  have d2:decide (223<B)=false:=by simp;omega
  have d3:decide (I<4)=false:=by simp;omega
  have d4:decide (64<I)=false:=by simp;omega
  go_enter func168,ntmps168;go_wp2_with fail;exact ZD (v:=.tuple #[Jj,.int .i64 10]) (by simp[results,Tryz.results168,go_sem,Jj]) rfl ⟨⟨10,by omega,rfl⟩,((Qf _).alloc _).alloc _⟩
 case' inl => have d1:decide (B<16)=true:=by simp;omega
 case' inr.inl =>
  have d1:decide (B<16)=false:=by simp;omega
  have d2:decide (223<B)=true:=by simp;omega
 case' inr.inr.inl =>
  have d1:decide (B<16)=false:=by simp;omega
  have d2:decide (223<B)=false:=by simp;omega
  have d3:decide (I<4)=true:=by simp;omega
 case' inr.inr.inr.inl =>
  have d1:decide (B<16)=false:=by simp;omega
  have d2:decide (223<B)=false:=by simp;omega
  have d3:decide (I<4)=false:=by simp;omega
  have d4:decide (64<I)=true:=by simp;omega
 all_goals
  go_enter func168,ntmps168;go_wp2_with fail;exact ZD (v:=.tuple #[Jj,.int .i64 2]) (by simp[results,Tryz.results168,go_sem,Jj]) rfl ⟨⟨2,by omega,rfl⟩,(Qf _).alloc _⟩
def pW (v:List (List UInt8)) (e:Ending):Prop:=(∃I,Ji v I/\e=.returned (.tuple #[JO v.length I,.int .i64 0]))\/e=.returned (.tuple #[Jj,.int .i64 3])
theorem Ar (p q:UInt8) (B:Int) (w:World) (h:(p.toNat:Int)+256*q.toNat=B) :
  Calls prog 169 #[.string (Qb [p,q])] w λe w'=>e=.returned (.int .u64 B)/\w=w':=by
 subst h;exact ft p q w
theorem eG (A:Option Addr) (n c:Nat) (v:List (List UInt8)) (w:World) (hv:Strs w A n v) (hnk:n<=9223372036854775807) :
  Calls prog 99 #[.slice A n c] w λe w'=>pW v e/\Ext w w':=by
 obtain⟨rfl,Kl⟩:=hv;have hz:=Qh;have r0:Box (w.alloc (.cells #[.int .i64 0,.int .i64 0,.int .i64 0,.int .i64 0,.int .i64 0,.int .i64 0] 144)) w.heap.size 144 (Qj [0,0,0,0,0,0]):=QA _ _ _;have x0:Ext w (w.alloc (.cells #[.int .i64 0,.int .i64 0,.int .i64 0,.int .i64 0,.int .i64 0,.int .i64 0] 144)):=(Qf _).alloc _;by_cases h3:v.length<3
 ·go_enter func99,ntmps99;go_wp2_with (refine Qu (.tmp 2) (.tmp 12) rfl rfl w.heap.size [0,0,0,0,0,0] [0,0,0,0,0,0] 144 rfl rfl r0 rfl rfl ?_;intro w6 b6 g6)
  have xF:=(x0).grown g6 (λk e=>by cases e;exact QW _);exact ZD (v:=.tuple #[Jj,.int .i64 3]) (Qn Tryz.results99 _ _ _ _ _ _ _ rfl rfl b6 underlying144 rfl QU) rfl ⟨.inr rfl,xF⟩
 obtain⟨b,o,rfl,Qd⟩:=Kl (by omega);go_enter func99,ntmps99;go_wp2_with fail;generalize w.alloc (.cells #[.int .i64 0,.int .i64 0,.int .i64 0,.int .i64 0,.int .i64 0,.int .i64 0] 144)=w1 at *;have x1:=x0;have r1:=r0;clear x0 r0 Kl;go_loop [5,15] (λ_ i=>∃k:Nat,k<=v.length/\i=.int .i64 k/\∀(j:Nat) (h:j<v.length),j<k->v[j].length=128) (λ_ i=>v.length-(intOf i).toNat);case atStart=>exact⟨0,by omega,rfl,λj h hk=>by omega⟩
 case round =>
  obtain⟨k,hk,rfl,hal⟩:=hrel;have gH:=Qa hal;clear hal;by_cases Kk:k<v.length
  ·have dH:w1.cell? ⟨b,o+k,none⟩=some (.string (Qb v[k])):=x1.keep (Qd k Kk);by_cases hl:v[k].length=128
   ·have HN:=Qa (show∀(j:Nat) (h:j<v.length),j<k+1->v[j].length=128 fromλj h hj=>by
     by_cases e:j<k
     ·exact gH.o j h e
     ·obtain rfl:j=k:=by omega
      exact hl)
    have Tj:((v[k].length:Int) != 128)=false:=by rw[hl];rfl
    clear hl Qd;generalize v[k]=s at *;go_wp2_with fail;go_round;case rel=>exact⟨k+1,by omega,by go_num,HN.o⟩
    case measure=>simp[intOf];omega
   ·have Tj:((v[k].length:Int) != 128)=true:=by simp;omega
    clear hl Qd;generalize v[k]=s at *;go_wp2_with (refine Qu (.tmp 2) (.tmp 22) rfl rfl w.heap.size [0,0,0,0,0,0] [0,0,0,0,0,0] 144 rfl rfl r1 rfl rfl ?_;intro w6 b6 g6)
    have xF:=(x1).grown g6 (λk e=>by cases e;exact QW _);exact ZD (v:=.tuple #[Jj,.int .i64 3]) (Qn Tryz.results99 _ _ _ _ _ _ _ rfl rfl b6 underlying144 rfl QU) rfl ⟨.inr rfl,xF⟩
  ·obtain rfl:k=v.length:=by omega
   have N0:=Qa (λ(j:Nat) (h:j<v.length)=>gH.o j h h);have c0:w1.cell? ⟨b,o,none⟩=some (.string (Qb (v.getD 0 []))):=by have:=x1.keep (Qd 0 (by omega));rw[ZG,JZ (by omega)];exact this
   have fU:∀wx,Ext w wx->wx.cell? ⟨b,o+2,none⟩=some (.string (Qb (v.getD 2 []))):=λwx xx=>by have:=xx.keep (Qd 2 (by omega));rw[ZG,JZ (by omega)];exact this
   have C2:=Qa fU;have l0:(v.getD 0 []).length=128:=by rw[ZG,JZ (by omega)];exact N0.o 0 (by omega)
   have l2:(v.getD 2 []).length=128:=by rw[ZG,JZ (by omega)];exact N0.o 2 (by omega)
   clear fU Qd gH;obtain⟨p,q,hpq⟩:=dW (l:=((v.getD 0 []).drop 6).take 2) (by rw[WV,WQ];omega);have kK:(Qb (v.getD 0 [])).extract 6 8=Qb [p,q]:=by rw[JJ];exact congrArg Qb hpq
   have hpq':=Qa hpq;clear hpq;have pb:=p.toNat_lt;have qb:=q.toNat_lt;obtain⟨I,hI⟩:∃I:Int,(p.toNat:Int)+256*q.toNat=I:=⟨_,rfl⟩
   have gI:=Qa (λw=>Ar p q I w hI);have hI0:0<=I:=by omega
   have hI1:I<=65535:=by omega
   clear hI pb qb;have zH:(Qb (v.getD 0 [])).size=128:=by rw[Qh,l0]
   have wI:IntKind.i64.wrap I=I:=by rw[ZU];omega
   have qH:0<v.length:=by omega
   have dM:(0:Int)<(v.length:Int):=by omega
   have vk:(2:Int)<(v.length:Int):=by omega
   obtain⟨H,hH⟩:∃H,H=v.getD 0 []:=⟨_,rfl⟩
   rw[←hH]at c0 kK zH l0;have gS:=Qa hH;clear hH hz;by_cases hp:YY v.length I=true
   ·have HP:=Qa hp;have Uz:=QM hp;clear hp;have HF:∀w,Zv (Calls prog 170 #[.agg #[.int .i64 v.length,.int .i64 I,.int .i64 1,.int .i64 2,.int .i64 3,.int .i64 (3+(I+1)/2)]] w λe w'=>e=.returned (.string (Qb (Zn v.length I)))/\Ext w w'):=λw=>Qa (MF v.length I w HP.o);obtain⟨HD,hHD⟩:∃HD,HD=Zn v.length I:=⟨_,rfl⟩
    rw[←hHD]at HF;have qg:=Qa hHD;clear hHD;by_cases hHe:H=HD
    ·have HHe:=Qa hHe;subst hHe
     go_wp2_with (first
      | (go_at_call 169;refine(gI.o _).mono ?_;rintro e w' ⟨rfl,rfl⟩)
      | (go_at_call 168;refine(Nt _ _ _ HP.o).mono ?_;rintro e wp ⟨rfl,xp⟩;unfold JO))
     have bc:=QA wp 144 (Qj [(v.length:Int),I,1,2,3,3+(I+1)/2]);have xc:=(x1.trans xp).alloc (.cells (Qj [(v.length:Int),I,1,2,3,3+(I+1)/2]) 144);have rc:=(r1.ext xp).ext ((Qf wp).alloc (.cells (Qj [(v.length:Int),I,1,2,3,3+(I+1)/2]) 144));have cc:=(xp.alloc (.cells (Qj [(v.length:Int),I,1,2,3,3+(I+1)/2]) 144)).keep c0;change Box (wp.alloc (.cells #[.int .i64 v.length,.int .i64 I,.int .i64 1,.int .i64 2,.int .i64 3,.int .i64 (3+(I+1)/2)] 144)) _ _ _ at bc;change Ext w (wp.alloc (.cells #[.int .i64 v.length,.int .i64 I,.int .i64 1,.int .i64 2,.int .i64 3,.int .i64 (3+(I+1)/2)] 144)) at xc;change Box (wp.alloc (.cells #[.int .i64 v.length,.int .i64 I,.int .i64 1,.int .i64 2,.int .i64 3,.int .i64 (3+(I+1)/2)] 144)) _ _ _ at rc;change (wp.alloc (.cells #[.int .i64 v.length,.int .i64 I,.int .i64 1,.int .i64 2,.int .i64 3,.int .i64 (3+(I+1)/2)] 144)).cell? _=_ at cc;generalize wp.alloc (.cells #[.int .i64 v.length,.int .i64 I,.int .i64 1,.int .i64 2,.int .i64 3,.int .i64 (3+(I+1)/2)] 144)=wc at bc xc rc cc ⊢;generalize wp.heap.size=g at bc ⊢;clear xp x1 r1 c0;have c0:∀x:Qg wc,x.now.cell? ⟨b,o,none⟩=some (.string (Qb H)):=λx=>x.ext.keep cc;have q0:∀x:Qg wc,x.now.cell? ⟨g,0,none⟩=some (.int .i64 v.length):=λx=>(bc.ext x.ext).cell 0;have q1:∀x:Qg wc,x.now.cell? ⟨g,1,none⟩=some (.int .i64 I):=λx=>(bc.ext x.ext).cell 1;have q2:∀x:Qg wc,x.now.cell? ⟨g,2,none⟩=some (.int .i64 1):=λx=>(bc.ext x.ext).cell 2;have q3:∀x:Qg wc,x.now.cell? ⟨g,3,none⟩=some (.int .i64 2):=λx=>(bc.ext x.ext).cell 3;have q4:∀x:Qg wc,x.now.cell? ⟨g,4,none⟩=some (.int .i64 3):=λx=>(bc.ext x.ext).cell 4;have q5:∀x:Qg wc,x.now.cell? ⟨g,5,none⟩=some (.int .i64 (3+(I+1)/2)):=λx=>(bc.ext x.ext).cell 5;refine Qp (by kernel_rfl) (by kernel_rfl) ?_;repeat (go_big_quiet_step ((exact Zg ((HF _).o))))
     refine Y7 ?_;rintro w5 ⟨x5,rfl⟩;have NZ:=xc.trans x5.ext;have e2:=C2.o _ NZ;have d0:=q0 x5;have d5:=q5 x5;have b5:=bc.ext x5.ext;have r5:=rc.ext x5.ext;clear q0 q1 q2 q3 q4 q5 c0 cc HF C2 bc rc xc;go_wp2_with fail;go_loop [8] (λt=>∃m:Nat,m<=1024/\t=.int .i64 m/\∀i:Nat,i<m->((i:Int)<3+(I+1)/2->YC (v.getD 2 []) i=true)/\(v.length<=i->YC (v.getD 2 []) i=false)) (λt=>1024-(intOf t).toNat);case atStart=>exact⟨0,by omega,rfl,λi hi=>by omega⟩
     case round =>
      obtain⟨m,hm,rfl,hbits⟩:=hrel;have bH:=Qa hbits;clear hbits;have HB:=Qa (λ(XL:m<1024) w=>GK m (v.getD 2 []) w l2 XL);by_cases XL:m<1024
      ·have LW:=Qa (show(((m:Int)<3+(I+1)/2->YC (v.getD 2 []) m=true)/\(v.length<=m->YC (v.getD 2 []) m=false))->∀i:Nat,i<m+1->((i:Int)<3+(I+1)/2->YC (v.getD 2 []) i=true)/\(v.length<=i->YC (v.getD 2 []) i=false) fromλh i hi=>by
        by_cases e:i<m
        ·exact bH.o i e
        ·obtain rfl:i=m:=by omega
         exact h)
       clear bH;obtain⟨bt,hbt⟩:∃bt,YC (v.getD 2 []) m=bt:=⟨_,rfl⟩
       rw[hbt]at LW;have bI:=Qa hbt;clear hbt;by_cases m1:(m:Int)<3+(I+1)/2
       ·have Gm:¬(v.length:Int)<=m:=by omega
        have BU:decide ((v.length:Int)<=m)=false:=by simpa using Gm
        cases bt with
        | true =>
         go_wp2_with (go_at_call 171;refine(HB.o XL _).mono ?_;rintro e w' ⟨rfl,rfl⟩;rw[bI.o])
         go_round;case rel=>exact⟨m+1,by omega,by go_num,LW.o ⟨λ_=>by simp,λh=>by omega⟩⟩
         case measure=>simp[intOf];omega
        | false =>
         go_wp2_with (first
          | (go_at_call 171;refine(HB.o XL _).mono ?_;rintro e w' ⟨rfl,rfl⟩;rw[bI.o])
          | (refine Qu (.tmp 2) (.tmp 76) rfl rfl w.heap.size [0,0,0,0,0,0] [0,0,0,0,0,0] 144 rfl rfl r5 rfl rfl ?_;intro w6 b6 g6))
         have xF:=NZ.grown g6 (λk e=>by cases e;exact QW _);exact ZD (v:=.tuple #[Jj,.int .i64 3]) (Qn Tryz.results99 _ _ _ _ _ _ _ rfl rfl b6 underlying144 rfl QU) rfl ⟨.inr rfl,xF⟩
       ·have tX:decide ((m:Int)<3+(I+1)/2)=false:=by simpa using m1
        by_cases m3:v.length<=m
        ·have Gm:(v.length:Int)<=m:=by omega
         cases bt with
         | false =>
          go_wp2_with (go_at_call 171;refine(HB.o XL _).mono ?_;rintro e w' ⟨rfl,rfl⟩;rw[bI.o])
          go_round;case rel=>exact⟨m+1,by omega,by go_num,LW.o ⟨λh=>by omega,λ_=>by simp⟩⟩
          case measure=>simp[intOf];omega
         | true =>
          go_wp2_with (first
           | (go_at_call 171;refine(HB.o XL _).mono ?_;rintro e w' ⟨rfl,rfl⟩;rw[bI.o])
           | (refine Qu (.tmp 2) (.tmp 76) rfl rfl w.heap.size [0,0,0,0,0,0] [0,0,0,0,0,0] 144 rfl rfl r5 rfl rfl ?_;intro w6 b6 g6))
          have xF:=NZ.grown g6 (λk e=>by cases e;exact QW _);exact ZD (v:=.tuple #[Jj,.int .i64 3]) (Qn Tryz.results99 _ _ _ _ _ _ _ rfl rfl b6 underlying144 rfl QU) rfl ⟨.inr rfl,xF⟩
        ·have Gm:¬(v.length:Int)<=m:=by omega
         have BU:decide ((v.length:Int)<=m)=false:=by simpa using Gm
         go_wp2_with (go_at_call 171;refine(HB.o XL _).mono ?_;rintro e w' ⟨rfl,rfl⟩)
         go_round;case rel=>exact⟨m+1,by omega,by go_num,LW.o ⟨λh=>by omega,λh=>by omega⟩⟩
         case measure=>simp[intOf];omega
      ·obtain rfl:m=1024:=by omega
       have HG:=Qa (show Ji v I from⟨N0.o,HP.o,by rw[←gS.o,←qg.o],λi hi=>(bH.o i (by omega)).1 hi,λi hi hl=>(bH.o i hi).2 hl⟩)
       go_wp2_with (first
        | (refine YO (.tmp 6) rfl rfl g _ 144 rfl b5 rfl ?_)
        | (refine Qu (.tmp 2) (.tmp 77) rfl rfl w.heap.size _ [0,0,0,0,0,0] 144 rfl rfl r5 rfl rfl ?_;intro w6 b6 g6))
       have xF:=NZ.grown g6 (λk e=>by cases e;exact QW _);exact ZD (v:=.tuple #[JO v.length I,.int .i64 0]) (Qn Tryz.results99 _ _ _ _ _ _ _ rfl rfl b6 underlying144 rfl QU) rfl ⟨.inl ⟨I,HG.o,rfl⟩,xF⟩
    ·have QY:((Qb H).toList==(Qb HD).toList)=false:=by rw[Ql,Ql];simpa using hHe
     have nc:((Qb H).toList != (Qb HD).toList)=true:=by show(!((Qb H).toList==(Qb HD).toList))=true;rw[QY];rfl
     clear hHe
     go_wp2_with (first
      | (go_at_call 169;refine(gI.o _).mono ?_;rintro e w' ⟨rfl,rfl⟩)
      | (go_at_call 168;refine(Nt _ _ _ HP.o).mono ?_;rintro e wp ⟨rfl,xp⟩;unfold JO))
     have bc:=QA wp 144 (Qj [(v.length:Int),I,1,2,3,3+(I+1)/2]);have xc:=(x1.trans xp).alloc (.cells (Qj [(v.length:Int),I,1,2,3,3+(I+1)/2]) 144);have rc:=(r1.ext xp).ext ((Qf wp).alloc (.cells (Qj [(v.length:Int),I,1,2,3,3+(I+1)/2]) 144));have cc:=(xp.alloc (.cells (Qj [(v.length:Int),I,1,2,3,3+(I+1)/2]) 144)).keep c0;change Box (wp.alloc (.cells #[.int .i64 v.length,.int .i64 I,.int .i64 1,.int .i64 2,.int .i64 3,.int .i64 (3+(I+1)/2)] 144)) _ _ _ at bc;change Ext w (wp.alloc (.cells #[.int .i64 v.length,.int .i64 I,.int .i64 1,.int .i64 2,.int .i64 3,.int .i64 (3+(I+1)/2)] 144)) at xc;change Box (wp.alloc (.cells #[.int .i64 v.length,.int .i64 I,.int .i64 1,.int .i64 2,.int .i64 3,.int .i64 (3+(I+1)/2)] 144)) _ _ _ at rc;change (wp.alloc (.cells #[.int .i64 v.length,.int .i64 I,.int .i64 1,.int .i64 2,.int .i64 3,.int .i64 (3+(I+1)/2)] 144)).cell? _=_ at cc;generalize wp.alloc (.cells #[.int .i64 v.length,.int .i64 I,.int .i64 1,.int .i64 2,.int .i64 3,.int .i64 (3+(I+1)/2)] 144)=wc at bc xc rc cc ⊢;generalize wp.heap.size=g at bc ⊢;clear xp x1 r1 c0;have c0:∀x:Qg wc,x.now.cell? ⟨b,o,none⟩=some (.string (Qb H)):=λx=>x.ext.keep cc;have q0:∀x:Qg wc,x.now.cell? ⟨g,0,none⟩=some (.int .i64 v.length):=λx=>(bc.ext x.ext).cell 0;have q1:∀x:Qg wc,x.now.cell? ⟨g,1,none⟩=some (.int .i64 I):=λx=>(bc.ext x.ext).cell 1;have q2:∀x:Qg wc,x.now.cell? ⟨g,2,none⟩=some (.int .i64 1):=λx=>(bc.ext x.ext).cell 2;have q3:∀x:Qg wc,x.now.cell? ⟨g,3,none⟩=some (.int .i64 2):=λx=>(bc.ext x.ext).cell 3;have q4:∀x:Qg wc,x.now.cell? ⟨g,4,none⟩=some (.int .i64 3):=λx=>(bc.ext x.ext).cell 4;have q5:∀x:Qg wc,x.now.cell? ⟨g,5,none⟩=some (.int .i64 (3+(I+1)/2)):=λx=>(bc.ext x.ext).cell 5;refine Qp (by kernel_rfl) (by kernel_rfl) ?_;repeat (go_big_quiet_step ((exact Zg ((HF _).o))))
     refine Y7 ?_;rintro w5 ⟨x5,rfl⟩;have NZ:=xc.trans x5.ext;have e2:=C2.o _ NZ;have d0:=q0 x5;have d5:=q5 x5;have b5:=bc.ext x5.ext;have r5:=rc.ext x5.ext;clear q0 q1 q2 q3 q4 q5 c0 cc HF C2 bc rc xc;go_wp2_with (refine Qu (.tmp 2) (.tmp 46) rfl rfl w.heap.size [0,0,0,0,0,0] [0,0,0,0,0,0] 144 rfl rfl r5 rfl rfl ?_;intro w6 b6 g6)
     have xF:=(NZ).grown g6 (λk e=>by cases e;exact QW _);exact ZD (v:=.tuple #[Jj,.int .i64 3]) (Qn Tryz.results99 _ _ _ _ _ _ _ rfl rfl b6 underlying144 rfl QU) rfl ⟨.inr rfl,xF⟩
   ·have HP:=Qa (show YY v.length I=false by simpa using hp);clear hp
    go_wp2_with (first
     | (go_at_call 169;refine(gI.o _).mono ?_;rintro e w' ⟨rfl,rfl⟩)
     | (go_at_call 168;refine(OY _ _ _ HP.o).mono ?_;rintro e wp ⟨⟨n,hn,rfl⟩,xp⟩;unfold Jj))
    have QY:(n != 0)=true:=by rcases hn with rfl|rfl<;>rfl
    have nc:(n==0)=false:=by rcases hn with rfl|rfl<;>rfl
    clear hn;have rc:=((r1.ext xp).ext ((Qf wp).alloc (.cells (Qj [0,0,0,0,0,0]) 144)))
    have xc:=(x1.trans xp).alloc (.cells (Qj [0,0,0,0,0,0]) 144);change Box (wp.alloc (.cells #[.int .i64 0,.int .i64 0,.int .i64 0,.int .i64 0,.int .i64 0,.int .i64 0] 144)) _ _ _ at rc;change Ext w (wp.alloc (.cells #[.int .i64 0,.int .i64 0,.int .i64 0,.int .i64 0,.int .i64 0,.int .i64 0] 144)) at xc;generalize wp.alloc (.cells #[.int .i64 0,.int .i64 0,.int .i64 0,.int .i64 0,.int .i64 0,.int .i64 0] 144)=wc at *;go_quiet (fail);go_wp2_with (refine Qu (.tmp 2) (.tmp 46) rfl rfl w.heap.size [0,0,0,0,0,0] [0,0,0,0,0,0] 144 rfl rfl (rc.ext ((Qf wc).drewN _)) rfl rfl ?_;intro w6 b6 g6)
    have xF:=(xc.drewN _).grown g6 (λk e=>by cases e;exact QW _);exact ZD (v:=.tuple #[Jj,.int .i64 3]) (Qn Tryz.results99 _ _ _ _ _ _ _ rfl rfl b6 underlying144 rfl QU) rfl ⟨.inr rfl,xF⟩
def VE (I:Int):Int:=3+(I+1)/2
def Kb (v:List (List UInt8)) (I:Int):Option Nat:=(List.range v.length).find? λi=>decide (VE I<=(i:Int))&&!YC (v.getD 2 []) i
def Nx (v:List (List UInt8)) (i:Nat):List (List UInt8):=(v.set 2 (Ma (v.getD 2 []) i)).set i (zs 128)
theorem PT (m:List UInt8) (i:Nat):YC m i=(m.getD (i/8) 0).toNat.testBit (i%8):=by
 unfold YC;rw[Nat.testBit_eq_decide_div_mod_eq]
theorem C8 (m:List UInt8) (i:Nat):(Ma m i).length=m.length:=by simp[Ma]
theorem Hd (m:List UInt8) (i j:Nat) (hi:i/8<m.length):YC (Ma m i) j=(YC m j ^^ decide (i=j)):=by
 rw[PT,PT];unfold Ma;by_cases h:i/8=j/8
 ·have e:(m.set (i/8) (b8 (((m.getD (i/8) 0).toNat ^^^ 2^(i%8):Nat):Int))).getD (j/8) 0=b8 (((m.getD (i/8) 0).toNat ^^^ 2^(i%8):Nat):Int):=by
   rw[←h];simp[List.getD,hi]
  have h8:i%8<8:=kE _ (by omega);have hx:(m.getD (i/8) 0).toNat ^^^ 2^(i%8)<2^8:=Nat.xor_lt_two_pow (m.getD (i/8) 0).toNat_lt (Nat.pow_lt_pow_right (by omega) h8);have hb:=Kr (((m.getD (i/8) 0).toNat ^^^ 2^(i%8):Nat):Int) (by omega) (by omega);have Sg:(b8 (((m.getD (i/8) 0).toNat ^^^ 2^(i%8):Nat):Int)).toNat=(m.getD (i/8) 0).toNat ^^^ 2^(i%8):=by exact_mod_cast hb
  rw[e,Sg,Nat.testBit_xor,Nat.testBit_two_pow,←h];congr 1;by_cases e2:i=j
  ·subst e2;simp
  ·have:¬i%8=j%8:=by omega
   simp[e2,this]
 ·have e:(m.set (i/8) (b8 (((m.getD (i/8) 0).toNat ^^^ 2^(i%8):Nat):Int))).getD (j/8) 0=m.getD (j/8) 0:=by
   simp[List.getD,h]
  have e2:¬i=j:=by intro e2;subst e2;exact h rfl
  rw[e];simp[e2]
theorem ZJ (v:List (List UInt8)) {i j:Nat}(b:List UInt8) (h:i≠j):(v.set i b).getD j []=v.getD j []:=by simp[List.getD,h]
theorem VG (v:List (List UInt8)) {i:Nat}(b:List UInt8) (h:i<v.length):(v.set i b).getD i []=b:=by simp[List.getD,h]
theorem Ji.set {v:List (List UInt8)}{I:Int}(h:Ji v I) {i:Nat}{b:List UInt8}(h0:i≠0) (h2:i≠2) (hb:b.length=128):Ji (v.set i b) I:=by
 refine⟨λj hj=>?_,by simpa using h.plan,?_,λj hj=>?_,λj hj hl=>?_⟩
 ·rw[List.getElem_set];split
  ·exact hb
  ·exact h.all j (by simpa using hj)
 ·rw[ZJ v b h0,h.head];simp
 ·rw[ZJ v b h2];exact h.low j hj
 ·rw[ZJ v b h2];exact h.high j hj (by simpa using hl)
theorem Ji.flip {v:List (List UInt8)}{I:Int}(h:Ji v I) {i:Nat}(h1:VE I<=(i:Int)) (h2:i<v.length):Ji (v.set 2 (Ma (v.getD 2 []) i)) I:=by
 have hp:=QM h.plan;have IQ:(v.getD 2 []).length=128:=Ym h (by omega);unfold VE at h1;refine⟨λj hj=>?_,by simpa using h.plan,?_,λj hj=>?_,λj hj hl=>?_⟩
 ·rw[List.getElem_set];split
  ·rw[C8,IQ]
  ·exact h.all j (by simpa using hj)
 ·rw[ZJ v _ (by decide),h.head];simp
 ·rw[VG v _ (by omega),Hd _ _ _ (by omega),h.low j hj];have:¬i=j:=by omega
  simp[this]
 ·rw[VG v _ (by omega),Hd _ _ _ (by omega),h.high j hj (by simpa using hl)];have:¬i=j:=by have Fw:v.length<=j:=(by simpa using hl);omega
  simp[this]
theorem VU {v:List (List UInt8)}{I:Int}{i:Nat}(h:Kb v I=some i):VE I<=(i:Int)/\i<v.length/\YC (v.getD 2 []) i=false/\∀j:Nat,VE I<=(j:Int)->j<i->YC (v.getD 2 []) j=true:=by
 unfold Kb at h;rw[List.find?_range_eq_some]at h;obtain⟨h1,h2,h3⟩:=h;simp only[VB,Cw,mQ]at h1;refine⟨h1.1,Pw.1 h2,h1.2,λj hj Qo=>?_⟩;have:=h3 j Qo;simp only[Bool.not_and,Bool.not_not,fN,mQ,fC]at this;rcases this with h|h
 ·exact absurd hj h
 ·exact h
theorem Ji.taken {v:List (List UInt8)}{I:Int}(h:Ji v I) {i:Nat}(ht:Kb v I=some i):Ji (Nx v i) I:=by
 have hp:=QM h.plan;obtain⟨h1,h2,_⟩:=VU ht;unfold VE at h1;exact(h.flip (by unfold VE;exact h1) h2).set (by omega) (by omega) (NB 128)
theorem E8 (v:List (List UInt8)) (i:Nat):(Nx v i).length=v.length:=by simp[Nx]
theorem Am (v:List (List UInt8)) (k:Int) (x:List Int):(putAt v k x).length=v.length:=by simp[putAt]
theorem Ji.putAt {v:List (List UInt8)}{I k:Int}(h:Ji v I) (h1:1<=k) (h2:k<=I) (x:List Int):Ji (putAt v k x) I:=by
 have hp:=QM h.plan;have hi:(3+(k-1)/2).toNat<v.length:=by omega
 refine h.set (by omega) (by omega) ?_;rw[Mr,Ym h hi];rw[Rf,Ym h hi];omega
theorem cy (b:List UInt8) (o z:Nat):0<=JK b o z/\JK b o z<256^z:=by
 unfold JK;have h1:=Lx ((b.drop o).take z);have h2:((b.drop o).take z).length<=z:=by simp[WV];omega
 have h3:(256:Nat)^((b.drop o).take z).length<=256^z:=mI (by omega) h2;refine⟨by omega,?_⟩;have h4:(Yp ((b.drop o).take z))<256^z:=by omega
 rw[show(256:Int)^z=((256^z:Nat):Int) by rw[Int.natCast_pow];rfl];exact Int.ofNat_lt.2 h4
theorem Hv (b:List UInt8) (o:Nat):P7 (Rg b o)=true:=by
 unfold P7;rw[Pv];intro k _;refine Ve ?_;rcases k with⟨k,hk⟩
 rcases(by omega:k=0\/k=1\/k=2\/k=3\/k=4\/k=5\/k=6\/k=7\/k=8\/k=9\/k=10\/k=11) with rfl|rfl|rfl|rfl|rfl|rfl|rfl|rfl|rfl|rfl|rfl|rfl<;>exact cy _ _ _
theorem dr {l l':List UInt8}{o o' z:Nat}(h:∀j,j<z->l[o+j]? =l'[o'+j]?):(l.drop o).take z=(l'.drop o').take z:=by
 apply go;intro j;rw[Ty,Ty,Fm,Fm];split
 ·exact h j ‹_›
 ·rfl
theorem Om {b s:List UInt8}{p:Nat}(h:p+s.length<=b.length) (j:Nat):(UB b p s)[j]? =if j<p then b[j]? else if j<p+s.length then s[j-p]? else b[j]? :=by
 unfold UB;have hp:(b.take p).length=p:=by simp;omega
 by_cases h1:j<p
 ·rw[Qv h1,ar,AW (by omega),Ty,Qv h1]
 ·rw[Qr h1,ar,fF (by omega),hp];by_cases h2:j<p+s.length
  ·rw[Qv h2,AW (by omega)]
  ·rw[Qr h2,fF (by omega),Fm,show p+s.length+(j-p-s.length)=j by omega]
theorem Pz {b s:List UInt8}{p:Nat}(h:p+s.length<=b.length) {o z:Nat}(hz:o+z<=p\/p+s.length<=o):JK (UB b p s) o z=JK b o z:=by
 unfold JK;rw[dr (l':=b) (o':=o) (λj hj=>by
  rw[Om h];rcases hz with hz|hz
  ·rw[Qv (by omega)]
  ·rw[Qr (by omega),Qr (by omega)])]
theorem Lp {b s:List UInt8}{p q:Nat}(h:p+s.length<=b.length) (hs:s.length=24) (hq:q+24<=p\/p+24<=q):Rg (UB b p s) q=Rg b q:=by
 unfold Rg;have e:∀i z:Nat,i+z<=24->JK (UB b p s) (q+i) z=JK b (q+i) z:=λi z hz=>Pz h (by omega);rw[show JK (UB b p s) q 1=JK b q 1 from e 0 1 (by omega),e 2 2 (by omega),e 1 1 (by omega),e 4 4 (by omega),e 8 2 (by omega),e 10 2 (by omega),e 12 2 (by omega),e 14 2 (by omega),e 16 2 (by omega),e 18 2 (by omega),e 20 2 (by omega),e 22 2 (by omega)]
theorem Lo {v:List (List UInt8)}{I k j:Int}(hg:Ji v I) (h1:1<=k) (h2:k<=I) (j1:1<=j) (QY:j≠k) (x:List Int):QV (putAt v k x) j=QV v j:=by
 have hp:=QM hg.plan;have hi:(3+(k-1)/2).toNat<v.length:=by omega
 unfold QV putAt;by_cases e:(3+(k-1)/2).toNat=(3+(j-1)/2).toNat
 ·rw[←e,VG _ _ hi,Lp (by rw[Rf,Ym hg hi];omega) (Rf x) (by omega)]
 ·rw[ZJ _ _ e]
theorem Nh (v:List (List UInt8)) {i:Nat}{k:Int}(b:List UInt8) (h:i≠(3+(k-1)/2).toNat):QV (v.set i b) k=QV v k:=by
 unfold QV;rw[ZJ _ _ h]
theorem Oy (B I:Int):∃a0 a1 a2 a3 a4 a5 n:Int,(∀w,Calls prog 163 #[.int .i64 B,.int .i64 I] w λe w'=>e=.returned (.tuple #[.agg #[.int .i64 a0,.int .i64 a1,.int .i64 a2,.int .i64 a3,.int .i64 a4,.int .i64 a5],.int .i64 n])/\Ext w w')/\
  ((n=0/\YY B I=true/\a0=B/\a1=I/\a2=1/\a3=2/\a4=3/\a5=3+(I+1)/2)\/((n=2\/n=10)/\YY B I=false)):=by
 cases h:YY B I with
 | true=>exact⟨B,I,1,2,3,_,0,λw=>RD B I w h,.inl ⟨rfl,rfl,rfl,rfl,rfl,rfl,rfl,rfl⟩⟩
 | false =>
  have hp:B<16\/223<B\/(16<=B/\B<=223/\I<4)\/(16<=B/\B<=223/\64<I)\/(16<=B/\B<=223/\4<=I/\I<=64/\B<=3+(I+1)/2):=by
   have:¬(16<=B/\B<=223/\4<=I/\I<=64/\3+(I+1)/2<B):=by simpa[YY]using h
   omega
  clear h;rcases hp with hp|hp|hp|hp|hp
  case' inr.inr.inr.inr => refine⟨0,0,0,0,0,0,10,λw=>?_,.inr ⟨.inr rfl,rfl⟩⟩;go_enter func163,ntmps163;go_wp2_with fail;exact ZD (v:=.tuple #[Jj,.int .i64 10]) (by simp[results,Tryz.results163,go_sem,Jj]) rfl ⟨rfl,(Qf _).alloc _⟩
  all_goals
   refine⟨0,0,0,0,0,0,2,λw=>?_,.inr ⟨.inl rfl,rfl⟩⟩;go_enter func163,ntmps163;go_wp2_with fail;exact ZD (v:=.tuple #[Jj,.int .i64 2]) (by simp[results,Tryz.results163,go_sem,Jj]) rfl ⟨rfl,(Qf _).alloc _⟩
theorem cz (A:Option Addr) (n c:Nat) (v:List (List UInt8)) (w:World) (hv:Strs w A n v) (hnk:n<=9223372036854775807) :
  Calls prog 94 #[.slice A n c] w λe w'=>pW v e/\Ext w w':=by
 obtain⟨rfl,Kl⟩:=hv;have hz:=Qh;have r0:Box (w.alloc (.cells #[.int .i64 0,.int .i64 0,.int .i64 0,.int .i64 0,.int .i64 0,.int .i64 0] 144)) w.heap.size 144 (Qj [0,0,0,0,0,0]):=QA _ _ _;have x0:Ext w (w.alloc (.cells #[.int .i64 0,.int .i64 0,.int .i64 0,.int .i64 0,.int .i64 0,.int .i64 0] 144)):=(Qf _).alloc _;go_enter func94,ntmps94;go_wp2_with fail;generalize w.alloc (.cells #[.int .i64 0,.int .i64 0,.int .i64 0,.int .i64 0,.int .i64 0,.int .i64 0] 144)=w1 at *;have x1:=x0;have r1:=r0;clear x0 r0;go_loop [5,12] (λ_ i=>∃k:Nat,k<=v.length/\i=.int .i64 k/\∀(j:Nat) (h:j<v.length),j<k->v[j].length=128) (λ_ i=>v.length-(intOf i).toNat);case atStart=>exact⟨0,by omega,rfl,λj h hk=>by omega⟩
 case round =>
  obtain⟨k,hk,rfl,hal⟩:=hrel;have gH:=Qa hal;clear hal;by_cases Kk:k<v.length
  ·obtain⟨b,o,rfl,Qd⟩:=Kl (by omega);have dH:w1.cell? ⟨b,o+k,none⟩=some (.string (Qb v[k])):=x1.keep (Qd k Kk);by_cases hl:v[k].length=128
   ·have HN:=Qa (show∀(j:Nat) (h:j<v.length),j<k+1->v[j].length=128 fromλj h hj=>by
     by_cases e:j<k
     ·exact gH.o j h e
     ·obtain rfl:j=k:=by omega
      exact hl)
    have Tj:((v[k].length:Int) != 128)=false:=by rw[hl];rfl
    clear hl Qd;generalize v[k]=s at *;go_wp2_with fail;go_round;case rel=>exact⟨k+1,by omega,by go_num,HN.o⟩
    case measure=>simp[intOf];omega
   ·have Tj:((v[k].length:Int) != 128)=true:=by simp;omega
    clear hl Qd;generalize v[k]=s at *;go_wp2_with (refine Qu (.tmp 2) (.tmp 19) rfl rfl w.heap.size [0,0,0,0,0,0] [0,0,0,0,0,0] 144 rfl rfl r1 rfl rfl ?_;intro w6 b6 g6)
    have xF:=(x1).grown g6 (λk e=>by cases e;exact QW _);exact ZD (v:=.tuple #[Jj,.int .i64 3]) (Qn Tryz.results94 _ _ _ _ _ _ _ rfl rfl b6 underlying144 rfl QU) rfl ⟨.inr rfl,xF⟩
  ·obtain rfl:k=v.length:=by omega
   have N0:=Qa (λ(j:Nat) (h:j<v.length)=>gH.o j h h);clear gH;by_cases h16:v.length<16
   ·have uy:decide ((v.length:Int)<16)=true:=Ve (by omega);go_wp2_with (refine Qu (.tmp 2) (.tmp 24) rfl rfl w.heap.size [0,0,0,0,0,0] [0,0,0,0,0,0] 144 rfl rfl r1 rfl rfl ?_;intro w6 b6 g6)
    have xF:=(x1).grown g6 (λk e=>by cases e;exact QW _);exact ZD (v:=.tuple #[Jj,.int .i64 3]) (Qn Tryz.results94 _ _ _ _ _ _ _ rfl rfl b6 underlying144 rfl QU) rfl ⟨.inr rfl,xF⟩
   ·have uy:decide ((v.length:Int)<16)=false:=XI (by omega);obtain⟨b,o,rfl,Qd⟩:=Kl (by omega);have c0:w1.cell? ⟨b,o,none⟩=some (.string (Qb (v.getD 0 []))):=by
     have:=x1.keep (Qd 0 (by omega));rw[ZG,JZ (by omega)];exact this
    have uu:∀wx,Ext w wx->wx.cell? ⟨b,o,none⟩=some (.string (Qb (v.getD 0 []))):=λwx xx=>by have:=xx.keep (Qd 0 (by omega));rw[ZG,JZ (by omega)];exact this
    have fU:∀wx,Ext w wx->wx.cell? ⟨b,o+2,none⟩=some (.string (Qb (v.getD 2 []))):=λwx xx=>by have:=xx.keep (Qd 2 (by omega));rw[ZG,JZ (by omega)];exact this
    have hb:b<w.heap.size:=fD w _ (Qd 0 (by omega));have C0:=Qa uu;have C2:=Qa fU;have l0:(v.getD 0 []).length=128:=by rw[ZG,JZ (by omega)];exact N0.o 0 (by omega)
    have l2:(v.getD 2 []).length=128:=by rw[ZG,JZ (by omega)];exact N0.o 2 (by omega)
    clear uu fU Qd Kl;obtain⟨p,q,hpq⟩:=dW (l:=((v.getD 0 []).drop 4).take 2) (by rw[WV,WQ];omega);obtain⟨r,s,tH⟩:=dW (l:=((v.getD 0 []).drop 6).take 2) (by rw[WV,WQ];omega);have mp:(Qb (v.getD 0 [])).extract 4 6=Qb [p,q]:=by rw[JJ];exact congrArg Qb hpq
    have kK:(Qb (v.getD 0 [])).extract 6 8=Qb [r,s]:=by rw[JJ];exact congrArg Qb tH
    clear hpq tH;have pb:=p.toNat_lt;have qb:=q.toNat_lt;have rb:=r.toNat_lt;have sb:=s.toNat_lt;obtain⟨B,hB⟩:∃B:Int,(p.toNat:Int)+256*q.toNat=B:=⟨_,rfl⟩
    obtain⟨I,hI⟩:∃I:Int,(r.toNat:Int)+256*s.toNat=I:=⟨_,rfl⟩
    have GB:=Qa (λw=>Ti p q B w hB);have GI:=Qa (λw=>Ti r s I w hI);have wB:IntKind.i64.wrap B=B:=by rw[ZU];omega
    have wI:IntKind.i64.wrap I=I:=by rw[ZU];omega
    clear hB hI pb qb rb sb;have zH:(Qb (v.getD 0 [])).size=128:=by rw[Qh,l0]
    have qH:0<v.length:=by omega
    have dM:(0:Int)<(v.length:Int):=by omega
    obtain⟨a0,a1,a2,a3,a4,a5,pn,hPl,Uz⟩:=Oy B I;have rB:=Qa hPl;have pS:=Qa Uz;clear hPl Uz;obtain⟨H,hH⟩:∃H,H=v.getD 0 []:=⟨_,rfl⟩
    rw[←hH]at c0 mp kK zH l0 C0;have gS:=Qa hH;clear hH hz;go_wp2_with fail;go_cut [6,7] (λs6 s7 wx=>∃g:Nat,s6=.pointer (some ⟨g,0,none⟩)/\s7=.int .i64 pn/\w1.heap.size<=g/\Ext w1 wx/\Box wx g 144 #[.int .i64 a0,.int .i64 a1,.int .i64 a2,.int .i64 a3,.int .i64 a4,.int .i64 a5]);case first =>
     have ZS:b<w1.heap.size:=ao hb x1.size;have cA:(w1.alloc (.cells #[.int .i64 0,.int .i64 0,.int .i64 0,.int .i64 0,.int .i64 0,.int .i64 0] 144)).cell? ⟨b,o,none⟩=some (.string (Qb H)):=av ((Qf _).alloc _) c0;have rj:¬b=w1.heap.size:=by omega
     have rl:¬w1.heap.size=b:=by omega
     clear C0 C2 N0 r1
     go_region_held3 (λw'=>w'.cell? ⟨b,o,none⟩=some (.string (Qb H)))
      (first|(with_reducible exact c0)|(with_reducible exact cB)|(with_reducible exact cA)|(with_reducible exact av ((Qf _).alloc _) cB)|go_keep) (first
      | (go_at_call_of 164 (Qb [p,q]);refine(GB.o _).mono ?_;rintro e w' ⟨rfl,rfl⟩)
      | (go_at_call_of 164 (Qb [r,s]);refine(GI.o _).mono ?_;rintro e w' ⟨rfl,rfl⟩)
      | (go_at_call 163;(with_reducible refine(rB.o (World.drew (World.alloc w1 _))).mono ?_);rintro e w' ⟨rfl,hgp⟩;have HX:=Qa (((Qf w1).alloc _).trans (kG hgp));have cB:=av hgp (show(World.drew (World.alloc w1 _)).cell? ⟨b,o,none⟩=some (.string (Qb H)) from av ((Qf _).alloc _) c0);have bx:=Box.ext (QA w1 144 #[.int .i64 0,.int .i64 0,.int .i64 0,.int .i64 0,.int .i64 0,.int .i64 0]) (kG hgp);have y0:=bx.cell 0;have f0:=bx.frozen 0;have y1:=bx.cell 1;have f1:=bx.frozen 1;have y2:=bx.cell 2;have f2:=bx.frozen 2;have y3:=bx.cell 3;have f3:=bx.frozen 3;have y4:=bx.cell 4;have f4:=bx.frozen 4;have y5:=bx.cell 5;have f5:=bx.frozen 5;have BX:=Qa bx;clear bx;simp only[MY,fE,gt]at y0 y1 y2 y3 y4 y5)
      | (go_at_call 163;refine(rB.o _).mono ?_;rintro e w' ⟨rfl,hgp⟩;have HX:=Qa (kG hgp);have cB:=av hgp (show(World.drew w1).cell? ⟨b,o,none⟩=some (.string (Qb H)) from c0)))
     ·go_wp2_with fail;go_meet;exact⟨w'.heap.size,rfl,rfl,HX.o.size,HX.o.alloc _,QA _ _ _⟩
     all_goals
      go_wp2_with fail;go_meet;refine⟨w1.heap.size,rfl,rfl,QW _,?_,?_⟩
      ·exact(((((HX.o.setCell (QW _) _).setCell (QW _) _).setCell (QW _) _).setCell (QW _) _).setCell (QW _) _).setCell (QW _) _
      ·exact((((((BX.o.set 0 _).set 1 _).set 2 _).set 3 _).set 4 _).set 5 _)
    case rest =>
     obtain⟨g,rfl,rfl,hg6,xc,bc⟩:=hcut;have xw:=x1.trans xc;have rc:=r1.ext xc;have c0':∀x:Qg wc,x.now.cell? ⟨b,o,none⟩=some (.string (Qb H)):=λx=>C0.o _ (xw.trans x.ext);have q0:∀x:Qg wc,x.now.cell? ⟨g,0,none⟩=some (.int .i64 a0):=λx=>(bc.ext x.ext).cell 0;have q1:∀x:Qg wc,x.now.cell? ⟨g,1,none⟩=some (.int .i64 a1):=λx=>(bc.ext x.ext).cell 1;have q2:∀x:Qg wc,x.now.cell? ⟨g,2,none⟩=some (.int .i64 a2):=λx=>(bc.ext x.ext).cell 2;have q3:∀x:Qg wc,x.now.cell? ⟨g,3,none⟩=some (.int .i64 a3):=λx=>(bc.ext x.ext).cell 3;have q4:∀x:Qg wc,x.now.cell? ⟨g,4,none⟩=some (.int .i64 a4):=λx=>(bc.ext x.ext).cell 4;have q5:∀x:Qg wc,x.now.cell? ⟨g,5,none⟩=some (.int .i64 a5):=λx=>(bc.ext x.ext).cell 5;clear c0 mp kK wB wI uy GB GI rB hb;rcases pS.o with⟨rfl,hp,e0,e1,rfl,rfl,rfl,e5⟩|⟨Kz,hp⟩
     ·have e0':=e0.symm;have e1':=e1.symm;clear e0 e1;subst e0' e1' e5;have HP:=Qa hp;clear hp;by_cases hBl:B=(v.length:Int)
      ·subst hBl;have hpl2:=QM HP.o;have HF:∀w,Zv (Calls prog 165 #[.agg #[.int .i64 v.length,.int .i64 I,.int .i64 1,.int .i64 2,.int .i64 3,.int .i64 (3+(I+1)/2)]] w λe w'=>e=.returned (.string (Qb (Zn v.length I)))/\Ext w w'):=λw=>Qa (P6 v.length I w HP.o);obtain⟨HD,hHD⟩:∃HD,HD=Zn v.length I:=⟨_,rfl⟩
       rw[←hHD]at HF;have qg:=Qa hHD;clear hHD;by_cases hHe:H=HD
       ·have HHe:=Qa hHe;subst hHe;go_wp2_with fail;refine Qp (by kernel_rfl) (by kernel_rfl) ?_;repeat (go_big_quiet_step (exact Zg ((HF _).o)))
        refine Y7 ?_;rintro w5 ⟨x5,rfl⟩;have NZ:=xw.trans x5.ext;have r5:=rc.ext x5.ext;have d0:=q0 x5;have d5:=q5 x5;have b5:=bc.ext x5.ext;have e2:=C2.o _ NZ;clear q0 q1 q2 q3 q4 q5 c0' HF C0 C2 bc rc xw r1 x1 xc;go_wp2_with fail;go_loop [59] (λt=>∃m:Nat,m<=1024/\t=.int .i64 m/\∀i:Nat,i<m->((i:Int)<3+(I+1)/2->YC (v.getD 2 []) i=true)/\(v.length<=i->YC (v.getD 2 []) i=false)) (λt=>1024-(intOf t).toNat);case atStart=>exact⟨0,by omega,rfl,λi hi=>by omega⟩
        case round =>
         obtain⟨m,hm,rfl,hbits⟩:=hrel;have bH:=Qa hbits;clear hbits;have HB:=Qa (λ(XL:m<1024) w (h:w.cell? ⟨b,o+2,none⟩=some (.string (Qb (v.getD 2 []))))=>DI b o v.length c m (v.getD 2 []) w (by omega) h l2 XL);by_cases XL:m<1024
         ·have LW:=Qa (show(((m:Int)<3+(I+1)/2->YC (v.getD 2 []) m=true)/\(v.length<=m->YC (v.getD 2 []) m=false))->∀i:Nat,i<m+1->((i:Int)<3+(I+1)/2->YC (v.getD 2 []) i=true)/\(v.length<=i->YC (v.getD 2 []) i=false) fromλh i hi=>by
           by_cases e:i<m
           ·exact bH.o i e
           ·obtain rfl:i=m:=by omega
            exact h)
          clear bH;obtain⟨bt,hbt⟩:∃bt,YC (v.getD 2 []) m=bt:=⟨_,rfl⟩
          rw[hbt]at LW;have bI:=Qa hbt;clear hbt;by_cases m1:(m:Int)<3+(I+1)/2
          ·have Gm:¬(v.length:Int)<=m:=by omega
           have BU:decide ((v.length:Int)<=m)=false:=by simpa using Gm
           cases bt with
           | true =>
            go_wp2_with (go_at_call 166;refine(HB.o XL _ e2).mono ?_;rintro e w' ⟨rfl,rfl⟩;rw[bI.o])
            go_round;case rel=>exact⟨m+1,by omega,by go_num,LW.o ⟨λ_=>by simp,λh=>by omega⟩⟩
            case measure=>simp[intOf];omega
           | false =>
            go_wp2_with (first
             | (go_at_call 166;refine(HB.o XL _ e2).mono ?_;rintro e w' ⟨rfl,rfl⟩;rw[bI.o])
             | (refine Qu (.tmp 2) (.tmp 82) rfl rfl w.heap.size [0,0,0,0,0,0] [0,0,0,0,0,0] 144 rfl rfl r5 rfl rfl ?_;intro w6 b6 g6))
            have xF:=NZ.grown g6 (λk e=>by cases e;exact QW _);exact ZD (v:=.tuple #[Jj,.int .i64 3]) (Qn Tryz.results94 _ _ _ _ _ _ _ rfl rfl b6 underlying144 rfl QU) rfl ⟨.inr rfl,xF⟩
          ·have tX:decide ((m:Int)<3+(I+1)/2)=false:=by simpa using m1
           by_cases m3:v.length<=m
           ·have Gm:(v.length:Int)<=m:=by omega
            cases bt with
            | false =>
             go_wp2_with (go_at_call 166;refine(HB.o XL _ e2).mono ?_;rintro e w' ⟨rfl,rfl⟩;rw[bI.o])
             go_round;case rel=>exact⟨m+1,by omega,by go_num,LW.o ⟨λh=>by omega,λ_=>by simp⟩⟩
             case measure=>simp[intOf];omega
            | true =>
             go_wp2_with (first
              | (go_at_call 166;refine(HB.o XL _ e2).mono ?_;rintro e w' ⟨rfl,rfl⟩;rw[bI.o])
              | (refine Qu (.tmp 2) (.tmp 82) rfl rfl w.heap.size [0,0,0,0,0,0] [0,0,0,0,0,0] 144 rfl rfl r5 rfl rfl ?_;intro w6 b6 g6))
             have xF:=NZ.grown g6 (λk e=>by cases e;exact QW _);exact ZD (v:=.tuple #[Jj,.int .i64 3]) (Qn Tryz.results94 _ _ _ _ _ _ _ rfl rfl b6 underlying144 rfl QU) rfl ⟨.inr rfl,xF⟩
           ·have Gm:¬(v.length:Int)<=m:=by omega
            have BU:decide ((v.length:Int)<=m)=false:=by simpa using Gm
            go_wp2_with (go_at_call 166;refine(HB.o XL _ e2).mono ?_;rintro e w' ⟨rfl,rfl⟩)
            go_round;case rel=>exact⟨m+1,by omega,by go_num,LW.o ⟨λh=>by omega,λh=>by omega⟩⟩
            case measure=>simp[intOf];omega
         ·obtain rfl:m=1024:=by omega
          have HG:=Qa (show Ji v I from⟨N0.o,HP.o,by rw[←gS.o,←qg.o],λi hi=>(bH.o i (by omega)).1 hi,λi hi hl=>(bH.o i hi).2 hl⟩);have b5':Box x5.now g 144 (Qj [(v.length:Int),I,1,2,3,3+(I+1)/2]):=b5;clear b5
          go_wp2_with (first
           | (refine YO (.tmp 6) rfl rfl g _ 144 rfl b5' rfl ?_)
           | (refine Qu (.tmp 2) (.tmp 84) rfl rfl w.heap.size [(v.length:Int),I,1,2,3,3+(I+1)/2] [0,0,0,0,0,0] 144 rfl rfl r5 rfl rfl ?_;intro w6 b6 g6))
          have xF:=NZ.grown g6 (λk e=>by cases e;exact QW _);exact ZD (v:=.tuple #[JO v.length I,.int .i64 0]) (Qn Tryz.results94 _ _ _ _ _ _ _ rfl rfl b6 underlying144 rfl QU) rfl ⟨.inl ⟨I,HG.o,rfl⟩,xF⟩
       ·have QY:((Qb H).toList==(Qb HD).toList)=false:=by rw[Ql,Ql];simpa using hHe
        have nc:((Qb H).toList != (Qb HD).toList)=true:=by show(!((Qb H).toList==(Qb HD).toList))=true;rw[QY];rfl
        clear hHe;go_wp2_with fail;refine Qp (by kernel_rfl) (by kernel_rfl) ?_;repeat (go_big_quiet_step (exact Zg ((HF _).o)))
        refine Y7 ?_;rintro w5 ⟨x5,rfl⟩;have NZ:=xw.trans x5.ext;have r5:=rc.ext x5.ext;go_wp2_with (refine Qu (.tmp 2) (.tmp 58) rfl rfl w.heap.size [0,0,0,0,0,0] [0,0,0,0,0,0] 144 rfl rfl r5 rfl rfl ?_;intro w6 b6 g6)
        have xF:=NZ.grown g6 (λk e=>by cases e;exact QW _);exact ZD (v:=.tuple #[Jj,.int .i64 3]) (Qn Tryz.results94 _ _ _ _ _ _ _ rfl rfl b6 underlying144 rfl QU) rfl ⟨.inr rfl,xF⟩
      ·have ay:(B != (v.length:Int))=true:=by simpa using hBl
       clear hBl;go_wp2_with fail;refine Qp (by kernel_rfl) (by kernel_rfl) ?_;repeat (go_big_quiet_step (fail))
       refine Y7 ?_;rintro w5 ⟨x5,rfl⟩;have NZ:=xw.trans x5.ext;have r5:=rc.ext x5.ext;go_wp2_with (refine Qu (.tmp 2) (.tmp 58) rfl rfl w.heap.size [0,0,0,0,0,0] [0,0,0,0,0,0] 144 rfl rfl r5 rfl rfl ?_;intro w6 b6 g6)
       have xF:=NZ.grown g6 (λk e=>by cases e;exact QW _);exact ZD (v:=.tuple #[Jj,.int .i64 3]) (Qn Tryz.results94 _ _ _ _ _ _ _ rfl rfl b6 underlying144 rfl QU) rfl ⟨.inr rfl,xF⟩
     ·have ay:(pn != 0)=true:=by rcases Kz with rfl|rfl<;>rfl
      clear Kz;go_wp2_with fail;refine Qp (by kernel_rfl) (by kernel_rfl) ?_;repeat (go_big_quiet_step (fail))
      refine Y7 ?_;rintro w5 ⟨x5,rfl⟩;have NZ:=xw.trans x5.ext;have r5:=rc.ext x5.ext;go_wp2_with (refine Qu (.tmp 2) (.tmp 58) rfl rfl w.heap.size [0,0,0,0,0,0] [0,0,0,0,0,0] 144 rfl rfl r5 rfl rfl ?_;intro w6 b6 g6)
      have xF:=NZ.grown g6 (λk e=>by cases e;exact QW _);exact ZD (v:=.tuple #[Jj,.int .i64 3]) (Qn Tryz.results94 _ _ _ _ _ _ _ rfl rfl b6 underlying144 rfl QU) rfl ⟨.inr rfl,xF⟩
end Go.Proofs.YtfaplefkakpgcaaGreatDoor
