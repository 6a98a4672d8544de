/- The iterator inode.fields: what it hands out. -/
import Derived.Test.YtfaplefkakpgcaaGreatDoorXf7
import Derived.Test.YtfaplefkakpgcaaGreatDoorXf9
import Derived.Shelf.Abstract
import Derived.Shelf.RegionOpen
import Derived.OwnWalkIn
import Derived.TacticsInMore
import Derived.LoopNIn
import Derived.LoopIn
import Derived.Test.YtfaplefkakpgcaaGreatDoorXf2
import Derived.Test.YtfaplefkakpgcaaGreatDoorXf8
import Derived.Laws.Rows
import Derived.Test.YtfaplefkakpgcaaGreatDoorXf5
set_option linter.unusedVariables false
set_option linter.unusedSimpArgs false
set_option maxHeartbeats 32000000
set_option maxRecDepth 100000
namespace Go.Proofs.YtfaplefkakpgcaaGreatDoor
open Go.Proofs.Tryz
open Go.RowKit Go.Shelf
attribute [local go_sem] Oper.semAt_some
def fsize (k:Fin 12):Int:=if k.val<2 then 1 else if k.val=3 then 4 else 2
def fplace (k:Fin 12):Nat:=if k.val=0 then 0 else if k.val=1 then 2 else if k.val=2 then 1 else if k.val=3 then 3 else k.val
def fenc (g:Nat) (k:Fin 12):Array Value:=#[.agg #[.int .i64 (fsize k),.pointer (some ⟨g,fplace k,none⟩)]]
def allF:List (Fin 12):=[0,1,2,3,4,5,6,7,8,9,10,11]
def KpF (W W':World):Prop:=∀(b:Nat) (cs:Array Value) (t:TypeId),W.heap[b]? =some (.cells cs t (0,0))->(t=265\/t=262)->W'.heap[b]? =some (.cells cs t (0,0))
theorem KpF.refl (W:World):KpF W W:=λ_ _ _ h _=>h
theorem KpF.trans {A B C:World}(h:KpF A B) (k:KpF B C):KpF A C:=λb cs t hb ht=>k b cs t (h b cs t hb ht) ht
theorem KpF.book {w:World}(W:World) (l:Nat) (o o':Obj) (_:w.heap.size<=l) (h:W.heap[l]? =some o) (hc:o.isCells=false) (_:o.isWalk=false):KpF W (W.putObj l o'):=by
 intro b cs t hb _;have hne:b≠l:=by rintro rfl;rw[h]at hb;cases hb;cases hc
 have:=(grownBy_putObj' W l o').block b (Array.getElem?_eq_some_iff.1 hb).1 (λe=>hne (by cases e;rfl));exact this.trans hb
theorem KpF.ext {W W':World}(h:Ext W W'):KpF W W':=λb cs t hb _=>Box.ext hb h
theorem KpF.set {A W:World}(h:KpF A W) {g:Nat}{t:TypeId}{cs:Array Value}(hg:Box W g t cs) (h1:t≠265) (h2:t≠262) (i:Nat) (u:Value):KpF A (W.setCell ⟨g,i,none⟩ u):=by
 intro b cs' t' hb ht;have k:=h b cs' t' hb ht;have hne:b≠g:=by
  rintro rfl;have hg':W.heap[b]? =some (.cells cs t (0,0)):=hg;rw[k]at hg';injection hg' with e;injection e with _ e2;subst e2;rcases ht with h|h
  ·exact h1 h
  ·exact h2 h
 rw[Below.heap_setCell W ⟨g,i,none⟩ u b hne];exact k
theorem grown_ext {W W':World}(h:Ext W W'):W.grownBy W' none:=by
 have k:Below W.heap.size W W':=h;exact⟨k.os,k.tape,k.output,k.size,λj hj _=>k.block j hj⟩
theorem fields_any (g:Nat) (w:World) :
  Calls prog 194 #[.pointer (some ⟨g,0,none⟩)] w λe w'=>e=.returned (.func (.func 222) #[] #[.pointer (some ⟨w.heap.size,0,none⟩)])/\w'=w.alloc (.cells #[.pointer (some ⟨g,0,none⟩)] 262):=by
 go_enter func194,ntmps194;go_wp2_with fail;go_ret;exact⟨rfl,rfl⟩
set_option maxRecDepth 512 in
theorem fields1_in (n:Nat) (hn:1<=n) (l Bn g:Nat) (J Jx:List (Fin 12)->World->Prop) (W:World) (hJ:AbidesFrom W.heap.size J)
  (hY:∀pre x W1,J pre W1->pre.length<12->YieldAt Fence.wide (n-1) prog l (fenc g x) W1 λe W' =>
   (e=.returned (.bool true)/\J (pre++[x]) W'/\KpF W1 W')\/(e=.returned (.bool false)/\Jx (pre++[x]) W'))
  (hB:Box W Bn 262 #[.pointer (some ⟨g,0,none⟩)]) (h0:J [] W) :
  CallsIn Fence.wide n prog 222 #[.func (.yield l) #[] #[],.pointer (some ⟨Bn,0,none⟩)] W λe W'=>(∃v,e=.returned v)/\
   ((∃ys,ys=allF/\J ys W')\/(∃pre,True/\Jx pre W')):=by
 have hc:=hB.cell 0;simp only[List.getElem?_toArray,List.getElem?_cons_zero]at hc;refine callsIn_of_wp func222 rfl trivial ?_ rfl;simp only[ntmps222,List.size_toArray,List.length_cons,List.length_nil,Nat.reduceAdd,Nat.reduceSub,Array.replicate_succ,Array.replicate_zero,List.push_toArray,List.append_toArray,List.nil_append,List.cons_append];gi_wp2;gi_region;gi_wp2
 gi_loopw [4,24] (λ_ i wr=>∃k:Nat,k<=4/\i=.int .i64 k/\J (allF.take k) wr/\Box wr Bn 262 #[.pointer (some ⟨g,0,none⟩)]/\
   Box wr W.heap.size 265 #[.int .i64 1,.pointer (some ⟨g,0,none⟩),.int .i64 1,.pointer (some ⟨g,2,none⟩),.int .i64 2,.pointer (some ⟨g,1,none⟩),.int .i64 4,.pointer (some ⟨g,3,none⟩)])
  (λ_ i _=>4-(intOf i).toNat)
 case atStart => have x1:Ext W (W.drew.alloc (.cells #[.int .i64 1,.pointer (some ⟨g,0,none⟩),.int .i64 1,.pointer (some ⟨g,2,none⟩),.int .i64 2,.pointer (some ⟨g,1,none⟩),.int .i64 4,.pointer (some ⟨g,3,none⟩)] 265)):=((Ext.refl W).drew).alloc _;exact⟨0,by omega,rfl,hJ [] _ _ none h0 (grown_ext x1) (λr e=>by cases e),hB.ext x1,Box.new _ _ _⟩
 case round =>
  obtain⟨k,hk,rfl,hJs,hBn,hA⟩:=hrel;have cn:=hBn.cell 0;simp only[List.getElem?_toArray,List.getElem?_cons_zero]at cn;rcases(by omega:k=0\/k=1\/k=2\/k=3\/k=4) with rfl|rfl|rfl|rfl|rfl
  ·have a0:wr.cell? ⟨W.heap.size,0,none⟩=some (.int .i64 1):=hA.cell 0;have a1:wr.cell? ⟨W.heap.size,1,none⟩=some (.pointer (some ⟨g,0,none⟩)):=hA.cell 1;have x1:Ext wr (wr.alloc (.cells #[.int .i64 1,.pointer (some ⟨g,0,none⟩)] 265)):=(Ext.refl wr).alloc _;obtain⟨fn,tmps,assign,body,hy,hR⟩:=hY (allF.take 0) 0 _ (hJ _ _ _ none hJs (grown_ext x1) (λr e=>by cases e)) (by decide);have hy':(Instr.yield l #[.agg #[.int .i64 1,.pointer (some ⟨g,0,none⟩)]]).run prog (wr.alloc (.cells #[.int .i64 1,.pointer (some ⟨g,0,none⟩)] 265))=.ok (.round l fn tmps assign body) (wr.alloc (.cells #[.int .i64 1,.pointer (some ⟨g,0,none⟩)] 265)):=hy;clear hy;gi_wp2;refine hR.mono ?_;rintro e W3 (⟨rfl,hJ3,hk3⟩|⟨rfl,hJx3⟩)
   ·gi_wp2;go_roundw;case rel=>exact⟨1,by omega,rfl,hJ3,hk3 _ _ _ (hBn.ext x1) (Or.inr rfl),hk3 _ _ _ (hA.ext x1) (Or.inl rfl)⟩
    case measure=>simp[intOf]
   ·gi_wp2;refine bodyPost_ret (results_none rfl _ _ _) rfl ?_;exact⟨⟨_,rfl⟩,.inr ⟨_,trivial,hJx3⟩⟩
  ·have a0:wr.cell? ⟨W.heap.size,2,none⟩=some (.int .i64 1):=hA.cell 2;have a1:wr.cell? ⟨W.heap.size,3,none⟩=some (.pointer (some ⟨g,2,none⟩)):=hA.cell 3;have x1:Ext wr (wr.alloc (.cells #[.int .i64 1,.pointer (some ⟨g,2,none⟩)] 265)):=(Ext.refl wr).alloc _;obtain⟨fn,tmps,assign,body,hy,hR⟩:=hY (allF.take 1) 1 _ (hJ _ _ _ none hJs (grown_ext x1) (λr e=>by cases e)) (by decide);have hy':(Instr.yield l #[.agg #[.int .i64 1,.pointer (some ⟨g,2,none⟩)]]).run prog (wr.alloc (.cells #[.int .i64 1,.pointer (some ⟨g,2,none⟩)] 265))=.ok (.round l fn tmps assign body) (wr.alloc (.cells #[.int .i64 1,.pointer (some ⟨g,2,none⟩)] 265)):=hy;clear hy;gi_wp2;refine hR.mono ?_;rintro e W3 (⟨rfl,hJ3,hk3⟩|⟨rfl,hJx3⟩)
   ·gi_wp2;go_roundw;case rel=>exact⟨2,by omega,rfl,hJ3,hk3 _ _ _ (hBn.ext x1) (Or.inr rfl),hk3 _ _ _ (hA.ext x1) (Or.inl rfl)⟩
    case measure=>simp[intOf]
   ·gi_wp2;refine bodyPost_ret (results_none rfl _ _ _) rfl ?_;exact⟨⟨_,rfl⟩,.inr ⟨_,trivial,hJx3⟩⟩
  ·have a0:wr.cell? ⟨W.heap.size,4,none⟩=some (.int .i64 2):=hA.cell 4;have a1:wr.cell? ⟨W.heap.size,5,none⟩=some (.pointer (some ⟨g,1,none⟩)):=hA.cell 5;have x1:Ext wr (wr.alloc (.cells #[.int .i64 2,.pointer (some ⟨g,1,none⟩)] 265)):=(Ext.refl wr).alloc _;obtain⟨fn,tmps,assign,body,hy,hR⟩:=hY (allF.take 2) 2 _ (hJ _ _ _ none hJs (grown_ext x1) (λr e=>by cases e)) (by decide);have hy':(Instr.yield l #[.agg #[.int .i64 2,.pointer (some ⟨g,1,none⟩)]]).run prog (wr.alloc (.cells #[.int .i64 2,.pointer (some ⟨g,1,none⟩)] 265))=.ok (.round l fn tmps assign body) (wr.alloc (.cells #[.int .i64 2,.pointer (some ⟨g,1,none⟩)] 265)):=hy;clear hy;gi_wp2;refine hR.mono ?_;rintro e W3 (⟨rfl,hJ3,hk3⟩|⟨rfl,hJx3⟩)
   ·gi_wp2;go_roundw;case rel=>exact⟨3,by omega,rfl,hJ3,hk3 _ _ _ (hBn.ext x1) (Or.inr rfl),hk3 _ _ _ (hA.ext x1) (Or.inl rfl)⟩
    case measure=>simp[intOf]
   ·gi_wp2;refine bodyPost_ret (results_none rfl _ _ _) rfl ?_;exact⟨⟨_,rfl⟩,.inr ⟨_,trivial,hJx3⟩⟩
  ·have a0:wr.cell? ⟨W.heap.size,6,none⟩=some (.int .i64 4):=hA.cell 6;have a1:wr.cell? ⟨W.heap.size,7,none⟩=some (.pointer (some ⟨g,3,none⟩)):=hA.cell 7;have x1:Ext wr (wr.alloc (.cells #[.int .i64 4,.pointer (some ⟨g,3,none⟩)] 265)):=(Ext.refl wr).alloc _;obtain⟨fn,tmps,assign,body,hy,hR⟩:=hY (allF.take 3) 3 _ (hJ _ _ _ none hJs (grown_ext x1) (λr e=>by cases e)) (by decide);have hy':(Instr.yield l #[.agg #[.int .i64 4,.pointer (some ⟨g,3,none⟩)]]).run prog (wr.alloc (.cells #[.int .i64 4,.pointer (some ⟨g,3,none⟩)] 265))=.ok (.round l fn tmps assign body) (wr.alloc (.cells #[.int .i64 4,.pointer (some ⟨g,3,none⟩)] 265)):=hy;clear hy;gi_wp2;refine hR.mono ?_;rintro e W3 (⟨rfl,hJ3,hk3⟩|⟨rfl,hJx3⟩)
   ·gi_wp2;go_roundw;case rel=>exact⟨4,by omega,rfl,hJ3,hk3 _ _ _ (hBn.ext x1) (Or.inr rfl),hk3 _ _ _ (hA.ext x1) (Or.inl rfl)⟩
    case measure=>simp[intOf]
   ·gi_wp2;refine bodyPost_ret (results_none rfl _ _ _) rfl ?_;exact⟨⟨_,rfl⟩,.inr ⟨_,trivial,hJx3⟩⟩
  ·clear hA;obtain⟨wo,rfl⟩:∃wo:World,wo=wr:=⟨_,rfl⟩
   gi_wp2
   gi_loopw [5,33] (λ_ i wx=>∃k:Nat,k<=6/\i=.int .i64 k/\J (allF.take (4+k)) wx/\Box wx Bn 262 #[.pointer (some ⟨g,0,none⟩)])
    (λ_ i _=>6-(intOf i).toNat)
   case atStart=>exact⟨0,by omega,rfl,hJs,hBn⟩
   case round =>
    clear hJs hBn cn;obtain⟨k,hk,rfl,hJs,hBn⟩:=hrel;have cn:=hBn.cell 0;simp only[List.getElem?_toArray,List.getElem?_cons_zero]at cn;rcases(by omega:k=0\/k=1\/k=2\/k=3\/k=4\/k=5\/k=6) with rfl|rfl|rfl|rfl|rfl|rfl|rfl
    ·obtain⟨fn,tmps,assign,body,hy,hR⟩:=hY (allF.take 4) 4 wr hJs (by decide);have hy':(Instr.yield l #[.agg #[.int .i64 2,.pointer (some ⟨g,4,none⟩)]]).run prog wr=.ok (.round l fn tmps assign body) wr:=hy;clear hy;gi_wp2;refine hR.mono ?_;rintro e W3 (⟨rfl,hJ3,hk3⟩|⟨rfl,hJx3⟩)
     ·gi_wp2;go_roundw;case rel=>first|exact⟨1,by omega,rfl,hJ3,hk3 _ _ _ hBn (Or.inr rfl)⟩|((repeat apply Exists.intro);exact⟨⟨1,by omega,rfl,hJ3,hk3 _ _ _ hBn (Or.inr rfl)⟩,rfl⟩)
      case measure=>simp[intOf]
     ·gi_wp2;refine bodyPost_ret (results_none rfl _ _ _) rfl ?_;exact⟨⟨_,rfl⟩,.inr ⟨_,trivial,hJx3⟩⟩
    ·obtain⟨fn,tmps,assign,body,hy,hR⟩:=hY (allF.take 5) 5 wr hJs (by decide);have hy':(Instr.yield l #[.agg #[.int .i64 2,.pointer (some ⟨g,5,none⟩)]]).run prog wr=.ok (.round l fn tmps assign body) wr:=hy;clear hy;gi_wp2;refine hR.mono ?_;rintro e W3 (⟨rfl,hJ3,hk3⟩|⟨rfl,hJx3⟩)
     ·gi_wp2;go_roundw;case rel=>first|exact⟨2,by omega,rfl,hJ3,hk3 _ _ _ hBn (Or.inr rfl)⟩|((repeat apply Exists.intro);exact⟨⟨2,by omega,rfl,hJ3,hk3 _ _ _ hBn (Or.inr rfl)⟩,rfl⟩)
      case measure=>simp[intOf]
     ·gi_wp2;refine bodyPost_ret (results_none rfl _ _ _) rfl ?_;exact⟨⟨_,rfl⟩,.inr ⟨_,trivial,hJx3⟩⟩
    ·obtain⟨fn,tmps,assign,body,hy,hR⟩:=hY (allF.take 6) 6 wr hJs (by decide);have hy':(Instr.yield l #[.agg #[.int .i64 2,.pointer (some ⟨g,6,none⟩)]]).run prog wr=.ok (.round l fn tmps assign body) wr:=hy;clear hy;gi_wp2;refine hR.mono ?_;rintro e W3 (⟨rfl,hJ3,hk3⟩|⟨rfl,hJx3⟩)
     ·gi_wp2;go_roundw;case rel=>first|exact⟨3,by omega,rfl,hJ3,hk3 _ _ _ hBn (Or.inr rfl)⟩|((repeat apply Exists.intro);exact⟨⟨3,by omega,rfl,hJ3,hk3 _ _ _ hBn (Or.inr rfl)⟩,rfl⟩)
      case measure=>simp[intOf]
     ·gi_wp2;refine bodyPost_ret (results_none rfl _ _ _) rfl ?_;exact⟨⟨_,rfl⟩,.inr ⟨_,trivial,hJx3⟩⟩
    ·obtain⟨fn,tmps,assign,body,hy,hR⟩:=hY (allF.take 7) 7 wr hJs (by decide);have hy':(Instr.yield l #[.agg #[.int .i64 2,.pointer (some ⟨g,7,none⟩)]]).run prog wr=.ok (.round l fn tmps assign body) wr:=hy;clear hy;gi_wp2;refine hR.mono ?_;rintro e W3 (⟨rfl,hJ3,hk3⟩|⟨rfl,hJx3⟩)
     ·gi_wp2;go_roundw;case rel=>first|exact⟨4,by omega,rfl,hJ3,hk3 _ _ _ hBn (Or.inr rfl)⟩|((repeat apply Exists.intro);exact⟨⟨4,by omega,rfl,hJ3,hk3 _ _ _ hBn (Or.inr rfl)⟩,rfl⟩)
      case measure=>simp[intOf]
     ·gi_wp2;refine bodyPost_ret (results_none rfl _ _ _) rfl ?_;exact⟨⟨_,rfl⟩,.inr ⟨_,trivial,hJx3⟩⟩
    ·obtain⟨fn,tmps,assign,body,hy,hR⟩:=hY (allF.take 8) 8 wr hJs (by decide);have hy':(Instr.yield l #[.agg #[.int .i64 2,.pointer (some ⟨g,8,none⟩)]]).run prog wr=.ok (.round l fn tmps assign body) wr:=hy;clear hy;gi_wp2;refine hR.mono ?_;rintro e W3 (⟨rfl,hJ3,hk3⟩|⟨rfl,hJx3⟩)
     ·gi_wp2;go_roundw;case rel=>first|exact⟨5,by omega,rfl,hJ3,hk3 _ _ _ hBn (Or.inr rfl)⟩|((repeat apply Exists.intro);exact⟨⟨5,by omega,rfl,hJ3,hk3 _ _ _ hBn (Or.inr rfl)⟩,rfl⟩)
      case measure=>simp[intOf]
     ·gi_wp2;refine bodyPost_ret (results_none rfl _ _ _) rfl ?_;exact⟨⟨_,rfl⟩,.inr ⟨_,trivial,hJx3⟩⟩
    ·obtain⟨fn,tmps,assign,body,hy,hR⟩:=hY (allF.take 9) 9 wr hJs (by decide);have hy':(Instr.yield l #[.agg #[.int .i64 2,.pointer (some ⟨g,9,none⟩)]]).run prog wr=.ok (.round l fn tmps assign body) wr:=hy;clear hy;gi_wp2;refine hR.mono ?_;rintro e W3 (⟨rfl,hJ3,hk3⟩|⟨rfl,hJx3⟩)
     ·gi_wp2;go_roundw;case rel=>first|exact⟨6,by omega,rfl,hJ3,hk3 _ _ _ hBn (Or.inr rfl)⟩|((repeat apply Exists.intro);exact⟨⟨6,by omega,rfl,hJ3,hk3 _ _ _ hBn (Or.inr rfl)⟩,rfl⟩)
      case measure=>simp[intOf]
     ·gi_wp2;refine bodyPost_ret (results_none rfl _ _ _) rfl ?_;exact⟨⟨_,rfl⟩,.inr ⟨_,trivial,hJx3⟩⟩
    ·obtain⟨fn,tmps,assign,body,hy,hR⟩:=hY (allF.take 10) 10 wr hJs (by decide);have hy':(Instr.yield l #[.agg #[.int .i64 2,.pointer (some ⟨g,10,none⟩)]]).run prog wr=.ok (.round l fn tmps assign body) wr:=hy;clear hy;gi_wp2;refine hR.mono ?_;rintro e W3 (⟨rfl,hJ3,hk3⟩|⟨rfl,hJx3⟩)
     ·have cn2:=Box.cell (hk3 _ _ _ hBn (Or.inr rfl)) 0;simp only[List.getElem?_toArray,List.getElem?_cons_zero]at cn2;clear hJs hBn cn hR hy';obtain⟨fn2,tmps2,assign2,body2,hy2,hR2⟩:=hY (allF.take 11) 11 W3 hJ3 (by decide);have hy3:(Instr.yield l #[.agg #[.int .i64 2,.pointer (some ⟨g,11,none⟩)]]).run prog W3=.ok (.round l fn2 tmps2 assign2 body2) W3:=hy2;clear hy2;gi_wp2;refine hR2.mono ?_;rintro e W4 (⟨rfl,hJ4,hk4⟩|⟨rfl,hJx4⟩)
      ·gi_wp2;go_end0;exact⟨⟨_,rfl⟩,.inl ⟨_,rfl,hJ4⟩⟩
      ·gi_wp2;go_end0;exact⟨⟨_,rfl⟩,.inr ⟨_,trivial,hJx4⟩⟩
     ·gi_wp2;go_end0;exact⟨⟨_,rfl⟩,.inr ⟨_,trivial,hJx3⟩⟩
theorem fields_stops (n:Nat) (hn:1<=n) (Bn g:Nat) (w:World) (hB:Box w Bn 262 #[.pointer (some ⟨g,0,none⟩)]) :
  SeqStopsK Fence.wide n prog 222 #[.pointer (some ⟨Bn,0,none⟩)] (fenc g) KpF (λys=>ys=allF) (λ_=>True) 12 w:=λl J Jx W hW hJ _ hY h0 =>
 fields1_in n hn l Bn g J Jx W hJ hY (hB.ext hW) h0
attribute [local go_sem] Oper.semAt_some
def fnum (b:List UInt8) (o z:Nat):Int:=numL ((b.drop o).take z)
def inoL (b:List UInt8) (o:Nat):List Int:=[fnum b o 1,fnum b (o+2) 2,fnum b (o+1) 1,fnum b (o+4) 4,fnum b (o+8) 2,fnum b (o+10) 2,fnum b (o+12) 2,fnum b (o+14) 2,fnum b (o+16) 2,fnum b (o+18) 2,fnum b (o+20) 2,fnum b (o+22) 2]
def intVals (x:List Int):Array Value:=(x.map (Value.int .i64)).toArray
def inoV (x:List Int):Value:=.agg (intVals x)
def tellF (b:List UInt8):List (Fin 12)->List Int × Nat->List Int × Nat
 | [],s=>s
 | k::l,s=>tellF b l (s.1.set (fplace k) (fnum b s.2 (fsize k).toNat),s.2+(fsize k).toNat)
theorem tellF_snoc (b:List UInt8) (k:Fin 12):∀(l:List (Fin 12)) (s:List Int × Nat),tellF b (l++[k]) s=((tellF b l s).1.set (fplace k) (fnum b (tellF b l s).2 (fsize k).toNat),(tellF b l s).2+(fsize k).toNat)
 | [],_=>rfl
 | _::l,_=>tellF_snoc b k l _
theorem fsize_is (k:Fin 12):fsize k=1\/fsize k=2\/fsize k=4:=by unfold fsize;split<;>(try split)<;>simp
theorem fplace_lt (k:Fin 12):fplace k<12:=by have:=k.isLt;unfold fplace;split<;>(try split)<;>(try split)<;>(try split)<;>omega
theorem tellF_len (b:List UInt8):∀(l:List (Fin 12)) (s:List Int × Nat),(tellF b l s).1.length=s.1.length
 | [],_=>rfl
 | _::l,_=>by rw[tellF,tellF_len b l];simp
theorem tellF_at (b:List UInt8):∀(l:List (Fin 12)) (s:List Int × Nat),(tellF b l s).2<=s.2+4*l.length
 | [],_=>by simp[tellF]
 | k::l,s=>by have:=tellF_at b l (s.1.set (fplace k) (fnum b s.2 (fsize k).toNat),s.2+(fsize k).toNat);have:=fsize_is k;simp only[tellF,List.length_cons];simp only at *;omega
def zero12:List Int:=[0,0,0,0,0,0,0,0,0,0,0,0]
theorem tellF_all (b:List UInt8) (o:Nat):(tellF b allF (zero12,o)).1=inoL b o:=rfl
theorem box_own {β:Type} (g:Nat) (t:TypeId) (f:β->Array Value):Own (λs W=>Box W g t (f s)):=λs X Y row hs hg hrow=>by
 have hs':X.heap[g]? =some (.cells (f s) t (0,0)):=hs;refine(hg.block g hs.lt (λe=>?_)).trans hs';obtain⟨o,ho,hc⟩:=hrow g e.symm;rw[hs']at ho;cases ho;cases hc
theorem ext_own {β:Type} {B:Nat}{w₀:World}(hB:w₀.heap.size<=B):OwnFrom B (λ(_:β) W=>Ext w₀ W):=ownFrom_below (Nat.le_refl _) hB
theorem keeps_ext {B:Nat}{W W':World}(h:Ext W W'):KeepsFrom B W W':=⟨h.size,λk _ _ hk _=>(Below.block h k (Array.getElem?_eq_some_iff.1 hk).1).trans hk⟩
theorem Box.ne {w:World}{g g':Nat}{t t':TypeId}{cs cs':Array Value}(h:Box w g t cs) (h':Box w g' t' cs') (hne:t≠t'):g≠g':=by
 rintro rfl;have h1:w.heap[g]? =some (.cells cs t (0,0)):=h;have h2:w.heap[g]? =some (.cells cs' t' (0,0)):=h';rw[h1]at h2;injection h2 with e;injection e with _ e2;exact hne e2
theorem Box.far {w:World}{g:Nat}{t:TypeId}{cs:Array Value}(h:Box w g t cs) {p:Addr}(hp:g≠p.block) (u:Value):Box (w.setCell p u) g t cs:=(Below.heap_setCell w p u g hp).trans h
theorem get_ext (blk:List UInt8) (a e z:Nat) (w:World) (hz:e=a+z) (h:z=1\/z=2\/z=4) (hl:e<=blk.length) :
  Calls prog 164 #[.string ((str blk).extract a e)] w λe w'=>e=.returned (.int .u64 (fnum blk a z))/\w=w':=by
 subst hz;rw[str_ext,show a+z-a=z by omega];exact get_z _ w (by simp[List.length_take,List.length_drop];omega)
theorem fnum_bd (b:List UInt8) (o z:Nat) (h:z<=4):0<=fnum b o z/\fnum b o z<4294967296:=by
 unfold fnum;have h1:=numL_lt ((b.drop o).take z);have h2:((b.drop o).take z).length<=4:=by simp[List.length_take];omega
 have h3:(256:Nat)^((b.drop o).take z).length<=256^4:=Nat.pow_le_pow_right (by omega) h2;have h4:(256:Nat)^4=4294967296:=by decide
 omega
theorem Box.at {w:World}{g:Nat}{t:TypeId}{x:List Int}(h:Box w g t (intVals x)) (i:Nat) (hi:i<x.length):w.cell? ⟨g,i,none⟩=some (.int .i64 (x.getD i 0)):=by
 rw[h.cell i];simp[intVals,List.getD,hi]
theorem Box.cells12 {w:World}{g:Nat}{t:TypeId}{x:List Int}(h:Box w g t (intVals x)) (hx:x.length=12) :
  w.cell? ⟨g,0,none⟩=some (.int .i64 (x.getD 0 0))/\w.cell? ⟨g,1,none⟩=some (.int .i64 (x.getD 1 0))/\w.cell? ⟨g,2,none⟩=some (.int .i64 (x.getD 2 0))/\w.cell? ⟨g,3,none⟩=some (.int .i64 (x.getD 3 0))/\
  w.cell? ⟨g,4,none⟩=some (.int .i64 (x.getD 4 0))/\w.cell? ⟨g,5,none⟩=some (.int .i64 (x.getD 5 0))/\w.cell? ⟨g,6,none⟩=some (.int .i64 (x.getD 6 0))/\w.cell? ⟨g,7,none⟩=some (.int .i64 (x.getD 7 0))/\
  w.cell? ⟨g,8,none⟩=some (.int .i64 (x.getD 8 0))/\w.cell? ⟨g,9,none⟩=some (.int .i64 (x.getD 9 0))/\w.cell? ⟨g,10,none⟩=some (.int .i64 (x.getD 10 0))/\w.cell? ⟨g,11,none⟩=some (.int .i64 (x.getD 11 0)) :=
 ⟨h.at 0 (by omega),h.at 1 (by omega),h.at 2 (by omega),h.at 3 (by omega),h.at 4 (by omega),h.at 5 (by omega),h.at 6 (by omega),h.at 7 (by omega),h.at 8 (by omega),h.at 9 (by omega),h.at 10 (by omega),h.at 11 (by omega)⟩
theorem list12 {x:List Int}(hx:x.length=12):∃a b c d e f g h i j k l,x=[a,b,c,d,e,f,g,h,i,j,k,l]:=by
 match x,hx with
 | [a,b,c,d,e,f,g,h,i,j,k,l],_=>exact⟨a,b,c,d,e,f,g,h,i,j,k,l,rfl⟩
structure Trio (a W:World) (g:Nat) (t:TypeId) (cs:Array Value) (D:Nat) (ob:Obj):Prop where
 box:Box W g t cs
 ext:Ext a W
 low:a.heap.size<=g
 obj:W.heap[D]? =some ob
 cells:ob.isCells=false
theorem Trio.set {a W:World}{g:Nat}{t:TypeId}{cs:Array Value}{D:Nat}{ob:Obj}(h:Trio a W g t cs D ob) (i:Nat) (v:Value):Trio a (W.setCell ⟨g,i,none⟩ v) g t (cs.setIfInBounds i v) D ob :=
 ⟨h.box.set i v,h.ext.setCell h.low v,h.low,(KeepsOthers.setCell _ _ _).same D _ h.obj h.cells,h.cells⟩
theorem set12 {a W:World}{g D:Nat}{t:TypeId}{cs:List Int}{ob:Obj}(m0 m1 m2 m3 m4 m5 m6 m7 m8 m9 m10 m11:Int) (hb:Box W g t (intVals cs)) (hcs:cs.length=12) (hx:Ext a W) (hg:a.heap.size<=g) (hK:W.heap[D]? =some ob) (hko:ob.isCells=false) :
  ∃W',(((((((((((W.setCell ⟨g,0,none⟩ (.int .i64 m0)).setCell ⟨g,1,none⟩ (.int .i64 m1)).setCell ⟨g,2,none⟩ (.int .i64 m2)).setCell ⟨g,3,none⟩ (.int .i64 m3)).setCell ⟨g,4,none⟩ (.int .i64 m4)).setCell ⟨g,5,none⟩ (.int .i64 m5)).setCell ⟨g,6,none⟩ (.int .i64 m6)).setCell ⟨g,7,none⟩ (.int .i64 m7)).setCell ⟨g,8,none⟩ (.int .i64 m8)).setCell ⟨g,9,none⟩ (.int .i64 m9)).setCell ⟨g,10,none⟩ (.int .i64 m10)).setCell ⟨g,11,none⟩ (.int .i64 m11)=W'/\
   Box W' g t (intVals [m0,m1,m2,m3,m4,m5,m6,m7,m8,m9,m10,m11])/\Ext a W'/\W'.heap[D]? =some ob:=by
 obtain⟨n0,n1,n2,n3,n4,n5,n6,n7,n8,n9,n10,n11,rfl⟩:=list12 hcs;have T:Trio a W g t _ D ob:=⟨hb,hx,hg,hK,hko⟩
 have T':=(((((((((((T.set 0 (.int .i64 m0)).set 1 (.int .i64 m1)).set 2 (.int .i64 m2)).set 3 (.int .i64 m3)).set 4 (.int .i64 m4)).set 5 (.int .i64 m5)).set 6 (.int .i64 m6)).set 7 (.int .i64 m7)).set 8 (.int .i64 m8)).set 9 (.int .i64 m9)).set 10 (.int .i64 m10)).set 11 (.int .i64 m11);refine⟨_,rfl,?_,T'.ext,T'.obj⟩;have B:=T'.box;simp only[intVals,List.map_cons,List.map_nil,List.setIfInBounds_toArray,List.set_cons_zero,List.set_cons_succ]at B;exact B
theorem Box.putObj {w:World}{g:Nat}{t:TypeId}{cs:Array Value}(h:Box w g t cs) {D:Nat}{o:Obj}(o':Obj) (hD:w.heap[D]? =some o) (ho:o.isCells=false):Box (w.putObj D o') g t cs:=by
 have hne:g≠D:=by rintro rfl;have h':w.heap[g]? =some (.cells cs t (0,0)):=h;rw[hD]at h';cases h';cases ho
 exact((grownBy_putObj' w D o').block g h.lt (λe=>hne (by cases e;rfl))).trans h
theorem Ext.putObj {a w:World}(h:Ext a w) {D:Nat}{o:Obj}(o':Obj) (hD:w.heap[D]? =some o) (hl:a.heap.size<=D):Ext a (w.putObj D o') :=
 Below.grown h (grownBy_putObj' w D o') h.size (λk e=>by cases e;exact hl)
theorem inoL_len (b:List UInt8) (o:Nat):(inoL b o).length=12:=rfl
theorem told_any (b o n c:Nat) (B I k:Int) (blk:List UInt8) (w:World) (hk1:1<=k) (hk2:k<=64) (hn:3+(k-1)/2<n)
  (hc:w.cell? ⟨b,o+(3+(k-1)/2).toNat,none⟩=some (.string (str blk))) (hl:blk.length=128) :
  Calls prog 134 #[.slice (some ⟨b,o,none⟩) n c,geomV B I,.int .i64 k] w λe w' => e=.returned (inoV (inoL blk ((k-1)%2*64).toNat))/\Ext w w':=by
 have HP:=lh_ (λw=>callsIn_wide (n:=5).2 (place_any B I k w hk1 hk2));have hkq:0<=3+(k-1)/2/\0<=(k-1)%2*64/\(k-1)%2*64<=64:=by omega
 generalize 3+(k-1)/2=q at *;generalize (k-1)%2*64=p0 at *;refine(callsIn_wide (n:=6)).1 ?_;refine callsIn_of_wp_marks func134 rfl trivial ?_ rfl;simp only[ntmps134,List.size_toArray,List.length_cons,List.length_nil,Nat.reduceAdd,Nat.reduceSub,Array.replicate_succ,Array.replicate_zero,List.push_toArray,List.append_toArray,List.nil_append,List.cons_append];unfold geomV at HP ⊢
 gi_wp2_with (first
  | (refine⟨trivial,?_⟩;gi_at_call 193;refine(HP.out _).mono ?_;rintro e w1 ⟨rfl,x1⟩)
  | (refine⟨trivial,?_⟩;gi_at_call 194;refine(callsIn_wide.2 (fields_any _ _)).mono ?_;rintro e w2 ⟨rfl,rfl⟩))
 obtain⟨p,rfl⟩:=Int.eq_ofNat_of_zero_le hkq.2.1;have xw1:Ext w w1:=((((Ext.refl w).alloc _).alloc _).alloc _).trans x1;have s1:=x1.size;simp only[World.size_alloc]at s1;have bV1:Box w1 w.heap.size 22 #[.slice (some ⟨b,o,none⟩) n c]:=(((Box.new w _ _).ext ((Ext.refl _).alloc _)).ext ((Ext.refl _).alloc _)).ext x1;have bR1:Box w1 (w.heap.size+1+1) 121 (intVals zero12):=by have:=(Box.new ((w.alloc (.cells #[.slice (some ⟨b,o,none⟩) n c] 22)).alloc (.cells #[.int .i64 B,.int .i64 I,.int .i64 1,.int .i64 2,.int .i64 3,.int .i64 (3+(I+1)/2)] 144)) 121 (intVals zero12)).ext x1;simpa only[World.size_alloc]using this
 clear x1 HP;have b7:=Box.new w1 3 #[.int .i64 q];have x2:Ext w1 (w1.alloc (.cells #[.int .i64 q] 3)):=(Ext.refl _).alloc _;have z2:(w1.alloc (.cells #[.int .i64 q] 3)).heap.size=w1.heap.size+1:=World.size_alloc _ _;generalize w1.alloc (.cells #[.int .i64 q] 3)=w2 at b7 x2 z2 ⊢;have b8:=Box.new w2 3 #[.int .i64 (p:Int)];have x3:Ext w2 (w2.alloc (.cells #[.int .i64 (p:Int)] 3)):=(Ext.refl _).alloc _;have z3:(w2.alloc (.cells #[.int .i64 (p:Int)] 3)).heap.size=w1.heap.size+1+1:=by rw[World.size_alloc,z2]
 rw[z2]at b8;generalize w2.alloc (.cells #[.int .i64 (p:Int)] 3)=w3 at b8 x3 z3 ⊢;have bX:=Box.new w3 121 (intVals zero12);have x4:Ext w3 (w3.alloc (.cells (intVals zero12) 121)):=(Ext.refl _).alloc _;have z4:(w3.alloc (.cells (intVals zero12) 121)).heap.size=w1.heap.size+1+1+1:=by rw[World.size_alloc,z3]
 rw[z3]at bX;change Code.wpIn _ _ _ _ _ _ ((w3.alloc (.cells (intVals zero12) 121)).alloc _);generalize w3.alloc (.cells (intVals zero12) 121)=w4 at bX x4 z4 ⊢;have bN:=Box.new w4 262 #[.pointer (some ⟨w1.heap.size+1+1,0,none⟩)];have x5:Ext w4 (w4.alloc (.cells #[.pointer (some ⟨w1.heap.size+1+1,0,none⟩)] 262)):=(Ext.refl _).alloc _;rw[z4]at bN;generalize w4.alloc (.cells #[.pointer (some ⟨w1.heap.size+1+1,0,none⟩)] 262)=W0 at bN x5 ⊢;have y:=x2.trans (x3.trans (x4.trans x5));replace b7:=b7.ext (x3.trans (x4.trans x5));replace b8:=b8.ext (x4.trans x5);replace bX:=bX.ext x5;replace bV1:=bV1.ext y;replace bR1:=bR1.ext y;have X0:=xw1.trans y;clear x2 x3 x4 x5 z2 z3 z4 xw1 y;generalize hG7:w1.heap.size=G7 at *;generalize hGV:w.heap.size=GV at *;clear hG7 w1;have zN:=bN.lt
 refine wpIn_rangeFunc_ownH rfl (by decide) (gf:=222) (lb:=#[.pointer (some ⟨G7+1+1+1,0,none⟩)]) rfl trivial (enters_of func222 (by kernel_rfl) rfl)
  (fields_stops 5 (by decide) (G7+1+1+1) (G7+1+1) W0 bN) KpF.trans KpF.book (Below.refl _ _) (λ_=>rfl)
  (λpre W=>Ext w W/\Box W GV 22 #[.slice (some ⟨b,o,none⟩) n c]/\Box W (GV+1+1) 121 (intVals zero12)/\Box W G7 3 #[.int .i64 q]/\
   Box W (G7+1) 3 #[.int .i64 ((tellF blk pre (zero12,p)).2:Int)]/\Box W (G7+1+1) 121 (intVals (tellF blk pre (zero12,p)).1))
  (λ_ _ _=>False)
  (OwnFrom.and (ext_own X0.size) (OwnFrom.and (Own.from (box_own _ _ _) _) (OwnFrom.and (Own.from (box_own _ _ _) _) (OwnFrom.and (Own.from (box_own _ _ _) _) (OwnFrom.and (Own.from (box_own _ _ _) _) (Own.from (box_own _ _ _) _))))))
  (λ_ _ _ _ _ hs _ _=>hs) ⟨X0,bV1,bR1,b7,b8,bX⟩
  (λx a' W=>∃Bx,Box W Bx 265 #[.int .i64 (fsize x),.pointer (some ⟨G7+1+1,fplace x,none⟩)]/\a'={ tmps:=#[.slice (some ⟨b,o,none⟩) n c,.agg #[.int .i64 B,.int .i64 I,.int .i64 1,.int .i64 2,.int .i64 3,.int .i64 (3+(I+1)/2)],.int .i64 k,.pointer (some ⟨GV,0,none⟩),.pointer (some ⟨GV+1,0,none⟩),undef,.pointer (some ⟨GV+1+1,0,none⟩),.pointer (some ⟨G7,0,none⟩),.pointer (some ⟨G7+1,0,none⟩),.pointer (some ⟨G7+1+1,0,none⟩),.pointer (some ⟨Bx,0,none⟩),.tuple #[.int .i64 q,.int .i64 (p:Int)],.agg #[.int .i64 B,.int .i64 I,.int .i64 1,.int .i64 2,.int .i64 3,.int .i64 (3+(I+1)/2)],.int .i64 k,.tuple #[.int .i64 q,.int .i64 (p:Int)],.int .i64 q,.int .i64 (p:Int),.func (.func 222) #[] #[.pointer (some ⟨G7+1+1+1,0,none⟩)],.agg #[.int .i64 (fsize x),.pointer (some ⟨G7+1+1,fplace x,none⟩)],undef,undef,undef,undef,undef,undef,undef,undef,undef,undef,undef,undef,undef,undef,undef,undef,undef,undef,undef,undef],defers:=[] })
  (λx a' _ X Y row hs hg hr=>?hAx) ?assign ?body ?done ?stop
 case hAx => obtain⟨Bx,hb,rfl⟩:=hs;exact⟨Bx,Own.from (box_own Bx _ (λ(_:Unit)=>_)) _ () X Y row hb hg hr,rfl⟩
 case assign => rintro l pre x W K ⟨i1,i2,i3,i4,i5,i6⟩ hK;simp only[fenc];gi_wp2;have xx:Ext W (W.alloc (.cells #[.int .i64 (fsize x),.pointer (some ⟨G7+1+1,fplace x,none⟩)] 265)):=(Ext.refl W).alloc _;exact hK _ _ (keeps_ext xx) (KpF.ext xx) ⟨i1.trans xx,i2.ext xx,i3.ext xx,i4.ext xx,i5.ext xx,i6.ext xx⟩ ⟨W.heap.size,Box.new _ _ _,rfl⟩
 case body =>
  rintro l pre x a' W hl0 ⟨r,hr⟩ ⟨i1,i2,i3,i4,i5,i6⟩ ⟨Bx,bx,rfl⟩ hlt;have hat:=tellF_at blk pre (zero12,p);have hsn:=lh_ (tellF_snoc blk x pre (zero12,p));have hz:=fsize_is x;have hpl:=fplace_lt x;have hlen:=tellF_len blk pre (zero12,p);generalize tellF blk pre (zero12,p)=s at *;generalize fsize x=z at *;generalize fplace x=fp at *;have hp64:(p:Int)<=64:=hkq.2.2;have hs2:s.2+4<=128:=by simp only at hat;omega
  obtain⟨z,rfl⟩:=Int.eq_ofNat_of_zero_le (show 0<=z by omega);have hz':z=1\/z=2\/z=4:=by omega
  have cV:∀y:Later W,y.now.cell? ⟨GV,0,none⟩=some (.slice (some ⟨b,o,none⟩) n c):=λy=>(i2.ext y.ext).cell 0;have c7:∀y:Later W,y.now.cell? ⟨G7,0,none⟩=some (.int .i64 q):=λy=>(i4.ext y.ext).cell 0;have c8:∀y:Later W,y.now.cell? ⟨G7+1,0,none⟩=some (.int .i64 (s.2:Int)):=λy=>(i5.ext y.ext).cell 0;have f0:∀y:Later W,y.now.cell? ⟨Bx,0,none⟩=some (.int .i64 (z:Int)):=λy=>(bx.ext y.ext).cell 0;have f1:∀y:Later W,y.now.cell? ⟨Bx,1,none⟩=some (.pointer (some ⟨G7+1+1,fp,none⟩)):=λy=>(bx.ext y.ext).cell 1;have cS:∀y:Later W,y.now.cell? ⟨b,o+q.toNat,none⟩=some (.string (str blk)):=λy=>(i1.trans y.ext).keep hc;have hsz:(str blk).size=128:=by rw[str_size,hl]
  have t1:(0:Int)<=(s.2:Int):=by omega
  have t2:IntKind.i64.wrap ((s.2:Int)+(z:Int))=(s.2:Int)+(z:Int):=IntWalk.i64_in _ (by omega);have t3:(0:Int)<=(s.2:Int)+(z:Int):=by omega
  have t4:((s.2:Int)+(z:Int)).toNat=s.2+z:=by omega
  have hq0:=hkq.1;have HG:=lh_ (λw=>get_ext blk s.2 (s.2+z) z w rfl hz' (by omega));gi_wp2;refine wpIn_round_later_tail 15 (by rintro⟨_,_,h⟩;exact h) (by kernel_rfl) (by kernel_rfl) (by kernel_rfl) ?_;simp only[List.take_succ_cons,List.take_zero,List.drop_succ_cons,List.drop_zero];repeat (go_big_quiet_step ((exact later_of_same (HG.out _))))
  refine wpQuiet_nil ?_;rintro w2 ⟨y,rfl⟩;have hfz:fp<s.1.length:=by rw[hlen];exact hpl
  have j6:=i6.ext y.ext;have j5:=i5.ext y.ext;have jb:=bx.ext y.ext;have k6:y.now.cell? ⟨G7+1+1,fp,none⟩=some (.int .i64 (s.1[fp]'hfz)):=(j6.cell fp).trans (by simp[intVals,hfz]);have k6f:=j6.frozen fp;have g1:y.now.cell? ⟨Bx,0,none⟩=some (.int .i64 (z:Int)):=f0 y;have g2:y.now.cell? ⟨G7+1,0,none⟩=some (.int .i64 (s.2:Int)):=c8 y;have ne1:Bx≠G7+1+1:=bx.ne i6 (by decide);have ne2:G7+1≠G7+1+1:=by omega
  clear cV c7 c8 f0 f1 cS HG t2 t4;go_wp2_with fail;have hnb:=fnum_bd blk s.2 z (by omega);rw[IntWalk.wrap64_in _ ⟨by omega,by omega⟩];have e1:=j6.set fp (.int .i64 (fnum blk s.2 z));have e2:=j5.far (p:=⟨G7+1+1,fp,none⟩) ne2 (.int .i64 (fnum blk s.2 z));have e3:=jb.far (p:=⟨G7+1+1,fp,none⟩) ne1 (.int .i64 (fnum blk s.2 z));have e4:=(i2.ext y.ext).far (p:=⟨G7+1+1,fp,none⟩) (show GV≠G7+1+1 by omega) (.int .i64 (fnum blk s.2 z));have e5:=(i3.ext y.ext).far (p:=⟨G7+1+1,fp,none⟩) (show GV+1+1≠G7+1+1 by omega) (.int .i64 (fnum blk s.2 z));have e6:=(i4.ext y.ext).far (p:=⟨G7+1+1,fp,none⟩) (show G7≠G7+1+1 by omega) (.int .i64 (fnum blk s.2 z));have e7:=(i1.trans y.ext).setCell (p:=⟨G7+1+1,fp,none⟩) (show w.heap.size<=G7+1+1 by omega) (.int .i64 (fnum blk s.2 z));have e8:KpF W (y.now.setCell ⟨G7+1+1,fp,none⟩ (.int .i64 (fnum blk s.2 z))):=(KpF.ext y.ext).set j6 (by decide) (by decide) fp _;have e9:KeepsFrom W0.heap.size W (y.now.setCell ⟨G7+1+1,fp,none⟩ (.int .i64 (fnum blk s.2 z))):=(keeps_ext y.ext).trans ((KeepsOthers.setCell _ _ _).from _);generalize y.now.setCell ⟨G7+1+1,fp,none⟩ (.int .i64 (fnum blk s.2 z))=W5 at e1 e2 e3 e4 e5 e6 e7 e8 e9 ⊢;have r1:W5.cell? ⟨Bx,0,none⟩=some (.int .i64 (z:Int)):=e3.cell 0;have r2:W5.cell? ⟨G7+1,0,none⟩=some (.int .i64 (s.2:Int)):=e2.cell 0;have r2f:=e2.frozen 0;gi_wp2;have hL:(intVals s.1).setIfInBounds fp (.int .i64 (fnum blk s.2 z))=intVals (s.1.set fp (fnum blk s.2 z)):=by simp[intVals,List.map_set]
  rw[hL]at e1;refine⟨e9.trans ((KeepsOthers.setCell _ _ _).from _),e8.set e2 (by decide) (by decide) 0 _,e7.setCell (p:=⟨G7+1,0,none⟩) (show w.heap.size<=G7+1 by omega) _,e4.far (p:=⟨G7+1,0,none⟩) (show GV≠G7+1 by omega) _,e5.far (p:=⟨G7+1,0,none⟩) (show GV+1+1≠G7+1 by omega) _,e6.far (p:=⟨G7+1,0,none⟩) (show G7≠G7+1 by omega) _,?_,?_⟩
  ·rw[hsn.out];exact e2.set 0 _
  ·rw[hsn.out];exact e1.far (p:=⟨G7+1,0,none⟩) (show G7+1+1≠G7+1 by omega) _
 case done =>
  rintro D ys W hD rfl ⟨i1,i2,i3,i4,i5,i6⟩ hK;rw[tellF_all]at i6;have hx12:=inoL_len blk p;have HV:Hid (inoV (inoL blk ((p:Int)).toNat)=inoV (inoL blk p)):=rfl;generalize inoL blk p=x at i6 hx12 HV;obtain⟨m0,m1,m2,m3,m4,m5,m6,m7,m8,m9,m10,m11,rfl⟩:=list12 hx12;obtain⟨q0,q1,q2,q3,q4,q5,q6,q7,q8,q9,q10,q11⟩:=i6.cells12 rfl;obtain⟨u0,u1,u2,u3,u4,u5,u6,u7,u8,u9,u10,u11⟩:=i3.cells12 rfl;have v0:=i3.frozen 0;have v1:=i3.frozen 1;have v2:=i3.frozen 2;have v3:=i3.frozen 3;have v4:=i3.frozen 4;have v5:=i3.frozen 5;have v6:=i3.frozen 6;have v7:=i3.frozen 7;have v8:=i3.frozen 8;have v9:=i3.frozen 9;have v10:=i3.frozen 10;have v11:=i3.frozen 11
  simp only[List.getD_cons_zero,List.getD_cons_succ]at q0 q1 q2 q3 q4 q5 q6 q7 q8 q9 q10 q11;clear i2 i4 i5 i6;gi_wp2;obtain⟨W',eW,bF,xF,kF⟩:=set12 m0 m1 m2 m3 m4 m5 m6 m7 m8 m9 m10 m11 i3 rfl i1 (show w.heap.size<=GV+1+1 by omega) hK rfl;rw[eW];clear eW u0 u1 u2 u3 u4 u5 u6 u7 u8 u9 u10 u11 v0 v1 v2 v3 v4 v5 v6 v7 v8 v9 v10 v11 q0 q1 q2 q3 q4 q5 q6 q7 q8 q9 q10 q11;refine⟨by simp,.inl ⟨_,_,rfl,run_takeDeferred kF,?_⟩⟩;have xP:=xF.putObj (.deferred none) kF (show w.heap.size<=D by have:=X0.size;omega);have bP:=bF.putObj (.deferred none) kF rfl;generalize W'.putObj D (.deferred none)=WF at xP bP ⊢;obtain⟨q0,q1,q2,q3,q4,q5,q6,q7,q8,q9,q10,q11⟩:=bP.cells12 rfl;simp only[List.getD_cons_zero,List.getD_cons_succ]at q0 q1 q2 q3 q4 q5 q6 q7 q8 q9 q10 q11;refine⟨_,?_,congrArg Ending.returned HV.out.symm,xP⟩;simp[results,Tryz.f134,go_sem,q0,q1,q2,q3,q4,q5,q6,q7,q8,q9,q10,q11,inoV,intVals]
 case stop => rintro D c pre W _ _ h _;exact h.elim
attribute [local go_sem] Oper.semAt_some
def fitF (x:List Int) (k:Fin 12):Bool:=decide (0<=x.getD (fplace k) 0/\x.getD (fplace k) 0<256^(fsize k).toNat)
def fitsB (x:List Int):Bool:=allF.all (fitF x)
attribute [local go_sem] Oper.semAt_some
theorem KpF.grown {A w w':World}{base size n:Nat}{e:TypeId}{v:Value}{xs:List Value}(h:KpF A w) (ho:w.ownsRow base e size v n xs) (hg:w.grownBy w' v.ownBlock) (h1:e≠265) (h2:e≠262):KpF A w':=by
 intro b cs t hb ht;have k:=h b cs t hb ht;refine Box.grown k hg (own_ne ho k ?_);rcases ht with rfl|rfl
 ·exact h1
 ·exact h2
def bytesF (x:List Int) (pre:List (Fin 12)):List UInt8:=pre.flatMap λk=>putL (x.getD (fplace k) 0) (fsize k).toNat
def inoB (x:List Int):List UInt8:=bytesF x allF
theorem inoB_len (x:List Int):(inoB x).length=24:=by
 simp only[inoB,bytesF,allF,List.flatMap_cons,List.flatMap_nil,List.length_append,putL_len,List.length_nil];rfl
def overL (b:List UInt8) (p:Nat) (s:List UInt8):List UInt8:=b.take p++s++b.drop (p+s.length)
theorem overL_len (b:List UInt8) (p:Nat) (s:List UInt8) (h:p+s.length<=b.length):(overL b p s).length=b.length:=by simp[overL];omega
end Go.Proofs.YtfaplefkakpgcaaGreatDoor
namespace Go.Proofs.YtfaplefkakpgcaaGreatDoor
open Go.Proofs.Tryz
open Go.RowKit
theorem setRow_grown (w:World) (g:Nat) (cs:Array Value):w.grownBy (w.setRow g cs) (some g) :=
 ⟨rfl,rfl,rfl,by simp,λk _ hne=>setRow_other w g k cs (λe=>hne (by rw[e]))⟩
def isAggD:TypeDesc->Bool
 | .struct _=>true
 | .array _ _=>true
 | _=>false
section
variable {ops:Array Oper}{rest:List Oper}{o:Oper}{a:Act}{w:World}{Q:Exit->Act->World->Prop}
theorem wp_st (T:TypeId) (x y:Operand) (hgd:o.guard=none) (ho:o.op=.store T x y) (g:Nat) (cells old:Array Value) (t:TypeId) (hx:a.eval x=.pointer (some ⟨g,0,none⟩)) (hy:a.eval y=.agg cells)
  (hb:Box w g t old) (hi:(prog.info? T).map (·.size)=some cells.size) (hold:old.size=cells.size) (h1:cells.all (·.oneCell')=true)
  (hK:∀w',Box w' g t cells->w.grownBy w' (some g)->wpList prog ops Q rest (a.put o.dst undef) w'):wpList prog ops Q (o::rest) a w :=
 wpList_store_row hgd T x y ho g cells hx hy t old hb hi hold h1 (hK _ (setRow_box hb) (setRow_grown w g cells))
theorem wp_ld (T:TypeId) (x:Operand) (hgd:o.guard=none) (ho:o.op=.load T x) (g:Nat) (cells:Array Value) (t:TypeId) (d:TypeDesc) (hx:a.eval x=.pointer (some ⟨g,0,none⟩))
  (hb:Box w g t cells) (hu:prog.underlying T=some d) (hd:isAggD d=true) (hi:(prog.info? T).map (·.size)=some cells.size)
  (hK:wpList prog ops Q rest (a.put o.dst (.agg cells)) w):wpList prog ops Q (o::rest) a w :=
 wpList_load_row hgd T x ho g hx t cells (0,0) d hb hu (by cases d<;>first|rfl|cases hd) hi hK
end
theorem intVals_size (x:List Int):(intVals x).size=x.length:=by simp[intVals]
theorem intVals_one (x:List Int):(intVals x).all (·.oneCell')=true:=by
 rw[Array.all_eq_true_iff_forall_mem];intro v hv;simp only[intVals,List.mem_toArray,List.mem_map]at hv;obtain⟨n,_,rfl⟩:=hv;rfl
theorem inoSize:(prog.info? 121).map (·.size)=some 12:=by kernel_rfl
theorem geomSize:(prog.info? 144).map (·.size)=some 6:=by kernel_rfl
section
variable {ops:Array Oper}{rest:List Oper}{o:Oper}{a:Act}{w:World}{Q:Exit->Act->World->Prop}
theorem wp_st_ino (x y:Operand) (hgd:o.guard=none) (ho:o.op=.store 121 x y) (g:Nat) (l l0:List Int) (t:TypeId) (hx:a.eval x=.pointer (some ⟨g,0,none⟩)) (hy:a.eval y=.agg (intVals l))
  (hb:Box w g t (intVals l0)) (hl:l.length=12) (hl0:l0.length=12)
  (hK:∀w',Box w' g t (intVals l)->w.grownBy w' (some g)->wpList prog ops Q rest (a.put o.dst undef) w'):wpList prog ops Q (o::rest) a w :=
 wp_st _ x y hgd ho g _ _ t hx hy hb (by rw[intVals_size,hl];exact inoSize) (by rw[intVals_size,intVals_size,hl,hl0]) (intVals_one l) hK
theorem wp_ld_ino (x:Operand) (hgd:o.guard=none) (ho:o.op=.load 121 x) (g:Nat) (l:List Int) (t:TypeId) (hx:a.eval x=.pointer (some ⟨g,0,none⟩))
  (hb:Box w g t (intVals l)) (hl:l.length=12) (hK:wpList prog ops Q rest (a.put o.dst (.agg (intVals l))) w):wpList prog ops Q (o::rest) a w :=
 wp_ld _ x hgd ho g _ t _ hx hb underlying121 rfl (by rw[intVals_size,hl];exact inoSize) hK
theorem wp_ld_geom (x:Operand) (hgd:o.guard=none) (ho:o.op=.load 144 x) (g:Nat) (l:List Int) (t:TypeId) (hx:a.eval x=.pointer (some ⟨g,0,none⟩))
  (hb:Box w g t (intVals l)) (hl:l.length=6) (hK:wpList prog ops Q rest (a.put o.dst (.agg (intVals l))) w):wpList prog ops Q (o::rest) a w :=
 wp_ld _ x hgd ho g _ t _ hx hb underlying144 rfl (by rw[intVals_size,hl];exact geomSize) hK
theorem wp_st_geom (x y:Operand) (hgd:o.guard=none) (ho:o.op=.store 144 x y) (g:Nat) (l l0:List Int) (t:TypeId) (hx:a.eval x=.pointer (some ⟨g,0,none⟩)) (hy:a.eval y=.agg (intVals l))
  (hb:Box w g t (intVals l0)) (hl:l.length=6) (hl0:l0.length=6)
  (hK:∀w',Box w' g t (intVals l)->w.grownBy w' (some g)->wpList prog ops Q rest (a.put o.dst undef) w'):wpList prog ops Q (o::rest) a w :=
 wp_st _ x y hgd ho g _ _ t hx hy hb (by rw[intVals_size,hl];exact geomSize) (by rw[intVals_size,intVals_size,hl,hl0]) (intVals_one l) hK
end
theorem geomV_eq (B I:Int):geomV B I=.agg (intVals [B,I,1,2,3,3+(I+1)/2]):=rfl
theorem results_cell2 {fn:Func}{p s:Tmp}{ty:TypeId}(h:fn.results=#[.cell p ty,.tmp s]) (tmps:Array Value) (w:World) (g:Nat) (t:TypeId) (cs:Array Value) (d:TypeDesc) (v:Value)
  (hp:tmps.getD p undef=.pointer (some ⟨g,0,none⟩)) (hs:tmps.getD s undef=v) (hg:Box w g t cs)
  (hu:prog.underlying ty=some d) (hd:isAggD d=true) (hi:(prog.info? ty).map (·.size)=some cs.size) :
  (results fn tmps).run prog w=.ok (.tuple #[.agg cs,v]) w:=by
 have hp':tmps[p]?.getD undef=.pointer (some ⟨g,0,none⟩):=by simpa using hp
 have hs':tmps[s]?.getD undef=v:=by simpa using hs
 simp[results,h,hp',hs',asAddr,run_loadVar_row w g t ty cs (0,0) d hg hu (by cases d<;>first|rfl|cases hd) hi]
theorem getD_len {v:List (List UInt8)}{I:Int}(hg:Good v I) {i:Nat}(hi:i<v.length):(v.getD i []).length=128:=by
 rw[List.getD_eq_getElem?_getD,List.getElem?_eq_getElem hi];exact hg.all i hi
theorem known_yes (A:Option Addr) (n c:Nat) (v:List (List UInt8)) (I k:Int) (w:World) (hv:Strs w A n v) (hg:Good v I) (hk1:1<=k) (hk2:k<=I) :
  Calls prog 133 #[.slice A n c,.int .i64 k] w λe w'=>e=.returned (.tuple #[geomV v.length I,.int .i64 0])/\Ext w w':=by
 have hpl:=plan_bd hg.plan;have HO:=lh_ (λw h=>of_yes A n c v I w h hg);have d1:decide (k<1)=false:=by simp;omega
 have d2:decide (I<k)=false:=by simp;omega
 go_enter func133,ntmps133;go_wp2_with fail;refine(HO.out _ (hv.ext ((Ext.refl _).alloc _))).mono ?_;rintro e w1 ⟨rfl,x1⟩;rw[geomV_eq];have x0:Ext w w1:=((Ext.refl w).alloc _).trans x1;have bR:Box w1 w.heap.size 144 (intVals [0,0,0,0,0,0]):=(Box.new w 144 _).ext x1;have hlt:=bR.lt;clear x1
 go_wp2_with (first
  | (refine wp_st_geom (.tmp 6) (.tmp 11) rfl rfl w1.heap.size _ [0,0,0,0,0,0] 144 rfl rfl (Box.new _ _ _) rfl rfl ?_;intro w2 b2 g2;have c1:w2.cell? ⟨w1.heap.size,1,none⟩=some (.int .i64 I):=b2.cell 1)
  | (refine wp_ld_geom (.tmp 6) rfl rfl w1.heap.size _ 144 rfl b2 rfl ?_)
  | (refine wp_st_geom (.tmp 4) (.tmp 26) rfl rfl w.heap.size _ [0,0,0,0,0,0] 144 rfl rfl ((bR.ext ((Ext.refl _).alloc _)).grown g2 (by simp;omega)) rfl rfl ?_;intro w3 b3 g3))
 refine bodyPost_ret (results_cell2 rfl _ _ w.heap.size _ _ _ (.int .i64 0) rfl rfl b3 underlying144 rfl geomSize) rfl ⟨rfl,?_⟩;exact((x0.alloc _).grown g2 (λk e=>by cases e;exact x0.size)).grown g3 (λk e=>by cases e;exact Nat.le_refl _)
theorem known_no (A:Option Addr) (n c:Nat) (v:List (List UInt8)) (I k:Int) (w:World) (hv:Strs w A n v) (hg:Good v I) (hk:k<1\/I<k) :
  Calls prog 133 #[.slice A n c,.int .i64 k] w λe w'=>e=.returned (.tuple #[noGeom,.int .i64 2])/\Ext w w':=by
 have hpl:=plan_bd hg.plan;have HO:=lh_ (λw h=>of_yes A n c v I w h hg);rcases(by omega:k<1\/(1<=k/\I<k)) with hk|⟨hk,hk2⟩
 ·have d1:decide (k<1)=true:=by simpa using hk
  go_enter func133,ntmps133;go_wp2_with fail;refine(HO.out _ (hv.ext ((Ext.refl _).alloc _))).mono ?_;rintro e w1 ⟨rfl,x1⟩;rw[geomV_eq];have x0:Ext w w1:=((Ext.refl w).alloc _).trans x1;have bR:Box w1 w.heap.size 144 (intVals [0,0,0,0,0,0]):=(Box.new w 144 _).ext x1;have hlt:=bR.lt;clear x1
  go_wp2_with (first
   | (refine wp_st_geom (.tmp 6) (.tmp 11) rfl rfl w1.heap.size _ [0,0,0,0,0,0] 144 rfl rfl (Box.new _ _ _) rfl rfl ?_;intro w2 b2 g2;have c1:w2.cell? ⟨w1.heap.size,1,none⟩=some (.int .i64 I):=b2.cell 1)
   | (refine wp_st_geom (.tmp 4) (.tmp 25) rfl rfl w.heap.size [0,0,0,0,0,0] [0,0,0,0,0,0] 144 rfl rfl ((bR.ext ((Ext.refl _).alloc _)).grown g2 (by simp;omega)) rfl rfl ?_;intro w3 b3 g3))
  refine bodyPost_ret (results_cell2 rfl _ _ w.heap.size _ _ _ (.int .i64 2) rfl rfl b3 underlying144 rfl geomSize) rfl ⟨rfl,?_⟩;exact((x0.alloc _).grown g2 (λk e=>by cases e;exact x0.size)).grown g3 (λk e=>by cases e;exact Nat.le_refl _)
 ·have d1:decide (k<1)=false:=by simp;omega
  have d2:decide (I<k)=true:=by simpa using hk2
  go_enter func133,ntmps133;go_wp2_with fail;refine(HO.out _ (hv.ext ((Ext.refl _).alloc _))).mono ?_;rintro e w1 ⟨rfl,x1⟩;rw[geomV_eq];have x0:Ext w w1:=((Ext.refl w).alloc _).trans x1;have bR:Box w1 w.heap.size 144 (intVals [0,0,0,0,0,0]):=(Box.new w 144 _).ext x1;have hlt:=bR.lt;clear x1
  go_wp2_with (first
   | (refine wp_st_geom (.tmp 6) (.tmp 11) rfl rfl w1.heap.size _ [0,0,0,0,0,0] 144 rfl rfl (Box.new _ _ _) rfl rfl ?_;intro w2 b2 g2;have c1:w2.cell? ⟨w1.heap.size,1,none⟩=some (.int .i64 I):=b2.cell 1)
   | (refine wp_st_geom (.tmp 4) (.tmp 25) rfl rfl w.heap.size [0,0,0,0,0,0] [0,0,0,0,0,0] 144 rfl rfl ((bR.ext ((Ext.refl _).alloc _)).grown g2 (by simp;omega)) rfl rfl ?_;intro w3 b3 g3))
  refine bodyPost_ret (results_cell2 rfl _ _ w.heap.size _ _ _ (.int .i64 2) rfl rfl b3 underlying144 rfl geomSize) rfl ⟨rfl,?_⟩;exact((x0.alloc _).grown g2 (λk e=>by cases e;exact x0.size)).grown g3 (λk e=>by cases e;exact Nat.le_refl _)
def inoAt (v:List (List UInt8)) (k:Int):List Int:=inoL (v.getD (3+(k-1)/2).toNat []) ((k-1)%2*64).toNat
theorem inoAt_len (v:List (List UInt8)) (k:Int):(inoAt v k).length=12:=rfl
theorem noGeom_eq:noGeom=.agg (intVals [0,0,0,0,0,0]):=rfl
theorem told_good (b o n c:Nat) (v:List (List UInt8)) (I k:Int) (w:World) (hv:Strs w (some ⟨b,o,none⟩) n v) (hg:Good v I) (hk1:1<=k) (hk2:k<=I) :
  Calls prog 134 #[.slice (some ⟨b,o,none⟩) n c,.agg (intVals [v.length,I,1,2,3,3+(I+1)/2]),.int .i64 k] w λe w'=>e=.returned (.agg (intVals (inoAt v k)))/\Ext w w':=by
 have hpl:=plan_bd hg.plan;obtain⟨rfl,hv2⟩:=hv;obtain⟨b',o',e,hcell⟩:=hv2 (by omega);cases e;have hi:(3+(k-1)/2).toNat<v.length:=by omega
 have hc:=hcell _ hi;refine told_any b o v.length c v.length I k (v.getD (3+(k-1)/2).toNat []) w hk1 (by omega) (by omega) ?_ (getD_len hg hi);rw[hc,List.getD_eq_getElem?_getD,List.getElem?_eq_getElem hi];rfl
theorem iget_yes (A:Option Addr) (n c:Nat) (v:List (List UInt8)) (I k:Int) (w:World) (hv:Strs w A n v) (hg:Good v I) (hk1:1<=k) (hk2:k<=I) :
  Calls prog 69 #[.slice A n c,.int .i64 k] w λe w'=>e=.returned (.tuple #[.agg (intVals (inoAt v k)),.int .i64 0])/\Ext w w':=by
 have hpl:=plan_bd hg.plan;have HO:=lh_ (λw h=>known_yes A n c v I k w h hg hk1 hk2);obtain⟨b,o,rfl,_⟩:=hv.2 (by have:=hv.1;omega);have HT:=lh_ (λw h=>told_good b o n c v I k w h hg hk1 hk2);go_enter func69,ntmps69;go_wp2_with fail;refine(HO.out _ (hv.ext ((Ext.refl _).alloc _))).mono ?_;rintro e w1 ⟨rfl,x1⟩;rw[geomV_eq];have x0:Ext w w1:=((Ext.refl w).alloc _).trans x1;have bR:Box w1 w.heap.size 121 (intVals zero12):=(Box.new w 121 _).ext x1;have hlt:=bR.lt;clear x1
 go_wp2_with (first
  | (refine wp_st_geom (.tmp 6) (.tmp 12) rfl rfl w1.heap.size _ [0,0,0,0,0,0] 144 rfl rfl (Box.new _ _ _) rfl rfl ?_;intro w2 b2 g2;have x2:Ext w w2:=(x0.alloc _).grown g2 (λk e=>by cases e;exact x0.size))
  | (refine wp_ld_geom (.tmp 6) rfl rfl w1.heap.size _ 144 rfl b2 rfl ?_)
  | (go_at_call 134;refine(HT.out _ (hv.ext x2)).mono ?_;rintro e w3 ⟨rfl,x3⟩)
  | (refine wp_st_ino (.tmp 4) (.tmp 21) rfl rfl w.heap.size _ zero12 121 rfl rfl (((bR.ext ((Ext.refl _).alloc _)).grown g2 (by simp;omega)).ext x3) rfl rfl ?_;intro w4 b4 g4))
 refine bodyPost_ret (results_cell2 rfl _ _ w.heap.size _ _ _ (.int .i64 0) rfl rfl b4 underlying121 rfl inoSize) rfl ⟨rfl,?_⟩;exact(x2.trans x3).grown g4 (λk e=>by cases e;exact Nat.le_refl _)
theorem iget_no (A:Option Addr) (n c:Nat) (v:List (List UInt8)) (I k:Int) (w:World) (hv:Strs w A n v) (hg:Good v I) (hk:k<1\/I<k) :
  Calls prog 69 #[.slice A n c,.int .i64 k] w λe w'=>e=.returned (.tuple #[.agg (intVals zero12),.int .i64 2])/\Ext w w':=by
 have HO:=lh_ (λw h=>known_no A n c v I k w h hg hk);go_enter func69,ntmps69;go_wp2_with fail;refine(HO.out _ (hv.ext ((Ext.refl _).alloc _))).mono ?_;rintro e w1 ⟨rfl,x1⟩;rw[noGeom_eq];have x0:Ext w w1:=((Ext.refl w).alloc _).trans x1;have bR:Box w1 w.heap.size 121 (intVals zero12):=(Box.new w 121 _).ext x1;have hlt:=bR.lt;clear x1
 go_wp2_with (first
  | (refine wp_st_geom (.tmp 6) (.tmp 12) rfl rfl w1.heap.size _ [0,0,0,0,0,0] 144 rfl rfl (Box.new _ _ _) rfl rfl ?_;intro w2 b2 g2;have x2:Ext w w2:=(x0.alloc _).grown g2 (λk e=>by cases e;exact x0.size))
  | (refine wp_st_ino (.tmp 4) (.tmp 16) rfl rfl w.heap.size zero12 zero12 121 rfl rfl ((bR.ext ((Ext.refl _).alloc _)).grown g2 (by simp;omega)) rfl rfl ?_;intro w4 b4 g4))
 refine bodyPost_ret (results_cell2 rfl _ _ w.heap.size _ _ _ (.int .i64 2) rfl rfl b4 underlying121 rfl inoSize) rfl ⟨rfl,?_⟩;exact x2.grown g4 (λk e=>by cases e;exact Nat.le_refl _)
def putAt (v:List (List UInt8)) (k:Int) (x:List Int):List (List UInt8):=v.set (3+(k-1)/2).toNat (overL (v.getD (3+(k-1)/2).toNat []) ((k-1)%2*64).toNat (inoB x))
theorem rplan_yes (B I:Int) (w:World) (h:planB B I=true) :
  Calls prog 168 #[.int .i64 B,.int .i64 I] w λe w'=>e=.returned (.tuple #[geomV B I,.int .i64 0])/\Ext w w':=by
 have hp:=plan_bd h;clear h;have d1:decide (B<16)=false:=by simp;omega
 have d2:decide (223<B)=false:=by simp;omega
 have d3:decide (I<4)=false:=by simp;omega
 have d4:decide (64<I)=false:=by simp;omega
 go_enter func168,ntmps168;go_wp2_with fail;exact bodyPost_ret (v:=.tuple #[geomV B I,.int .i64 0]) (by simp[results,Tryz.results168,go_sem,geomV]) rfl ⟨rfl,((Ext.refl _).alloc _).alloc _⟩
theorem rzeros_any (n:Nat) (w:World) (h:n<=100000) :
  Calls prog 209 #[.int .i64 n] w λe w'=>e=.returned (.string (str (zs n)))/\w=w':=by
 have hz:=str_size;have hap:=str_app;have hk:(⟨#[0]⟩:ByteArray)=str [0]:=rfl;go_enter func209,ntmps209;go_wp2_with fail;go_loop [3,4] (λs i=>∃k:Nat,k<=n/\i=.int .i64 k/\s=.string (str (zs k))) (λ_ i=>n-(intOf i).toNat);case atStart=>exact⟨0,by omega,rfl,rfl⟩
 case round =>
  obtain⟨k,hk2,rfl,rfl⟩:=hrel;have hl:=zs_len k;have HZ:=lh_ (show zs (k+1)=zs k++[0] from List.replicate_succ');by_cases hlt:k<n
  ·go_wp2_with fail;go_round;case rel=>exact⟨k+1,by omega,by go_num,by rw[HZ.out]⟩
   case measure=>simp[intOf];omega
  ·obtain rfl:k=n:=by omega
   go_wp2_with fail;go_ret;exact⟨rfl,rfl⟩
theorem rbit_any (i:Nat) (m:List UInt8) (w:World) (hm:m.length=128) (hi:i<1024) :
  Calls prog 171 #[.string (str m),.int .i64 i] w λe w'=>e=.returned (.bool (bitB m i))/\w=w':=by
 have hz:(str m).size=128:=by rw[str_size,hm]
 go_enter func171,ntmps171;go_wp2_with fail;go_ret;exact⟨ret_bool (bit_val m i (by omega)),rfl⟩
theorem rget2 (a b:UInt8) (w:World) :
  Calls prog 169 #[.string (str [a,b])] w λe w'=>e=.returned (.int .u64 ((a.toNat:Int)+256*b.toNat))/\w=w':=by
 have hz:=str_size;have ha:=a.toNat_lt;have hb:=b.toNat_lt;have e0:(str [a,b])[0]'(by rw[str_size];simp)=a:=rfl;have e1:(str [a,b])[1]'(by rw[str_size];simp)=b:=rfl;go_enter func169,ntmps169;go_wp2_with fail;refine wp_loop_rounds 3 ?_;rw[rounds_succ];go_wp2_with fail;rw[rounds_succ];go_wp2_with fail;rw[rounds_succ];go_wp2_with fail;go_ret;refine⟨ret_int ?_,rfl⟩;omega
theorem conv_one (w:World) (x:Int) (g:Nat) (hg:g=w.heap.size):(convert 167 9 (.slice (some ⟨g,0,none⟩) 1 1)).run prog (w.alloc (.cells #[.int .u8 x] 5))=.ok (.string (str [b8 x])) (w.alloc (.cells #[.int .u8 x] 5)):=by
 subst hg;exact conv_row w [x] #[.int .u8 x] 5 1 1 rfl (λi hi=>by
  rcases(show i=0 by simp at hi;omega) with rfl;rfl)
theorem rput2 (n:Int) (w:World) (h0:0<=n) (h1:n<=65535) :
  Calls prog 85 #[.int .u64 n,.int .i64 2] w λe w'=>e=.returned (.string (str [b8 (n%256),b8 (n/256)]))/\Ext w w':=by
 have hz:=str_size;have hap:=str_app;have hk:(⟨#[]⟩:ByteArray)=str []:=rfl;have u1:n/256%256=n/256:=by omega
 have k1:=conv_one w (n%256) w.heap.size rfl;have k2:=conv_one (w.alloc (.cells #[.int .u8 (n%256)] 5)) (n/256) (w.heap.size+1) (by simp);go_enter func85,ntmps85;go_wp2_with fail;refine wp_loop_rounds 3 ?_;rw[rounds_succ];go_wp2_with fail;rw[rounds_succ];go_wp2_with fail;rw[rounds_succ];go_wp2_with fail;go_ret;exact⟨rfl,((Ext.refl _).alloc _).alloc _⟩
theorem rhead_any (B I:Int) (w:World) (h:planB B I=true) :
  Calls prog 170 #[geomV B I] w λe w'=>e=.returned (.string (str (headL B I)))/\Ext w w':=by
 have hp:=plan_bd h;clear h;unfold geomV;have hz:=str_size;have hap:=str_app;have hzl:=zs_len;have hk:(⟨#[104,105,98,49]⟩:ByteArray)=str [104,105,98,49]:=rfl;have u1:IntKind.u64.wrap B=B:=by rw[IntKind.wrap_u64];omega
 have u2:IntKind.u64.wrap I=I:=by rw[IntKind.wrap_u64];omega
 go_enter func170,ntmps170;go_wp2_with fail;generalize hw1:w.alloc _=w1;have hg1:Ext w w1:=by rw[← hw1];exact(Ext.refl _).alloc _
 have c0:∀x:Later w1,x.now.cell? ⟨w.heap.size,0,none⟩=some (.int .i64 B):=λx=>x.ext.keep (by rw[← hw1];simp[go_sem]);have c1:∀x:Later w1,x.now.cell? ⟨w.heap.size,1,none⟩=some (.int .i64 I):=λx=>x.ext.keep (by rw[← hw1];simp[go_sem]);clear hw1;refine wp_region_later (by kernel_rfl) (by kernel_rfl) ?_;repeat (go_big_quiet_step ((first|(with_reducible exact later_of (rput2 _ _ (by omega) (by omega)))|(with_reducible exact later_of_same (rzeros_any 120 _ (by omega))))))
 refine wpQuiet_nil ?_;rintro w2 ⟨x,rfl⟩;clear c0 c1;go_wp2_with fail;go_ret;exact⟨rfl,hg1.trans x.ext⟩
theorem conv_box1 (w:World) (g:Nat) (x:Int) (h:Box w g 5 #[.int .u8 x]):(convert 167 9 (.slice (some ⟨g,0,none⟩) 1 1)).run prog w=.ok (.string (str [b8 x])) w:=by
 refine run_convert_bytes_arg (P:=prog) _ 167 5 underlying167 underlying5 _ _ _ 1 [x] rfl (λi hi=>?_) 9 underlying9;rcases(show i=0 by simpa using hi) with rfl;exact h.cell 0
theorem b8_nat (n:Nat):b8 (n:Int)=UInt8.ofNat n:=by unfold b8;simp
theorem rlength_any (f:Nat):∀(n:Nat) (w:World),n<=f->n<=1000000000000->
  Calls prog 156 #[.int .i64 n] w λe w'=>e=.returned (.string (str (lenL n)))/\Ext w w':=by
 induction f with
 | zero =>
  intro n w hn hm;obtain rfl:n=0:=by omega
  have hc:=conv_one w 0 w.heap.size rfl;have hl:lenL 0=[b8 0]:=by rw[lenL_small (by omega)];rfl
  go_enter func156,ntmps156;go_wp2_with fail;go_ret;exact⟨by rw[hl];rfl,(Ext.refl w).alloc _⟩
 | succ f ih =>
  intro n w hn hm;by_cases h:n<128
  ·have hc:=conv_one w n w.heap.size rfl;have hl:=lh_ (show lenL n=[b8 n] by rw[lenL_small h,b8_nat]);have h2:(n:Int)<128:=by omega
   go_enter func156,ntmps156;go_wp2_with fail;go_ret;exact⟨by rw[hl.out];rfl,(Ext.refl w).alloc _⟩
  ·have hl:=lh_ (show lenL n=b8 ((n:Int)%128+128)::lenL (n/128) by rw[lenL_big h];congr 1);have hI:=lh_ (show∀w,Calls prog 156 #[.int .i64 ((n:Int)/128)] w λe w'=>e=.returned (.string (str (lenL (n/128))))/\Ext w w' fromλw=>by have:=ih (n/128) w (by omega) (by omega);rwa [show(((n/128:Nat):Int))=(n:Int)/128 by omega]at this);clear ih;have h2:¬(n:Int)<128:=by omega
   go_enter func156,ntmps156;go_wp2_with fail;refine wp_region_web' 9 [[],[0],[1],[2],[3],[4],[],[6],[7]] (listV [isV (.int .i64 n),isV (.int .i64 ((n:Int)%128)),isV (.int .i64 ((n:Int)%128+128)),isV (.int .u8 ((n:Int)%128+128)),rowV 1 5 #[.int .u8 ((n:Int)%128+128)],isV (.string (str [b8 ((n:Int)%128+128)])),isV (.int .i64 n),isV (.int .i64 ((n:Int)/128)),isV (.string (str (lenL (n/128))))]) (by kernel_rfl) (by kernel_rfl) (listV_ext (λp hp=>by simp only[List.mem_cons,List.not_mem_nil,or_false]at hp;rcases hp with rfl|rfl|rfl|rfl|rfl|rfl|rfl|rfl|rfl<;>first|exact lasts_is _|exact lasts_row _ _ _)) (λus=>?_);simp only[List.take_succ_cons,List.take_zero,List.drop_succ_cons,List.drop_zero];refine⟨λw' hx hd=>?_,λw' hx hd=>?_,λw' hx hd=>?_,λw' hx hd=>?_,λw' hx hd=>?_,λw' hx hd=>?_,λw' hx hd=>?_,λw' hx hd=>?_,λw' hx hd=>?_,λw' hx hv=>?_⟩
   ·clear hd;refine web_of_list 9 rfl (by simp) rfl ?_;go_wp2_with fail;exact⟨Ext.refl _,rfl⟩
   ·have h0:=hd 0 (by simp);clear hd;generalize us 0=u0 at *;obtain rfl:u0=.int .i64 n:=h0;refine web_of_list 10 rfl (by simp[Act.put]) rfl ?_;go_wp2_with fail;exact⟨Ext.refl _,rfl⟩
   ·have h1:=hd 1 (by simp);clear hd;generalize us 1=u1 at *;obtain rfl:u1=.int .i64 ((n:Int)%128):=h1;refine web_of_list 11 rfl (by simp[Act.put]) rfl ?_;go_wp2_with fail;exact⟨Ext.refl _,rfl⟩
   ·have h2:=hd 2 (by simp);clear hd;generalize us 2=u2 at *;obtain rfl:u2=.int .i64 ((n:Int)%128+128):=h2;refine web_of_list 12 rfl (by simp[Act.put]) rfl ?_;go_wp2_with fail;exact⟨Ext.refl _,rfl⟩
   ·have h3:=hd 3 (by simp);clear hd;generalize us 3=u3 at *;obtain rfl:u3=.int .u8 ((n:Int)%128+128):=h3;refine web_of_list 13 rfl (by simp[Act.put]) rfl ?_;go_wp2_with fail;exact⟨(Ext.refl _).alloc _,_,rfl,Box.new _ _ _⟩
   ·have h4:=hd 4 (by simp);clear hd;generalize us 4=u4 at *;obtain⟨g4,rfl,b4⟩:=h4;have hcv:=conv_box1 w' g4 _ b4;refine web_of_list 14 rfl (by simp[Act.put]) rfl ?_;go_wp2_with fail;exact⟨Ext.refl _,rfl⟩
   ·clear hd;refine web_of_list 15 rfl (by simp[Act.put]) rfl ?_;go_wp2_with fail;exact⟨Ext.refl _,rfl⟩
   ·have h6:=hd 6 (by simp);clear hd;generalize us 6=u6 at *;obtain rfl:u6=.int .i64 n:=h6;refine web_of_list 16 rfl (by simp[Act.put]) rfl ?_;go_wp2_with fail;exact⟨Ext.refl _,rfl⟩
   ·have h7:=hd 7 (by simp);clear hd;generalize us 7=u7 at *;obtain rfl:u7=.int .i64 ((n:Int)/128):=h7;refine web_of_list 17 rfl (by simp[Act.put]) rfl ?_;go_wp2_with (go_at_call 156;with_reducible (refine(hI.out _).mono ?_);rintro e w2 ⟨rfl,x2⟩)
    first|exact⟨x2,rfl⟩|exact rfl
   ·have h5:=hv 5 (by omega);have h8:=hv 8 (by omega);clear hv;generalize us 5=u5 at *;generalize us 8=u8 at *;obtain rfl:u5=.string (str [b8 ((n:Int)%128+128)]):=h5;obtain rfl:u8=.string (str (lenL (n/128))):=h8;have hap:=str_app;have hz:=str_size;have hle:=lenL_le (n/128);go_wp2_with fail;go_ret;exact⟨by rw[hl.out];rfl,hx⟩
theorem rrow_any (A:Option Addr) (n c:Nat) (ss:List (List UInt8)) (w:World) (hs:Strs w A n ss) (hsum:sumL ss<=1000000000) (hn:n<=1000000000) :
  Calls prog 84 #[.slice A n c] w λe w'=>e=.returned (.string (str (rowL ss)))/\Ext w w':=by
 have hz:=str_size;have hap:=str_app;obtain rfl:=hs.1;obtain⟨wo,hwo⟩:∃wo:World,wo=w:=⟨_,rfl⟩
 have hx0:Ext wo w:=hwo▸Ext.refl _;have hso:Strs wo A ss.length ss:=hwo▸hs;rw[← hwo];clear hwo hs;go_enter func84,ntmps84;go_wp2_with fail;go_loopw [3,5,8] (λt _ i wr=>∃k:Nat,k<=ss.length/\i=.int .i64 k/\t=.string (str (rowL (ss.take k)))/\Ext wo wr) (λ_ _ i _=>ss.length-(intOf i).toNat);case atStart=>exact⟨0,by omega,rfl,rfl,Ext.refl _⟩
 case round =>
  obtain⟨k,hk,rfl,rfl,hxr⟩:=hrel;by_cases hlt:k<ss.length
  ·obtain⟨b,o,rfl,hcell⟩:=hso.2 (by omega);have hck:=hxr.keep (hcell k hlt);have hrt:=lh_ (rowL_take ss k hlt);have hle:=sumL_le ss (k+1);rw[sumL_take ss k hlt]at hle;have hrl:=rowL_len (ss.take k);have hsl:=sumL_le ss k;have hll:=lenL_le ss[k].length;clear hcell;generalize ss[k]=s at *;generalize hrk:rowL (ss.take k)=r at *;clear hrk;go_wp2_with (go_at_call 156;with_reducible (refine(rlength_any s.length s.length _ (Nat.le_refl _) (by omega)).mono ?_);rintro e w2 ⟨rfl,x2⟩)
   go_roundw;case rel=>exact⟨k+1,by omega,by go_num,by rw[hrt.out],hxr.trans x2⟩
   case measure=>simp[intOf];omega
  ·obtain rfl:k=ss.length:=by omega
   go_wp2_with fail;go_ret;exact⟨by rw[List.take_length];rfl,hxr⟩
end Go.Proofs.YtfaplefkakpgcaaGreatDoor
