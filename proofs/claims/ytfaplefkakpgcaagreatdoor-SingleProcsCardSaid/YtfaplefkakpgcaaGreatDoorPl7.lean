import Derived.Test.YtfaplefkakpgcaaGreatDoorPl1
import Derived.StillTail
set_option linter.unusedVariables false
set_option linter.unusedSimpArgs false
set_option maxHeartbeats 32000000
set_option maxRecDepth 100000
namespace Go.Proofs.YtfaplefkakpgcaaGreatDoor
open Go.RowKit
section
variable {P:Program}{ops:Array Oper}{md:Region.Mode}{C:World->Prop}
def Pv (P:Program) (md:Region.Mode) (ops:Array Oper) (C:World->Prop) (n:Nat) (L:Array Bool->Act->Prop):Nat->Array Bool->Act->Prop
 | 0,s,a=>L s a
 | f+1,s,a=>Region.ready md ops s≠[]/\∀i∈Region.ready md ops s,i<n/\qOp P ops C i (Pv P md ops C n L f (s.setIfInBounds i true)) a
theorem Tv {n g:Nat}{L:Array Bool->Act->Prop}{Q:Exit->Act->World->Prop}(hL:∀s a w,C w->L s a->wpAny P md ops Q g s a w) :
  ∀(f:Nat) (s:Array Bool) (a:Act) (w:World),C w->Pv P md ops C n L f s a->wpAny P md ops Q (f+g) s a w:=by
 intro f;induction f with
 | zero=>intro s a w hw h;rw[Nz];exact hL s a w hw h
 | succ f ih => intro s a w hw h;rw[show f+1+g=(f+g)+1 by omega];exact⟨λh0=>absurd h0 h.1,λi hi=>wpOp_of_qOp hw (λa' w' hw' h'=>ih _ a' w' hw' h') (h.2 i hi).2⟩
theorem Wo {n i:Nat}{oi:Oper}{v:Value}{L:Array Bool->Act->Prop}(hi:ops[i]? =some oi) (hsel:∀(j:Nat) (o:Oper) cs b,ops[j]? =some o->o.op≠.select cs b)
  (hs:Region.sinkB md ops n=true) (hc:Region.chainB md ops n=true) (hn:n<ops.size) (U7:i<n)
  (FK:∀s a,L s a->∀j∈Region.ready md ops s,n<=j) :
  ∀(f:Nat) (s:Array Bool) (a:Act),HeadInv md ops n s->
   (∀j oj,ops[j]? =some oj->j≠i->s.getD j true=false->(∀e∈oj.after,Region.binds md e=true->e.on≠i)->oi.apart ops oj=true)->
   i∈Region.ready md ops s->YieldsIn P ops C oi v a->
   Pv P md ops C n L f (s.setIfInBounds i true) (a.put oi.dst v)->Pv P md ops C n L (f+1) s a:=by
 intro f;induction f with
 | zero =>
  intro s a inv _ hr hy H;have uI:=(tH.1 hr).1;refine⟨List.ne_nil_of_mem hr,λj hj=>?_⟩;have TI:j<n:=vq λh=>absurd hj (tail_waits hs hc hn inv _ i rfl U7 uI j h);refine⟨TI,?_⟩;by_cases Kp:j=i
  ·subst Kp;exact hy.qOp hi H
  ·have:=FK _ _ H j (tG hj Kp);omega
 | succ f ih =>
  intro s a inv U0 hr hy H;have uI:=(tH.1 hr).1;refine⟨List.ne_nil_of_mem hr,λj hj=>?_⟩;have TI:j<n:=vq λh=>absurd hj (tail_waits hs hc hn inv _ i rfl U7 uI j h);refine⟨TI,?_⟩;by_cases Kp:j=i
  ·subst Kp;exact hy.qOp hi H
  ·obtain⟨hjun,oj,hoj,VC⟩:=tH.1 hj;have ox:∀e∈oj.after,Region.binds md e=true->e.on≠i:=λe he hb heq=>by
    have h1:=VC e he hb;rw[heq,getD_both uI]at h1;cases h1
   have h2:=qOp_put hoj (U0 j oj hoj Kp hjun ox) (λcs b=>hsel i oi cs b hi) (λcs b=>hsel j oj cs b hoj) hy (H.2 j (tG hj Kp)).2;refine qOp_mono (λa' h3=>ih (s.setIfInBounds j true) a' (inv.set hj TI) (λk ok hk Y6 hu Xz=>U0 k ok hk Y6 ?_ Xz) (tG hr (AX Kp)) h3.1 ?_) h2
   ·by_cases hjk:j=k
    ·subst hjk;exact hjun
    ·rw[vy true hjk]at hu;exact hu
   ·rw[Wey _ _ Kp];exact h3.2
theorem cz {n g:Nat}{Lq:Act->Prop}(hsel:Region.noSelect ops=true) (hs:Region.sinkB md ops n=true) (hc:Region.chainB md ops n=true) (hn:n<ops.size) :
  ∀(l:List Oper) (k:Nat) (s:Array Bool) (a:Act),(∀j,j<l.length->l[j]? =ops[k+j]?)->k+l.length=n->HeadInv md ops n s->
  Region.lexHead md ops g l.length k s=true->wpQuiet P ops C Lq l a->
  Pv P md ops C n (λs' a'=>Region.seqB md ops g n s'=true/\Lq a') l.length s a:=by
 intro l;induction l with
 | nil =>
  intro k s a _ hk _ hB h;obtain rfl:k=n:=by simpa using hk
  exact⟨by simpa[Region.lexHead]using hB,h⟩
 | cons o l ih =>
  intro k s a hl hk inv hB h;have h0:ops[k]? =some o:=by simpa using(hl 0 (by simp)).symm
  simp only[XN,Region.lexHead,Vg]at hB;obtain⟨⟨hr,hf⟩,hB'⟩:=hB;have Gu:k<n:=by simp only[XN]at hk;omega
  have gG:k∈Region.ready md ops s:=by simpa using hr
  have Kq:qOp P ops C k (wpQuiet P ops C Lq l) a:=by unfold qOp;simp only[h0];exact h
  obtain⟨v,hy,hK⟩:=yieldsIn_of_qOp h0 Kq
  exact Wo h0 (vl hsel) hs hc hn Gu (λs' a' hL=>seqB_ready hL.1) l.length s a inv (Region.free_spec h0 hf) gG hy
   (ih (k+1) _ _ (λj hj=>by have:=hl (j+1) (by simp;omega);simpa[vo,Nat.add_comm 1 j]using this) (by simp only[XN]at hk;omega) (inv.set gG Gu) hB' hK)
theorem Wi {Q:Exit->Act->World->Prop}{a:Act}{w:World}{l:List Oper}(n:Nat) (hB:Region.lexTailB .any l.toArray n=true)
  (hC:C { w with drawn:=w.drawn+1 }) (h:wpQuiet P l.toArray C (λa'=>∀w',C w'->wpList P l.toArray Q (l.drop n) a' w') (l.take n) a) :
  wpAny P .any l.toArray Q l.toArray.size (Array.replicate l.toArray.size false) a { w with drawn:=w.drawn+1 }:=by
 simp only[Region.lexTailB,Vg,MS]at hB;obtain⟨⟨⟨⟨hsel,hn⟩,hs⟩,hc⟩,hlex⟩:=hB;have FN:n<l.length:=by simpa using hn
 have htl:(l.take n).length=n:=by simp;omega
 have AA:(l.drop n).length=l.toArray.size-n:=by simp
 have js:HeadInv .any l.toArray n (Array.replicate l.toArray.size false) :=
  ⟨by simp,λj oj _ hl=>(by rw[getD_replicate_false]at hl;cases hl),λt _ ht=>getD_in (by simpa using ht) (getD_replicate_false _ _)⟩
 have H:=cz (md:=.any) (g:=l.toArray.size-n) hsel hs hc hn (l.take n) 0 _ a (λj hj=>by
  have aE:j<n:=by rw[htl]at hj;exact hj
  simp[aE]) (by simpa using htl) js (by rw[htl];exact hlex) h
 have key:=Tv (Q:=Q) (g:=l.toArray.size-n) (λs a' w' hw' hL=>by
  have:=wpAny_of_seq (md:=.any) (Q':=Q) (l.drop n) n s a' w' (λj=>by simp[EM]) (by rw[AA];exact hL.1) (hL.2 w' hw')
  rwa [AA]at this) _ _ _ _ hC H
 rw[htl,show n+(l.toArray.size-n)=l.toArray.size by omega]at key;exact key
theorem WK {id:Nat}{Q:Exit->Act->World->Prop}{a:Act}{w:World}{l:List Oper}(n:Nat) (hm:P.follows .mixedOrders=true) (hB:Region.lexTailB .any l.toArray n=true)
  (hC:C { w with drawn:=w.drawn+1 }) (h:wpQuiet P l.toArray C (λa'=>∀w',C w'->wpList P l.toArray Q (l.drop n) a' w') (l.take n) a):(Code.region id l.toArray true).wp P Q a w :=
 iS hm (Wi n hB hC h)
end
theorem Ja {P:Program}{id:Nat}{Q:Exit->Act->World->Prop}{a:Act}{w:World}{l:List Oper}(n:Nat) (hm:P.follows .mixedOrders=true) (hB:Region.lexTailB .any l.toArray n=true)
  (h:wpQuiet P l.toArray (λw'=>∃x:Qt w,w'=x.now) (λa'=>∀w',(∃x:Qt w,w'=x.now)->wpList P l.toArray Q (l.drop n) a' w') (l.take n) a):(Code.region id l.toArray true).wp P Q a w :=
 WK n hm hB ⟨⟨_,(Qg w).drew⟩,rfl⟩ h
section
variable {P:Program}{ops:Array Oper}{md:Region.Mode}{w0:World}{V:World->Value->Prop}
def mY (w0:World) (S:World->Prop) (w:World):Prop:=Ext w0 w/\S w
def KY (P:Program) (w:World) (v:Value):Result Next->Prop
 | .ok (.value u) w'=>w'=w/\u=v
 | .ok .skip w'=>w'=w/\v=undef
 | .ok (.enter f args) w'=>w'=w/\Calls P f args w (λe w''=>e=.returned v/\Ext w w'')
 | _=>False
def W9 (P:Program) (V:World->Value->Prop) (w:World):Result Next->Prop
 | .ok (.value u) w'=>Ext w w'/\V w' u
 | .ok (.enter f args) w'=>w'=w/\Calls P f args w (λe w''=>∃u,e=.returned u/\Ext w w''/\V w'' u)
 | _=>False
def W7 (P:Program) (o:Oper) (a:Act) (w0:World) (V:World->Value->Prop):Prop:=∀x:Qt w0,W9 P V x.now ((execOp a.eval o).run P x.now)
def tV (P:Program) (o:Oper) (a:Act) (w0:World) (next:Act->Prop):Prop:=∃v,(∀x:Qt w0,KY P x.now v ((execOp a.eval o).run P x.now))/\next (a.put o.dst v)
def Kj (P:Program) (ops:Array Oper) (w0:World) (Q:Act->Prop):List Oper->Act->Prop
 | [],a=>Q a
 | o::rest,a=>if Region.wanted o (yielded ops a.tmps) then tV P o a w0 (Kj P ops w0 Q rest) else Kj P ops w0 Q rest (a.put o.dst undef)
theorem Oq {Q:Act->Prop}{a:Act}(h:Q a):Kj P ops w0 Q [] a:=h
def YC (P:Program) (ops:Array Oper) (w0:World) (o:Oper) (v:Value) (a:Act):Prop :=
 (Region.wanted o (yielded ops a.tmps)=true/\∀x:Qt w0,KY P x.now v ((execOp a.eval o).run P x.now))\/
 (Region.wanted o (yielded ops a.tmps)=false/\v=undef)
theorem YC.of_same {o:Oper}{v:Value}{a a':Act}(hy:YC P ops w0 o v a) (he:execOp a'.eval o=execOp a.eval o)
  (hw:Region.wanted o (yielded ops a'.tmps)=Region.wanted o (yielded ops a.tmps)):YC P ops w0 o v a':=by
 unfold YC at *;rw[he,hw];exact hy
theorem YC.yields {o:Oper}{v:Value}{a:Act}{S:World->Prop}(hS:∀w w',Ext w w'->S w->S w') (hy:YC P ops w0 o v a):YieldsIn P ops (mY w0 S) o v a:=by
 rcases hy with⟨hw,h⟩|h
 ·refine MU ⟨hw,λw hc=>?_⟩;have h1:=h ⟨w,hc.1⟩;unfold Oper.quietAt;simp only at h1;generalize (execOp a.eval o).run P w=r at *;cases r with
  | ok n w' =>
   cases n<;>simp only[KY]at h1<;>simp only[Oper.quietUpon];case value u=>exact h1
   case skip=>exact h1
   case enter f args=>exact⟨h1.1,h1.2.mono λe w'' ⟨he,hx⟩=>⟨he,hc.1.trans hx,hS _ _ hx hc.2⟩⟩
  | halt x w'=>simp only[KY]at h1
 ·exact Mp h
theorem OB {o:Oper}{a:Act}{K:Act->Prop}(h:if Region.wanted o (yielded ops a.tmps) then tV P o a w0 K else K (a.put o.dst undef)):∃v,YC P ops w0 o v a/\K (a.put o.dst v):=by
 by_cases hw:Region.wanted o (yielded ops a.tmps)=true
 ·rw[QN hw]at h;obtain⟨v,h1,h2⟩:=h;exact⟨v,.inl ⟨hw,h1⟩,h2⟩
 ·rw[QD hw]at h;exact⟨undef,.inr ⟨by simpa using hw,rfl⟩,h⟩
theorem ku {C:World->Prop}{j:Nat}{oi oj:Oper}{v:Value}(hj:ops[j]? =some oj) (Lj:oi.apart ops oj=true)
  (hsi:∀cs b,oi.op≠.select cs b) (hsj:∀cs b,oj.op≠.select cs b) {K:Act->Prop}{a:Act}
  (hy:YC P ops w0 oi v a) (h:qOp P ops C j K (a.put oi.dst v)) :
  qOp P ops C j (λa'=>YC P ops w0 oi v a'/\K (a'.put oi.dst v)) a:=by
 obtain⟨h1,h2,h3⟩:=Oper.apart_spec Lj;have Qde:∀u,YC P ops w0 oi v (a.put oj.dst u):=λu=>hy.of_same (execOp_put oi hsi a oj.dst u h3) (wanted_put oi a oj.dst u h3);unfold qOp at *;simp only[hj]at *;rw[wanted_put oj a oi.dst v h1]at h;split
 ·rename_i hw;simp only[hw,if_true]at h;obtain⟨u,hu,hn⟩:=h;refine⟨u,λw hw'=>?_,Qde u,by rw[←Act.put_comm a v u h2];exact hn⟩;have:=hu w hw';unfold Oper.quietAt at *
  rwa [execOp_put oj hsj a oi.dst v h1]at this
 ·rename_i hw;simp only[hw]at h;exact⟨Qde _,by rw[←Act.put_comm a v undef h2];exact h⟩
theorem Am {o:Oper}{a:Act}{K:Act->World->Prop}{Q:Exit->Act->World->Prop}{w:World}(hw:Ext w0 w) (h:W7 P o a w0 V)
  (hk:∀u w',Ext w0 w'->V w' u->K (a.put o.dst u) w'):o.wp P a w K Q:=by
 have h3:=h ⟨w,hw⟩;simp only at h3;unfold Oper.wp;generalize (execOp a.eval o).run P w=r at *;cases r with
 | ok n w' =>
  cases n<;>simp only[W9]at h3<;>simp only[Oper.upon];case value u=>exact hk _ _ (hw.trans h3.1) h3.2
  case enter f args => obtain⟨e1,hc⟩:=h3;rw[e1];exact hc.mono λe w'' ⟨u,he,hx,hv⟩=>by subst he;exact hk _ _ (hw.trans hx) hv
 | halt x w'=>simp only[W9]at h3
def pend (P:Program) (md:Region.Mode) (ops:Array Oper) (w0:World) (V:World->Value->Prop) (n:Nat) (o0:Oper) (L:Value->Array Bool->Act->Prop):Nat->Array Bool->Act->Prop
 | 0,_,_=>False
 | f+1,s,a=>Region.ready md ops s≠[]/\∀i∈Region.ready md ops s,i<n/\
   (i+1=n->W7 P o0 a w0 V/\∀u,Pv P md ops (mY w0 (λw=>V w u)) n (L u) f (s.setIfInBounds i true) (a.put o0.dst u))/\
   (i+1≠n->qOp P ops (mY w0 λ_=>True) i (pend P md ops w0 V n o0 L f (s.setIfInBounds i true)) a)
end
attribute [go_sem] tV KY W7 W9
def Ru (w0:World) (t:TypeId) (Z:Array Value) (w:World) (u:Value):Prop:=∃g,u=.pointer (some ⟨g,0,none⟩)/\w0.heap.size<=g/\Box w g t Z
theorem Ru.keep (w0:World) (t:TypeId) (Z:Array Value) (u:Value) (w w':World) (h:Ext w w') (k:Ru w0 t Z w u):Ru w0 t Z w' u:=by
 obtain⟨g,e,hg,hb⟩:=k;exact⟨g,e,hg,hb.ext h⟩
theorem Dj {w0:World}(x:Qt w0) (t:TypeId) (Z:Array Value):Ext x.now (x.now.alloc (.cells Z t))/\Ru w0 t Z (x.now.alloc (.cells Z t)) (.pointer (some ⟨x.now.heap.size,0,none⟩)) :=
 ⟨(Qg _).alloc _,x.now.heap.size,rfl,x.ext.size,Qs _ _ _⟩
section
variable {P:Program}{ops:Array Oper}
def Z0 (us:Nat->Value) (f:Nat->Bool):Nat->List Oper->Act->Act
 | _,[],a=>a
 | i,o::r,a=>Z0 us f (i+1) r (if f i then a.put o.dst (us i) else a)
def ZC (us:Nat->Value):Nat->List Oper->Act->Act
 | _,[],a=>a
 | i,o::r,a=>ZC us (i+1) r (a.put o.dst (us i))
theorem Ef {us:Nat->Value}{f:Nat->Bool}:∀(l:List Oper) (i:Nat) (a:Act),(∀j,i<=j->j<i+l.length->f j=true)->Z0 us f i l a=ZC us i l a
 | [],_,_,_=>rfl
 | o::r,i,a,h=>by rw[Z0,ZC,QN (h i (Q4 _) (by simp))];exact Ef r (i+1) _ (λj h1 h2=>h j (by omega) (by simp;omega))
theorem N9 {us:Nat->Value}{f:Nat->Bool}:∀(l:List Oper) (i:Nat) (a:Act),(∀j,i<=j->j<i+l.length->f j=false)->Z0 us f i l a=a
 | [],_,_,_=>rfl
 | o::r,i,a,h=>by rw[Z0,h i (Q4 _) (by simp),QD (by simp)];exact N9 r (i+1) _ (λj h1 h2=>h j (by omega) (by simp;omega))
theorem PB {us us':Nat->Value}{f f':Nat->Bool}:∀(l:List Oper) (i:Nat) (a:Act),(∀j,i<=j->f j=f' j/\us j=us' j)->Z0 us f i l a=Z0 us' f' i l a
 | [],_,_,_=>rfl
 | o::r,i,a,h=>by rw[Z0,Z0,(h i (Q4 _)).1,(h i (Q4 _)).2];exact PB r (i+1) _ (λj h1=>h j (by omega))
theorem Eg {us:Nat->Value}{f:Nat->Bool}{d:Option Tmp}{u:Value}:∀(l:List Oper) (i:Nat) (a:Act),(∀o∈l,∀t,d=some t->o.dst≠some t)->Z0 us f i l (a.put d u)=(Z0 us f i l a).put d u
 | [],_,_,_=>rfl
 | o::r,i,a,h=>by
  rw[Z0,Z0];have ih:=λb=>Eg (us:=us) (f:=f) (u:=u) r (i+1) b (λo' h'=>h o' (by simp[h']));split
  ·rw[Act.put_comm a u (us i) (h o (by simp)),ih]
  ·rw[ih]
theorem LZ {us:Nat->Value}:∀(l:List Oper) (i k:Nat) (a:Act),Z0 us (λj=>decide (j<i+k)) i l a=ZC us i (l.take k) a
 | [],_,_,_=>by simp[Z0,ZC]
 | o::r,i,0,a=>by rw[N9 _ _ _ (λj h1 h2=>by simpa using h1)];rfl
 | o::r,i,k+1,a=>by rw[Z0,KG,ZC,QN (by simp),←LZ r (i+1) k];rw[show i+1+k=i+(k+1) by omega]
theorem PC {us:Nat->Value}{f g:Nat->Bool}{L:List Tmp}:∀(l:List Oper) (i:Nat) (a b:Act),a.tmps.size=b.tmps.size->(∀t∈L,a.tmps[t]? =b.tmps[t]?)->
  (∀j o,l[j]? =some o->∀d,o.dst=some d->d∈L->f (i+j)=g (i+j))->∀t∈L,(Z0 us f i l a).tmps[t]? =(Z0 us g i l b).tmps[t]?
 | [],_,a,b,_,h,_=>h
 | o::r,i,a,b,hs,h,hf=>by
  have oy:∀(a b:Act),a.tmps.size=b.tmps.size->(∀t∈L,a.tmps[t]? =b.tmps[t]?)->∀u,(a.put o.dst u).tmps.size=(b.put o.dst u).tmps.size/\∀t∈L,(a.put o.dst u).tmps[t]? =(b.put o.dst u).tmps[t]? :=λa b hs h u=>by
   cases hd:o.dst with
   | none=>exact⟨hs,h⟩
   | some d =>
    refine⟨by simp[Act.put,hs],λt ht=>?_⟩;simp only[Act.put,Array.getElem?_setIfInBounds,hs];split
    ·rfl
    ·exact h t ht
  have Xz:∀(a:Act),(∀d,o.dst=some d->d∉L)->∀u,(a.put o.dst u).tmps.size=a.tmps.size/\∀t∈L,(a.put o.dst u).tmps[t]? =a.tmps[t]? :=λa hn u=>by
   cases hd:o.dst with
   | none=>exact⟨rfl,λ_ _=>rfl⟩
   | some d => refine⟨by simp[Act.put],λt ht=>?_⟩;have:d≠t:=λe=>hn d hd (e▸ht);simp[Act.put,zP this]
  rw[Z0,Z0];refine PC r (i+1) _ _ ?_ ?_ (λj o' hj d hd hL=>by rw[show i+1+j=i+(j+1) by omega];exact hf (j+1) o' (by simpa using hj) d hd hL)
  all_goals
   by_cases hL:∀d,o.dst=some d->d∉L
  ·have ha:=Xz a hL (us i);have hb:=Xz b hL (us i);split<;>split<;>simp only[ha,hb,hs]
  ·have e:f i=g i:=by
    simp only[Classical.not_forall,Classical.not_not]at hL;obtain⟨d,hd,hdL⟩:=hL;exact hf 0 o rfl d hd hdL
   rw[e];split
   ·exact(oy a b hs h _).1
   ·exact hs
  ·have ha:=Xz a hL (us i);have hb:=Xz b hL (us i);intro t ht;split<;>split<;>simp only[ha.2 t ht,hb.2 t ht,h t ht]
  ·have e:f i=g i:=by
    simp only[Classical.not_forall,Classical.not_not]at hL;obtain⟨d,hd,hdL⟩:=hL;exact hf 0 o rfl d hd hdL
   rw[e];split
   ·exact(oy a b hs h _).2
   ·exact h
theorem Ht {V:World->Value->Prop}{o:Oper}(hs:∀cs b,o.op≠.select cs b) {a b:Act}(h:∀t∈o.looksAt ops,a.tmps[t]? =b.tmps[t]?) :
  execOp a.eval o=execOp b.eval o/\Region.wanted o (yielded ops a.tmps)=Region.wanted o (yielded ops b.tmps):=by
 constructor
 ·refine execOp_congr o hs λx hx=>?_;cases x with
  | tmp t => have:=h t (vn _ (List.mem_filterMap.2 ⟨.tmp t,by simpa using hx,rfl⟩));simp[Act.eval,this]
  | _=>rfl
 ·unfold Region.wanted;cases hg:o.guard with
  | none=>rfl
  | some gw =>
   obtain⟨g,want⟩:=gw;have hy:yielded ops a.tmps g=yielded ops b.tmps g:=by
    unfold yielded;cases ht:(ops[g]?).bind (·.dst) with
    | none=>rfl
    | some t => have:=h t (by simp[Oper.looksAt,hg,ht]);simp[this]
   simp only[hy]
def left (s:Array Bool):Nat->Nat
 | 0=>0
 | n+1=>left s n+if s.getD n true then 0 else 1
theorem CX {s:Array Bool}{k:Nat}(hk:s.getD k true=false):∀n,left (s.setIfInBounds k true) n+(if k<n then 1 else 0)=left s n
 | 0=>by simp[left]
 | n+1=>by
  have ih:=CX hk n;rw[left,left];by_cases e:k=n
  ·subst e;have Qn:k<s.size:=by
    refine vq λh=>?_;simp[Array.getElem?_eq_none h]at hk
   have h1:(s.setIfInBounds k true).getD k true=true:=by simp[Qn]
   rw[h1,hk];simp at ih ⊢;omega
  ·rw[vy true e];have:(k<n+1)=(k<n):=by rw[eq_iff_iff];omega
   simp only[this];omega
theorem RS {s:Array Bool}:∀n,left s n=0->∀j,j<n->s.getD j true=true
 | 0,_,j,hj=>by omega
 | n+1,h,j,hj=>by
  rw[left]at h;by_cases e:j=n
  ·subst e;cases hs:s.getD j true with
   | true=>rfl
   | false=>rw[hs]at h;simp at h
  ·exact RS n (by omega) j (by omega)
theorem FU {s:Array Bool}:∀n,left s n≠0->∃j,j<n/\s.getD j true=false/\∀i,i<j->s.getD i true=true
 | 0,h=>absurd rfl h
 | n+1,h=>by
  by_cases e:left s n=0
  ·refine⟨n,by omega,?_,RS n e⟩;rw[left,e]at h;cases hs:s.getD n true with
   | false=>rfl
   | true=>rw[hs]at h;simp at h
  ·obtain⟨j,h1,h2⟩:=FU n e;exact⟨j,by omega,h2⟩
def Mf (ops:Array Oper) (n:Nat) (D:List (List Nat)):Bool :=
 Region.noSelect ops&&(decide (n=ops.size)||decide (n<ops.size)&&Region.sinkB .any ops n&&Region.chainB .any ops n) &&
 Region.seqB .any ops (ops.size-n) n ((Array.replicate ops.size false).mapIdx λi _=>decide (i<n)) &&
 (List.range n).all λk=>((ops[k]?).map λo =>
  (o.after.all λe=>!Region.binds .any e||decide (e.on<k)) &&
  ((D.getD k []).all λd=>decide (d<k)&&Region.waitsFor .any ops k d) &&
  ((List.range n).all λj=>((ops[j]?).map λp=>match p.dst with
    | none=>true
    | some d=>(decide (j=k)||o.dst != some d)&&(!(o.looksAt ops).contains d||(D.getD k []).contains j)).getD false)).getD false
structure qu (ops:Array Oper) (n:Nat) (D:List (List Nat)):Prop where
 sel:Region.noSelect ops=true
 size:n<=ops.size
 tail:n<ops.size->Region.sinkB .any ops n=true/\Region.chainB .any ops n=true
 seq:Region.seqB .any ops (ops.size-n) n ((Array.replicate ops.size false).mapIdx λi _=>decide (i<n))=true
 back:∀k o,k<n->ops[k]? =some o->∀e∈o.after,Region.binds .any e=true->e.on<k
 deps:∀k o,k<n->ops[k]? =some o->∀d∈D.getD k [],d<k/\Region.waitsFor .any ops k d=true
 dsts:∀k o,k<n->ops[k]? =some o->∀j p,j<n->ops[j]? =some p->j≠k->∀d,p.dst=some d->o.dst≠some d
 looks:∀k o,k<n->ops[k]? =some o->∀j p,j<n->ops[j]? =some p->∀d,p.dst=some d->d∈o.looksAt ops->j∈D.getD k []
theorem aj {n:Nat}{D:List (List Nat)}(h:Mf ops n D=true):qu ops n D:=by
 unfold Mf at h;rw[Vg,Vg,Vg]at h;obtain⟨⟨⟨h1,h2⟩,h3⟩,h4⟩:=h;rw[iQ,Vg,Vg]at h2
 have hk:∀k o,k<n->ops[k]? =some o->(o.after.all λe=>!Region.binds .any e||decide (e.on<k))=true/\((D.getD k []).all λd=>decide (d<k)&&Region.waitsFor .any ops k d)=true/\
   ((List.range n).all λj=>((ops[j]?).map λp=>match p.dst with
   | none=>true
   | some d=>(decide (j=k)||o.dst != some d)&&(!(o.looksAt ops).contains d||(D.getD k []).contains j)).getD false)=true:=λk o Gu ho=>by
  have:=Rj.1 h4 k (Mo.2 Gu);rw[ho]at this;simp only[vt,OM,Vg]at this;exact⟨this.1.1,this.1.2,this.2⟩
 refine⟨h1,?_,λhn=>?_,h3,λk o Gu ho e he hb=>?_,λk o Gu ho d hd=>?_,λk o Gu ho j p TI hp Jt d hd hod=>?_,λk o Gu ho j p TI hp d hd hL=>?_⟩
 ·rcases h2 with h2|h2
  ·have:=WO h2;omega
  ·have:=WO h2.1.1;omega
 ·rcases h2 with h2|h2
  ·have:=WO h2;omega
  ·exact⟨h2.1.2,h2.2⟩
 ·have h5:=(hk k o Gu ho).1;rw[Wd5]at h5;have:=h5 e he;rw[hb]at this;simpa using this
 ·have:=Rj.1 (hk k o Gu ho).2.1 d hd;rw[Vg]at this;exact⟨WO this.1,this.2⟩
 ·have:=Rj.1 (hk k o Gu ho).2.2 j (Mo.2 TI);rw[hp]at this;simp only[vt,OM,hd,Vg,iQ,MS,bne_iff_ne]at this;exact(this.1.resolve_left Jt) hod
 ·have:=Rj.1 (hk k o Gu ho).2.2 j (Mo.2 TI);rw[hp]at this;simp only[vt,OM,hd,Vg,iQ,zZ,nW]at this;rcases this.2 with h6|h6
  ·have h7:(o.looksAt ops).contains d=true:=nW.2 hL;rw[h6]at h7;cases h7
  ·exact h6
theorem Eh {us us':Nat->Value}{f f':Nat->Bool}{k:Nat}{o:Oper}(GP:f k=false) (hfk':f' k=true) (Jt:∀j,j≠k->f' j=f j/\us' j=us j) :
  ∀(l:List Oper) (i:Nat) (a:Act),i<=k->l[k-i]? =some o->(∀j p,l[j]? =some p->i+j≠k->∀t,o.dst=some t->p.dst≠some t)->Z0 us' f' i l a=(Z0 us f i l a).put o.dst (us' k)
 | [],i,a,_,h,_=>by simp at h
 | p::r,i,a,hi,h,hd=>by
  rw[Z0,Z0];by_cases e:i=k
  ·subst e;have ho:p=o:=by simpa using h
   subst ho;rw[GP,hfk',QN rfl,QD (by simp)];rw[PB (us:=us') (us':=us) (f:=f') (f':=f) r (i+1) _ (λj hj=>Jt j (by omega))];exact Eg r (i+1) a (λq hq t ht=>by
    obtain⟨j,hj,hjq⟩:=List.mem_iff_getElem.1 hq;exact hd (j+1) q (by simp[hj,hjq]) (by omega) t ht)
  ·rw[(Jt i e).1,(Jt i e).2]
   exact Eh GP hfk' Jt r (i+1) _ (by omega) (by rw[show k-i=(k-(i+1))+1 by omega]at h;simpa using h)
    (λj q hj hne' t ht=>hd (j+1) q (by simpa using hj) (by omega) t ht)
end
section
variable {P:Program}{ops:Array Oper}
def Ly (P:Program) (R:World->World->Prop) (V:World->Value->Prop) (w:World):Result Next->Prop
 | .ok (.value u) w'=>R w w'/\V w' u
 | .ok .skip w'=>R w w'/\V w' undef
 | .ok (.enter f args) w'=>Calls P f args w' (λe w''=>∃u,e=.returned u/\R w w''/\V w'' u)
 | .ok (.row row args) w'=>Rows P row args w' (λu w''=>R w w''/\V w'' u)
 | _=>False
theorem am {o:Oper}{a:Act}{R:World->World->Prop}{V:World->Value->Prop}{K:Act->World->Prop}{Q:Exit->Act->World->Prop}{w:World}(h:Ly P R V w ((execOp a.eval o).run P w))
  (hk:∀u w',R w w'->V w' u->K (a.put o.dst u) w'):o.wp P a w K Q:=by
 unfold Oper.wp;generalize (execOp a.eval o).run P w=r at *;cases r with
 | ok n w' =>
  cases n<;>simp only[Ly]at h<;>simp only[Oper.upon];case value u=>exact hk _ _ h.1 h.2
  case skip=>exact hk _ _ h.1 h.2
  case enter f args => exact h.mono λe w'' ⟨u,he,hx,hv⟩=>by subst he;exact hk _ _ hx hv
  case row row args=>exact h.mono λu w'' ⟨hx,hv⟩=>hk _ _ hx hv
 | halt x w'=>simp only[Ly]at h
def Yx (P:Program) (ops:Array Oper) (R:World->World->Prop) (V:World->Value->Prop) (o:Oper) (a:Act) (w:World):Prop :=
 (Region.wanted o (yielded ops a.tmps)=true/\Ly P R V w ((execOp a.eval o).run P w))\/(Region.wanted o (yielded ops a.tmps)=false/\R w w/\V w undef)
theorem Qx {R:World->World->Prop}{V:World->Value->Prop}{o:Oper}{a:Act}{w:World}(d:Tmp) (hd:o.dst=some d) (Qn:d<a.tmps.size)
  (h:wpList P ops (λx a' w'=>x=.normal/\∃u,a'=a.put o.dst u/\R w w'/\V w' u) [o] a w):Yx P ops R V o a w:=by
 have inj:∀u u',a.put o.dst u=a.put o.dst u'->u=u':=λu u' e=>by rw[hd]at e;have e2:=congrArg (λb:Act=>b.tmps[d]?) e;simpa[Act.put,Qn]using e2
 by_cases hw:Region.wanted o (yielded ops a.tmps)=true
 ·refine .inl ⟨hw,?_⟩;rw[wpList,QN hw]at h;rcases h with h|⟨_,_,_,h,_⟩
  ·unfold Oper.wp at h;generalize (execOp a.eval o).run P w=r at *;cases r with
   | ok n w' =>
    cases n<;>simp only[Oper.upon,wpList]at h<;>simp only[Ly];case value u => obtain⟨_,u',e,hx,hv⟩:=h;rw[inj u u' e];exact⟨hx,hv⟩
    case skip => obtain⟨_,u',e,hx,hv⟩:=h;rw[inj undef u' e];exact⟨hx,hv⟩
    case defer df => obtain⟨_,u',e,_⟩:=h;rw[hd]at e;have e2:=congrArg (λb:Act=>b.defers.length) e;simp[Act.put]at e2
    case enter f args =>
     refine h.mono λe w'' he=>?_;cases e with
     | returned v => obtain⟨_,u',e,hx,hv⟩:=he;exact⟨v,rfl,hx,by rw[inj v u' e];exact hv⟩
     | panicked c=>obtain⟨he,_⟩:=he;cases he
     | outgrown=>obtain⟨_,_,he,_⟩:=he;cases he
    case row row args => refine h.mono λu w'' he=>?_;obtain⟨_,u',e,hx,hv⟩:=he;rw[inj u u' e];exact⟨hx,hv⟩
   | halt x w' => cases x<;>simp only[Oper.upon]at h;obtain⟨h,_⟩:=h;cases h
  ·cases h
 ·refine .inr ⟨by simpa using hw,?_⟩;rw[wpList,QD hw]at h;simp only[wpList]at h;obtain⟨_,u',e,hx,hv⟩:=h;rw[inj undef u' e];exact⟨hx,hv⟩
theorem Uz {R:World->World->Prop}{V:World->Value->Prop}{o:Oper}{a:Act}{w:World}(hd:o.dst=none) (hg:o.guard=none) (hV:∀w u,V w undef->V w u)
  (h:wpList P ops (λx a' w'=>x=.normal/\a'=a/\R w w'/\V w' undef) [o] a w):Yx P ops R V o a w:=by
 have hw:Region.wanted o (yielded ops a.tmps)=true:=by simp[Region.wanted,hg]
 refine .inl ⟨hw,?_⟩;rw[wpList,QN hw]at h;rcases h with h|⟨_,_,_,h,_⟩
 ·unfold Oper.wp at h;generalize (execOp a.eval o).run P w=r at *;cases r with
  | ok n w' =>
   cases n<;>simp only[Oper.upon,wpList]at h<;>simp only[Ly];case value u => obtain⟨_,e,hx,hv⟩:=h;exact⟨hx,hV _ _ hv⟩
   case skip => obtain⟨_,e,hx,hv⟩:=h;exact⟨hx,hv⟩
   case defer df => obtain⟨_,e,_⟩:=h;have e2:=congrArg (λb:Act=>b.defers.length) e;simp[Act.put,hd]at e2
   case enter f args =>
    refine h.mono λe w'' he=>?_;cases e with
    | returned v => obtain⟨_,e,hx,hv⟩:=he;exact⟨v,rfl,hx,hV _ _ hv⟩
    | panicked c=>obtain⟨he,_⟩:=he;cases he
    | outgrown=>obtain⟨_,_,he,_⟩:=he;cases he
   case row row args => refine h.mono λu w'' he=>?_;obtain⟨_,e,hx,hv⟩:=he;exact⟨hx,hV _ _ hv⟩
  | halt x w' => cases x<;>simp only[Oper.upon]at h;obtain⟨h,_⟩:=h;cases h
 ·cases h
def Pg (us:Nat->Value) (k:Nat) (u:Value):Nat->Value:=λj=>if j=k then u else us j
theorem Vj (us:Nat->Value) (k:Nat) (u:Value):Pg us k u k=u:=by simp[Pg]
def tW (ops:Array Oper) (m:Nat):List Nat->Nat->Bool
 | [],_=>false
 | c::r,i=>Region.waitsFor .any ops m c&&decide (m<ops.size)&&(decide (c=i)||tW ops c r i)
theorem tX:∀(ch:List Nat) (m i:Nat),tW ops m ch i=true->m<ops.size
 | [],_,_,h=>by cases h
 | c::r,m,i,h=>by rw[tW,Vg,Vg]at h;exact WO h.1.2
theorem Cq {n:Nat}{s:Array Bool}(inv:HeadInv .any ops n s):∀(ch:List Nat) (m i:Nat),tW ops m ch i=true->s.getD m false=true->s.getD i false=true
 | [],_,_,h,_=>by cases h
 | c::r,m,i,h,hm=>by rw[tW,Vg,Vg]at h;obtain⟨o2,ho2,e2,uA,Pt,hon2⟩:=Region.waitsFor_spec h.1.1;have h3:=inv.closed m o2 ho2 hm e2 uA Pt;rw[hon2]at h3;rw[iQ]at h;exact h.2.elim (λe=>WO e▸h3) (λe=>Cq inv r c i e h3)
theorem cD {n:Nat}{s:Array Bool}(inv:HeadInv .any ops n s) {ch:List Nat}{m i:Nat}(h:tW ops m ch i=true) (hs:s.getD i true=false):s.getD m true=false:=by
 have h3:¬s.getD m false=true:=λhm=>by have h4:=Cq inv ch m i h hm;have h5:=getD_both hs;rw[h4]at h5;cases h5
 by_cases hms:m<s.size
 ·simp[hms]at h3 ⊢;exact h3
 ·exfalso;have:m<ops.size:=tX ch m i h;have:=inv.size;omega
def Qu (H:Nat->Oper->Act->Prop) (T:Act->Prop) (us:Nat->Value):Nat->List Oper->Act->Prop
 | _,[],a=>T a
 | k,o::r,a=>H k o a/\Qu H T us (k+1) r (a.put o.dst (us k))
theorem Wv {H:Nat->Oper->Act->Prop}{T:Act->Prop}{us:Nat->Value}:∀(l:List Oper) (k:Nat) (a:Act),Qu H T us k l a->
  (∀j o,l[j]? =some o->H (k+j) o (ZC us k (l.take j) a))/\T (ZC us k l a)
 | [],_,_,h=>⟨λj o hj=>by simp at hj,h⟩
 | o::r,k,a,h=>by
  obtain⟨h1,h2⟩:=Wv r (k+1) _ h.2;refine⟨λj o' hj=>?_,h2⟩;cases j with
  | zero =>
   have:o=o':=by simpa using hj
   subst this;exact h.1
  | succ j => have:=h1 j o' (by simpa using hj);rw[show k+1+j=k+(j+1) by omega]at this;exact this
theorem LD {H:Nat->Oper->Act->Prop}{T:Act->Prop}(us:Nat->Value):∀(l:List Oper) (k:Nat) (a:Act),(∀j o,l[j]? =some o->H (k+j) o (ZC us k (l.take j) a))->T (ZC us k l a)->Qu H T us k l a
 | [],_,_,_,h=>h
 | o::r,k,a,h1,h2=>⟨h1 0 o rfl,LD us r (k+1) _ (λj p hj=>by have:=h1 (j+1) p (by simpa using hj);rw[show k+1+j=k+(j+1) by omega];exact this) h2⟩
theorem UI {H H':Nat->Oper->Act->Prop}{T T':Act->Prop}{us:Nat->Value}(n:Nat) (h1:∀k o a,k<n->H k o a->H' k o a) (h2:∀a,T a->T' a):∀(l:List Oper) (k:Nat) (a:Act),k+l.length<=n->Qu H T us k l a->Qu H' T' us k l a
 | [],_,_,_,h=>h2 _ h
 | _::r,k,_,hn,h=>⟨h1 _ _ _ (by simp at hn;omega) h.1,UI n h1 h2 r (k+1) _ (by simp at hn;omega) h.2⟩
theorem Cf {Q:Exit->Act->World->Prop}{a:Act}{l:List Oper}{n nv:Nat}{D E:List (List Nat)}{V:Nat->World->(Nat->Value)->Prop}{C:World->Prop}{R:Nat->World->World->Prop}{lost:Nat->Nat->Bool}(Yj:qu l.toArray n D) (hnv:n<=nv) (hE:∀i d,d∈E.getD i []->n<=d/\d<nv)
  (hKD:∀i d k,i<n->d∈D.getD i []++E.getD i []->k<n->lost k d=true->∀s,HeadInv .any l.toArray n s->s.getD i true=false->s.getD k true=false)
  (hC:∀k w w',C w->R k w w'->C w')
  (hcong:∀j w us us',j<nv->(j<n->us j=us' j/\∀d∈D.getD j [],us d=us' d)->V j w us->V j w us')
  (hV:∀j k w w' us,j<nv->j≠k->lost k j=false->C w->R k w w'->V j w us->V j w' us)
  (hstep:∀k o,k<n->l[k]? =some o->∀us w',C w'->(∀d∈D.getD k []++E.getD k [],V d w' us)->Yx P l.toArray (R k) (λw u=>V k w (Pg us k u)) o (ZC us 0 (l.take k) a) w')
  (htail:∀us w',C w'->(∀j,j<nv->(∀k,k<n->lost k j=false)->V j w' us)->wpList P l.toArray Q (l.drop n) (ZC us 0 (l.take n) a) w') :
  ∀(f:Nat) (s:Array Bool) (w:World) (us:Nat->Value),left s n=f->HeadInv .any l.toArray n s->C w->(∀j,j<nv->(j<n->s.getD j true=true)->(∀k,k<n->lost k j=true->s.getD k true=false)->V j w us)->
   wpAny P .any l.toArray Q (f+(l.length-n)) s (Z0 us (λj=>s.getD j true) 0 (l.take n) a) w:=by
 have Lo:n<=l.length:=by simpa using Yj.size
 have htl:(l.take n).length=n:=by simp;omega
 intro f;induction f with
 | zero =>
  intro s w us hl inv hx hv;have VC:=RS n hl;have VD:s.size=l.length:=by simpa using inv.size
  rw[Ef _ _ _ (λj _ h2=>VC j (by omega)),Nz];have hs:s=(Array.replicate l.toArray.size false).mapIdx λi _=>decide (i<n):=by
   apply Array.ext
   ·simp[VD]
   ·intro i h1 h2;simp only[Array.getElem_mapIdx];by_cases e:i<n
    ·have:=VC i e;simp[h1]at this;simp[e,this]
    ·have:=inv.tail i (by omega) (by simpa[VD]using h1);simp[h1]at this;simp[e,this]
  have:=wpAny_of_seq (P:=P) (md:=.any) (ops:=l.toArray) (Q':=Q) (l.drop n) n s (ZC us 0 (l.take n) a) w (λj=>by simp[EM]) (by rw[hs,Nx];simpa using Yj.seq) (htail us w hx (λj hj uE=>hv j hj (λTI=>VC j TI) (λk hk h=>by rw[uE k hk]at h;cases h)))
  rwa [Nx]at this
 | succ f ih =>
  intro s w us hl inv hx hv;obtain⟨j,TI,hj,wQ⟩:=FU (s:=s) n (by omega);have VD:s.size=l.length:=by simpa using inv.size
  have FK:∀i,i<l.length->s.getD i true=true->s.getD i false=true:=λi hi h=>by
   have:i<s.size:=by omega
   simp[this]at h ⊢;exact h
  have hjr:j∈Region.ready .any l.toArray s:=tH.2 ⟨hj,l[j]'(by omega),by simp[show j<l.length by omega],λe he hb=>by
   have Qn:=Yj.back j _ TI (by simp[show j<l.length by omega]) e he hb;exact FK _ (by omega) (wQ _ Qn)⟩
  rw[show f+1+(l.length-n)=(f+(l.length-n))+1 by omega];refine⟨λh0=>(by rw[h0]at hjr;cases hjr),λi hi=>?_⟩;obtain⟨hiu,o,ho,VC⟩:=tH.1 hi;have rQ:i<l.length:=by have:=(Fa.1 ho).1;simpa using this
  have U7:i<n:=by
   refine vq λh=>?_;have Qn:n<l.toArray.size:=by simp;omega
   exact tail_waits (Yj.tail Qn).1 (Yj.tail Qn).2 Qn inv _ j rfl TI hj i h hi
  have rR:l[i]? =some o:=by simpa using ho
  have jU:∀d∈D.getD i [],d<i/\s.getD d true=true:=λd hd=>by
   obtain⟨h1,h2⟩:=Yj.deps i o U7 ho d hd;obtain⟨o',ho',e,he,hb,hon⟩:=Region.waitsFor_spec h2;have:o'=o:=NU (ho'.symm.trans ho);subst this;have h3:=VC e he hb;rw[hon]at h3;have SB:d<s.size:=by omega
   refine⟨h1,?_⟩;simp[SB]at h3 ⊢;exact h3
  have Kq:=hstep i o U7 rR us w hx (λd hd=>(iO.1 hd).elim (λh1=>hv d (by have:=(jU d h1).1;omega) (λ_=>(jU d h1).2) (λk hk uE=>hKD i d k U7 hd hk uE s inv hiu)) (λh1=>hv d (hE i d h1).2 (λh2=>absurd h2 (by have:=(hE i d h1).1;omega)) (λk hk uE=>hKD i d k U7 hd hk uE s inv hiu)));have P9:∀t∈o.looksAt l.toArray,(Z0 us (λj=>s.getD j true) 0 (l.take n) a).tmps[t]? =(ZC us 0 (l.take i) a).tmps[t]? :=by
   have e1:ZC us 0 (l.take i) a=Z0 us (λj=>decide (j<0+i)) 0 (l.take n) a:=by rw[LZ,tE,vu (by omega)]
   rw[e1];refine PC (l.take n) 0 a a rfl (λ_ _=>rfl) (λj' p aE d hd hL=>?_);have jZ:j'<n:=by have:=(Ax.1 aE).1;simp at this;omega
   have hp:l.toArray[j']? =some p:=by rw[Cb,QN jZ]at aE;simpa using aE
   have hD:=jU j' (Yj.looks i o U7 ho j' p jZ hp d hd hL);rw[Nz,hD.2];simp[hD.1]
  obtain⟨mf,hwa⟩:=Ht (V:=λ_ _=>True) (ops:=l.toArray) (vl Yj.sel i o · · ho) P9;have next:∀u w',R i w w'->V i w' (Pg us i u)->wpAny P .any l.toArray Q (f+(l.length-n)) (s.setIfInBounds i true) ((Z0 us (λj=>s.getD j true) 0 (l.take n) a).put o.dst u) w':=λu w' hxx hvu=>by
   have Qb6:=Eh (us:=us) (us':=Pg us i u) (f:=λj=>s.getD j true) (f':=λj=>(s.setIfInBounds i true).getD j true) (k:=i) (o:=o) hiu (by simp[VD,rQ]) (λj hj=>⟨vy true (AX hj),by simp[Pg,hj]⟩) (l.take n) 0 a (by omega)
    (by rw[Nat.sub_zero,Cb,QN U7];exact rR) (λj' p aE Jt t ht hpt=>by
     have jZ:j'<n:=by have:=(Ax.1 aE).1;simp at this;omega
     have hp:l.toArray[j']? =some p:=by rw[Cb,QN jZ]at aE;simpa using aE
     exact Yj.dsts i o U7 ho j' p jZ hp (by omega) t hpt ht)
   have hui:Pg us i u i=u:=by simp[Pg]
   rw[hui]at Qb6;rw[←Qb6];refine ih _ _ _ ?_ (inv.set hi U7) (hC i w w' hx hxx) (λj' aE hd Mz=>?_)
   ·have:=CX hiu n;rw[QN U7]at this;omega
   ·by_cases e:j'=i
    ·subst e;exact hvu
    ·have hli:lost i j'=false:=by
      cases hq:lost i j' with
      | false=>rfl
      | true =>
       have h:=Mz i U7 hq;have hsi:(s.setIfInBounds i true).getD i true=true:=by simp[VD,rQ]
       rw[hsi]at h;cases h
     have hkm:∀k,k<n->lost k j'=true->s.getD k true=false:=λk hk hq=>by
      have Jt:k≠i:=λe2=>by rw[e2,hli]at hq;cases hq
      have h:=Mz k hk hq
      rwa [vy true (AX Jt)]at h
     have hd':j'<n->s.getD j' true=true:=λh=>by
      have:=hd h
      rwa [vy true (AX e)]at this
     refine hcong j' w' us _ aE (λhjn'=>⟨by simp[Pg,e],λd hd2=>?_⟩) (hV j' i w w' _ aE e hli hx hxx (hv j' aE hd' hkm));obtain⟨o',ho'⟩:∃o',l.toArray[j']? =some o':=⟨l[j']'(by omega),by simp[show j'<l.length by omega]⟩
     have Jt:d≠i:=λh=>by
      subst h;obtain⟨h1,h2⟩:=Yj.deps j' o' hjn' ho' d hd2;obtain⟨o2,ho2,e2,uA,Pt,hon2⟩:=Region.waitsFor_spec h2;have NE:s.getD j' false=true:=FK _ (by omega) (hd' hjn');have h3:=inv.closed j' o2 ho2 NE e2 uA Pt;rw[hon2]at h3;have SB:d<s.size:=by omega
      simp[SB]at h3 hiu;rw[h3]at hiu;cases hiu
     simp[Pg,Jt]
  unfold wpOp;simp only[ho];rcases Kq with⟨hst1,hst2⟩|⟨hst1,hst2,hst3⟩
  ·rw[←hwa]at hst1;rw[←mf]at hst2;rw[QN hst1];exact .inl (am hst2 next)
  ·rw[←hwa]at hst1;rw[QD (by rw[hst1];decide)];exact next undef w hst2 hst3
theorem Rf {Q:Exit->Act->World->Prop}{a:Act}{w:World}{l:List Oper}(n nv:Nat) (D E:List (List Nat)) (V:Nat->World->(Nat->Value)->Prop) (C:World->Prop) (R:Nat->World->World->Prop) (lost:Nat->Nat->Bool) (hB:Mf l.toArray n D=true) (hnv:n<=nv) (hE:∀i d,d∈E.getD i []->n<=d/\d<nv)
  (hKD:∀i d k,i<n->d∈D.getD i []++E.getD i []->k<n->lost k d=true->∀s,HeadInv .any l.toArray n s->s.getD i true=false->s.getD k true=false)
  (hC0:C w.drew) (hV0:∀j us,n<=j->j<nv->V j w.drew us) (hC:∀k w w',C w->R k w w'->C w')
  (hcong:∀j w us us',j<nv->(j<n->us j=us' j/\∀d∈D.getD j [],us d=us' d)->V j w us->V j w us')
  (hV:∀j k w w' us,j<nv->j≠k->lost k j=false->C w->R k w w'->V j w us->V j w' us)
  (h:∀us,Qu (λk o a=>∀w',C w'->(∀d∈D.getD k []++E.getD k [],V d w' us)->Yx P l.toArray (R k) (λw u=>V k w (Pg us k u)) o a w') (λa'=>∀w',C w'->(∀j,j<nv->(∀k,k<n->lost k j=false)->V j w' us)->wpList P l.toArray Q (l.drop n) a' w') us 0 (l.take n) a) :
  wpAny P .any l.toArray Q l.toArray.size (Array.replicate l.toArray.size false) a w.drew:=by
 have Yj:=aj hB
 have js:HeadInv .any l.toArray n (Array.replicate l.toArray.size false) :=
  ⟨by simp,λj oj _ hl=>(by rw[getD_replicate_false]at hl;cases hl),λt _ ht=>getD_in (by simpa using ht) (getD_replicate_false _ _)⟩
 have Lo:n<=l.length:=by simpa using Yj.size
 have jg:∀j,j<n->(Array.replicate l.toArray.size false).getD j true=false:=λj hj=>getD_in (by simp;omega) (getD_replicate_false _ _);have hl:left (Array.replicate l.toArray.size false) n=n:=by
  have:∀m,m<=n->left (Array.replicate l.toArray.size false) m=m:=λm=>by
   induction m with
   | zero=>intro _;rfl
   | succ m ih=>intro h;rw[left,ih (by omega),jg m (by omega)];rfl
  exact this n (Q4 _)
 have key:=Cf (Q:=Q) (a:=a) (lost:=lost) Yj hnv hE hKD hC hcong hV (λk o hk ho us w' hx hd=>by
  have:=(Wv _ _ _ (h us)).1 k o (by rw[Cb,QN hk];exact ho);rw[Nz,tE,vu (by omega)]at this;exact this w' hx hd) (λus w' hx hv=>(Wv _ _ _ (h us)).2 w' hx hv) n _ w.drew (λ_=>undef) hl js hC0
  (λj hj hd _=>(Nat.lt_or_ge j n).elim (λh2=>by have:=hd h2;rw[jg j h2]at this;cases this) (λh2=>hV0 j _ h2 hj))
 rw[N9 _ _ _ (λj _ h2=>jg j (by simp at h2;omega))]at key;rw[show n+(l.length-n)=l.toArray.size by simp;omega]at key;exact key
def CY (lost:List (List Nat)) (k j:Nat):Bool:=(lost.getD k []).contains j
theorem Gj {id:Nat}{Q:Exit->Act->World->Prop}{a:Act}{w:World}{l:List Oper}(n nv:Nat) (D E:List (List Nat)) (V:Nat->World->(Nat->Value)->Prop) (C:World->Prop) (R:Nat->World->World->Prop) (lost ch:List (List Nat)) (hm:P.follows .mixedOrders=true) (hB:Mf l.toArray n D=true)
  (hKD:(decide (n<=nv)&&(E.all λe=>e.all λd=>decide (n<=d)&&decide (d<nv))&&(List.range n).all λi=>(D.getD i []++E.getD i []).all λd=>(List.range n).all λk=>!CY lost k d||(decide (k=i)||tW l.toArray k (ch.getD k []) i))=true)
  (hC0:C w.drew) (hV0:∀j us,n<=j->j<nv->V j w.drew us) (hC:∀k w w',C w->R k w w'->C w')
  (hcong:∀j w us us',j<nv->(j<n->us j=us' j/\∀d∈D.getD j [],us d=us' d)->V j w us->V j w us')
  (hV:∀j k w w' us,j<nv->j≠k->CY lost k j=false->C w->R k w w'->V j w us->V j w' us)
  (h:∀us,Qu (λk o a=>∀w',C w'->(∀d∈D.getD k []++E.getD k [],V d w' us)->Yx P l.toArray (R k) (λw u=>V k w (Pg us k u)) o a w') (λa'=>∀w',C w'->(∀j,j<nv->(∀k,k<n->CY lost k j=false)->V j w' us)->wpList P l.toArray Q (l.drop n) a' w') us 0 (l.take n) a):(Code.region id l.toArray true).wp P Q a w:=by
 rw[Vg,Vg]at hKD;obtain⟨⟨h1,h2⟩,h3⟩:=hKD;refine iS hm (Rf n nv D E V C R (CY lost) hB (WO h1) (λi d hd=>?_) (λi d k hi hd hk hl s inv hs=>?_) hC0 hV0 hC hcong hV h)
 ·have hi:i<E.length:=vq λhge=>by
   rw[Yb,mQ hge]at hd;simp at hd
  rw[Yb,ZX hi]at hd;have:=Rj.1 (Rj.1 h2 _ (NT hi)) d hd;rw[Vg]at this;exact⟨WO this.1,WO this.2⟩
 ·have h4:=Rj.1 (Rj.1 (Rj.1 h3 i (Mo.2 hi)) d hd) k (Mo.2 hk);rw[hl]at h4;rw[Bool.not_true,Bool.false_or,iQ]at h4;exact h4.elim (λe=>by rw[WO e];exact hs) (λe=>cD inv e hs)
end
section
variable {P:Program}{ops:Array Oper}{Q:Exit->Act->World->Prop}{a:Act}{w:World}{l:List Oper}
theorem ak (n:Nat) (D:List (List Nat)) (V:Nat->World->Value->Prop) (hB:Mf l.toArray n D=true)
  (hV:∀k w w' u,Ext w w'->V k w u->V k w' u)
  (h:∀us,Qu (λk o a=>∀w',Ext w w'->(∀d∈D.getD k [],V d w' (us d))->Yx P l.toArray (λx y=>Ext x y) (V k) o a w') (λa'=>∀w',Ext w w'->(∀k,k<n->V k w' (us k))->wpList P l.toArray Q (l.drop n) a' w') us 0 (l.take n) a) :
  wpAny P .any l.toArray Q l.toArray.size (Array.replicate l.toArray.size false) a w.drew:=by
 refine Rf n n D [] (λk w us=>V k w (us k)) (λx=>Ext w x) (λ_ x y=>Ext x y) (λ_ _=>false) hB (Q4 _) (λi d hd=>by simp at hd) (λi d k _ _ _ h=>by cases h) ((Qg w).drew) (λj us h1 h2=>by omega) (λk x y h1 h2=>h1.trans h2)
  (λj x us us' hj h h2=>by rw[←(h hj).1];exact h2) (λj k x y us _ _ _ _ r h=>hV j x y _ r h) (λus=>UI n (λk o a _ H w' hx hd=>?_) (λa' T w' hx hv=>T w' hx (λk hk=>hv k hk (λ_ _=>rfl))) _ _ _ (by simp;omega) (h us))
 simp only[Vj];exact H w' hx (λd h2=>hd d (vn _ h2))
theorem Ya {id:Nat}(n:Nat) (D:List (List Nat)) (V:Nat->World->Value->Prop) (hm:P.follows .mixedOrders=true) (hB:Mf l.toArray n D=true)
  (hV:∀k w w' u,Ext w w'->V k w u->V k w' u)
  (h:∀us,Qu (λk o a=>∀w',Ext w w'->(∀d∈D.getD k [],V d w' (us d))->Yx P l.toArray (λx y=>Ext x y) (V k) o a w') (λa'=>∀w',Ext w w'->(∀k,k<n->V k w' (us k))->wpList P l.toArray Q (l.drop n) a' w') us 0 (l.take n) a):(Code.region id l.toArray true).wp P Q a w :=
 iS hm (ak n D V hB hV h)
theorem Qp {V:World->Value->Prop}{o:Oper}(d:Tmp) (hd:o.dst=some d) (Qn:d<a.tmps.size) (_:o.guard=none)
  (h:wpList P ops (λx a' w'=>x=.normal/\∃u,a'=a.put o.dst u/\Ext w w'/\V w' u) [o] a w):Yx P ops (λx y=>Ext x y) V o a w:=Qx d hd Qn h
end
def TT (l:List (World->Value->Prop)) (k:Nat):World->Value->Prop:=(l[k]?).getD (λ_ _=>True)
def Ka (v:Value):World->Value->Prop:=λ_ u=>u=v
def MP (p:World->Value->Prop):Prop:=∀w w' u,Ext w w'->p w u->p w' u
theorem TR (v:Value):MP (Ka v):=λ_ _ _ _ h=>h
theorem WZ {l:List (World->Value->Prop)}(h:∀p∈l,MP p) (k:Nat) (w w':World) (u:Value) (hx:Ext w w') (hv:TT l k w u):TT l k w' u:=by
 unfold TT at *;cases hk:l[k]? with
 | none=>trivial
 | some p => rw[hk]at hv;exact h p (Wfm hk) w w' u hx hv
def ex (n:Nat) (t:TypeId) (cs:Array Value):World->Value->Prop:=λw u=>∃g,u=.slice (some ⟨g,0,none⟩) n n/\Box w g t cs
theorem FS (n:Nat) (t:TypeId) (cs:Array Value):MP (ex n t cs):=λ_ _ _ hx ⟨g,e,hb⟩=>⟨g,e,hb.ext hx⟩
section
variable {P:Program}{Q:Exit->Act->World->Prop}{a:Act}{w:World}
theorem Rb {ops:Array Oper}{rest:List Oper}{o:Oper}{n:Nat}{T:TypeId}{cs:Array Value}{d:Tmp}(hd:o.dst=some d) (Qn:d<a.tmps.size) (hg:o.guard=none)
  (h:wpList P ops (λx a' w'=>x=.normal/\∃u,a'=a.put o.dst u/\Ext w w'/\ex n T cs w' u) [o] a w)
  (hK:∀g w',Ext w w'->Box w' g T cs->wpList P ops Q rest (a.put o.dst (.slice (some ⟨g,0,none⟩) n n)) w'):wpList P ops Q (o::rest) a w:=by
 have hw:Region.wanted o (yielded ops a.tmps)=true:=by simp[Region.wanted,hg]
 rcases Qx (V:=ex n T cs) (R:=λx y=>Ext x y) d hd Qn h with⟨_,h2⟩|⟨h2,_⟩
 ·rw[wpList,QN hw];exact .inl (am h2 (λu w' hx ⟨g,e,hb⟩=>by subst e;exact hK g w' hx hb))
 ·rw[hw]at h2;cases h2
end
section
variable {P:Program}{Q:Exit->Act->World->Prop}{a:Act}{w:World}{l:List Oper}
def sf (w:World) (rb:Nat) (T:TypeId) (z:Nat) (x:World):Prop:=But rb w x/\∃cs,Box x rb T cs/\cs.size=z
def ZE (rb:Nat) (T:TypeId) (cells:Array Value) (m k:Nat) (x y:World):Prop:=if k=m then But rb x y/\Box y rb T cells else Ext x y
def QP (rb:Nat) (T:TypeId) (cells:Array Value) (m:Nat) (vs:List Value) (k:Nat) (w:World) (us:Nat->Value):Prop:=if k=m then Box w rb T cells else us k=(vs[k]?).getD undef
theorem ZE.same {rb m k:Nat}{T:TypeId}{cells:Array Value}{x:World}(h:k≠m):ZE rb T cells m k x x:=by unfold ZE;rw[QD h];exact Qg x
theorem ZE.ext {rb m k:Nat}{T:TypeId}{cells:Array Value}{x y:World}(h:k≠m) (e:Ext x y):ZE rb T cells m k x y:=by unfold ZE;rw[QD h];exact e
theorem ZE.st {rb m:Nat}{T:TypeId}{cells:Array Value}{x y:World}(h:But rb x y) (hb:Box y rb T cells):ZE rb T cells m m x y:=by unfold ZE;rw[QN rfl];exact⟨h,hb⟩
theorem QP.of {rb m k:Nat}{T:TypeId}{cells:Array Value}{vs:List Value}{x:World}{us:Nat->Value}(h:k≠m) (e:us k=(vs[k]?).getD undef):QP rb T cells m vs k x us:=by unfold QP;rw[QD h];exact e
theorem QP.st {rb m:Nat}{T:TypeId}{cells:Array Value}{vs:List Value}{x:World}{us:Nat->Value}(h:Box x rb T cells):QP rb T cells m vs m x us:=by unfold QP;rw[QN rfl];exact h
theorem QP.at {rb m k:Nat}{T:TypeId}{cells:Array Value}{vs:List Value}{x:World}{us:Nat->Value}(hk:k≠m) (h:QP rb T cells m vs k x us):us k=(vs[k]?).getD undef:=by unfold QP at h;rw[QD hk]at h;exact h
theorem QP.bx {rb m:Nat}{T:TypeId}{cells:Array Value}{vs:List Value}{x:World}{us:Nat->Value}(h:QP rb T cells m vs m x us):Box x rb T cells:=by unfold QP at h;rw[QN rfl]at h;exact h
theorem Vl {id:Nat}(n:Nat) (D:List (List Nat)) (vs:List Value) (m rb:Nat) (T:TypeId) (cells old:Array Value) (hm:P.follows .mixedOrders=true) (hB:Mf l.toArray n D=true)
  (hb:Box w rb T old) (hs:old.size=cells.size)
  (h:∀us,Qu (λk o a=>∀w',sf w.drew rb T cells.size w'->(∀d∈D.getD k [],QP rb T cells m vs d w' us)->Yx P l.toArray (ZE rb T cells m k) (λw u=>QP rb T cells m vs k w (Pg us k u)) o a w') (λa'=>∀w',sf w.drew rb T cells.size w'->(∀k,k<n->QP rb T cells m vs k w' us)->wpList P l.toArray Q (l.drop n) a' w') us 0 (l.take n) a):(Code.region id l.toArray true).wp P Q a w:=by
 refine iS hm (Rf n n D [] (QP rb T cells m vs) (sf w.drew rb T cells.size) (ZE rb T cells m) (λ_ _=>false) hB (Q4 _) (λi d hd=>by simp at hd) (λi d k _ _ _ h=>by cases h) ⟨But.refl _ _,old,hb.ext ((Qg w).drew),hs⟩ (λj us h1 h2=>by omega) (λk x y hx r=>?_) (λj x us us' hj e h=>?_) (λj k x y us hj hjk _ hx r h=>?_)
  (λus=>UI n (λk o a _ H w' hx hd=>H w' hx (λd h2=>hd d (vn _ h2))) (λa' T w' hx hv=>T w' hx (λk hk=>hv k hk (λ_ _=>rfl))) _ _ _ (by simp;omega) (h us)))
 ·unfold ZE at r;split at r
  ·exact⟨hx.1.trans r.1,cells,r.2,rfl⟩
  ·obtain⟨h1,cs,h2,h3⟩:=hx;exact⟨h1.then' r,cs,h2.ext r,h3⟩
 ·unfold QP at h ⊢;split
  ·rename_i e2;rw[QN e2]at h;exact h
  ·rename_i e2;rw[QD e2]at h;rw[←(e hj).1];exact h
 ·unfold ZE at r;unfold QP at h ⊢;by_cases e:k=m
  ·subst e;rw[QD hjk]at h ⊢;exact h
  ·rw[QD e]at r;split
   ·rename_i e2;rw[QN e2]at h;exact h.ext r
   ·rename_i e2;rw[QD e2]at h;exact h
theorem Gi {id:Nat}(n:Nat) (D:List (List Nat)) (vs:List Value) (hm:P.follows .mixedOrders=true) (hB:Mf l.toArray n D=true)
  (h:∀us:Nat->Value,Qu (λk o a=>∀w',Ext w w'->(∀d∈D.getD k [],us d=(vs[d]?).getD undef)->Yx P l.toArray (λx y=>Ext x y) (λ_ u=>u=(vs[k]?).getD undef) o a w') (λa'=>∀w',Ext w w'->(∀k,k<n->us k=(vs[k]?).getD undef)->wpList P l.toArray Q (l.drop n) a' w') us 0 (l.take n) a):(Code.region id l.toArray true).wp P Q a w :=
 Ya n D (λk _ u=>u=(vs[k]?).getD undef) hm hB (λ_ _ _ _ _ h=>h) h
theorem BE (a:Act) (d:Option Tmp) (u:Value):(a.put d u).tmps.size=a.tmps.size:=by
 cases d<;>simp[Act.put]
theorem WA {us us':Nat->Value}{L:List Tmp}:∀(l:List Oper) (i:Nat) (a b:Act),a.tmps.size=b.tmps.size->(∀t∈L,a.tmps[t]? =b.tmps[t]?)->
  (∀j o,l[j]? =some o->∀d,o.dst=some d->d∈L->us (i+j)=us' (i+j))->∀t∈L,(ZC us i l a).tmps[t]? =(ZC us' i l b).tmps[t]?
 | [],_,a,b,_,h,_=>h
 | o::r,i,a,b,hs,h,hf=>by
  rw[ZC,ZC];refine WA r (i+1) _ _ (by rw[BE,BE,hs]) (λt ht=>?_) (λj p hj d hd hL=>by have:=hf (j+1) p (by simpa using hj) d hd hL;rw[show i+1+j=i+(j+1) by omega];exact this);cases hd:o.dst with
  | none=>exact h t ht
  | some d =>
   by_cases e:d=t
   ·subst e;have:=hf 0 o rfl d hd ht;rw[nb]at this;simp only[Act.put];rw[Array.getElem?_setIfInBounds_self,Array.getElem?_setIfInBounds_self,hs,this]
   ·simp only[Act.put];rw[zP e,zP e];exact h t ht
theorem Wz {us us':Nat->Value}:∀(l:List Oper) (i:Nat) (a:Act),(∀j,j<l.length->us (i+j)=us' (i+j))->ZC us i l a=ZC us' i l a
 | [],_,_,_=>rfl
 | o::r,i,a,h=>by rw[ZC,ZC,show us i=us' i from h 0 (by simp)];exact Wz r (i+1) _ (λj hj=>by have:=h (j+1) (by simpa using hj);rw[show i+1+j=i+(j+1) by omega];exact this)
def NO (H:Nat->Oper->Act->Value->Prop) (T:Act->Prop):Nat->List Oper->List Value->Act->Prop
 | _,[],_,a=>T a
 | _,_::_,[],a=>T a
 | k,o::r,v::vs,a=>H k o a v/\NO H T (k+1) r vs (a.put o.dst v)
theorem vW {ops:Array Oper}{o:Oper}{r:List Oper}{v:Value}{vs:List Value}{T:Act->Prop}{w0:World}{k:Nat}{d:Tmp}
  (h:∀w,Ext w0 w->wpList P ops (λx a' w'=>x=.normal/\∃u,a'=a.put o.dst u/\Ext w w'/\u=v) [o] a w) (hr:NO (λ_ o a v=>∀w',Ext w0 w'->Yx P ops (λx y=>Ext x y) (λ_ u=>u=v) o a w') T (k+1) r vs (a.put o.dst v))
  (hd:o.dst=some d:=by rfl) (Qn:d<a.tmps.size:=by simp[Act.put]) :
  NO (λ_ o a v=>∀w',Ext w0 w'->Yx P ops (λx y=>Ext x y) (λ_ u=>u=v) o a w') T k (o::r) (v::vs) a:=⟨λw' hx=>Qx d hd Qn (h w' hx),hr⟩
theorem PN {H:Nat->Oper->Act->Value->Prop}{T:Act->Prop}(us:Nat->Value):∀(l:List Oper) (vs:List Value) (k:Nat) (a:Act),l.length=vs.length->(∀j v,vs[j]? =some v->us (k+j)=v)->NO H T k l vs a->
  (∀j o,l[j]? =some o->H (k+j) o (ZC us k (l.take j) a) (us (k+j)))/\T (ZC us k l a)
 | [],[],_,_,_,_,h=>⟨λj o hj=>by simp at hj,h⟩
 | o::r,v::vs,k,a,hl,hu,h=>by
  have h0:us k=v:=hu 0 v rfl;obtain⟨h1,h2⟩:=PN us r vs (k+1) _ (by simpa using hl) (λj u hj=>by have:=hu (j+1) u (by simpa using hj);rw[show k+1+j=k+(j+1) by omega];exact this) h.2;refine⟨λj o' hj=>?_,by rw[ZC,h0];exact h2⟩;cases j with
  | zero =>
   have:o=o':=by simpa using hj
   subst this;rw[nb,h0];exact h.1
  | succ j => have:=h1 j o' (by simpa using hj);rw[show k+1+j=k+(j+1) by omega]at this;rw[KG,ZC,h0];exact this
theorem TQ {R:World->World->Prop}{V:World->Value->Prop}{o:Oper}(hs:∀cs b,o.op≠.select cs b) {ops:Array Oper}{a b:Act}(h:∀t∈o.looksAt ops,a.tmps[t]? =b.tmps[t]?) (hk:Yx P ops R V o b w):Yx P ops R V o a w:=by
 obtain⟨h1,h2⟩:=Ht (V:=λ_ _=>True) hs h;unfold Yx;rw[h1,h2];exact hk
theorem Yu {id:Nat}(n:Nat) (D:List (List Nat)) (vs:List Value) (hm:P.follows .mixedOrders=true) (hB:Mf l.toArray n D=true) (hn:vs.length=n)
  (h:NO (λ_ o a v=>∀w',Ext w w'->Yx P l.toArray (λx y=>Ext x y) (λ_ u=>u=v) o a w') (λa'=>∀w',Ext w w'->wpList P l.toArray Q (l.drop n) a' w') 0 (l.take n) vs a):(Code.region id l.toArray true).wp P Q a w:=by
 have Yj:=aj hB;have Lo:n<=l.length:=by simpa using Yj.size
 have hp:=PN (λk=>(vs[k]?).getD undef) (l.take n) vs 0 a (by simp;omega) (λj v hj=>by simp[hj]) h;refine Gi n D vs hm hB (λus=>LD us _ _ _ (λj o hj w' hx hd=>?_) (λw' hx hv=>?_))
 ·have TI:j<n:=by have:=(Ax.1 hj).1;simp at this;omega
  have rR:l[j]? =some o:=by rw[Cb,QN TI]at hj;exact hj
  have h1:=hp.1 j o hj w' hx;rw[Nz]at h1 hd ⊢;refine TQ (vl Yj.sel j o · · (by simpa using rR)) (WA _ _ _ _ rfl (λ_ _=>rfl) (λi p hi d rN hL=>?_)) h1;rw[tE,Cb]at hi;have hij:i<j:=by
   by_cases e:i<min j n
   ·omega
   ·rw[QD e]at hi;cases hi
  rw[QN (by omega)]at hi;rw[Nz];exact hd i (Yj.looks j o TI (by simpa using rR) i p (by omega) (by simpa using hi) d rN hL)
 ·have:=hp.2 w' hx
  rwa [Wz (us':=λk=>(vs[k]?).getD undef) _ _ _ (λj hj=>by rw[Nz];exact hv j (by simp at hj;omega))]
end
section
variable {P:Program}{Q:Exit->Act->World->Prop}{a:Act}{w:World}{l:List Oper}
abbrev Kn:=Value ⊕ { p:World->Value->Prop // MP p }
abbrev Kn.val (v:Kn) (u:Value):Value:=match v with
 | .inl v=>v
 | .inr _=>u
abbrev Kn.is (v:Kn) (w:World) (u:Value):Prop:=match v with
 | .inl v=>u=v
 | .inr p=>p.1 w u
theorem Kn.lasts (v:Kn) {x y:World}{u:Value}(e:Ext x y) (h:v.is x u):v.is y u:=by
 cases v with
 | inl v=>exact h
 | inr p=>exact p.2 x y u e h
theorem Kn.eq (v:Kn) {x:World}{u:Value}(h:v.is x u):u=v.val u:=by
 cases v with
 | inl v=>exact h
 | inr p=>rfl
abbrev Dz (n:Nat) (t:TypeId) (cs:Array Value):Kn:=.inr ⟨_,FS n t cs⟩
abbrev kn0:Kn:=.inr ⟨λ_ _=>True,λ_ _ _ _ h=>h⟩
def Vx (H:Nat->Oper->Act->Kn->Prop) (T:Act->Prop) (us:Nat->Value):Nat->List Oper->List Kn->Act->Prop
 | _,[],_,a=>T a
 | _,_::_,[],a=>T a
 | k,o::r,v::vs,a=>H k o a v/\Vx H T us (k+1) r vs (a.put o.dst (v.val (us k)))
abbrev GU (vs:List Kn) (k:Nat):Kn:=(vs[k]?).getD kn0
theorem PV {H:Nat->Oper->Act->Kn->Prop}{T:Act->Prop}{us:Nat->Value}(us':Nat->Value):∀(l:List Oper) (vs:List Kn) (k:Nat) (a:Act),l.length=vs.length->(∀j v,vs[j]? =some v->us' (k+j)=v.val (us (k+j)))->Vx H T us k l vs a->
  (∀j o v,l[j]? =some o->vs[j]? =some v->H (k+j) o (ZC us' k (l.take j) a) v)/\T (ZC us' k l a)
 | [],[],_,_,_,_,h=>⟨λj o v hj=>by simp at hj,h⟩
 | o::r,v::vs,k,a,hl,hu,h=>by
  have h0:us' k=v.val (us k):=hu 0 v rfl;obtain⟨h1,h2⟩:=PV us' r vs (k+1) _ (by simpa using hl) (λj u hj=>by have:=hu (j+1) u (by simpa using hj);rw[show k+1+j=k+(j+1) by omega];exact this) h.2;refine⟨λj o' v' hj hv=>?_,by rw[ZC,h0];exact h2⟩;cases j with
  | zero =>
   have:o=o':=by simpa using hj
   subst this;have:v=v':=by simpa using hv
   subst this;exact h.1
  | succ j => have:=h1 j o' v' (by simpa using hj) (by simpa using hv);rw[show k+1+j=k+(j+1) by omega]at this;rw[KG,ZC,h0];exact this
abbrev HX (P:Program) (ops:Array Oper) (w0:World) (D:List (List Nat)) (vs:List Kn) (us:Nat->Value) (k:Nat) (o:Oper) (a:Act) (v:Kn):Prop :=
 ∀w',Ext w0 w'->(∀d∈D.getD k [],(GU vs d).is w' (us d))->Yx P ops (λx y=>Ext x y) (λw u=>v.is w u) o a w'
theorem xW {ops:Array Oper}{o:Oper}{r:List Oper}{v:Value}{vs0 vs:List Kn}{D:List (List Nat)}{T:Act->Prop}{w0:World}{us:Nat->Value}{k:Nat}{d:Tmp}
  (h:∀w,Ext w0 w->(∀d∈D.getD k [],(GU vs0 d).is w (us d))->wpList P ops (λx a' w'=>x=.normal/\∃u,a'=a.put o.dst u/\Ext w w'/\u=v) [o] a w) (hr:Vx (HX P ops w0 D vs0 us) T us (k+1) r vs (a.put o.dst v))
  (hd:o.dst=some d:=by rfl) (Qn:d<a.tmps.size:=by simp[Act.put]) :
  Vx (HX P ops w0 D vs0 us) T us k (o::r) (.inl v::vs) a:=⟨λw' hx SB=>Qx d hd Qn (h w' hx SB),hr⟩
theorem xR {ops:Array Oper}{o:Oper}{r:List Oper}{p:{ p:World->Value->Prop // MP p }} {vs0 vs:List Kn}{D:List (List Nat)}{T:Act->Prop}{w0:World}{us:Nat->Value}{k:Nat}{d:Tmp}
  (h:∀w,Ext w0 w->(∀d∈D.getD k [],(GU vs0 d).is w (us d))->wpList P ops (λx a' w'=>x=.normal/\∃u,a'=a.put o.dst u/\Ext w w'/\p.1 w' u) [o] a w) (hr:Vx (HX P ops w0 D vs0 us) T us (k+1) r vs (a.put o.dst (us k)))
  (hd:o.dst=some d:=by rfl) (Qn:d<a.tmps.size:=by simp[Act.put]) :
  Vx (HX P ops w0 D vs0 us) T us k (o::r) (.inr p::vs) a:=⟨λw' hx SB=>Qx d hd Qn (h w' hx SB),hr⟩
theorem JN {id:Nat}(n:Nat) (D:List (List Nat)) (vs:List Kn) (hm:P.follows .mixedOrders=true) (hB:Mf l.toArray n D=true) (hn:vs.length=n)
  (h:∀us,Vx (HX P l.toArray w D vs us) (λa'=>∀w',Ext w w'->(∀k,k<n->(GU vs k).is w' (us k))->wpList P l.toArray Q (l.drop n) a' w') us 0 (l.take n) vs a):(Code.region id l.toArray true).wp P Q a w:=by
 have Yj:=aj hB;have Lo:n<=l.length:=by simpa using Yj.size
 refine Ya n D (λk=>(GU vs k).is) hm hB (λk x y u e hv=>Kn.lasts _ e hv) (λus=>?_);have hp:=PV (λk=>(GU vs k).val (us k)) (l.take n) vs 0 a (by simp;omega) (λj v hj=>by simp[GU,hj]) (h us);refine LD us _ _ _ (λj o hj w' hx hd=>?_) (λw' hx hv=>?_)
 ·have TI:j<n:=by have:=(Ax.1 hj).1;simp at this;omega
  have rR:l[j]? =some o:=by rw[Cb,QN TI]at hj;exact hj
  have hvj:vs[j]? =some (vs[j]'(by omega)):=ZX (by omega);have h2:=hp.1 j o _ hj hvj w' hx (by simpa using hd);rw[Nz]at hd ⊢;have e:vs[j]'(by omega)=GU vs j:=by unfold GU;rw[hvj];rfl
  rw[e]at h2;refine TQ (vl Yj.sel j o · · (by simpa using rR)) (WA _ _ _ _ rfl (λ_ _=>rfl) (λi p hi d rN hL=>?_)) h2;rw[tE,Cb]at hi;have hij:i<j:=by
   by_cases e:i<min j n
   ·omega
   ·rw[QD e]at hi;cases hi
  rw[QN (by omega)]at hi;rw[Nz];exact Kn.eq _ (hd i (Yj.looks j o TI (by simpa using rR) i p (by omega) (by simpa using hi) d rN hL))
 ·have:=hp.2 w' hx hv
  rwa [Wz (us':=λk=>(GU vs k).val (us k)) _ _ _ (λj hj=>by rw[Nz];exact Kn.eq _ (hv j (by simp at hj;omega)))]
end
section
variable {P:Program}{ops:Array Oper}{a:Act}{w:World}
def rU (P:Program) (ops:Array Oper) (R:World->World->Prop) (V:World->Value->Prop) (o:Oper) (a:Act) (w:World):Prop :=
 Region.wanted o (yielded ops a.tmps)=true/\Ly P R V w ((execOp a.eval o).run P w)
theorem JH {R:World->World->Prop}{V:World->Value->Prop}{o:Oper}(d:Tmp) (hd:o.dst=some d) (Qn:d<a.tmps.size) (hg:o.guard=none)
  (h:wpList P ops (λx a' w'=>x=.normal/\∃u,a'=a.put o.dst u/\R w w'/\V w' u) [o] a w):rU P ops R V o a w :=
 (Qx d hd Qn h).elim id (λh=>by
  have:Region.wanted o (yielded ops a.tmps)=true:=by simp[Region.wanted,hg]
  rw[h.1]at this;cases this)
end
section
variable {P:Program}{Q:Exit->Act->World->Prop}{a:Act}{w:World}{l:List Oper}
theorem U5 {id:Nat}(n:Nat) (D:List (List Nat)) (V:Nat->World->Value->Prop) (C:World->Prop) (PP:Nat->World->Prop) (R:Nat->World->World->Prop) (m:Nat) (kd:List Nat) (hm:P.follows .mixedOrders=true) (hB:Mf l.toArray n D=true)
  (hKD:((List.range n).all λi=>decide (i=m)||(D.getD i []).all λd=>!kd.contains d)=true) (hC0:C { w with drawn:=w.drawn+1 }) (hP0:∀j,PP j { w with drawn:=w.drawn+1 })
  (hC:∀k w w',C w->R k w w'->C w')
  (hP:∀j k w w',j≠k->C w->PP j w->R k w w'->PP j w')
  (hV:∀j k w w' u,j<n->j≠k->(k=m->j∉kd)->C w->R k w w'->V j w u->V j w' u)
  (h:∀us,Qu (λk o a=>∀w',C w'->PP k w'->(∀d∈D.getD k [],V d w' (us d))->rU P l.toArray (R k) (V k) o a w') (λa'=>∀w',C w'->(∀k,k<n->k∉kd->V k w' (us k))->wpList P l.toArray Q (l.drop n) a' w') us 0 (l.take n) a):(Code.region id l.toArray true).wp P Q a w:=by
 have Yj:=aj hB;refine iS hm (Rf n (n+n) D ((List.range n).map λk=>[n+k]) (λj w us=>if j<n then V j w (us j) else PP (j-n) w) C R (λk j=>(decide (k=m)&&(kd.contains j&&decide (j<n)))||decide (j=n+k)) hB (by omega) (λi d hd=>?_) (λi d k hi hd hk hl s inv hs=>?_) hC0 (λj us h1 h2=>by rw[QD (by omega)];exact hP0 _) hC (λj x us us' hj h h2=>?_) (λj k x y us hj Jt hl hx r h2=>?_) (λus=>?_))
 ·by_cases hi:i<n
  ·rw[Yb,fo,mS hi]at hd;have:d=n+i:=by simpa using hd
   omega
  ·rw[Yb,mQ (by simpa using hi)]at hd;simp at hd
 ·rcases iO.1 hd with hd|hd
  ·have FJ:=(Yj.deps i (l[i]'(by have:=Yj.size;simp at this;omega)) hi (by simp) d hd).1;rw[iQ]at hl;rcases hl with hl|hl
   ·rw[Vg]at hl;have h:=Rj.1 hKD i (Mo.2 hi);rw[iQ]at h;rcases h with h|h
    ·rw[WO hl.1,←WO h];exact hs
    ·have h2:=Rj.1 h d hd;rw[Vg]at hl;rw[hl.2.1]at h2;cases h2
   ·have:=WO hl;omega
  ·rw[Yb,fo,mS hi]at hd;have cy:d=n+i:=by simpa using hd
   subst cy;rw[iQ]at hl;rcases hl with hl|hl
   ·rw[Vg]at hl;rw[Vg]at hl;have:=WO hl.2.2;omega
   ·have:=WO hl;rw[show k=i by omega];exact hs
 ·by_cases e:j<n
  ·rw[QN e]at h2 ⊢;rw[←(h e).1];exact h2
  ·rw[QD e]at h2 ⊢;exact h2
 ·rw[qs,Wfg]at hl;by_cases e:j<n
  ·rw[QN e]at h2 ⊢;exact hV j k x y _ e Jt (λhk Mz=>hl.1.elim (λh=>bJ h hk) (λh=>by rw[nW.2 Mz,Xd e]at h;cases h)) hx r h2
  ·rw[QD e]at h2 ⊢;exact hP _ k x y (λh=>bJ hl.2 (by omega)) hx h2 r
 ·refine UI n (λk o a hk H w' hx hd=>?_) (λa' T w' hx hv=>T w' hx (λk hk Mz=>?_)) _ _ _ (by simp;omega) (h us)
  ·have hpp:PP k w':=by
    have:=hd (n+k) (Wfd _ (by rw[Yb,fo,mS hk];simp));rw[QD (by omega),show n+k-n=k by omega]at this;exact this
   have rN:∀d∈D.getD k [],V d w' (us d):=λd h2=>by have Qn:=(Yj.deps k (l[k]'(by have:=Yj.size;simp at this;omega)) hk (by simp) d h2).1;have:=hd d (vn _ h2);rw[QN (by omega)]at this;exact this
   have h3:=H w' hx hpp rN;simp only[Vj,QN hk];exact .inl h3
  ·have:=hv k (by omega) (λi hi=>by
    rw[qs];refine⟨?_,XI (by omega)⟩;rw[Wfg,Wfg];refine .inr (.inl ?_);cases hc:kd.contains k with
    | false=>rfl
    | true=>exact absurd (nW.1 hc) Mz)
   rw[QN hk]at this;exact this
end
section
variable {P:Program}{ops:Array Oper}{md:Region.Mode}{w0:World}{V:World->Value->Prop}
def Dm (md:Region.Mode) (ops:Array Oper) (g n:Nat):List Nat->Array Bool->Bool
 | [],s=>Region.seqB md ops g n s
 | k::ks,s=>(decide (k<n)&&(Region.ready md ops s).contains k&&Region.free md ops s k)&&Dm md ops g n ks (s.setIfInBounds k true)
def LM (md:Region.Mode) (ops:Array Oper) (g n m:Nat) (ks2:List Nat):List Nat->Array Bool->Bool
 | [],s=>(Region.ready md ops s==[m])&&Dm md ops g n ks2 (s.setIfInBounds m true)
 | k::ks,s=>(decide (k<n)&&decide (k≠m)&&(Region.ready md ops s).contains k&&Region.free md ops s k)&&LM md ops g n m ks2 ks (s.setIfInBounds k true)
def D6 (ops:Array Oper):List Nat->List Oper->Prop
 | [],l=>l=[]
 | k::ks,l=>∃o l',l=o::l'/\ops[k]? =some o/\D6 ops ks l'
def Eb (l:List Oper) (ks:List Nat):List Oper:=ks.filterMap λk=>l[k]?
theorem LH (l:List Oper) (ks:List Nat) (h:ks.all (λk=>decide (k<l.length))=true):D6 l.toArray ks (Eb l ks):=by
 induction ks with
 | nil=>rfl
 | cons k ks ih => simp only[List.all_cons,Vg,MS]at h;refine⟨l[k]'h.1,Eb l ks,?_,by simp[h.1],ih h.2⟩;simp[Eb,h.1]
theorem CJ {C:World->Prop}{n g:Nat}{Lq:Act->Prop}(hsel:Region.noSelect ops=true) (hs:Region.sinkB md ops n=true) (hc:Region.chainB md ops n=true) (hn:n<ops.size) :
  ∀(ks:List Nat) (l:List Oper) (s:Array Bool) (a:Act),D6 ops ks l->HeadInv md ops n s->Dm md ops g n ks s=true->wpQuiet P ops C Lq l a->
  Pv P md ops C n (λs' a'=>Region.seqB md ops g n s'=true/\Lq a') ks.length s a:=by
 intro ks;induction ks with
 | nil => intro l s a hN _ hB h;subst hN;exact⟨hB,h⟩
 | cons k ks ih =>
  intro l s a hN inv hB h;obtain⟨o,l',rfl,h0,hN'⟩:=hN;simp only[Dm,Vg,MS]at hB;obtain⟨⟨⟨Gu,hr⟩,hf⟩,hB'⟩:=hB;have gG:k∈Region.ready md ops s:=by simpa using hr
  have Kq:qOp P ops C k (wpQuiet P ops C Lq l') a:=by unfold qOp;simp only[h0];exact h
  obtain⟨v,hy,hK⟩:=yieldsIn_of_qOp h0 Kq
  exact Wo h0 (vl hsel) hs hc hn Gu (λs' a' hL=>seqB_ready hL.1) ks.length s a inv (Region.free_spec h0 hf) gG hy
   (ih l' _ _ hN' (inv.set gG Gu) hB' hK)
def Bl (P:Program) (md:Region.Mode) (ops:Array Oper) (w0:World) (V:World->Value->Prop) (n m:Nat) (o0:Oper) (L:Value->Array Bool->Act->Prop):Nat->Array Bool->Act->Prop
 | 0,_,_=>False
 | f+1,s,a=>Region.ready md ops s≠[]/\∀i∈Region.ready md ops s,i<n/\
   (i=m->W7 P o0 a w0 V/\∀u,(∃w,V w u)->Pv P md ops (mY w0 (λw=>V w u)) n (L u) f (s.setIfInBounds i true) (a.put o0.dst u))/\
   (i≠m->qOp P ops (mY w0 λ_=>True) i (Bl P md ops w0 V n m o0 L f (s.setIfInBounds i true)) a)
theorem ER {n m g:Nat}{o0:Oper}{L:Value->Array Bool->Act->Prop}{Q:Exit->Act->World->Prop}(h0:ops[m]? =some o0) (hg0:o0.guard=none)
  (hL:∀u s a w,mY w0 (λw=>V w u) w->L u s a->wpAny P md ops Q g s a w) :
  ∀(f:Nat) (s:Array Bool) (a:Act) (w:World),Ext w0 w->Bl P md ops w0 V n m o0 L f s a->wpAny P md ops Q (f+g) s a w:=by
 intro f;induction f with
 | zero=>intro s a w _ h;exact h.elim
 | succ f ih =>
  intro s a w hw h;rw[show f+1+g=(f+g)+1 by omega];refine⟨λh0=>absurd h0 h.1,λi hi=>?_⟩;obtain⟨U7,h1,h2⟩:=h.2 i hi;by_cases e:i=m
  ·obtain⟨hl,hd⟩:=h1 e;have hi0:ops[i]? =some o0:=by rw[e];exact h0
   unfold wpOp;simp only[hi0];have Qcd:Region.wanted o0 (yielded ops a.tmps)=true:=by simp[Region.wanted,hg0]
   rw[QN Qcd];exact MU (Am hw hl λu w' hx hv=>Tv (hL u) f _ _ w' ⟨hx,hv⟩ (hd u ⟨w',hv⟩))
  ·exact wpOp_of_qOp (C:=mY w0 λ_=>True) ⟨hw,trivial⟩ (λa' w' hw' h'=>ih _ a' w' hw'.1 h') (h2 e)
theorem Bo {n m i:Nat}{oi o0:Oper}{v:Value}{L:Value->Array Bool->Act->Prop}(hV:∀u w w',Ext w w'->V w u->V w' u) (h0:ops[m]? =some o0)
  (hi:ops[i]? =some oi) (hsel:∀(j:Nat) (o:Oper) cs b,ops[j]? =some o->o.op≠.select cs b)
  (hs:Region.sinkB md ops n=true) (hc:Region.chainB md ops n=true) (hn:n<ops.size) (U7:i<n) (him:i≠m)
  (FK:∀u s a,L u s a->∀j∈Region.ready md ops s,n<=j) :
  ∀(f:Nat) (s:Array Bool) (a:Act),HeadInv md ops n s->
   (∀j oj,ops[j]? =some oj->j≠i->s.getD j true=false->(∀e∈oj.after,Region.binds md e=true->e.on≠i)->oi.apart ops oj=true)->
   i∈Region.ready md ops s->YC P ops w0 oi v a->
   Bl P md ops w0 V n m o0 L f (s.setIfInBounds i true) (a.put oi.dst v)->Bl P md ops w0 V n m o0 L (f+1) s a:=by
 intro f;induction f with
 | zero=>intro s a _ _ _ _ H;exact H.elim
 | succ f ih =>
  intro s a inv U0 hr hy H;have uI:=(tH.1 hr).1;refine⟨List.ne_nil_of_mem hr,λj hj=>?_⟩;have TI:j<n:=vq λh=>absurd hj (tail_waits hs hc hn inv _ i rfl U7 uI j h);obtain⟨hjun,oj,hoj,VC⟩:=tH.1 hj;have ox:j≠i->∀e∈oj.after,Region.binds md e=true->e.on≠i:=λ_ e he hb heq=>by have h1:=VC e he hb;rw[heq,getD_both uI]at h1;cases h1
  have jY:j≠i->∀k ok,ops[k]? =some ok->k≠i->(s.setIfInBounds j true).getD k true=false->(∀e∈ok.after,Region.binds md e=true->e.on≠i)->oi.apart ops ok=true:=λ_ k ok hk Y6 hu Xz=>by
   refine U0 k ok hk Y6 ?_ Xz;by_cases hjk:j=k
   ·subst hjk;exact hjun
   ·rw[vy true hjk]at hu;exact hu
  refine⟨TI,λe=>?_,λe=>?_⟩
  ·have Kp:j≠i:=λe'=>him (e'▸e);have hj0:oj=o0:=NU (by rw[←hoj,←h0,e]);subst hj0;obtain⟨k1,k2,k3⟩:=Oper.apart_spec (U0 j oj hoj Kp hjun (ox Kp));obtain⟨_,hq,_⟩:=H.2 j (tG hj Kp);obtain⟨hl,hd⟩:=hq e;refine⟨λx=>?_,λu hu=>?_⟩
   ·have:=hl x
    rwa [execOp_put oj (λcs b=>hsel j oj cs b hoj) a oi.dst v k1]at this
   ·have SG:YC P ops w0 oi v (a.put oj.dst u):=hy.of_same (execOp_put oi (λcs b=>hsel i oi cs b hi) a oj.dst u k3) (wanted_put oi a oj.dst u k3);refine Wo hi hsel hs hc hn U7 (FK u) f (s.setIfInBounds j true) (a.put oj.dst u) (inv.set hj TI) (jY Kp) (tG hr (AX Kp)) (SG.yields (hV u)) ?_;rw[Wey _ _ Kp,←Act.put_comm a v u k2];exact hd u hu
  ·by_cases Kp:j=i
   ·subst Kp;have:oj=oi:=NU (hoj.symm.trans hi);subst this;exact(hy.yields (S:=λ_=>True) (λ_ _ _ _=>trivial)).qOp hi H
   ·have h2:=ku hoj (U0 j oj hoj Kp hjun (ox Kp)) (λcs b=>hsel i oi cs b hi) (λcs b=>hsel j oj cs b hoj) hy ((H.2 j (tG hj Kp)).2.2 e);refine qOp_mono (λa' h3=>ih (s.setIfInBounds j true) a' (inv.set hj TI) (jY Kp) (tG hr (AX Kp)) h3.1 ?_) h2;rw[Wey _ _ Kp];exact h3.2
theorem Bp {n m g:Nat}{o0:Oper}{T:Value->Act->Prop}(hV:∀u w w',Ext w w'->V w u->V w' u) (h0:ops[m]? =some o0) (hmn:m<n)
  (hsel:Region.noSelect ops=true) (hs:Region.sinkB md ops n=true) (hc:Region.chainB md ops n=true) (hn:n<ops.size) (ks2:List Nat) (l2:List Oper) (Ay:D6 ops ks2 l2) :
  ∀(ks:List Nat) (l:List Oper) (s:Array Bool) (a:Act),D6 ops ks l->HeadInv md ops n s->
  LM md ops g n m ks2 ks s=true->Kj P ops w0 (λa=>W7 P o0 a w0 V/\∀u,(∃w,V w u)->wpQuiet P ops (mY w0 λw=>V w u) (T u) l2 (a.put o0.dst u)) l a->
  Bl P md ops w0 V n m o0 (λu s' a'=>Region.seqB md ops g n s'=true/\T u a') (ks.length+1+ks2.length) s a:=by
 intro ks;induction ks with
 | nil =>
  intro l s a hN inv hB h;subst hN;simp only[LM,Vg,ng]at hB;obtain⟨hr,hB'⟩:=hB;have hrm:m∈Region.ready md ops s:=by rw[hr];simp
  rw[show([]:List Nat).length+1+ks2.length=ks2.length+1 by simp;omega];refine⟨by rw[hr];simp,λi hi=>?_⟩;rw[hr,bK]at hi;subst hi;exact⟨hmn,λ_=>⟨h.1,λu hu=>CJ hsel hs hc hn ks2 l2 _ _ Ay (inv.set hrm hmn) hB' (h.2 u hu)⟩,λe=>absurd rfl e⟩
 | cons k ks ih =>
  intro l s a hN inv hB h;obtain⟨o,l',rfl,h1,hN'⟩:=hN;simp only[LM,Vg,MS]at hB;obtain⟨⟨⟨⟨Gu,hkm⟩,hr⟩,hf⟩,hB'⟩:=hB;have gG:k∈Region.ready md ops s:=by simpa using hr
  obtain⟨v,hy,hK⟩:=OB h;rw[show(k::ks).length+1+ks2.length=(ks.length+1+ks2.length)+1 by simp;omega]
  exact Bo hV h0 h1 (vl hsel) hs hc hn Gu hkm (λu s' a' hL=>seqB_ready hL.1) _ s a inv (Region.free_spec h1 hf) gG hy
   (ih l' _ _ hN' (inv.set gG Gu) hB' hK)
theorem Mh {id:Nat}{Q:Exit->Act->World->Prop}{a:Act}{w:World}{l:List Oper}(n m:Nat) (ks1 ks2:List Nat) (V:World->Value->Prop) (hV:∀u w w',Ext w w'->V w u->V w' u) (o0:Oper)
  (hm:P.follows .mixedOrders=true) (hsel:Region.noSelect l.toArray=true) (hs:Region.sinkB .any l.toArray n=true) (hc:Region.chainB .any l.toArray n=true) (hn:n<l.toArray.size) (hmn:m<n) (YW:ks1.length+1+ks2.length=n)
  (hB:LM .any l.toArray (l.toArray.size-n) n m ks2 ks1 (Array.replicate l.toArray.size false)=true) (h0:l[m]? =some o0) (hg0:o0.guard=none) (hN1:ks1.all (λk=>decide (k<l.length))=true) (Ay:ks2.all (λk=>decide (k<l.length))=true)
  (h:Kj P l.toArray w (λa'=>W7 P o0 a' w V/\∀u,(∃w,V w u)->wpQuiet P l.toArray (mY w λw'=>V w' u) (λa''=>∀w',mY w (λw'=>V w' u) w'->wpList P l.toArray Q (l.drop n) a'' w') (Eb l ks2) (a'.put o0.dst u)) (Eb l ks1) a):(Code.region id l.toArray true).wp P Q a w:=by
 have AA:(l.drop n).length=l.toArray.size-n:=by simp
 have js:HeadInv .any l.toArray n (Array.replicate l.toArray.size false) :=
  ⟨by simp,λj oj _ hl=>(by rw[getD_replicate_false]at hl;cases hl),λt _ ht=>getD_in (by simpa using ht) (getD_replicate_false _ _)⟩
 have H:=Bp (md:=.any) (g:=l.toArray.size-n) hV (o0:=o0) (by simpa using h0) hmn hsel hs hc hn ks2 _ (LH l ks2 Ay) ks1 _ _ a (LH l ks1 hN1) js hB h;refine iS hm ?_;have key:=ER (Q:=Q) (g:=l.toArray.size-n) (by simpa using h0) hg0 (λu s a' w' hw' hL=>by
  have:=wpAny_of_seq (md:=.any) (Q':=Q) (l.drop n) n s a' w' (λj=>by simp[EM]) (by rw[AA];exact hL.1) (hL.2 w' hw')
  rwa [AA]at this) _ _ _ _ ((Qg w).drew) H
 rw[YW,show n+(l.toArray.size-n)=l.toArray.size by omega]at key;exact key
end
theorem DN {P:Program}{ops:Array Oper}{w0:World}{Q:Act->Prop}{a:Act}{o:Oper}{rest:List Oper}(hg:o.guard=none) (v:Value) (h:∀x:Qt w0,KY P x.now v ((execOp a.eval o).run P x.now)) (hK:Kj P ops w0 Q rest (a.put o.dst v)):Kj P ops w0 Q (o::rest) a:=by
 unfold Kj;rw[QN (by simp[Region.wanted,hg])];exact⟨v,h,hK⟩
theorem Aj {P:Program}{ops:Array Oper}{w0:World}{Q:Act->Prop}{l:List Oper}{a:Act}(a1:Act) (h1:Kj P ops w0 (λa'=>a'=a1) l a) (h2:Q a1):Kj P ops w0 Q l a:=by
 induction l generalizing a with
 | nil=>rw[show a=a1 from h1];exact h2
 | cons o l ih =>
  unfold Kj at h1 ⊢;split
  ·rename_i h;rw[QN h]at h1;obtain⟨v,hv,hn⟩:=h1;exact⟨v,hv,ih hn⟩
  ·rename_i h;rw[QD h]at h1;exact ih h1
end Go.Proofs.YtfaplefkakpgcaaGreatDoor
