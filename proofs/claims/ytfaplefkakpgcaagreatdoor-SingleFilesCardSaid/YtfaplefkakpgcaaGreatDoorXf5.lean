/- A region that draws its order, whose first n operations are quiet in a class of worlds and whose last ones come in one order: one walk in the order of the text serves. (The library has this for one world and, without a tail, for a class of worlds; this joins the two.) -/
import Derived.Test.YtfaplefkakpgcaaGreatDoorXf1
import Derived.StillTail
set_option linter.unusedVariables false
set_option linter.unusedSimpArgs false
set_option maxHeartbeats 32000000
set_option maxRecDepth 100000
namespace Go.Proofs.YtfaplefkakpgcaaGreatDoor
open Go.RowKit
section
variable {P:Program}{ops:Array Oper}{md:Region.Mode}{C:World->Prop}
def headQ (P:Program) (md:Region.Mode) (ops:Array Oper) (C:World->Prop) (n:Nat) (L:Array Bool->Act->Prop):Nat->Array Bool->Act->Prop
 | 0,s,a=>L s a
 | f+1,s,a=>Region.ready md ops s≠[]/\∀i∈Region.ready md ops s,i<n/\qOp P ops C i (headQ P md ops C n L f (s.setIfInBounds i true)) a
theorem any_of_headQ {n g:Nat}{L:Array Bool->Act->Prop}{Q:Exit->Act->World->Prop}(hL:∀s a w,C w->L s a->wpAny P md ops Q g s a w) :
  ∀(f:Nat) (s:Array Bool) (a:Act) (w:World),C w->headQ P md ops C n L f s a->wpAny P md ops Q (f+g) s a w:=by
 intro f;induction f with
 | zero=>intro s a w hw h;rw[Nat.zero_add];exact hL s a w hw h
 | succ f ih => intro s a w hw h;rw[show f+1+g=(f+g)+1 by omega];exact⟨λh0=>absurd h0 h.1,λi hi=>wpOp_of_qOp hw (λa' w' hw' h'=>ih _ a' w' hw' h') (h.2 i hi).2⟩
theorem headQ_first {n i:Nat}{oi:Oper}{v:Value}{L:Array Bool->Act->Prop}(hi:ops[i]? =some oi) (hsel:∀(j:Nat) (o:Oper) cs b,ops[j]? =some o->o.op≠.select cs b)
  (hs:Region.sinkB md ops n=true) (hc:Region.chainB md ops n=true) (hn:n<ops.size) (hin:i<n)
  (hdone:∀s a,L s a->∀j∈Region.ready md ops s,n<=j) :
  ∀(f:Nat) (s:Array Bool) (a:Act),HeadInv md ops n s->
   (∀j oj,ops[j]? =some oj->j≠i->s.getD j true=false->(∀e∈oj.after,Region.binds md e=true->e.on≠i)->oi.apart ops oj=true)->
   i∈Region.ready md ops s->YieldsIn P ops C oi v a->
   headQ P md ops C n L f (s.setIfInBounds i true) (a.put oi.dst v)->headQ P md ops C n L (f+1) s a:=by
 intro f;induction f with
 | zero =>
  intro s a inv _ hr hy H;have hun:=(mem_ready.1 hr).1;refine⟨List.ne_nil_of_mem hr,λj hj=>?_⟩;have hjn:j<n:=Nat.lt_of_not_le λh=>absurd hj (tail_waits hs hc hn inv _ i rfl hin hun j h);refine⟨hjn,?_⟩;by_cases hji:j=i
  ·subst hji;exact hy.qOp hi H
  ·have:=hdone _ _ H j (ready_mono hj hji);omega
 | succ f ih =>
  intro s a inv hfree hr hy H;have hun:=(mem_ready.1 hr).1;refine⟨List.ne_nil_of_mem hr,λj hj=>?_⟩;have hjn:j<n:=Nat.lt_of_not_le λh=>absurd hj (tail_waits hs hc hn inv _ i rfl hin hun j h);refine⟨hjn,?_⟩;by_cases hji:j=i
  ·subst hji;exact hy.qOp hi H
  ·obtain⟨hjun,oj,hoj,hall⟩:=mem_ready.1 hj;have hnot:∀e∈oj.after,Region.binds md e=true->e.on≠i:=λe he hb heq=>by
    have h1:=hall e he hb;rw[heq,getD_both hun]at h1;cases h1
   have h2:=qOp_put hoj (hfree j oj hoj hji hjun hnot) (λcs b=>hsel i oi cs b hi) (λcs b=>hsel j oj cs b hoj) hy (H.2 j (ready_mono hj hji)).2;refine qOp_mono (λa' h3=>ih (s.setIfInBounds j true) a' (inv.set hj hjn) (λk ok hk hki hu hno=>hfree k ok hk hki ?_ hno) (ready_mono hr (Ne.symm hji)) h3.1 ?_) h2
   ·by_cases hjk:j=k
    ·subst hjk;exact hjun
    ·rw[getD_set_ne true hjk]at hu;exact hu
   ·rw[Array.setIfInBounds_comm _ _ hji];exact h3.2
theorem headQ_lex {n g:Nat}{Lq:Act->Prop}(hsel:Region.noSelect ops=true) (hs:Region.sinkB md ops n=true) (hc:Region.chainB md ops n=true) (hn:n<ops.size) :
  ∀(l:List Oper) (k:Nat) (s:Array Bool) (a:Act),(∀j,j<l.length->l[j]? =ops[k+j]?)->k+l.length=n->HeadInv md ops n s->
  Region.lexHead md ops g l.length k s=true->wpQuiet P ops C Lq l a->
  headQ P md ops C n (λs' a'=>Region.seqB md ops g n s'=true/\Lq a') l.length s a:=by
 intro l;induction l with
 | nil =>
  intro k s a _ hk _ hB h;obtain rfl:k=n:=by simpa using hk
  exact⟨by simpa[Region.lexHead]using hB,h⟩
 | cons o l ih =>
  intro k s a hl hk inv hB h;have h0:ops[k]? =some o:=by simpa using(hl 0 (by simp)).symm
  simp only[List.length_cons,Region.lexHead,Bool.and_eq_true]at hB;obtain⟨⟨hr,hf⟩,hB'⟩:=hB;have hkn:k<n:=by simp only[List.length_cons]at hk;omega
  have hr':k∈Region.ready md ops s:=by simpa using hr
  have hst:qOp P ops C k (wpQuiet P ops C Lq l) a:=by unfold qOp;simp only[h0];exact h
  obtain⟨v,hy,hK⟩:=yieldsIn_of_qOp h0 hst
  exact headQ_first h0 (Region.noSelect_spec hsel) hs hc hn hkn (λs' a' hL=>seqB_ready hL.1) l.length s a inv (Region.free_spec h0 hf) hr' hy
   (ih (k+1) _ _ (λj hj=>by have:=hl (j+1) (by simp;omega);simpa[Nat.add_assoc,Nat.add_comm 1 j]using this) (by simp only[List.length_cons]at hk;omega) (inv.set hr' hkn) hB' hK)
theorem any_quiet_tail {Q:Exit->Act->World->Prop}{a:Act}{w:World}{l:List Oper}(n:Nat) (hB:Region.lexTailB .any l.toArray n=true)
  (hC:C { w with drawn:=w.drawn+1 }) (h:wpQuiet P l.toArray C (λa'=>∀w',C w'->wpList P l.toArray Q (l.drop n) a' w') (l.take n) a) :
  wpAny P .any l.toArray Q l.toArray.size (Array.replicate l.toArray.size false) a { w with drawn:=w.drawn+1 }:=by
 simp only[Region.lexTailB,Bool.and_eq_true,decide_eq_true_eq]at hB;obtain⟨⟨⟨⟨hsel,hn⟩,hs⟩,hc⟩,hlex⟩:=hB;have hn':n<l.length:=by simpa using hn
 have htl:(l.take n).length=n:=by simp;omega
 have hdl:(l.drop n).length=l.toArray.size-n:=by simp
 have inv0:HeadInv .any l.toArray n (Array.replicate l.toArray.size false) :=
  ⟨by simp,λj oj _ hl=>(by rw[getD_replicate_false]at hl;cases hl),λt _ ht=>getD_in (by simpa using ht) (getD_replicate_false _ _)⟩
 have H:=headQ_lex (md:=.any) (g:=l.toArray.size-n) hsel hs hc hn (l.take n) 0 _ a (λj hj=>by
  have hj':j<n:=by rw[htl]at hj;exact hj
  simp[hj']) (by simpa using htl) inv0 (by rw[htl];exact hlex) h
 have key:=any_of_headQ (Q:=Q) (g:=l.toArray.size-n) (λs a' w' hw' hL=>by
  have:=wpAny_of_seq (md:=.any) (Q':=Q) (l.drop n) n s a' w' (λj=>by simp[List.getElem?_drop]) (by rw[hdl];exact hL.1) (hL.2 w' hw')
  rwa [hdl]at this) _ _ _ _ hC H
 rw[htl,show n+(l.toArray.size-n)=l.toArray.size by omega]at key;exact key
theorem wp_region_quiet_tail {id:Nat}{Q:Exit->Act->World->Prop}{a:Act}{w:World}{l:List Oper}(n:Nat) (hm:P.follows .mixedOrders=true) (hB:Region.lexTailB .any l.toArray n=true)
  (hC:C { w with drawn:=w.drawn+1 }) (h:wpQuiet P l.toArray C (λa'=>∀w',C w'->wpList P l.toArray Q (l.drop n) a' w') (l.take n) a):(Code.region id l.toArray true).wp P Q a w :=
 wp_region_any hm (any_quiet_tail n hB hC h)
end
theorem wp_region_later_tail {P:Program}{id:Nat}{Q:Exit->Act->World->Prop}{a:Act}{w:World}{l:List Oper}(n:Nat) (hm:P.follows .mixedOrders=true) (hB:Region.lexTailB .any l.toArray n=true)
  (h:wpQuiet P l.toArray (λw'=>∃x:Later w,w'=x.now) (λa'=>∀w',(∃x:Later w,w'=x.now)->wpList P l.toArray Q (l.drop n) a' w') (l.take n) a):(Code.region id l.toArray true).wp P Q a w :=
 wp_region_quiet_tail n hm hB ⟨⟨_,(Ext.refl w).drew⟩,rfl⟩ h
section
variable {P:Program}{ops:Array Oper}{md:Region.Mode}{w0:World}{V:World->Value->Prop}
def cls (w0:World) (S:World->Prop) (w:World):Prop:=Ext w0 w/\S w
def calmUpon (P:Program) (w:World) (v:Value):Result Next->Prop
 | .ok (.value u) w'=>w'=w/\u=v
 | .ok .skip w'=>w'=w/\v=undef
 | .ok (.enter f args) w'=>w'=w/\Calls P f args w (λe w''=>e=.returned v/\Ext w w'')
 | _=>False
def looseUpon (P:Program) (V:World->Value->Prop) (w:World):Result Next->Prop
 | .ok (.value u) w'=>Ext w w'/\V w' u
 | .ok (.enter f args) w'=>w'=w/\Calls P f args w (λe w''=>∃u,e=.returned u/\Ext w w''/\V w'' u)
 | _=>False
def looseAt (P:Program) (o:Oper) (a:Act) (w0:World) (V:World->Value->Prop):Prop:=∀x:Later w0,looseUpon P V x.now ((execOp a.eval o).run P x.now)
def calm (P:Program) (o:Oper) (a:Act) (w0:World) (next:Act->Prop):Prop:=∃v,(∀x:Later w0,calmUpon P x.now v ((execOp a.eval o).run P x.now))/\next (a.put o.dst v)
def wpCalm (P:Program) (ops:Array Oper) (w0:World) (Q:Act->Prop):List Oper->Act->Prop
 | [],a=>Q a
 | o::rest,a=>if Region.wanted o (yielded ops a.tmps) then calm P o a w0 (wpCalm P ops w0 Q rest) else wpCalm P ops w0 Q rest (a.put o.dst undef)
theorem wpCalm_nil {Q:Act->Prop}{a:Act}(h:Q a):wpCalm P ops w0 Q [] a:=h
def YC (P:Program) (ops:Array Oper) (w0:World) (o:Oper) (v:Value) (a:Act):Prop :=
 (Region.wanted o (yielded ops a.tmps)=true/\∀x:Later w0,calmUpon P x.now v ((execOp a.eval o).run P x.now))\/
 (Region.wanted o (yielded ops a.tmps)=false/\v=undef)
theorem YC.of_same {o:Oper}{v:Value}{a a':Act}(hy:YC P ops w0 o v a) (he:execOp a'.eval o=execOp a.eval o)
  (hw:Region.wanted o (yielded ops a'.tmps)=Region.wanted o (yielded ops a.tmps)):YC P ops w0 o v a':=by
 unfold YC at *;rw[he,hw];exact hy
theorem YC.yields {o:Oper}{v:Value}{a:Act}{S:World->Prop}(hS:∀w w',Ext w w'->S w->S w') (hy:YC P ops w0 o v a):YieldsIn P ops (cls w0 S) o v a:=by
 rcases hy with⟨hw,h⟩|h
 ·refine Or.inl ⟨hw,λw hc=>?_⟩;have h1:=h ⟨w,hc.1⟩;unfold Oper.quietAt;simp only at h1;generalize (execOp a.eval o).run P w=r at *;cases r with
  | ok n w' =>
   cases n<;>simp only[calmUpon]at h1<;>simp only[Oper.quietUpon];case value u=>exact h1
   case skip=>exact h1
   case enter f args=>exact⟨h1.1,h1.2.mono λe w'' ⟨he,hx⟩=>⟨he,hc.1.trans hx,hS _ _ hx hc.2⟩⟩
  | halt x w'=>simp only[calmUpon]at h1
 ·exact Or.inr h
theorem yc_of_calm {o:Oper}{a:Act}{K:Act->Prop}(h:if Region.wanted o (yielded ops a.tmps) then calm P o a w0 K else K (a.put o.dst undef)):∃v,YC P ops w0 o v a/\K (a.put o.dst v):=by
 by_cases hw:Region.wanted o (yielded ops a.tmps)=true
 ·rw[if_pos hw]at h;obtain⟨v,h1,h2⟩:=h;exact⟨v,.inl ⟨hw,h1⟩,h2⟩
 ·rw[if_neg hw]at h;exact⟨undef,.inr ⟨by simpa using hw,rfl⟩,h⟩
theorem qOp_putC {C:World->Prop}{j:Nat}{oi oj:Oper}{v:Value}(hj:ops[j]? =some oj) (hap:oi.apart ops oj=true)
  (hsi:∀cs b,oi.op≠.select cs b) (hsj:∀cs b,oj.op≠.select cs b) {K:Act->Prop}{a:Act}
  (hy:YC P ops w0 oi v a) (h:qOp P ops C j K (a.put oi.dst v)) :
  qOp P ops C j (λa'=>YC P ops w0 oi v a'/\K (a'.put oi.dst v)) a:=by
 obtain⟨h1,h2,h3⟩:=Oper.apart_spec hap;have stay:∀u,YC P ops w0 oi v (a.put oj.dst u):=λu=>hy.of_same (execOp_put oi hsi a oj.dst u h3) (wanted_put oi a oj.dst u h3);unfold qOp at *;simp only[hj]at *;rw[wanted_put oj a oi.dst v h1]at h;split
 ·rename_i hw;simp only[hw,if_true]at h;obtain⟨u,hu,hn⟩:=h;refine⟨u,λw hw'=>?_,stay u,by rw[← Act.put_comm a v u h2];exact hn⟩;have:=hu w hw';unfold Oper.quietAt at *
  rwa [execOp_put oj hsj a oi.dst v h1]at this
 ·rename_i hw;simp only[hw]at h;exact⟨stay _,by rw[← Act.put_comm a v undef h2];exact h⟩
theorem wp_of_loose {o:Oper}{a:Act}{K:Act->World->Prop}{Q:Exit->Act->World->Prop}{w:World}(hw:Ext w0 w) (h:looseAt P o a w0 V)
  (hk:∀u w',Ext w0 w'->V w' u->K (a.put o.dst u) w'):o.wp P a w K Q:=by
 have h3:=h ⟨w,hw⟩;simp only at h3;unfold Oper.wp;generalize (execOp a.eval o).run P w=r at *;cases r with
 | ok n w' =>
  cases n<;>simp only[looseUpon]at h3<;>simp only[Oper.upon];case value u=>exact hk _ _ (hw.trans h3.1) h3.2
  case enter f args => obtain⟨e1,hc⟩:=h3;rw[e1];exact hc.mono λe w'' ⟨u,he,hx,hv⟩=>by subst he;exact hk _ _ (hw.trans hx) hv
 | halt x w'=>simp only[looseUpon]at h3
def pend (P:Program) (md:Region.Mode) (ops:Array Oper) (w0:World) (V:World->Value->Prop) (n:Nat) (o0:Oper) (L:Value->Array Bool->Act->Prop):Nat->Array Bool->Act->Prop
 | 0,_,_=>False
 | f+1,s,a=>Region.ready md ops s≠[]/\∀i∈Region.ready md ops s,i<n/\
   (i+1=n->looseAt P o0 a w0 V/\∀u,headQ P md ops (cls w0 (λw=>V w u)) n (L u) f (s.setIfInBounds i true) (a.put o0.dst u))/\
   (i+1≠n->qOp P ops (cls w0 λ_=>True) i (pend P md ops w0 V n o0 L f (s.setIfInBounds i true)) a)
end
attribute [go_sem] calm calmUpon looseAt looseUpon
def NewBox (w0:World) (t:TypeId) (Z:Array Value) (w:World) (u:Value):Prop:=∃g,u=.pointer (some ⟨g,0,none⟩)/\w0.heap.size<=g/\Box w g t Z
theorem NewBox.keep (w0:World) (t:TypeId) (Z:Array Value) (u:Value) (w w':World) (h:Ext w w') (k:NewBox w0 t Z w u):NewBox w0 t Z w' u:=by
 obtain⟨g,e,hg,hb⟩:=k;exact⟨g,e,hg,hb.ext h⟩
theorem newBox_alloc {w0:World}(x:Later w0) (t:TypeId) (Z:Array Value):Ext x.now (x.now.alloc (.cells Z t))/\NewBox w0 t Z (x.now.alloc (.cells Z t)) (.pointer (some ⟨x.now.heap.size,0,none⟩)) :=
 ⟨(Ext.refl _).alloc _,x.now.heap.size,rfl,x.ext.size,Box.new _ _ _⟩
section
variable {P:Program}{ops:Array Oper}
def putsF (us:Nat->Value) (f:Nat->Bool):Nat->List Oper->Act->Act
 | _,[],a=>a
 | i,o::r,a=>putsF us f (i+1) r (if f i then a.put o.dst (us i) else a)
def putsL (us:Nat->Value):Nat->List Oper->Act->Act
 | _,[],a=>a
 | i,o::r,a=>putsL us (i+1) r (a.put o.dst (us i))
theorem putsF_all {us:Nat->Value}{f:Nat->Bool}:∀(l:List Oper) (i:Nat) (a:Act),(∀j,i<=j->j<i+l.length->f j=true)->putsF us f i l a=putsL us i l a
 | [],_,_,_=>rfl
 | o::r,i,a,h=>by rw[putsF,putsL,if_pos (h i (Nat.le_refl _) (by simp))];exact putsF_all r (i+1) _ (λj h1 h2=>h j (by omega) (by simp;omega))
theorem putsF_none {us:Nat->Value}{f:Nat->Bool}:∀(l:List Oper) (i:Nat) (a:Act),(∀j,i<=j->j<i+l.length->f j=false)->putsF us f i l a=a
 | [],_,_,_=>rfl
 | o::r,i,a,h=>by rw[putsF,h i (Nat.le_refl _) (by simp),if_neg (by simp)];exact putsF_none r (i+1) _ (λj h1 h2=>h j (by omega) (by simp;omega))
theorem putsF_congr {us us':Nat->Value}{f f':Nat->Bool}:∀(l:List Oper) (i:Nat) (a:Act),(∀j,i<=j->f j=f' j/\us j=us' j)->putsF us f i l a=putsF us' f' i l a
 | [],_,_,_=>rfl
 | o::r,i,a,h=>by rw[putsF,putsF,(h i (Nat.le_refl _)).1,(h i (Nat.le_refl _)).2];exact putsF_congr r (i+1) _ (λj h1=>h j (by omega))
theorem putsF_put {us:Nat->Value}{f:Nat->Bool}{d:Option Tmp}{u:Value}:∀(l:List Oper) (i:Nat) (a:Act),(∀o∈l,∀t,d=some t->o.dst≠some t)->putsF us f i l (a.put d u)=(putsF us f i l a).put d u
 | [],_,_,_=>rfl
 | o::r,i,a,h=>by
  rw[putsF,putsF];have ih:=λb=>putsF_put (us:=us) (f:=f) (u:=u) r (i+1) b (λo' h'=>h o' (by simp[h']));split
  ·rw[Act.put_comm a u (us i) (h o (by simp)),ih]
  ·rw[ih]
theorem putsF_take {us:Nat->Value}:∀(l:List Oper) (i k:Nat) (a:Act),putsF us (λj=>decide (j<i+k)) i l a=putsL us i (l.take k) a
 | [],_,_,_=>by simp[putsF,putsL]
 | o::r,i,0,a=>by rw[putsF_none _ _ _ (λj h1 h2=>by simpa using h1)];rfl
 | o::r,i,k+1,a=>by rw[putsF,List.take_succ_cons,putsL,if_pos (by simp),← putsF_take r (i+1) k];rw[show i+1+k=i+(k+1) by omega]
theorem putsF_looks {us:Nat->Value}{f g:Nat->Bool}{L:List Tmp}:∀(l:List Oper) (i:Nat) (a b:Act),a.tmps.size=b.tmps.size->(∀t∈L,a.tmps[t]? =b.tmps[t]?)->
  (∀j o,l[j]? =some o->∀d,o.dst=some d->d∈L->f (i+j)=g (i+j))->∀t∈L,(putsF us f i l a).tmps[t]? =(putsF us g i l b).tmps[t]?
 | [],_,a,b,_,h,_=>h
 | o::r,i,a,b,hs,h,hf=>by
  have hone:∀(a b:Act),a.tmps.size=b.tmps.size->(∀t∈L,a.tmps[t]? =b.tmps[t]?)->∀u,(a.put o.dst u).tmps.size=(b.put o.dst u).tmps.size/\∀t∈L,(a.put o.dst u).tmps[t]? =(b.put o.dst u).tmps[t]? :=λa b hs h u=>by
   cases hd:o.dst with
   | none=>exact⟨hs,h⟩
   | some d =>
    refine⟨by simp[Act.put,hs],λt ht=>?_⟩;simp only[Act.put,Array.getElem?_setIfInBounds,hs];split
    ·rfl
    ·exact h t ht
  have hno:∀(a:Act),(∀d,o.dst=some d->d∉L)->∀u,(a.put o.dst u).tmps.size=a.tmps.size/\∀t∈L,(a.put o.dst u).tmps[t]? =a.tmps[t]? :=λa hn u=>by
   cases hd:o.dst with
   | none=>exact⟨rfl,λ_ _=>rfl⟩
   | some d => refine⟨by simp[Act.put],λt ht=>?_⟩;have:d≠t:=λe=>hn d hd (e▸ht);simp[Act.put,Array.getElem?_setIfInBounds_ne this]
  rw[putsF,putsF];refine putsF_looks r (i+1) _ _ ?_ ?_ (λj o' hj d hd hL=>by rw[show i+1+j=i+(j+1) by omega];exact hf (j+1) o' (by simpa using hj) d hd hL)
  all_goals
   by_cases hL:∀d,o.dst=some d->d∉L
  ·have ha:=hno a hL (us i);have hb:=hno b hL (us i);split<;>split<;>simp only[ha,hb,hs]
  ·have e:f i=g i:=by
    simp only[Classical.not_forall,Classical.not_not]at hL;obtain⟨d,hd,hdL⟩:=hL;exact hf 0 o rfl d hd hdL
   rw[e];split
   ·exact(hone a b hs h _).1
   ·exact hs
  ·have ha:=hno a hL (us i);have hb:=hno b hL (us i);intro t ht;split<;>split<;>simp only[ha.2 t ht,hb.2 t ht,h t ht]
  ·have e:f i=g i:=by
    simp only[Classical.not_forall,Classical.not_not]at hL;obtain⟨d,hd,hdL⟩:=hL;exact hf 0 o rfl d hd hdL
   rw[e];split
   ·exact(hone a b hs h _).2
   ·exact h
theorem step_looks {V:World->Value->Prop}{o:Oper}(hs:∀cs b,o.op≠.select cs b) {a b:Act}(h:∀t∈o.looksAt ops,a.tmps[t]? =b.tmps[t]?) :
  execOp a.eval o=execOp b.eval o/\Region.wanted o (yielded ops a.tmps)=Region.wanted o (yielded ops b.tmps):=by
 constructor
 ·refine execOp_congr o hs λx hx=>?_;cases x with
  | tmp t => have:=h t (List.mem_append_left _ (List.mem_filterMap.2 ⟨.tmp t,by simpa using hx,rfl⟩));simp[Act.eval,this]
  | _=>rfl
 ·unfold Region.wanted;cases hg:o.guard with
  | none=>rfl
  | some gw =>
   obtain⟨g,want⟩:=gw;have hy:yielded ops a.tmps g=yielded ops b.tmps g:=by
    unfold yielded;cases ht:(ops[g]?).bind (·.dst) with
    | none=>rfl
    | some t => have:=h t (by simp[Oper.looksAt,hg,ht]);simp[this]
   simp only[hy]
def left (s:Array Bool):Nat->Nat
 | 0=>0
 | n+1=>left s n+if s.getD n true then 0 else 1
theorem left_set {s:Array Bool}{k:Nat}(hk:s.getD k true=false):∀n,left (s.setIfInBounds k true) n+(if k<n then 1 else 0)=left s n
 | 0=>by simp[left]
 | n+1=>by
  have ih:=left_set hk n;rw[left,left];by_cases e:k=n
  ·subst e;have hlt:k<s.size:=by
    refine Nat.lt_of_not_le λh=>?_;simp[Array.getElem?_eq_none h]at hk
   have h1:(s.setIfInBounds k true).getD k true=true:=by simp[hlt]
   rw[h1,hk];simp at ih ⊢;omega
  ·rw[getD_set_ne true e];have:(k<n+1)=(k<n):=by rw[eq_iff_iff];omega
   simp only[this];omega
theorem left_zero {s:Array Bool}:∀n,left s n=0->∀j,j<n->s.getD j true=true
 | 0,_,j,hj=>by omega
 | n+1,h,j,hj=>by
  rw[left]at h;by_cases e:j=n
  ·subst e;cases hs:s.getD j true with
   | true=>rfl
   | false=>rw[hs]at h;simp at h
  ·exact left_zero n (by omega) j (by omega)
theorem left_some {s:Array Bool}:∀n,left s n≠0->∃j,j<n/\s.getD j true=false/\∀i,i<j->s.getD i true=true
 | 0,h=>absurd rfl h
 | n+1,h=>by
  by_cases e:left s n=0
  ·refine⟨n,by omega,?_,left_zero n e⟩;rw[left,e]at h;cases hs:s.getD n true with
   | false=>rfl
   | true=>rw[hs]at h;simp at h
  ·obtain⟨j,h1,h2⟩:=left_some n e;exact⟨j,by omega,h2⟩
def webB (ops:Array Oper) (n:Nat) (D:List (List Nat)):Bool :=
 Region.noSelect ops&&(decide (n=ops.size)||decide (n<ops.size)&&Region.sinkB .any ops n&&Region.chainB .any ops n) &&
 Region.seqB .any ops (ops.size-n) n ((Array.replicate ops.size false).mapIdx λi _=>decide (i<n)) &&
 (List.range n).all λk=>((ops[k]?).map λo =>
  (o.after.all λe=>!Region.binds .any e||decide (e.on<k)) &&
  ((D.getD k []).all λd=>decide (d<k)&&Region.waitsFor .any ops k d) &&
  ((List.range n).all λj=>((ops[j]?).map λp=>match p.dst with
    | none=>true
    | some d=>(decide (j=k)||o.dst != some d)&&(!(o.looksAt ops).contains d||(D.getD k []).contains j)).getD false)).getD false
structure WebOk (ops:Array Oper) (n:Nat) (D:List (List Nat)):Prop where
 sel:Region.noSelect ops=true
 size:n<=ops.size
 tail:n<ops.size->Region.sinkB .any ops n=true/\Region.chainB .any ops n=true
 seq:Region.seqB .any ops (ops.size-n) n ((Array.replicate ops.size false).mapIdx λi _=>decide (i<n))=true
 back:∀k o,k<n->ops[k]? =some o->∀e∈o.after,Region.binds .any e=true->e.on<k
 deps:∀k o,k<n->ops[k]? =some o->∀d∈D.getD k [],d<k/\Region.waitsFor .any ops k d=true
 dsts:∀k o,k<n->ops[k]? =some o->∀j p,j<n->ops[j]? =some p->j≠k->∀d,p.dst=some d->o.dst≠some d
 looks:∀k o,k<n->ops[k]? =some o->∀j p,j<n->ops[j]? =some p->∀d,p.dst=some d->d∈o.looksAt ops->j∈D.getD k []
theorem webOk {n:Nat}{D:List (List Nat)}(h:webB ops n D=true):WebOk ops n D:=by
 unfold webB at h;rw[Bool.and_eq_true,Bool.and_eq_true,Bool.and_eq_true]at h;obtain⟨⟨⟨h1,h2⟩,h3⟩,h4⟩:=h;rw[Bool.or_eq_true,Bool.and_eq_true,Bool.and_eq_true]at h2
 have hk:∀k o,k<n->ops[k]? =some o->(o.after.all λe=>!Region.binds .any e||decide (e.on<k))=true/\((D.getD k []).all λd=>decide (d<k)&&Region.waitsFor .any ops k d)=true/\
   ((List.range n).all λj=>((ops[j]?).map λp=>match p.dst with
   | none=>true
   | some d=>(decide (j=k)||o.dst != some d)&&(!(o.looksAt ops).contains d||(D.getD k []).contains j)).getD false)=true:=λk o hkn ho=>by
  have:=List.all_eq_true.1 h4 k (List.mem_range.2 hkn);rw[ho]at this;simp only[Option.map_some,Option.getD_some,Bool.and_eq_true]at this;exact⟨this.1.1,this.1.2,this.2⟩
 refine⟨h1,?_,λhn=>?_,h3,λk o hkn ho e he hb=>?_,λk o hkn ho d hd=>?_,λk o hkn ho j p hjn hp hne d hd hod=>?_,λk o hkn ho j p hjn hp d hd hL=>?_⟩
 ·rcases h2 with h2|h2
  ·have:=of_decide_eq_true h2;omega
  ·have:=of_decide_eq_true h2.1.1;omega
 ·rcases h2 with h2|h2
  ·have:=of_decide_eq_true h2;omega
  ·exact⟨h2.1.2,h2.2⟩
 ·have h5:=(hk k o hkn ho).1;rw[Array.all_eq_true_iff_forall_mem]at h5;have:=h5 e he;rw[hb]at this;simpa using this
 ·have:=List.all_eq_true.1 (hk k o hkn ho).2.1 d hd;rw[Bool.and_eq_true]at this;exact⟨of_decide_eq_true this.1,this.2⟩
 ·have:=List.all_eq_true.1 (hk k o hkn ho).2.2 j (List.mem_range.2 hjn);rw[hp]at this;simp only[Option.map_some,Option.getD_some,hd,Bool.and_eq_true,Bool.or_eq_true,decide_eq_true_eq,bne_iff_ne]at this;exact(this.1.resolve_left hne) hod
 ·have:=List.all_eq_true.1 (hk k o hkn ho).2.2 j (List.mem_range.2 hjn);rw[hp]at this;simp only[Option.map_some,Option.getD_some,hd,Bool.and_eq_true,Bool.or_eq_true,Bool.not_eq_true',List.contains_iff_mem]at this;rcases this.2 with h6|h6
  ·have h7:(o.looksAt ops).contains d=true:=List.contains_iff_mem.2 hL;rw[h6]at h7;cases h7
  ·exact h6
theorem putsF_set {us us':Nat->Value}{f f':Nat->Bool}{k:Nat}{o:Oper}(hfk:f k=false) (hfk':f' k=true) (hne:∀j,j≠k->f' j=f j/\us' j=us j) :
  ∀(l:List Oper) (i:Nat) (a:Act),i<=k->l[k-i]? =some o->(∀j p,l[j]? =some p->i+j≠k->∀t,o.dst=some t->p.dst≠some t)->putsF us' f' i l a=(putsF us f i l a).put o.dst (us' k)
 | [],i,a,_,h,_=>by simp at h
 | p::r,i,a,hi,h,hd=>by
  rw[putsF,putsF];by_cases e:i=k
  ·subst e;have ho:p=o:=by simpa using h
   subst ho;rw[hfk,hfk',if_pos rfl,if_neg (by simp)];rw[putsF_congr (us:=us') (us':=us) (f:=f') (f':=f) r (i+1) _ (λj hj=>hne j (by omega))];exact putsF_put r (i+1) a (λq hq t ht=>by
    obtain⟨j,hj,hjq⟩:=List.mem_iff_getElem.1 hq;exact hd (j+1) q (by simp[hj,hjq]) (by omega) t ht)
  ·rw[(hne i e).1,(hne i e).2]
   exact putsF_set hfk hfk' hne r (i+1) _ (by omega) (by rw[show k-i=(k-(i+1))+1 by omega]at h;simpa using h)
    (λj q hj hne' t ht=>hd (j+1) q (by simpa using hj) (by omega) t ht)
end
section
variable {P:Program}{ops:Array Oper}
def kUpon (P:Program) (R:World->World->Prop) (V:World->Value->Prop) (w:World):Result Next->Prop
 | .ok (.value u) w'=>R w w'/\V w' u
 | .ok .skip w'=>R w w'/\V w' undef
 | .ok (.enter f args) w'=>Calls P f args w' (λe w''=>∃u,e=.returned u/\R w w''/\V w'' u)
 | .ok (.row row args) w'=>Rows P row args w' (λu w''=>R w w''/\V w'' u)
 | _=>False
theorem wp_of_k {o:Oper}{a:Act}{R:World->World->Prop}{V:World->Value->Prop}{K:Act->World->Prop}{Q:Exit->Act->World->Prop}{w:World}(h:kUpon P R V w ((execOp a.eval o).run P w))
  (hk:∀u w',R w w'->V w' u->K (a.put o.dst u) w'):o.wp P a w K Q:=by
 unfold Oper.wp;generalize (execOp a.eval o).run P w=r at *;cases r with
 | ok n w' =>
  cases n<;>simp only[kUpon]at h<;>simp only[Oper.upon];case value u=>exact hk _ _ h.1 h.2
  case skip=>exact hk _ _ h.1 h.2
  case enter f args => exact h.mono λe w'' ⟨u,he,hx,hv⟩=>by subst he;exact hk _ _ hx hv
  case row row args=>exact h.mono λu w'' ⟨hx,hv⟩=>hk _ _ hx hv
 | halt x w'=>simp only[kUpon]at h
def kStepG (P:Program) (ops:Array Oper) (R:World->World->Prop) (V:World->Value->Prop) (o:Oper) (a:Act) (w:World):Prop :=
 (Region.wanted o (yielded ops a.tmps)=true/\kUpon P R V w ((execOp a.eval o).run P w))\/(Region.wanted o (yielded ops a.tmps)=false/\R w w/\V w undef)
theorem g_of_list {R:World->World->Prop}{V:World->Value->Prop}{o:Oper}{a:Act}{w:World}(d:Tmp) (hd:o.dst=some d) (hlt:d<a.tmps.size)
  (h:wpList P ops (λx a' w'=>x=.normal/\∃u,a'=a.put o.dst u/\R w w'/\V w' u) [o] a w):kStepG P ops R V o a w:=by
 have inj:∀u u',a.put o.dst u=a.put o.dst u'->u=u':=λu u' e=>by rw[hd]at e;have e2:=congrArg (λb:Act=>b.tmps[d]?) e;simpa[Act.put,hlt]using e2
 by_cases hw:Region.wanted o (yielded ops a.tmps)=true
 ·refine .inl ⟨hw,?_⟩;rw[wpList,if_pos hw]at h;rcases h with h|⟨_,_,_,h,_⟩
  ·unfold Oper.wp at h;generalize (execOp a.eval o).run P w=r at *;cases r with
   | ok n w' =>
    cases n<;>simp only[Oper.upon,wpList]at h<;>simp only[kUpon];case value u => obtain⟨_,u',e,hx,hv⟩:=h;rw[inj u u' e];exact⟨hx,hv⟩
    case skip => obtain⟨_,u',e,hx,hv⟩:=h;rw[inj undef u' e];exact⟨hx,hv⟩
    case defer df => obtain⟨_,u',e,_⟩:=h;rw[hd]at e;have e2:=congrArg (λb:Act=>b.defers.length) e;simp[Act.put]at e2
    case enter f args =>
     refine h.mono λe w'' he=>?_;cases e with
     | returned v => obtain⟨_,u',e,hx,hv⟩:=he;exact⟨v,rfl,hx,by rw[inj v u' e];exact hv⟩
     | panicked c=>obtain⟨he,_⟩:=he;cases he
     | outgrown=>obtain⟨_,_,he,_⟩:=he;cases he
    case row row args => refine h.mono λu w'' he=>?_;obtain⟨_,u',e,hx,hv⟩:=he;rw[inj u u' e];exact⟨hx,hv⟩
   | halt x w' => cases x<;>simp only[Oper.upon]at h;obtain⟨h,_⟩:=h;cases h
  ·cases h
 ·refine .inr ⟨by simpa using hw,?_⟩;rw[wpList,if_neg hw]at h;simp only[wpList]at h;obtain⟨_,u',e,hx,hv⟩:=h;rw[inj undef u' e];exact⟨hx,hv⟩
theorem g_of_store {R:World->World->Prop}{V:World->Value->Prop}{o:Oper}{a:Act}{w:World}(hd:o.dst=none) (hg:o.guard=none) (hV:∀w u,V w undef->V w u)
  (h:wpList P ops (λx a' w'=>x=.normal/\a'=a/\R w w'/\V w' undef) [o] a w):kStepG P ops R V o a w:=by
 have hw:Region.wanted o (yielded ops a.tmps)=true:=by simp[Region.wanted,hg]
 refine .inl ⟨hw,?_⟩;rw[wpList,if_pos hw]at h;rcases h with h|⟨_,_,_,h,_⟩
 ·unfold Oper.wp at h;generalize (execOp a.eval o).run P w=r at *;cases r with
  | ok n w' =>
   cases n<;>simp only[Oper.upon,wpList]at h<;>simp only[kUpon];case value u => obtain⟨_,e,hx,hv⟩:=h;exact⟨hx,hV _ _ hv⟩
   case skip => obtain⟨_,e,hx,hv⟩:=h;exact⟨hx,hv⟩
   case defer df => obtain⟨_,e,_⟩:=h;have e2:=congrArg (λb:Act=>b.defers.length) e;simp[Act.put,hd]at e2
   case enter f args =>
    refine h.mono λe w'' he=>?_;cases e with
    | returned v => obtain⟨_,e,hx,hv⟩:=he;exact⟨v,rfl,hx,hV _ _ hv⟩
    | panicked c=>obtain⟨he,_⟩:=he;cases he
    | outgrown=>obtain⟨_,_,he,_⟩:=he;cases he
   case row row args => refine h.mono λu w'' he=>?_;obtain⟨_,e,hx,hv⟩:=he;exact⟨hx,hV _ _ hv⟩
  | halt x w' => cases x<;>simp only[Oper.upon]at h;obtain⟨h,_⟩:=h;cases h
 ·cases h
def updU (us:Nat->Value) (k:Nat) (u:Value):Nat->Value:=λj=>if j=k then u else us j
theorem updU_at (us:Nat->Value) (k:Nat) (u:Value):updU us k u k=u:=by simp[updU]
def mWalk (H:Nat->Oper->Act->Prop) (T:Act->Prop) (us:Nat->Value):Nat->List Oper->Act->Prop
 | _,[],a=>T a
 | k,o::r,a=>H k o a/\mWalk H T us (k+1) r (a.put o.dst (us k))
theorem mWalk_parts {H:Nat->Oper->Act->Prop}{T:Act->Prop}{us:Nat->Value}:∀(l:List Oper) (k:Nat) (a:Act),mWalk H T us k l a->
  (∀j o,l[j]? =some o->H (k+j) o (putsL us k (l.take j) a))/\T (putsL us k l a)
 | [],_,_,h=>⟨λj o hj=>by simp at hj,h⟩
 | o::r,k,a,h=>by
  obtain⟨h1,h2⟩:=mWalk_parts r (k+1) _ h.2;refine⟨λj o' hj=>?_,h2⟩;cases j with
  | zero =>
   have:o=o':=by simpa using hj
   subst this;exact h.1
  | succ j => have:=h1 j o' (by simpa using hj);rw[show k+1+j=k+(j+1) by omega]at this;exact this
theorem mWalk_of {H:Nat->Oper->Act->Prop}{T:Act->Prop}(us:Nat->Value):∀(l:List Oper) (k:Nat) (a:Act),(∀j o,l[j]? =some o->H (k+j) o (putsL us k (l.take j) a))->T (putsL us k l a)->mWalk H T us k l a
 | [],_,_,_,h=>h
 | o::r,k,a,h1,h2=>⟨h1 0 o rfl,mWalk_of us r (k+1) _ (λj p hj=>by have:=h1 (j+1) p (by simpa using hj);rw[show k+1+j=k+(j+1) by omega];exact this) h2⟩
theorem mWalk_mono {H H':Nat->Oper->Act->Prop}{T T':Act->Prop}{us:Nat->Value}(n:Nat) (h1:∀k o a,k<n->H k o a->H' k o a) (h2:∀a,T a->T' a):∀(l:List Oper) (k:Nat) (a:Act),k+l.length<=n->mWalk H T us k l a->mWalk H' T' us k l a
 | [],_,_,_,h=>h2 _ h
 | _::r,k,_,hn,h=>⟨h1 _ _ _ (by simp at hn;omega) h.1,mWalk_mono n h1 h2 r (k+1) _ (by simp at hn;omega) h.2⟩
theorem any_of_webM {Q:Exit->Act->World->Prop}{a:Act}{l:List Oper}{n nv:Nat}{D E:List (List Nat)}{V:Nat->World->(Nat->Value)->Prop}{C:World->Prop}{R:Nat->World->World->Prop}{lost:Nat->Nat->Bool}(hok:WebOk l.toArray n D) (hnv:n<=nv) (hE:∀i d,d∈E.getD i []->n<=d/\d<nv)
  (hKD:∀i d k,i<n->d∈D.getD i []++E.getD i []->k<n->lost k d=true->∀s,HeadInv .any l.toArray n s->s.getD i true=false->s.getD k true=false)
  (hC:∀k w w',C w->R k w w'->C w')
  (hcong:∀j w us us',j<nv->(j<n->us j=us' j/\∀d∈D.getD j [],us d=us' d)->V j w us->V j w us')
  (hV:∀j k w w' us,j<nv->j≠k->lost k j=false->C w->R k w w'->V j w us->V j w' us)
  (hstep:∀k o,k<n->l[k]? =some o->∀us w',C w'->(∀d∈D.getD k []++E.getD k [],V d w' us)->kStepG P l.toArray (R k) (λw u=>V k w (updU us k u)) o (putsL us 0 (l.take k) a) w')
  (htail:∀us w',C w'->(∀j,j<nv->(∀k,k<n->lost k j=false)->V j w' us)->wpList P l.toArray Q (l.drop n) (putsL us 0 (l.take n) a) w') :
  ∀(f:Nat) (s:Array Bool) (w:World) (us:Nat->Value),left s n=f->HeadInv .any l.toArray n s->C w->(∀j,j<nv->(j<n->s.getD j true=true)->(∀k,k<n->lost k j=true->s.getD k true=false)->V j w us)->
   wpAny P .any l.toArray Q (f+(l.length-n)) s (putsF us (λj=>s.getD j true) 0 (l.take n) a) w:=by
 have hnl:n<=l.length:=by simpa using hok.size
 have htl:(l.take n).length=n:=by simp;omega
 intro f;induction f with
 | zero =>
  intro s w us hl inv hx hv;have hall:=left_zero n hl;have hsz:s.size=l.length:=by simpa using inv.size
  rw[putsF_all _ _ _ (λj _ h2=>hall j (by omega)),Nat.zero_add];have hs:s=(Array.replicate l.toArray.size false).mapIdx λi _=>decide (i<n):=by
   apply Array.ext
   ·simp[hsz]
   ·intro i h1 h2;simp only[Array.getElem_mapIdx];by_cases e:i<n
    ·have:=hall i e;simp[h1]at this;simp[e,this]
    ·have:=inv.tail i (by omega) (by simpa[hsz]using h1);simp[h1]at this;simp[e,this]
  have:=wpAny_of_seq (P:=P) (md:=.any) (ops:=l.toArray) (Q':=Q) (l.drop n) n s (putsL us 0 (l.take n) a) w (λj=>by simp[List.getElem?_drop]) (by rw[hs,List.length_drop];simpa using hok.seq) (htail us w hx (λj hj hls=>hv j hj (λhjn=>hall j hjn) (λk hk h=>by rw[hls k hk]at h;cases h)))
  rwa [List.length_drop]at this
 | succ f ih =>
  intro s w us hl inv hx hv;obtain⟨j,hjn,hj,hjl⟩:=left_some (s:=s) n (by omega);have hsz:s.size=l.length:=by simpa using inv.size
  have hdone:∀i,i<l.length->s.getD i true=true->s.getD i false=true:=λi hi h=>by
   have:i<s.size:=by omega
   simp[this]at h ⊢;exact h
  have hjr:j∈Region.ready .any l.toArray s:=mem_ready.2 ⟨hj,l[j]'(by omega),by simp[show j<l.length by omega],λe he hb=>by
   have hlt:=hok.back j _ hjn (by simp[show j<l.length by omega]) e he hb;exact hdone _ (by omega) (hjl _ hlt)⟩
  rw[show f+1+(l.length-n)=(f+(l.length-n))+1 by omega];refine⟨λh0=>(by rw[h0]at hjr;cases hjr),λi hi=>?_⟩;obtain⟨hiu,o,ho,hall⟩:=mem_ready.1 hi;have hil:i<l.length:=by have:=(Array.getElem?_eq_some_iff.1 ho).1;simpa using this
  have hin:i<n:=by
   refine Nat.lt_of_not_le λh=>?_;have hlt:n<l.toArray.size:=by simp;omega
   exact tail_waits (hok.tail hlt).1 (hok.tail hlt).2 hlt inv _ j rfl hjn hj i h hi
  have hol:l[i]? =some o:=by simpa using ho
  have hdeps:∀d∈D.getD i [],d<i/\s.getD d true=true:=λd hd=>by
   obtain⟨h1,h2⟩:=hok.deps i o hin ho d hd;obtain⟨o',ho',e,he,hb,hon⟩:=Region.waitsFor_spec h2;have:o'=o:=Option.some.inj (ho'.symm.trans ho);subst this;have h3:=hall e he hb;rw[hon]at h3;have hds:d<s.size:=by omega
   refine⟨h1,?_⟩;simp[hds]at h3 ⊢;exact h3
  have hst:=hstep i o hin hol us w hx (λd hd=>(List.mem_append.1 hd).elim (λh1=>hv d (by have:=(hdeps d h1).1;omega) (λ_=>(hdeps d h1).2) (λk hk hls=>hKD i d k hin hd hk hls s inv hiu)) (λh1=>hv d (hE i d h1).2 (λh2=>absurd h2 (by have:=(hE i d h1).1;omega)) (λk hk hls=>hKD i d k hin hd hk hls s inv hiu)));have hlk:∀t∈o.looksAt l.toArray,(putsF us (λj=>s.getD j true) 0 (l.take n) a).tmps[t]? =(putsL us 0 (l.take i) a).tmps[t]? :=by
   have e1:putsL us 0 (l.take i) a=putsF us (λj=>decide (j<0+i)) 0 (l.take n) a:=by rw[putsF_take,List.take_take,Nat.min_eq_left (by omega)]
   rw[e1];refine putsF_looks (l.take n) 0 a a rfl (λ_ _=>rfl) (λj' p hj' d hd hL=>?_);have hj'n:j'<n:=by have:=(List.getElem?_eq_some_iff.1 hj').1;simp at this;omega
   have hp:l.toArray[j']? =some p:=by rw[List.getElem?_take,if_pos hj'n]at hj';simpa using hj'
   have hD:=hdeps j' (hok.looks i o hin ho j' p hj'n hp d hd hL);rw[Nat.zero_add,hD.2];simp[hD.1]
  obtain⟨hex,hwa⟩:=step_looks (V:=λ_ _=>True) (ops:=l.toArray) (Region.noSelect_spec hok.sel i o · · ho) hlk;have next:∀u w',R i w w'->V i w' (updU us i u)->wpAny P .any l.toArray Q (f+(l.length-n)) (s.setIfInBounds i true) ((putsF us (λj=>s.getD j true) 0 (l.take n) a).put o.dst u) w':=λu w' hxx hvu=>by
   have hset:=putsF_set (us:=us) (us':=updU us i u) (f:=λj=>s.getD j true) (f':=λj=>(s.setIfInBounds i true).getD j true) (k:=i) (o:=o) hiu (by simp[hsz,hil]) (λj hj=>⟨getD_set_ne true (Ne.symm hj),by simp[updU,hj]⟩) (l.take n) 0 a (by omega)
    (by rw[Nat.sub_zero,List.getElem?_take,if_pos hin];exact hol) (λj' p hj' hne t ht hpt=>by
     have hj'n:j'<n:=by have:=(List.getElem?_eq_some_iff.1 hj').1;simp at this;omega
     have hp:l.toArray[j']? =some p:=by rw[List.getElem?_take,if_pos hj'n]at hj';simpa using hj'
     exact hok.dsts i o hin ho j' p hj'n hp (by omega) t hpt ht)
   have hui:updU us i u i=u:=by simp[updU]
   rw[hui]at hset;rw[← hset];refine ih _ _ _ ?_ (inv.set hi hin) (hC i w w' hx hxx) (λj' hj' hd hkd=>?_)
   ·have:=left_set hiu n;rw[if_pos hin]at this;omega
   ·by_cases e:j'=i
    ·subst e;exact hvu
    ·have hli:lost i j'=false:=by
      cases hq:lost i j' with
      | false=>rfl
      | true =>
       have h:=hkd i hin hq;have hsi:(s.setIfInBounds i true).getD i true=true:=by simp[hsz,hil]
       rw[hsi]at h;cases h
     have hkm:∀k,k<n->lost k j'=true->s.getD k true=false:=λk hk hq=>by
      have hne:k≠i:=λe2=>by rw[e2,hli]at hq;cases hq
      have h:=hkd k hk hq
      rwa [getD_set_ne true (Ne.symm hne)]at h
     have hd':j'<n->s.getD j' true=true:=λh=>by
      have:=hd h
      rwa [getD_set_ne true (Ne.symm e)]at this
     refine hcong j' w' us _ hj' (λhjn'=>⟨by simp[updU,e],λd hd2=>?_⟩) (hV j' i w w' _ hj' e hli hx hxx (hv j' hj' hd' hkm));obtain⟨o',ho'⟩:∃o',l.toArray[j']? =some o':=⟨l[j']'(by omega),by simp[show j'<l.length by omega]⟩
     have hne:d≠i:=λh=>by
      subst h;obtain⟨h1,h2⟩:=hok.deps j' o' hjn' ho' d hd2;obtain⟨o2,ho2,e2,he2,hb2,hon2⟩:=Region.waitsFor_spec h2;have hj2:s.getD j' false=true:=hdone _ (by omega) (hd' hjn');have h3:=inv.closed j' o2 ho2 hj2 e2 he2 hb2;rw[hon2]at h3;have hds:d<s.size:=by omega
      simp[hds]at h3 hiu;rw[h3]at hiu;cases hiu
     simp[updU,hne]
  unfold wpOp;simp only[ho];rcases hst with⟨hst1,hst2⟩|⟨hst1,hst2,hst3⟩
  ·rw[← hwa]at hst1;rw[← hex]at hst2;rw[if_pos hst1];exact .inl (wp_of_k hst2 next)
  ·rw[← hwa]at hst1;rw[if_neg (by rw[hst1];decide)];exact next undef w hst2 hst3
theorem webM_any {Q:Exit->Act->World->Prop}{a:Act}{w:World}{l:List Oper}(n nv:Nat) (D E:List (List Nat)) (V:Nat->World->(Nat->Value)->Prop) (C:World->Prop) (R:Nat->World->World->Prop) (lost:Nat->Nat->Bool) (hB:webB l.toArray n D=true) (hnv:n<=nv) (hE:∀i d,d∈E.getD i []->n<=d/\d<nv)
  (hKD:∀i d k,i<n->d∈D.getD i []++E.getD i []->k<n->lost k d=true->∀s,HeadInv .any l.toArray n s->s.getD i true=false->s.getD k true=false)
  (hC0:C w.drew) (hV0:∀j us,n<=j->j<nv->V j w.drew us) (hC:∀k w w',C w->R k w w'->C w')
  (hcong:∀j w us us',j<nv->(j<n->us j=us' j/\∀d∈D.getD j [],us d=us' d)->V j w us->V j w us')
  (hV:∀j k w w' us,j<nv->j≠k->lost k j=false->C w->R k w w'->V j w us->V j w' us)
  (h:∀us,mWalk (λk o a=>∀w',C w'->(∀d∈D.getD k []++E.getD k [],V d w' us)->kStepG P l.toArray (R k) (λw u=>V k w (updU us k u)) o a w') (λa'=>∀w',C w'->(∀j,j<nv->(∀k,k<n->lost k j=false)->V j w' us)->wpList P l.toArray Q (l.drop n) a' w') us 0 (l.take n) a) :
  wpAny P .any l.toArray Q l.toArray.size (Array.replicate l.toArray.size false) a w.drew:=by
 have hok:=webOk hB
 have inv0:HeadInv .any l.toArray n (Array.replicate l.toArray.size false) :=
  ⟨by simp,λj oj _ hl=>(by rw[getD_replicate_false]at hl;cases hl),λt _ ht=>getD_in (by simpa using ht) (getD_replicate_false _ _)⟩
 have hnl:n<=l.length:=by simpa using hok.size
 have hnone:∀j,j<n->(Array.replicate l.toArray.size false).getD j true=false:=λj hj=>getD_in (by simp;omega) (getD_replicate_false _ _);have hl:left (Array.replicate l.toArray.size false) n=n:=by
  have:∀m,m<=n->left (Array.replicate l.toArray.size false) m=m:=λm=>by
   induction m with
   | zero=>intro _;rfl
   | succ m ih=>intro h;rw[left,ih (by omega),hnone m (by omega)];rfl
  exact this n (Nat.le_refl _)
 have key:=any_of_webM (Q:=Q) (a:=a) (lost:=lost) hok hnv hE hKD hC hcong hV (λk o hk ho us w' hx hd=>by
  have:=(mWalk_parts _ _ _ (h us)).1 k o (by rw[List.getElem?_take,if_pos hk];exact ho);rw[Nat.zero_add,List.take_take,Nat.min_eq_left (by omega)]at this;exact this w' hx hd) (λus w' hx hv=>(mWalk_parts _ _ _ (h us)).2 w' hx hv) n _ w.drew (λ_=>undef) hl inv0 hC0
  (λj hj hd _=>(Nat.lt_or_ge j n).elim (λh2=>by have:=hd h2;rw[hnone j h2]at this;cases this) (λh2=>hV0 j _ h2 hj))
 rw[putsF_none _ _ _ (λj _ h2=>hnone j (by simp at h2;omega))]at key;rw[show n+(l.length-n)=l.toArray.size by simp;omega]at key;exact key
end
section
variable {P:Program}{ops:Array Oper}{Q:Exit->Act->World->Prop}{a:Act}{w:World}{l:List Oper}
theorem web_any (n:Nat) (D:List (List Nat)) (V:Nat->World->Value->Prop) (hB:webB l.toArray n D=true)
  (hV:∀k w w' u,Ext w w'->V k w u->V k w' u)
  (h:∀us,mWalk (λk o a=>∀w',Ext w w'->(∀d∈D.getD k [],V d w' (us d))->kStepG P l.toArray (λx y=>Ext x y) (V k) o a w') (λa'=>∀w',Ext w w'->(∀k,k<n->V k w' (us k))->wpList P l.toArray Q (l.drop n) a' w') us 0 (l.take n) a) :
  wpAny P .any l.toArray Q l.toArray.size (Array.replicate l.toArray.size false) a w.drew:=by
 refine webM_any n n D [] (λk w us=>V k w (us k)) (λx=>Ext w x) (λ_ x y=>Ext x y) (λ_ _=>false) hB (Nat.le_refl _) (λi d hd=>by simp at hd) (λi d k _ _ _ h=>by cases h) ((Ext.refl w).drew) (λj us h1 h2=>by omega) (λk x y h1 h2=>h1.trans h2)
  (λj x us us' hj h h2=>by rw[← (h hj).1];exact h2) (λj k x y us _ _ _ _ r h=>hV j x y _ r h) (λus=>mWalk_mono n (λk o a _ H w' hx hd=>?_) (λa' T w' hx hv=>T w' hx (λk hk=>hv k hk (λ_ _=>rfl))) _ _ _ (by simp;omega) (h us))
 simp only[updU_at];exact H w' hx (λd h2=>hd d (List.mem_append_left _ h2))
theorem wp_region_web' {id:Nat}(n:Nat) (D:List (List Nat)) (V:Nat->World->Value->Prop) (hm:P.follows .mixedOrders=true) (hB:webB l.toArray n D=true)
  (hV:∀k w w' u,Ext w w'->V k w u->V k w' u)
  (h:∀us,mWalk (λk o a=>∀w',Ext w w'->(∀d∈D.getD k [],V d w' (us d))->kStepG P l.toArray (λx y=>Ext x y) (V k) o a w') (λa'=>∀w',Ext w w'->(∀k,k<n->V k w' (us k))->wpList P l.toArray Q (l.drop n) a' w') us 0 (l.take n) a):(Code.region id l.toArray true).wp P Q a w :=
 wp_region_any hm (web_any n D V hB hV h)
theorem web_of_list {V:World->Value->Prop}{o:Oper}(d:Tmp) (hd:o.dst=some d) (hlt:d<a.tmps.size) (_:o.guard=none)
  (h:wpList P ops (λx a' w'=>x=.normal/\∃u,a'=a.put o.dst u/\Ext w w'/\V w' u) [o] a w):kStepG P ops (λx y=>Ext x y) V o a w:=g_of_list d hd hlt h
end
def listV (l:List (World->Value->Prop)) (k:Nat):World->Value->Prop:=(l[k]?).getD (λ_ _=>True)
def isV (v:Value):World->Value->Prop:=λ_ u=>u=v
def Lasts (p:World->Value->Prop):Prop:=∀w w' u,Ext w w'->p w u->p w' u
theorem lasts_is (v:Value):Lasts (isV v):=λ_ _ _ _ h=>h
theorem listV_ext {l:List (World->Value->Prop)}(h:∀p∈l,Lasts p) (k:Nat) (w w':World) (u:Value) (hx:Ext w w') (hv:listV l k w u):listV l k w' u:=by
 unfold listV at *;cases hk:l[k]? with
 | none=>trivial
 | some p => rw[hk]at hv;exact h p (List.mem_of_getElem? hk) w w' u hx hv
def rowV (n:Nat) (t:TypeId) (cs:Array Value):World->Value->Prop:=λw u=>∃g,u=.slice (some ⟨g,0,none⟩) n n/\Box w g t cs
theorem lasts_row (n:Nat) (t:TypeId) (cs:Array Value):Lasts (rowV n t cs):=λ_ _ _ hx ⟨g,e,hb⟩=>⟨g,e,hb.ext hx⟩
section
variable {P:Program}{Q:Exit->Act->World->Prop}{a:Act}{w:World}
theorem row_step {ops:Array Oper}{rest:List Oper}{o:Oper}{n:Nat}{T:TypeId}{cs:Array Value}{d:Tmp}(hd:o.dst=some d) (hlt:d<a.tmps.size) (hg:o.guard=none)
  (h:wpList P ops (λx a' w'=>x=.normal/\∃u,a'=a.put o.dst u/\Ext w w'/\rowV n T cs w' u) [o] a w)
  (hK:∀g w',Ext w w'->Box w' g T cs->wpList P ops Q rest (a.put o.dst (.slice (some ⟨g,0,none⟩) n n)) w'):wpList P ops Q (o::rest) a w:=by
 have hw:Region.wanted o (yielded ops a.tmps)=true:=by simp[Region.wanted,hg]
 rcases g_of_list (V:=rowV n T cs) (R:=λx y=>Ext x y) d hd hlt h with⟨_,h2⟩|⟨h2,_⟩
 ·rw[wpList,if_pos hw];exact .inl (wp_of_k h2 (λu w' hx ⟨g,e,hb⟩=>by subst e;exact hK g w' hx hb))
 ·rw[hw]at h2;cases h2
end
section
variable {P:Program}{Q:Exit->Act->World->Prop}{a:Act}{w:World}{l:List Oper}
def RetC (w:World) (rb:Nat) (T:TypeId) (z:Nat) (x:World):Prop:=But rb w x/\∃cs,Box x rb T cs/\cs.size=z
def RetR (rb:Nat) (T:TypeId) (cells:Array Value) (m k:Nat) (x y:World):Prop:=if k=m then But rb x y/\Box y rb T cells else Ext x y
def RetV (rb:Nat) (T:TypeId) (cells:Array Value) (m:Nat) (vs:List Value) (k:Nat) (w:World) (us:Nat->Value):Prop:=if k=m then Box w rb T cells else us k=(vs[k]?).getD undef
theorem RetR.same {rb m k:Nat}{T:TypeId}{cells:Array Value}{x:World}(h:k≠m):RetR rb T cells m k x x:=by unfold RetR;rw[if_neg h];exact Ext.refl x
theorem RetR.ext {rb m k:Nat}{T:TypeId}{cells:Array Value}{x y:World}(h:k≠m) (e:Ext x y):RetR rb T cells m k x y:=by unfold RetR;rw[if_neg h];exact e
theorem RetR.st {rb m:Nat}{T:TypeId}{cells:Array Value}{x y:World}(h:But rb x y) (hb:Box y rb T cells):RetR rb T cells m m x y:=by unfold RetR;rw[if_pos rfl];exact⟨h,hb⟩
theorem RetV.of {rb m k:Nat}{T:TypeId}{cells:Array Value}{vs:List Value}{x:World}{us:Nat->Value}(h:k≠m) (e:us k=(vs[k]?).getD undef):RetV rb T cells m vs k x us:=by unfold RetV;rw[if_neg h];exact e
theorem RetV.st {rb m:Nat}{T:TypeId}{cells:Array Value}{vs:List Value}{x:World}{us:Nat->Value}(h:Box x rb T cells):RetV rb T cells m vs m x us:=by unfold RetV;rw[if_pos rfl];exact h
theorem RetV.at {rb m k:Nat}{T:TypeId}{cells:Array Value}{vs:List Value}{x:World}{us:Nat->Value}(hk:k≠m) (h:RetV rb T cells m vs k x us):us k=(vs[k]?).getD undef:=by unfold RetV at h;rw[if_neg hk]at h;exact h
theorem RetV.bx {rb m:Nat}{T:TypeId}{cells:Array Value}{vs:List Value}{x:World}{us:Nat->Value}(h:RetV rb T cells m vs m x us):Box x rb T cells:=by unfold RetV at h;rw[if_pos rfl]at h;exact h
theorem wp_region_ret {id:Nat}(n:Nat) (D:List (List Nat)) (vs:List Value) (m rb:Nat) (T:TypeId) (cells old:Array Value) (hm:P.follows .mixedOrders=true) (hB:webB l.toArray n D=true)
  (hb:Box w rb T old) (hs:old.size=cells.size)
  (h:∀us,mWalk (λk o a=>∀w',RetC w.drew rb T cells.size w'->(∀d∈D.getD k [],RetV rb T cells m vs d w' us)->kStepG P l.toArray (RetR rb T cells m k) (λw u=>RetV rb T cells m vs k w (updU us k u)) o a w') (λa'=>∀w',RetC w.drew rb T cells.size w'->(∀k,k<n->RetV rb T cells m vs k w' us)->wpList P l.toArray Q (l.drop n) a' w') us 0 (l.take n) a):(Code.region id l.toArray true).wp P Q a w:=by
 refine wp_region_any hm (webM_any n n D [] (RetV rb T cells m vs) (RetC w.drew rb T cells.size) (RetR rb T cells m) (λ_ _=>false) hB (Nat.le_refl _) (λi d hd=>by simp at hd) (λi d k _ _ _ h=>by cases h) ⟨But.refl _ _,old,hb.ext ((Ext.refl w).drew),hs⟩ (λj us h1 h2=>by omega) (λk x y hx r=>?_) (λj x us us' hj e h=>?_) (λj k x y us hj hjk _ hx r h=>?_)
  (λus=>mWalk_mono n (λk o a _ H w' hx hd=>H w' hx (λd h2=>hd d (List.mem_append_left _ h2))) (λa' T w' hx hv=>T w' hx (λk hk=>hv k hk (λ_ _=>rfl))) _ _ _ (by simp;omega) (h us)))
 ·unfold RetR at r;split at r
  ·exact⟨hx.1.trans r.1,cells,r.2,rfl⟩
  ·obtain⟨h1,cs,h2,h3⟩:=hx;exact⟨h1.then' r,cs,h2.ext r,h3⟩
 ·unfold RetV at h ⊢;split
  ·rename_i e2;rw[if_pos e2]at h;exact h
  ·rename_i e2;rw[if_neg e2]at h;rw[← (e hj).1];exact h
 ·unfold RetR at r;unfold RetV at h ⊢;by_cases e:k=m
  ·subst e;rw[if_neg hjk]at h ⊢;exact h
  ·rw[if_neg e]at r;split
   ·rename_i e2;rw[if_pos e2]at h;exact h.ext r
   ·rename_i e2;rw[if_neg e2]at h;exact h
theorem wp_region_vals {id:Nat}(n:Nat) (D:List (List Nat)) (vs:List Value) (hm:P.follows .mixedOrders=true) (hB:webB l.toArray n D=true)
  (h:∀us:Nat->Value,mWalk (λk o a=>∀w',Ext w w'->(∀d∈D.getD k [],us d=(vs[d]?).getD undef)->kStepG P l.toArray (λx y=>Ext x y) (λ_ u=>u=(vs[k]?).getD undef) o a w') (λa'=>∀w',Ext w w'->(∀k,k<n->us k=(vs[k]?).getD undef)->wpList P l.toArray Q (l.drop n) a' w') us 0 (l.take n) a):(Code.region id l.toArray true).wp P Q a w :=
 wp_region_web' n D (λk _ u=>u=(vs[k]?).getD undef) hm hB (λ_ _ _ _ _ h=>h) h
theorem put_size (a:Act) (d:Option Tmp) (u:Value):(a.put d u).tmps.size=a.tmps.size:=by
 cases d<;>simp[Act.put]
theorem putsL_looks {us us':Nat->Value}{L:List Tmp}:∀(l:List Oper) (i:Nat) (a b:Act),a.tmps.size=b.tmps.size->(∀t∈L,a.tmps[t]? =b.tmps[t]?)->
  (∀j o,l[j]? =some o->∀d,o.dst=some d->d∈L->us (i+j)=us' (i+j))->∀t∈L,(putsL us i l a).tmps[t]? =(putsL us' i l b).tmps[t]?
 | [],_,a,b,_,h,_=>h
 | o::r,i,a,b,hs,h,hf=>by
  rw[putsL,putsL];refine putsL_looks r (i+1) _ _ (by rw[put_size,put_size,hs]) (λt ht=>?_) (λj p hj d hd hL=>by have:=hf (j+1) p (by simpa using hj) d hd hL;rw[show i+1+j=i+(j+1) by omega];exact this);cases hd:o.dst with
  | none=>exact h t ht
  | some d =>
   by_cases e:d=t
   ·subst e;have:=hf 0 o rfl d hd ht;rw[Nat.add_zero]at this;simp only[Act.put];rw[Array.getElem?_setIfInBounds_self,Array.getElem?_setIfInBounds_self,hs,this]
   ·simp only[Act.put];rw[Array.getElem?_setIfInBounds_ne e,Array.getElem?_setIfInBounds_ne e];exact h t ht
theorem putsL_congr {us us':Nat->Value}:∀(l:List Oper) (i:Nat) (a:Act),(∀j,j<l.length->us (i+j)=us' (i+j))->putsL us i l a=putsL us' i l a
 | [],_,_,_=>rfl
 | o::r,i,a,h=>by rw[putsL,putsL,show us i=us' i from h 0 (by simp)];exact putsL_congr r (i+1) _ (λj hj=>by have:=h (j+1) (by simpa using hj);rw[show i+1+j=i+(j+1) by omega];exact this)
def vWalk (H:Nat->Oper->Act->Value->Prop) (T:Act->Prop):Nat->List Oper->List Value->Act->Prop
 | _,[],_,a=>T a
 | _,_::_,[],a=>T a
 | k,o::r,v::vs,a=>H k o a v/\vWalk H T (k+1) r vs (a.put o.dst v)
theorem vW {ops:Array Oper}{o:Oper}{r:List Oper}{v:Value}{vs:List Value}{T:Act->Prop}{w0:World}{k:Nat}{d:Tmp}(hd:o.dst=some d) (hlt:d<a.tmps.size)
  (h:∀w,Ext w0 w->wpList P ops (λx a' w'=>x=.normal/\∃u,a'=a.put o.dst u/\Ext w w'/\u=v) [o] a w) (hr:vWalk (λ_ o a v=>∀w',Ext w0 w'->kStepG P ops (λx y=>Ext x y) (λ_ u=>u=v) o a w') T (k+1) r vs (a.put o.dst v)) :
  vWalk (λ_ o a v=>∀w',Ext w0 w'->kStepG P ops (λx y=>Ext x y) (λ_ u=>u=v) o a w') T k (o::r) (v::vs) a:=⟨λw' hx=>g_of_list d hd hlt (h w' hx),hr⟩
theorem vWalk_parts {H:Nat->Oper->Act->Value->Prop}{T:Act->Prop}(us:Nat->Value):∀(l:List Oper) (vs:List Value) (k:Nat) (a:Act),l.length=vs.length->(∀j v,vs[j]? =some v->us (k+j)=v)->vWalk H T k l vs a->
  (∀j o,l[j]? =some o->H (k+j) o (putsL us k (l.take j) a) (us (k+j)))/\T (putsL us k l a)
 | [],[],_,_,_,_,h=>⟨λj o hj=>by simp at hj,h⟩
 | o::r,v::vs,k,a,hl,hu,h=>by
  have h0:us k=v:=hu 0 v rfl;obtain⟨h1,h2⟩:=vWalk_parts us r vs (k+1) _ (by simpa using hl) (λj u hj=>by have:=hu (j+1) u (by simpa using hj);rw[show k+1+j=k+(j+1) by omega];exact this) h.2;refine⟨λj o' hj=>?_,by rw[putsL,h0];exact h2⟩;cases j with
  | zero =>
   have:o=o':=by simpa using hj
   subst this;rw[Nat.add_zero,h0];exact h.1
  | succ j => have:=h1 j o' (by simpa using hj);rw[show k+1+j=k+(j+1) by omega]at this;rw[List.take_succ_cons,putsL,h0];exact this
theorem kStepG_looks {R:World->World->Prop}{V:World->Value->Prop}{o:Oper}(hs:∀cs b,o.op≠.select cs b) {ops:Array Oper}{a b:Act}(h:∀t∈o.looksAt ops,a.tmps[t]? =b.tmps[t]?) (hk:kStepG P ops R V o b w):kStepG P ops R V o a w:=by
 obtain⟨h1,h2⟩:=step_looks (V:=λ_ _=>True) hs h;unfold kStepG;rw[h1,h2];exact hk
theorem wp_region_known {id:Nat}(n:Nat) (D:List (List Nat)) (vs:List Value) (hm:P.follows .mixedOrders=true) (hB:webB l.toArray n D=true) (hn:vs.length=n)
  (h:vWalk (λ_ o a v=>∀w',Ext w w'->kStepG P l.toArray (λx y=>Ext x y) (λ_ u=>u=v) o a w') (λa'=>∀w',Ext w w'->wpList P l.toArray Q (l.drop n) a' w') 0 (l.take n) vs a):(Code.region id l.toArray true).wp P Q a w:=by
 have hok:=webOk hB;have hnl:n<=l.length:=by simpa using hok.size
 have hp:=vWalk_parts (λk=>(vs[k]?).getD undef) (l.take n) vs 0 a (by simp;omega) (λj v hj=>by simp[hj]) h;refine wp_region_vals n D vs hm hB (λus=>mWalk_of us _ _ _ (λj o hj w' hx hd=>?_) (λw' hx hv=>?_))
 ·have hjn:j<n:=by have:=(List.getElem?_eq_some_iff.1 hj).1;simp at this;omega
  have hol:l[j]? =some o:=by rw[List.getElem?_take,if_pos hjn]at hj;exact hj
  have h1:=hp.1 j o hj w' hx;rw[Nat.zero_add]at h1 hd ⊢;refine kStepG_looks (Region.noSelect_spec hok.sel j o · · (by simpa using hol)) (putsL_looks _ _ _ _ rfl (λ_ _=>rfl) (λi p hi d hdd hL=>?_)) h1;rw[List.take_take,List.getElem?_take]at hi;have hij:i<j:=by
   by_cases e:i<min j n
   ·omega
   ·rw[if_neg e]at hi;cases hi
  rw[if_pos (by omega)]at hi;rw[Nat.zero_add];exact hd i (hok.looks j o hjn (by simpa using hol) i p (by omega) (by simpa using hi) d hdd hL)
 ·have:=hp.2 w' hx
  rwa [putsL_congr (us':=λk=>(vs[k]?).getD undef) _ _ _ (λj hj=>by rw[Nat.zero_add];exact hv j (by simp at hj;omega))]
end
section
variable {P:Program}{ops:Array Oper}{a:Act}{w:World}
def kStep (P:Program) (ops:Array Oper) (R:World->World->Prop) (V:World->Value->Prop) (o:Oper) (a:Act) (w:World):Prop :=
 Region.wanted o (yielded ops a.tmps)=true/\kUpon P R V w ((execOp a.eval o).run P w)
theorem k_of_list {R:World->World->Prop}{V:World->Value->Prop}{o:Oper}(d:Tmp) (hd:o.dst=some d) (hlt:d<a.tmps.size) (hg:o.guard=none)
  (h:wpList P ops (λx a' w'=>x=.normal/\∃u,a'=a.put o.dst u/\R w w'/\V w' u) [o] a w):kStep P ops R V o a w :=
 (g_of_list d hd hlt h).elim id (λh=>by
  have:Region.wanted o (yielded ops a.tmps)=true:=by simp[Region.wanted,hg]
  rw[h.1]at this;cases this)
end
section
variable {P:Program}{Q:Exit->Act->World->Prop}{a:Act}{w:World}{l:List Oper}
theorem wp_region_webP' {id:Nat}(n:Nat) (D:List (List Nat)) (V:Nat->World->Value->Prop) (C:World->Prop) (PP:Nat->World->Prop) (R:Nat->World->World->Prop) (m:Nat) (kd:List Nat) (hm:P.follows .mixedOrders=true) (hB:webB l.toArray n D=true)
  (hKD:((List.range n).all λi=>decide (i=m)||(D.getD i []).all λd=>!kd.contains d)=true) (hC0:C { w with drawn:=w.drawn+1 }) (hP0:∀j,PP j { w with drawn:=w.drawn+1 })
  (hC:∀k w w',C w->R k w w'->C w')
  (hP:∀j k w w',j≠k->C w->PP j w->R k w w'->PP j w')
  (hV:∀j k w w' u,j<n->j≠k->(k=m->j∉kd)->C w->R k w w'->V j w u->V j w' u)
  (h:∀us,mWalk (λk o a=>∀w',C w'->PP k w'->(∀d∈D.getD k [],V d w' (us d))->kStep P l.toArray (R k) (V k) o a w') (λa'=>∀w',C w'->(∀k,k<n->k∉kd->V k w' (us k))->wpList P l.toArray Q (l.drop n) a' w') us 0 (l.take n) a):(Code.region id l.toArray true).wp P Q a w:=by
 have hok:=webOk hB;refine wp_region_any hm (webM_any n (n+n) D ((List.range n).map λk=>[n+k]) (λj w us=>if j<n then V j w (us j) else PP (j-n) w) C R (λk j=>(decide (k=m)&&(kd.contains j&&decide (j<n)))||decide (j=n+k)) hB (by omega) (λi d hd=>?_) (λi d k hi hd hk hl s inv hs=>?_) hC0 (λj us h1 h2=>by rw[if_neg (by omega)];exact hP0 _) hC (λj x us us' hj h h2=>?_) (λj k x y us hj hne hl hx r h2=>?_) (λus=>?_))
 ·by_cases hi:i<n
  ·rw[List.getD_eq_getElem?_getD,List.getElem?_map,List.getElem?_range hi]at hd;have:d=n+i:=by simpa using hd
   omega
  ·rw[List.getD_eq_getElem?_getD,List.getElem?_eq_none (by simpa using hi)]at hd;simp at hd
 ·rcases List.mem_append.1 hd with hd|hd
  ·have hdi:=(hok.deps i (l[i]'(by have:=hok.size;simp at this;omega)) hi (by simp) d hd).1;rw[Bool.or_eq_true]at hl;rcases hl with hl|hl
   ·rw[Bool.and_eq_true]at hl;have h:=List.all_eq_true.1 hKD i (List.mem_range.2 hi);rw[Bool.or_eq_true]at h;rcases h with h|h
    ·rw[of_decide_eq_true hl.1,← of_decide_eq_true h];exact hs
    ·have h2:=List.all_eq_true.1 h d hd;rw[Bool.and_eq_true]at hl;rw[hl.2.1]at h2;cases h2
   ·have:=of_decide_eq_true hl;omega
  ·rw[List.getD_eq_getElem?_getD,List.getElem?_map,List.getElem?_range hi]at hd;have hdn:d=n+i:=by simpa using hd
   subst hdn;rw[Bool.or_eq_true]at hl;rcases hl with hl|hl
   ·rw[Bool.and_eq_true]at hl;rw[Bool.and_eq_true]at hl;have:=of_decide_eq_true hl.2.2;omega
   ·have:=of_decide_eq_true hl;rw[show k=i by omega];exact hs
 ·by_cases e:j<n
  ·rw[if_pos e]at h2 ⊢;rw[← (h e).1];exact h2
  ·rw[if_neg e]at h2 ⊢;exact h2
 ·rw[Bool.or_eq_false_iff,Bool.and_eq_false_iff]at hl;by_cases e:j<n
  ·rw[if_pos e]at h2 ⊢;exact hV j k x y _ e hne (λhk hkd=>hl.1.elim (λh=>of_decide_eq_false h hk) (λh=>by rw[List.contains_iff_mem.2 hkd,decide_eq_true e]at h;cases h)) hx r h2
  ·rw[if_neg e]at h2 ⊢;exact hP _ k x y (λh=>of_decide_eq_false hl.2 (by omega)) hx h2 r
 ·refine mWalk_mono n (λk o a hk H w' hx hd=>?_) (λa' T w' hx hv=>T w' hx (λk hk hkd=>?_)) _ _ _ (by simp;omega) (h us)
  ·have hpp:PP k w':=by
    have:=hd (n+k) (List.mem_append_right _ (by rw[List.getD_eq_getElem?_getD,List.getElem?_map,List.getElem?_range hk];simp));rw[if_neg (by omega),show n+k-n=k by omega]at this;exact this
   have hdd:∀d∈D.getD k [],V d w' (us d):=λd h2=>by have hlt:=(hok.deps k (l[k]'(by have:=hok.size;simp at this;omega)) hk (by simp) d h2).1;have:=hd d (List.mem_append_left _ h2);rw[if_pos (by omega)]at this;exact this
   have h3:=H w' hx hpp hdd;simp only[updU_at,if_pos hk];exact .inl h3
  ·have:=hv k (by omega) (λi hi=>by
    rw[Bool.or_eq_false_iff];refine⟨?_,decide_eq_false (by omega)⟩;rw[Bool.and_eq_false_iff,Bool.and_eq_false_iff];refine .inr (.inl ?_);cases hc:kd.contains k with
    | false=>rfl
    | true=>exact absurd (List.contains_iff_mem.1 hc) hkd)
   rw[if_pos hk]at this;exact this
end
section
variable {P:Program}{ops:Array Oper}{md:Region.Mode}{w0:World}{V:World->Value->Prop}
def orderB (md:Region.Mode) (ops:Array Oper) (g n:Nat):List Nat->Array Bool->Bool
 | [],s=>Region.seqB md ops g n s
 | k::ks,s=>(decide (k<n)&&(Region.ready md ops s).contains k&&Region.free md ops s k)&&orderB md ops g n ks (s.setIfInBounds k true)
def orderM (md:Region.Mode) (ops:Array Oper) (g n m:Nat) (ks2:List Nat):List Nat->Array Bool->Bool
 | [],s=>(Region.ready md ops s==[m])&&orderB md ops g n ks2 (s.setIfInBounds m true)
 | k::ks,s=>(decide (k<n)&&decide (k≠m)&&(Region.ready md ops s).contains k&&Region.free md ops s k)&&orderM md ops g n m ks2 ks (s.setIfInBounds k true)
def Named (ops:Array Oper):List Nat->List Oper->Prop
 | [],l=>l=[]
 | k::ks,l=>∃o l',l=o::l'/\ops[k]? =some o/\Named ops ks l'
def pickL (l:List Oper) (ks:List Nat):List Oper:=ks.filterMap λk=>l[k]?
theorem named_pick (l:List Oper) (ks:List Nat) (h:ks.all (λk=>decide (k<l.length))=true):Named l.toArray ks (pickL l ks):=by
 induction ks with
 | nil=>rfl
 | cons k ks ih => simp only[List.all_cons,Bool.and_eq_true,decide_eq_true_eq]at h;refine⟨l[k]'h.1,pickL l ks,?_,by simp[h.1],ih h.2⟩;simp[pickL,h.1]
theorem headQ_order {C:World->Prop}{n g:Nat}{Lq:Act->Prop}(hsel:Region.noSelect ops=true) (hs:Region.sinkB md ops n=true) (hc:Region.chainB md ops n=true) (hn:n<ops.size) :
  ∀(ks:List Nat) (l:List Oper) (s:Array Bool) (a:Act),Named ops ks l->HeadInv md ops n s->orderB md ops g n ks s=true->wpQuiet P ops C Lq l a->
  headQ P md ops C n (λs' a'=>Region.seqB md ops g n s'=true/\Lq a') ks.length s a:=by
 intro ks;induction ks with
 | nil => intro l s a hN _ hB h;subst hN;exact⟨hB,h⟩
 | cons k ks ih =>
  intro l s a hN inv hB h;obtain⟨o,l',rfl,h0,hN'⟩:=hN;simp only[orderB,Bool.and_eq_true,decide_eq_true_eq]at hB;obtain⟨⟨⟨hkn,hr⟩,hf⟩,hB'⟩:=hB;have hr':k∈Region.ready md ops s:=by simpa using hr
  have hst:qOp P ops C k (wpQuiet P ops C Lq l') a:=by unfold qOp;simp only[h0];exact h
  obtain⟨v,hy,hK⟩:=yieldsIn_of_qOp h0 hst
  exact headQ_first h0 (Region.noSelect_spec hsel) hs hc hn hkn (λs' a' hL=>seqB_ready hL.1) ks.length s a inv (Region.free_spec h0 hf) hr' hy
   (ih l' _ _ hN' (inv.set hr' hkn) hB' hK)
def pendM (P:Program) (md:Region.Mode) (ops:Array Oper) (w0:World) (V:World->Value->Prop) (n m:Nat) (o0:Oper) (L:Value->Array Bool->Act->Prop):Nat->Array Bool->Act->Prop
 | 0,_,_=>False
 | f+1,s,a=>Region.ready md ops s≠[]/\∀i∈Region.ready md ops s,i<n/\
   (i=m->looseAt P o0 a w0 V/\∀u,(∃w,V w u)->headQ P md ops (cls w0 (λw=>V w u)) n (L u) f (s.setIfInBounds i true) (a.put o0.dst u))/\
   (i≠m->qOp P ops (cls w0 λ_=>True) i (pendM P md ops w0 V n m o0 L f (s.setIfInBounds i true)) a)
theorem any_of_pendM {n m g:Nat}{o0:Oper}{L:Value->Array Bool->Act->Prop}{Q:Exit->Act->World->Prop}(h0:ops[m]? =some o0) (hg0:o0.guard=none)
  (hL:∀u s a w,cls w0 (λw=>V w u) w->L u s a->wpAny P md ops Q g s a w) :
  ∀(f:Nat) (s:Array Bool) (a:Act) (w:World),Ext w0 w->pendM P md ops w0 V n m o0 L f s a->wpAny P md ops Q (f+g) s a w:=by
 intro f;induction f with
 | zero=>intro s a w _ h;exact h.elim
 | succ f ih =>
  intro s a w hw h;rw[show f+1+g=(f+g)+1 by omega];refine⟨λh0=>absurd h0 h.1,λi hi=>?_⟩;obtain⟨hin,h1,h2⟩:=h.2 i hi;by_cases e:i=m
  ·obtain⟨hl,hd⟩:=h1 e;have hi0:ops[i]? =some o0:=by rw[e];exact h0
   unfold wpOp;simp only[hi0];have hwant:Region.wanted o0 (yielded ops a.tmps)=true:=by simp[Region.wanted,hg0]
   rw[if_pos hwant];exact Or.inl (wp_of_loose hw hl λu w' hx hv=>any_of_headQ (hL u) f _ _ w' ⟨hx,hv⟩ (hd u ⟨w',hv⟩))
  ·exact wpOp_of_qOp (C:=cls w0 λ_=>True) ⟨hw,trivial⟩ (λa' w' hw' h'=>ih _ a' w' hw'.1 h') (h2 e)
theorem pendM_first {n m i:Nat}{oi o0:Oper}{v:Value}{L:Value->Array Bool->Act->Prop}(hV:∀u w w',Ext w w'->V w u->V w' u) (h0:ops[m]? =some o0)
  (hi:ops[i]? =some oi) (hsel:∀(j:Nat) (o:Oper) cs b,ops[j]? =some o->o.op≠.select cs b)
  (hs:Region.sinkB md ops n=true) (hc:Region.chainB md ops n=true) (hn:n<ops.size) (hin:i<n) (him:i≠m)
  (hdone:∀u s a,L u s a->∀j∈Region.ready md ops s,n<=j) :
  ∀(f:Nat) (s:Array Bool) (a:Act),HeadInv md ops n s->
   (∀j oj,ops[j]? =some oj->j≠i->s.getD j true=false->(∀e∈oj.after,Region.binds md e=true->e.on≠i)->oi.apart ops oj=true)->
   i∈Region.ready md ops s->YC P ops w0 oi v a->
   pendM P md ops w0 V n m o0 L f (s.setIfInBounds i true) (a.put oi.dst v)->pendM P md ops w0 V n m o0 L (f+1) s a:=by
 intro f;induction f with
 | zero=>intro s a _ _ _ _ H;exact H.elim
 | succ f ih =>
  intro s a inv hfree hr hy H;have hun:=(mem_ready.1 hr).1;refine⟨List.ne_nil_of_mem hr,λj hj=>?_⟩;have hjn:j<n:=Nat.lt_of_not_le λh=>absurd hj (tail_waits hs hc hn inv _ i rfl hin hun j h);obtain⟨hjun,oj,hoj,hall⟩:=mem_ready.1 hj;have hnot:j≠i->∀e∈oj.after,Region.binds md e=true->e.on≠i:=λ_ e he hb heq=>by have h1:=hall e he hb;rw[heq,getD_both hun]at h1;cases h1
  have hfree':j≠i->∀k ok,ops[k]? =some ok->k≠i->(s.setIfInBounds j true).getD k true=false->(∀e∈ok.after,Region.binds md e=true->e.on≠i)->oi.apart ops ok=true:=λ_ k ok hk hki hu hno=>by
   refine hfree k ok hk hki ?_ hno;by_cases hjk:j=k
   ·subst hjk;exact hjun
   ·rw[getD_set_ne true hjk]at hu;exact hu
  refine⟨hjn,λe=>?_,λe=>?_⟩
  ·have hji:j≠i:=λe'=>him (e'▸e);have hj0:oj=o0:=Option.some.inj (by rw[← hoj,← h0,e]);subst hj0;obtain⟨k1,k2,k3⟩:=Oper.apart_spec (hfree j oj hoj hji hjun (hnot hji));obtain⟨_,hq,_⟩:=H.2 j (ready_mono hj hji);obtain⟨hl,hd⟩:=hq e;refine⟨λx=>?_,λu hu=>?_⟩
   ·have:=hl x
    rwa [execOp_put oj (λcs b=>hsel j oj cs b hoj) a oi.dst v k1]at this
   ·have hy':YC P ops w0 oi v (a.put oj.dst u):=hy.of_same (execOp_put oi (λcs b=>hsel i oi cs b hi) a oj.dst u k3) (wanted_put oi a oj.dst u k3);refine headQ_first hi hsel hs hc hn hin (hdone u) f (s.setIfInBounds j true) (a.put oj.dst u) (inv.set hj hjn) (hfree' hji) (ready_mono hr (Ne.symm hji)) (hy'.yields (hV u)) ?_;rw[Array.setIfInBounds_comm _ _ hji,← Act.put_comm a v u k2];exact hd u hu
  ·by_cases hji:j=i
   ·subst hji;have:oj=oi:=Option.some.inj (hoj.symm.trans hi);subst this;exact(hy.yields (S:=λ_=>True) (λ_ _ _ _=>trivial)).qOp hi H
   ·have h2:=qOp_putC hoj (hfree j oj hoj hji hjun (hnot hji)) (λcs b=>hsel i oi cs b hi) (λcs b=>hsel j oj cs b hoj) hy ((H.2 j (ready_mono hj hji)).2.2 e);refine qOp_mono (λa' h3=>ih (s.setIfInBounds j true) a' (inv.set hj hjn) (hfree' hji) (ready_mono hr (Ne.symm hji)) h3.1 ?_) h2;rw[Array.setIfInBounds_comm _ _ hji];exact h3.2
theorem pendM_order {n m g:Nat}{o0:Oper}{T:Value->Act->Prop}(hV:∀u w w',Ext w w'->V w u->V w' u) (h0:ops[m]? =some o0) (hmn:m<n)
  (hsel:Region.noSelect ops=true) (hs:Region.sinkB md ops n=true) (hc:Region.chainB md ops n=true) (hn:n<ops.size) (ks2:List Nat) (l2:List Oper) (hN2:Named ops ks2 l2) :
  ∀(ks:List Nat) (l:List Oper) (s:Array Bool) (a:Act),Named ops ks l->HeadInv md ops n s->
  orderM md ops g n m ks2 ks s=true->wpCalm P ops w0 (λa=>looseAt P o0 a w0 V/\∀u,(∃w,V w u)->wpQuiet P ops (cls w0 λw=>V w u) (T u) l2 (a.put o0.dst u)) l a->
  pendM P md ops w0 V n m o0 (λu s' a'=>Region.seqB md ops g n s'=true/\T u a') (ks.length+1+ks2.length) s a:=by
 intro ks;induction ks with
 | nil =>
  intro l s a hN inv hB h;subst hN;simp only[orderM,Bool.and_eq_true,beq_iff_eq]at hB;obtain⟨hr,hB'⟩:=hB;have hrm:m∈Region.ready md ops s:=by rw[hr];simp
  rw[show([]:List Nat).length+1+ks2.length=ks2.length+1 by simp;omega];refine⟨by rw[hr];simp,λi hi=>?_⟩;rw[hr,List.mem_singleton]at hi;subst hi;exact⟨hmn,λ_=>⟨h.1,λu hu=>headQ_order hsel hs hc hn ks2 l2 _ _ hN2 (inv.set hrm hmn) hB' (h.2 u hu)⟩,λe=>absurd rfl e⟩
 | cons k ks ih =>
  intro l s a hN inv hB h;obtain⟨o,l',rfl,h1,hN'⟩:=hN;simp only[orderM,Bool.and_eq_true,decide_eq_true_eq]at hB;obtain⟨⟨⟨⟨hkn,hkm⟩,hr⟩,hf⟩,hB'⟩:=hB;have hr':k∈Region.ready md ops s:=by simpa using hr
  obtain⟨v,hy,hK⟩:=yc_of_calm h;rw[show(k::ks).length+1+ks2.length=(ks.length+1+ks2.length)+1 by simp;omega]
  exact pendM_first hV h0 h1 (Region.noSelect_spec hsel) hs hc hn hkn hkm (λu s' a' hL=>seqB_ready hL.1) _ s a inv (Region.free_spec h1 hf) hr' hy
   (ih l' _ _ hN' (inv.set hr' hkn) hB' hK)
theorem wp_region_drift {id:Nat}{Q:Exit->Act->World->Prop}{a:Act}{w:World}{l:List Oper}(n m:Nat) (ks1 ks2:List Nat) (V:World->Value->Prop) (hV:∀u w w',Ext w w'->V w u->V w' u) (o0:Oper)
  (hm:P.follows .mixedOrders=true) (hsel:Region.noSelect l.toArray=true) (hs:Region.sinkB .any l.toArray n=true) (hc:Region.chainB .any l.toArray n=true) (hn:n<l.toArray.size) (hmn:m<n) (hlen:ks1.length+1+ks2.length=n)
  (hB:orderM .any l.toArray (l.toArray.size-n) n m ks2 ks1 (Array.replicate l.toArray.size false)=true) (h0:l[m]? =some o0) (hg0:o0.guard=none) (hN1:ks1.all (λk=>decide (k<l.length))=true) (hN2:ks2.all (λk=>decide (k<l.length))=true)
  (h:wpCalm P l.toArray w (λa'=>looseAt P o0 a' w V/\∀u,(∃w,V w u)->wpQuiet P l.toArray (cls w λw'=>V w' u) (λa''=>∀w',cls w (λw'=>V w' u) w'->wpList P l.toArray Q (l.drop n) a'' w') (pickL l ks2) (a'.put o0.dst u)) (pickL l ks1) a):(Code.region id l.toArray true).wp P Q a w:=by
 have hdl:(l.drop n).length=l.toArray.size-n:=by simp
 have inv0:HeadInv .any l.toArray n (Array.replicate l.toArray.size false) :=
  ⟨by simp,λj oj _ hl=>(by rw[getD_replicate_false]at hl;cases hl),λt _ ht=>getD_in (by simpa using ht) (getD_replicate_false _ _)⟩
 have H:=pendM_order (md:=.any) (g:=l.toArray.size-n) hV (o0:=o0) (by simpa using h0) hmn hsel hs hc hn ks2 _ (named_pick l ks2 hN2) ks1 _ _ a (named_pick l ks1 hN1) inv0 hB h;refine wp_region_any hm ?_;have key:=any_of_pendM (Q:=Q) (g:=l.toArray.size-n) (by simpa using h0) hg0 (λu s a' w' hw' hL=>by
  have:=wpAny_of_seq (md:=.any) (Q':=Q) (l.drop n) n s a' w' (λj=>by simp[List.getElem?_drop]) (by rw[hdl];exact hL.1) (hL.2 w' hw')
  rwa [hdl]at this) _ _ _ _ ((Ext.refl w).drew) H
 rw[hlen,show n+(l.toArray.size-n)=l.toArray.size by omega]at key;exact key
end
theorem wpCalm_plain {P:Program}{ops:Array Oper}{w0:World}{Q:Act->Prop}{a:Act}{o:Oper}{rest:List Oper}(hg:o.guard=none) (v:Value) (h:∀x:Later w0,calmUpon P x.now v ((execOp a.eval o).run P x.now)) (hK:wpCalm P ops w0 Q rest (a.put o.dst v)):wpCalm P ops w0 Q (o::rest) a:=by
 unfold wpCalm;rw[if_pos (by simp[Region.wanted,hg])];exact⟨v,h,hK⟩
theorem wpCalm_then {P:Program}{ops:Array Oper}{w0:World}{Q:Act->Prop}{l:List Oper}{a:Act}(a1:Act) (h1:wpCalm P ops w0 (λa'=>a'=a1) l a) (h2:Q a1):wpCalm P ops w0 Q l a:=by
 induction l generalizing a with
 | nil=>rw[show a=a1 from h1];exact h2
 | cons o l ih =>
  unfold wpCalm at h1 ⊢;split
  ·rename_i h;rw[if_pos h]at h1;obtain⟨v,hv,hn⟩:=h1;exact⟨v,hv,ih hn⟩
  ·rename_i h;rw[if_neg h]at h1;exact ih h1
end Go.Proofs.YtfaplefkakpgcaaGreatDoor
