import Derived.Test.YtfaplefkakpgcaaGreatDoorQa1
import Derived.StillTail
set_option linter.unusedVariables false
set_option linter.unusedSimpArgs false
set_option maxHeartbeats 32000000
set_option maxRecDepth 100000
namespace Go.Proofs.YtfaplefkakpgcaaGreatDoor
open Go.RowKit
section
variable {P:Program}{ops:Array Oper}{md:Region.Mode}{C:World->Prop}
def Mh (P:Program) (md:Region.Mode) (ops:Array Oper) (C:World->Prop) (n:Nat) (L:Array Bool->Act->Prop):Nat->Array Bool->Act->Prop
 | 0,s,a=>L s a
 | f+1,s,a=>Region.ready md ops s≠[]/\∀i∈Region.ready md ops s,i<n/\qOp P ops C i (Mh P md ops C n L f (s.setIfInBounds i true)) a
theorem M1 {n g:Nat}{L:Array Bool->Act->Prop}{Q:Exit->Act->World->Prop}(hL:∀s a w,C w->L s a->wpAny P md ops Q g s a w) :
  ∀(f:Nat) (s:Array Bool) (a:Act) (w:World),C w->Mh P md ops C n L f s a->wpAny P md ops Q (f+g) s a w:=by
 intro f;induction f with
 | zero=>intro s a w hw h;rw[Ux];exact hL s a w hw h
 | succ f ih => intro s a w hw h;rw[show f+1+g=(f+g)+1 by omega];exact⟨λh0=>absurd h0 h.1,λi hi=>wpOp_of_qOp hw (λa' w' hw' h'=>ih _ a' w' hw' h') (h.2 i hi).2⟩
theorem Gc {n i:Nat}{oi:Oper}{v:Value}{L:Array Bool->Act->Prop}(hi:ops[i]? =some oi) (hsel:∀(j:Nat) (o:Oper) cs b,ops[j]? =some o->o.op≠.select cs b)
  (hs:Region.sinkB md ops n=true) (hc:Region.chainB md ops n=true) (hn:n<ops.size) (UT:i<n)
  (D0:∀s a,L s a->∀j∈Region.ready md ops s,n<=j) :
  ∀(f:Nat) (s:Array Bool) (a:Act),HeadInv md ops n s->
   (∀j oj,ops[j]? =some oj->j≠i->s.getD j true=false->(∀e∈oj.after,Region.binds md e=true->e.on≠i)->oi.apart ops oj=true)->
   i∈Region.ready md ops s->YieldsIn P ops C oi v a->
   Mh P md ops C n L f (s.setIfInBounds i true) (a.put oi.dst v)->Mh P md ops C n L (f+1) s a:=by
 intro f;induction f with
 | zero =>
  intro s a inv _ hr hy H;have qO:=(mem_ready.1 hr).1;refine⟨List.ne_nil_of_mem hr,λj hj=>?_⟩;have UU:j<n:=pk λh=>absurd hj (tail_waits hs hc hn inv _ i rfl UT qO j h);refine⟨UU,?_⟩;by_cases Gd:j=i
  ·subst Gd;exact hy.qOp hi H
  ·have:=D0 _ _ H j (ready_mono hj Gd);omega
 | succ f ih =>
  intro s a inv fZ hr hy H;have qO:=(mem_ready.1 hr).1;refine⟨List.ne_nil_of_mem hr,λj hj=>?_⟩;have UU:j<n:=pk λh=>absurd hj (tail_waits hs hc hn inv _ i rfl UT qO j h);refine⟨UU,?_⟩;by_cases Gd:j=i
  ·subst Gd;exact hy.qOp hi H
  ·obtain⟨hjun,oj,hoj,UR⟩:=mem_ready.1 hj;have tD:∀e∈oj.after,Region.binds md e=true->e.on≠i:=λe he hb heq=>by
    have h1:=UR e he hb;rw[heq,getD_both qO]at h1;cases h1
   have h2:=qOp_put hoj (fZ j oj hoj Gd hjun tD) (λcs b=>hsel i oi cs b hi) (λcs b=>hsel j oj cs b hoj) hy (H.2 j (ready_mono hj Gd)).2;refine qOp_mono (λa' h3=>ih (s.setIfInBounds j true) a' (inv.set hj UU) (λk ok hk Vf hu Ll=>fZ k ok hk Vf ?_ Ll) (ready_mono hr (Fq Gd)) h3.1 ?_) h2
   ·by_cases hjk:j=k
    ·subst hjk;exact hjun
    ·rw[getD_set_ne true hjk]at hu;exact hu
   ·rw[Array.setIfInBounds_comm _ _ Gd];exact h3.2
theorem Bp {n g:Nat}{Lq:Act->Prop}(hsel:Region.noSelect ops=true) (hs:Region.sinkB md ops n=true) (hc:Region.chainB md ops n=true) (hn:n<ops.size) :
  ∀(l:List Oper) (k:Nat) (s:Array Bool) (a:Act),(∀j,j<l.length->l[j]? =ops[k+j]?)->k+l.length=n->HeadInv md ops n s->
  Region.lexHead md ops g l.length k s=true->wpQuiet P ops C Lq l a->
  Mh P md ops C n (λs' a'=>Region.seqB md ops g n s'=true/\Lq a') l.length s a:=by
 intro l;induction l with
 | nil =>
  intro k s a _ hk _ hB h;obtain rfl:k=n:=by simpa using hk
  exact⟨by simpa[Region.lexHead]using hB,h⟩
 | cons o l ih =>
  intro k s a hl hk inv hB h;have h0:ops[k]? =some o:=by simpa using(hl 0 (by simp)).symm
  simp only[YV,Region.lexHead,VB]at hB;obtain⟨⟨hr,hf⟩,hB'⟩:=hB;have Fv:k<n:=by simp only[YV]at hk;omega
  have qK:k∈Region.ready md ops s:=by simpa using hr
  have Ko:qOp P ops C k (wpQuiet P ops C Lq l) a:=by unfold qOp;simp only[h0];exact h
  obtain⟨v,hy,hK⟩:=yieldsIn_of_qOp h0 Ko
  exact Gc h0 (mH hsel) hs hc hn Fv (λs' a' hL=>seqB_ready hL.1) l.length s a inv (Region.free_spec h0 hf) qK hy
   (ih (k+1) _ _ (λj hj=>by have:=hl (j+1) (by simp;omega);simpa[Wed,Nat.add_comm 1 j]using this) (by simp only[YV]at hk;omega) (inv.set qK Fv) hB' hK)
theorem Kq {Q:Exit->Act->World->Prop}{a:Act}{w:World}{l:List Oper}(n:Nat) (hB:Region.lexTailB .any l.toArray n=true)
  (hC:C { w with drawn:=w.drawn+1 }) (h:wpQuiet P l.toArray C (λa'=>∀w',C w'->wpList P l.toArray Q (l.drop n) a' w') (l.take n) a) :
  wpAny P .any l.toArray Q l.toArray.size (Array.replicate l.toArray.size false) a { w with drawn:=w.drawn+1 }:=by
 simp only[Region.lexTailB,VB,Cw]at hB;obtain⟨⟨⟨⟨hsel,hn⟩,hs⟩,hc⟩,hlex⟩:=hB;have a8:n<l.length:=by simpa using hn
 have nw:(l.take n).length=n:=by simp;omega
 have dI:(l.drop n).length=l.toArray.size-n:=by simp
 have jB:HeadInv .any l.toArray n (Array.replicate l.toArray.size false) :=
  ⟨by simp,λj oj _ hl=>(by rw[getD_replicate_false]at hl;cases hl),λt _ ht=>getD_in (by simpa using ht) (getD_replicate_false _ _)⟩
 have H:=Bp (md:=.any) (g:=l.toArray.size-n) hsel hs hc hn (l.take n) 0 _ a (λj hj=>by
  have D4:j<n:=by rw[nw]at hj;exact hj
  simp[D4]) (by simpa using nw) jB (by rw[nw];exact hlex) h
 have key:=M1 (Q:=Q) (g:=l.toArray.size-n) (λs a' w' hw' hL=>by
  have:=wpAny_of_seq (md:=.any) (Q':=Q) (l.drop n) n s a' w' (λj=>by simp[Fm]) (by rw[dI];exact hL.1) (hL.2 w' hw')
  rwa [dI]at this) _ _ _ _ hC H
 rw[nw,show n+(l.toArray.size-n)=l.toArray.size by omega]at key;exact key
theorem KW {id:Nat}{Q:Exit->Act->World->Prop}{a:Act}{w:World}{l:List Oper}(n:Nat) (hm:P.follows .mixedOrders=true) (hB:Region.lexTailB .any l.toArray n=true)
  (hC:C { w with drawn:=w.drawn+1 }) (h:wpQuiet P l.toArray C (λa'=>∀w',C w'->wpList P l.toArray Q (l.drop n) a' w') (l.take n) a):(Code.region id l.toArray true).wp P Q a w :=
 mU hm (Kq n hB hC h)
end
theorem Qc {P:Program}{id:Nat}{Q:Exit->Act->World->Prop}{a:Act}{w:World}{l:List Oper}(n:Nat) (hm:P.follows .mixedOrders=true) (hB:Region.lexTailB .any l.toArray n=true)
  (h:wpQuiet P l.toArray (λw'=>∃x:Qg w,w'=x.now) (λa'=>∀w',(∃x:Qg w,w'=x.now)->wpList P l.toArray Q (l.drop n) a' w') (l.take n) a):(Code.region id l.toArray true).wp P Q a w :=
 KW n hm hB ⟨⟨_,(Qf w).drew⟩,rfl⟩ h
section
variable {P:Program}{ops:Array Oper}
def JY (us:Nat->Value) (f:Nat->Bool):Nat->List Oper->Act->Act
 | _,[],a=>a
 | i,o::r,a=>JY us f (i+1) r (if f i then a.put o.dst (us i) else a)
def Jn (us:Nat->Value):Nat->List Oper->Act->Act
 | _,[],a=>a
 | i,o::r,a=>Jn us (i+1) r (a.put o.dst (us i))
theorem Mz {us:Nat->Value}{f:Nat->Bool}:∀(l:List Oper) (i:Nat) (a:Act),(∀j,i<=j->j<i+l.length->f j=true)->JY us f i l a=Jn us i l a
 | [],_,_,_=>rfl
 | o::r,i,a,h=>by rw[JY,Jn,Qv (h i (QW _) (by simp))];exact Mz r (i+1) _ (λj h1 h2=>h j (by omega) (by simp;omega))
theorem Wa {us:Nat->Value}{f:Nat->Bool}:∀(l:List Oper) (i:Nat) (a:Act),(∀j,i<=j->j<i+l.length->f j=false)->JY us f i l a=a
 | [],_,_,_=>rfl
 | o::r,i,a,h=>by rw[JY,h i (QW _) (by simp),Qr (by simp)];exact Wa r (i+1) _ (λj h1 h2=>h j (by omega) (by simp;omega))
theorem NN {us us':Nat->Value}{f f':Nat->Bool}:∀(l:List Oper) (i:Nat) (a:Act),(∀j,i<=j->f j=f' j/\us j=us' j)->JY us f i l a=JY us' f' i l a
 | [],_,_,_=>rfl
 | o::r,i,a,h=>by rw[JY,JY,(h i (QW _)).1,(h i (QW _)).2];exact NN r (i+1) _ (λj h1=>h j (by omega))
theorem MA {us:Nat->Value}{f:Nat->Bool}{d:Option Tmp}{u:Value}:∀(l:List Oper) (i:Nat) (a:Act),(∀o∈l,∀t,d=some t->o.dst≠some t)->JY us f i l (a.put d u)=(JY us f i l a).put d u
 | [],_,_,_=>rfl
 | o::r,i,a,h=>by
  rw[JY,JY];have ih:=λb=>MA (us:=us) (f:=f) (u:=u) r (i+1) b (λo' h'=>h o' (by simp[h']));split
  ·rw[Act.put_comm a u (us i) (h o (by simp)),ih]
  ·rw[ih]
theorem RK {us:Nat->Value}:∀(l:List Oper) (i k:Nat) (a:Act),JY us (λj=>decide (j<i+k)) i l a=Jn us i (l.take k) a
 | [],_,_,_=>by simp[JY,Jn]
 | o::r,i,0,a=>by rw[Wa _ _ _ (λj h1 h2=>by simpa using h1)];rfl
 | o::r,i,k+1,a=>by rw[JY,Yh,Jn,Qv (by simp),←RK r (i+1) k];rw[show i+1+k=i+(k+1) by omega]
theorem NO {us:Nat->Value}{f g:Nat->Bool}{L:List Tmp}:∀(l:List Oper) (i:Nat) (a b:Act),a.tmps.size=b.tmps.size->(∀t∈L,a.tmps[t]? =b.tmps[t]?)->
  (∀j o,l[j]? =some o->∀d,o.dst=some d->d∈L->f (i+j)=g (i+j))->∀t∈L,(JY us f i l a).tmps[t]? =(JY us g i l b).tmps[t]?
 | [],_,a,b,_,h,_=>h
 | o::r,i,a,b,hs,h,hf=>by
  have nd:∀(a b:Act),a.tmps.size=b.tmps.size->(∀t∈L,a.tmps[t]? =b.tmps[t]?)->∀u,(a.put o.dst u).tmps.size=(b.put o.dst u).tmps.size/\∀t∈L,(a.put o.dst u).tmps[t]? =(b.put o.dst u).tmps[t]? :=λa b hs h u=>by
   cases hd:o.dst with
   | none=>exact⟨hs,h⟩
   | some d =>
    refine⟨by simp[Act.put,hs],λt ht=>?_⟩;simp only[Act.put,Array.getElem?_setIfInBounds,hs];split
    ·rfl
    ·exact h t ht
  have Ll:∀(a:Act),(∀d,o.dst=some d->d∉L)->∀u,(a.put o.dst u).tmps.size=a.tmps.size/\∀t∈L,(a.put o.dst u).tmps[t]? =a.tmps[t]? :=λa hn u=>by
   cases hd:o.dst with
   | none=>exact⟨rfl,λ_ _=>rfl⟩
   | some d => refine⟨by simp[Act.put],λt ht=>?_⟩;have:d≠t:=λe=>hn d hd (e▸ht);simp[Act.put,j0 this]
  rw[JY,JY];refine NO r (i+1) _ _ ?_ ?_ (λj o' hj d hd hL=>by rw[show i+1+j=i+(j+1) by omega];exact hf (j+1) o' (by simpa using hj) d hd hL)
  all_goals
   by_cases hL:∀d,o.dst=some d->d∉L
  ·have ha:=Ll a hL (us i);have hb:=Ll b hL (us i);split<;>split<;>simp only[ha,hb,hs]
  ·have e:f i=g i:=by
    simp only[Classical.not_forall,Classical.not_not]at hL;obtain⟨d,hd,hdL⟩:=hL;exact hf 0 o rfl d hd hdL
   rw[e];split
   ·exact(nd a b hs h _).1
   ·exact hs
  ·have ha:=Ll a hL (us i);have hb:=Ll b hL (us i);intro t ht;split<;>split<;>simp only[ha.2 t ht,hb.2 t ht,h t ht]
  ·have e:f i=g i:=by
    simp only[Classical.not_forall,Classical.not_not]at hL;obtain⟨d,hd,hdL⟩:=hL;exact hf 0 o rfl d hd hdL
   rw[e];split
   ·exact(nd a b hs h _).2
   ·exact h
theorem R1 {V:World->Value->Prop}{o:Oper}(hs:∀cs b,o.op≠.select cs b) {a b:Act}(h:∀t∈o.looksAt ops,a.tmps[t]? =b.tmps[t]?) :
  execOp a.eval o=execOp b.eval o/\Region.wanted o (yielded ops a.tmps)=Region.wanted o (yielded ops b.tmps):=by
 constructor
 ·refine execOp_congr o hs λx hx=>?_;cases x with
  | tmp t => have:=h t (j9 _ (List.mem_filterMap.2 ⟨.tmp t,by simpa using hx,rfl⟩));simp[Act.eval,this]
  | _=>rfl
 ·unfold Region.wanted;cases hg:o.guard with
  | none=>rfl
  | some gw =>
   obtain⟨g,want⟩:=gw;have hy:yielded ops a.tmps g=yielded ops b.tmps g:=by
    unfold yielded;cases ht:(ops[g]?).bind (·.dst) with
    | none=>rfl
    | some t => have:=h t (by simp[Oper.looksAt,hg,ht]);simp[this]
   simp only[hy]
def left (s:Array Bool):Nat->Nat
 | 0=>0
 | n+1=>left s n+if s.getD n true then 0 else 1
theorem Gj {s:Array Bool}{k:Nat}(hk:s.getD k true=false):∀n,left (s.setIfInBounds k true) n+(if k<n then 1 else 0)=left s n
 | 0=>by simp[left]
 | n+1=>by
  have ih:=Gj hk n;rw[left,left];by_cases e:k=n
  ·subst e;have Qo:k<s.size:=by
    refine pk λh=>?_;simp[Array.getElem?_eq_none h]at hk
   have h1:(s.setIfInBounds k true).getD k true=true:=by simp[Qo]
   rw[h1,hk];simp at ih ⊢;omega
  ·rw[getD_set_ne true e];have:(k<n+1)=(k<n):=by rw[eq_iff_iff];omega
   simp only[this];omega
theorem Ni {s:Array Bool}:∀n,left s n=0->∀j,j<n->s.getD j true=true
 | 0,_,j,hj=>by omega
 | n+1,h,j,hj=>by
  rw[left]at h;by_cases e:j=n
  ·subst e;cases hs:s.getD j true with
   | true=>rfl
   | false=>rw[hs]at h;simp at h
  ·exact Ni n (by omega) j (by omega)
theorem Mm {s:Array Bool}:∀n,left s n≠0->∃j,j<n/\s.getD j true=false/\∀i,i<j->s.getD i true=true
 | 0,h=>absurd rfl h
 | n+1,h=>by
  by_cases e:left s n=0
  ·refine⟨n,by omega,?_,Ni n e⟩;rw[left,e]at h;cases hs:s.getD n true with
   | false=>rfl
   | true=>rw[hs]at h;simp at h
  ·obtain⟨j,h1,h2⟩:=Mm n e;exact⟨j,by omega,h2⟩
def Pb (ops:Array Oper) (n:Nat) (D:List (List Nat)):Bool :=
 Region.noSelect ops&&(decide (n=ops.size)||decide (n<ops.size)&&Region.sinkB .any ops n&&Region.chainB .any ops n) &&
 Region.seqB .any ops (ops.size-n) n ((Array.replicate ops.size false).mapIdx λi _=>decide (i<n)) &&
 (List.range n).all λk=>((ops[k]?).map λo =>
  (o.after.all λe=>!Region.binds .any e||decide (e.on<k)) &&
  ((D.getD k []).all λd=>decide (d<k)&&Region.waitsFor .any ops k d) &&
  ((List.range n).all λj=>((ops[j]?).map λp=>match p.dst with
    | none=>true
    | some d=>(decide (j=k)||o.dst != some d)&&(!(o.looksAt ops).contains d||(D.getD k []).contains j)).getD false)).getD false
structure fP (ops:Array Oper) (n:Nat) (D:List (List Nat)):Prop where
 sel:Region.noSelect ops=true
 size:n<=ops.size
 tail:n<ops.size->Region.sinkB .any ops n=true/\Region.chainB .any ops n=true
 seq:Region.seqB .any ops (ops.size-n) n ((Array.replicate ops.size false).mapIdx λi _=>decide (i<n))=true
 back:∀k o,k<n->ops[k]? =some o->∀e∈o.after,Region.binds .any e=true->e.on<k
 deps:∀k o,k<n->ops[k]? =some o->∀d∈D.getD k [],d<k/\Region.waitsFor .any ops k d=true
 dsts:∀k o,k<n->ops[k]? =some o->∀j p,j<n->ops[j]? =some p->j≠k->∀d,p.dst=some d->o.dst≠some d
 looks:∀k o,k<n->ops[k]? =some o->∀j p,j<n->ops[j]? =some p->∀d,p.dst=some d->d∈o.looksAt ops->j∈D.getD k []
theorem Fd {n:Nat}{D:List (List Nat)}(h:Pb ops n D=true):fP ops n D:=by
 unfold Pb at h;rw[VB,VB,VB]at h;obtain⟨⟨⟨h1,h2⟩,h3⟩,h4⟩:=h;rw[fN,VB,VB]at h2
 have hk:∀k o,k<n->ops[k]? =some o->(o.after.all λe=>!Region.binds .any e||decide (e.on<k))=true/\((D.getD k []).all λd=>decide (d<k)&&Region.waitsFor .any ops k d)=true/\
   ((List.range n).all λj=>((ops[j]?).map λp=>match p.dst with
   | none=>true
   | some d=>(decide (j=k)||o.dst != some d)&&(!(o.looksAt ops).contains d||(D.getD k []).contains j)).getD false)=true:=λk o Fv ho=>by
  have:=Pv.1 h4 k (Pw.2 Fv);rw[ho]at this;simp only[au,SM,VB]at this;exact⟨this.1.1,this.1.2,this.2⟩
 refine⟨h1,?_,λhn=>?_,h3,λk o Fv ho e he hb=>?_,λk o Fv ho d hd=>?_,λk o Fv ho j p UU hp QY d hd hod=>?_,λk o Fv ho j p UU hp d hd hL=>?_⟩
 ·rcases h2 with h2|h2
  ·have:=VY h2;omega
  ·have:=VY h2.1.1;omega
 ·rcases h2 with h2|h2
  ·have:=VY h2;omega
  ·exact⟨h2.1.2,h2.2⟩
 ·have h5:=(hk k o Fv ho).1;rw[pX]at h5;have:=h5 e he;rw[hb]at this;simpa using this
 ·have:=Pv.1 (hk k o Fv ho).2.1 d hd;rw[VB]at this;exact⟨VY this.1,this.2⟩
 ·have:=Pv.1 (hk k o Fv ho).2.2 j (Pw.2 UU);rw[hp]at this;simp only[au,SM,hd,VB,fN,Cw,bne_iff_ne]at this;exact(this.1.resolve_left QY) hod
 ·have:=Pv.1 (hk k o Fv ho).2.2 j (Pw.2 UU);rw[hp]at this;simp only[au,SM,hd,VB,fN,mQ,fI]at this;rcases this.2 with h6|h6
  ·have h7:(o.looksAt ops).contains d=true:=fI.2 hL;rw[h6]at h7;cases h7
  ·exact h6
theorem MB {us us':Nat->Value}{f f':Nat->Bool}{k:Nat}{o:Oper}(dK:f k=false) (hfk':f' k=true) (QY:∀j,j≠k->f' j=f j/\us' j=us j) :
  ∀(l:List Oper) (i:Nat) (a:Act),i<=k->l[k-i]? =some o->(∀j p,l[j]? =some p->i+j≠k->∀t,o.dst=some t->p.dst≠some t)->JY us' f' i l a=(JY us f i l a).put o.dst (us' k)
 | [],i,a,_,h,_=>by simp at h
 | p::r,i,a,hi,h,hd=>by
  rw[JY,JY];by_cases e:i=k
  ·subst e;have ho:p=o:=by simpa using h
   subst ho;rw[dK,hfk',Qv rfl,Qr (by simp)];rw[NN (us:=us') (us':=us) (f:=f') (f':=f) r (i+1) _ (λj hj=>QY j (by omega))];exact MA r (i+1) a (λq hq t ht=>by
    obtain⟨j,hj,hjq⟩:=List.mem_iff_getElem.1 hq;exact hd (j+1) q (by simp[hj,hjq]) (by omega) t ht)
  ·rw[(QY i e).1,(QY i e).2]
   exact MB dK hfk' QY r (i+1) _ (by omega) (by rw[show k-i=(k-(i+1))+1 by omega]at h;simpa using h)
    (λj q hj tB t ht=>hd (j+1) q (by simpa using hj) (by omega) t ht)
end
section
variable {P:Program}{ops:Array Oper}
def KB (P:Program) (R:World->World->Prop) (V:World->Value->Prop) (w:World):Result Next->Prop
 | .ok (.value u) w'=>R w w'/\V w' u
 | .ok .skip w'=>R w w'/\V w' undef
 | .ok (.enter f args) w'=>Calls P f args w' (λe w''=>∃u,e=.returned u/\R w w''/\V w'' u)
 | .ok (.row row args) w'=>Rows P row args w' (λu w''=>R w w''/\V w'' u)
 | _=>False
theorem Cp {o:Oper}{a:Act}{R:World->World->Prop}{V:World->Value->Prop}{K:Act->World->Prop}{Q:Exit->Act->World->Prop}{w:World}(h:KB P R V w ((execOp a.eval o).run P w))
  (hk:∀u w',R w w'->V w' u->K (a.put o.dst u) w'):o.wp P a w K Q:=by
 unfold Oper.wp;generalize (execOp a.eval o).run P w=r at *;cases r with
 | ok n w' =>
  cases n<;>simp only[KB]at h<;>simp only[Oper.upon];case value u=>exact hk _ _ h.1 h.2
  case skip=>exact hk _ _ h.1 h.2
  case enter f args => exact h.mono λe w'' ⟨u,he,hx,hv⟩=>by subst he;exact hk _ _ hx hv
  case row row args=>exact h.mono λu w'' ⟨hx,hv⟩=>hk _ _ hx hv
 | halt x w'=>simp only[KB]at h
def J6 (P:Program) (ops:Array Oper) (R:World->World->Prop) (V:World->Value->Prop) (o:Oper) (a:Act) (w:World):Prop :=
 (Region.wanted o (yielded ops a.tmps)=true/\KB P R V w ((execOp a.eval o).run P w))\/(Region.wanted o (yielded ops a.tmps)=false/\R w w/\V w undef)
theorem YE {R:World->World->Prop}{V:World->Value->Prop}{o:Oper}{a:Act}{w:World}(d:Tmp) (hd:o.dst=some d) (Qo:d<a.tmps.size)
  (h:wpList P ops (λx a' w'=>x=.normal/\∃u,a'=a.put o.dst u/\R w w'/\V w' u) [o] a w):J6 P ops R V o a w:=by
 have inj:∀u u',a.put o.dst u=a.put o.dst u'->u=u':=λu u' e=>by rw[hd]at e;have e2:=congrArg (λb:Act=>b.tmps[d]?) e;simpa[Act.put,Qo]using e2
 by_cases hw:Region.wanted o (yielded ops a.tmps)=true
 ·refine .inl ⟨hw,?_⟩;rw[wpList,Qv hw]at h;rcases h with h|⟨_,_,_,h,_⟩
  ·unfold Oper.wp at h;generalize (execOp a.eval o).run P w=r at *;cases r with
   | ok n w' =>
    cases n<;>simp only[Oper.upon,wpList]at h<;>simp only[KB];case value u => obtain⟨_,u',e,hx,hv⟩:=h;rw[inj u u' e];exact⟨hx,hv⟩
    case skip => obtain⟨_,u',e,hx,hv⟩:=h;rw[inj undef u' e];exact⟨hx,hv⟩
    case defer df => obtain⟨_,u',e,_⟩:=h;rw[hd]at e;have e2:=congrArg (λb:Act=>b.defers.length) e;simp[Act.put]at e2
    case enter f args =>
     refine h.mono λe w'' he=>?_;cases e with
     | returned v => obtain⟨_,u',e,hx,hv⟩:=he;exact⟨v,rfl,hx,by rw[inj v u' e];exact hv⟩
     | panicked c=>obtain⟨he,_⟩:=he;cases he
     | outgrown=>obtain⟨_,_,he,_⟩:=he;cases he
    case row row args => refine h.mono λu w'' he=>?_;obtain⟨_,u',e,hx,hv⟩:=he;rw[inj u u' e];exact⟨hx,hv⟩
   | halt x w' => cases x<;>simp only[Oper.upon]at h;obtain⟨h,_⟩:=h;cases h
  ·cases h
 ·refine .inr ⟨by simpa using hw,?_⟩;rw[wpList,Qr hw]at h;simp only[wpList]at h;obtain⟨_,u',e,hx,hv⟩:=h;rw[inj undef u' e];exact⟨hx,hv⟩
theorem F7 {R:World->World->Prop}{V:World->Value->Prop}{o:Oper}{a:Act}{w:World}(hd:o.dst=none) (hg:o.guard=none) (hV:∀w u,V w undef->V w u)
  (h:wpList P ops (λx a' w'=>x=.normal/\a'=a/\R w w'/\V w' undef) [o] a w):J6 P ops R V o a w:=by
 have hw:Region.wanted o (yielded ops a.tmps)=true:=by simp[Region.wanted,hg]
 refine .inl ⟨hw,?_⟩;rw[wpList,Qv hw]at h;rcases h with h|⟨_,_,_,h,_⟩
 ·unfold Oper.wp at h;generalize (execOp a.eval o).run P w=r at *;cases r with
  | ok n w' =>
   cases n<;>simp only[Oper.upon,wpList]at h<;>simp only[KB];case value u => obtain⟨_,e,hx,hv⟩:=h;exact⟨hx,hV _ _ hv⟩
   case skip => obtain⟨_,e,hx,hv⟩:=h;exact⟨hx,hv⟩
   case defer df => obtain⟨_,e,_⟩:=h;have e2:=congrArg (λb:Act=>b.defers.length) e;simp[Act.put,hd]at e2
   case enter f args =>
    refine h.mono λe w'' he=>?_;cases e with
    | returned v => obtain⟨_,e,hx,hv⟩:=he;exact⟨v,rfl,hx,hV _ _ hv⟩
    | panicked c=>obtain⟨he,_⟩:=he;cases he
    | outgrown=>obtain⟨_,_,he,_⟩:=he;cases he
   case row row args => refine h.mono λu w'' he=>?_;obtain⟨_,e,hx,hv⟩:=he;exact⟨hx,hV _ _ hv⟩
  | halt x w' => cases x<;>simp only[Oper.upon]at h;obtain⟨h,_⟩:=h;cases h
 ·cases h
def R8 (us:Nat->Value) (k:Nat) (u:Value):Nat->Value:=λj=>if j=k then u else us j
theorem LS (us:Nat->Value) (k:Nat) (u:Value):R8 us k u k=u:=by simp[R8]
def iK (ops:Array Oper) (m:Nat):List Nat->Nat->Bool
 | [],_=>false
 | c::r,i=>Region.waitsFor .any ops m c&&decide (m<ops.size)&&(decide (c=i)||iK ops c r i)
theorem iL:∀(ch:List Nat) (m i:Nat),iK ops m ch i=true->m<ops.size
 | [],_,_,h=>by cases h
 | c::r,m,i,h=>by rw[iK,VB,VB]at h;exact VY h.1.2
theorem Hl {n:Nat}{s:Array Bool}(inv:HeadInv .any ops n s):∀(ch:List Nat) (m i:Nat),iK ops m ch i=true->s.getD m false=true->s.getD i false=true
 | [],_,_,h,_=>by cases h
 | c::r,m,i,h,hm=>by rw[iK,VB,VB]at h;obtain⟨o2,ho2,e2,qF,Kj,hon2⟩:=Region.waitsFor_spec h.1.1;have h3:=inv.closed m o2 ho2 hm e2 qF Kj;rw[hon2]at h3;rw[fN]at h;exact h.2.elim (λe=>VY e▸h3) (λe=>Hl inv r c i e h3)
theorem CL {n:Nat}{s:Array Bool}(inv:HeadInv .any ops n s) {ch:List Nat}{m i:Nat}(h:iK ops m ch i=true) (hs:s.getD i true=false):s.getD m true=false:=by
 have h3:¬s.getD m false=true:=λhm=>by have h4:=Hl inv ch m i h hm;have h5:=getD_both hs;rw[h4]at h5;cases h5
 by_cases na:m<s.size
 ·simp[na]at h3 ⊢;exact h3
 ·exfalso;have:m<ops.size:=iL ch m i h;have:=inv.size;omega
def Qx (H:Nat->Oper->Act->Prop) (T:Act->Prop) (us:Nat->Value):Nat->List Oper->Act->Prop
 | _,[],a=>T a
 | k,o::r,a=>H k o a/\Qx H T us (k+1) r (a.put o.dst (us k))
theorem KC {H:Nat->Oper->Act->Prop}{T:Act->Prop}{us:Nat->Value}:∀(l:List Oper) (k:Nat) (a:Act),Qx H T us k l a->
  (∀j o,l[j]? =some o->H (k+j) o (Jn us k (l.take j) a))/\T (Jn us k l a)
 | [],_,_,h=>⟨λj o hj=>by simp at hj,h⟩
 | o::r,k,a,h=>by
  obtain⟨h1,h2⟩:=KC r (k+1) _ h.2;refine⟨λj o' hj=>?_,h2⟩;cases j with
  | zero =>
   have:o=o':=by simpa using hj
   subst this;exact h.1
  | succ j => have:=h1 j o' (by simpa using hj);rw[show k+1+j=k+(j+1) by omega]at this;exact this
theorem Wz {H:Nat->Oper->Act->Prop}{T:Act->Prop}(us:Nat->Value):∀(l:List Oper) (k:Nat) (a:Act),(∀j o,l[j]? =some o->H (k+j) o (Jn us k (l.take j) a))->T (Jn us k l a)->Qx H T us k l a
 | [],_,_,_,h=>h
 | o::r,k,a,h1,h2=>⟨h1 0 o rfl,Wz us r (k+1) _ (λj p hj=>by have:=h1 (j+1) p (by simpa using hj);rw[show k+1+j=k+(j+1) by omega];exact this) h2⟩
theorem UX {H H':Nat->Oper->Act->Prop}{T T':Act->Prop}{us:Nat->Value}(n:Nat) (h1:∀k o a,k<n->H k o a->H' k o a) (h2:∀a,T a->T' a):∀(l:List Oper) (k:Nat) (a:Act),k+l.length<=n->Qx H T us k l a->Qx H' T' us k l a
 | [],_,_,_,h=>h2 _ h
 | _::r,k,_,hn,h=>⟨h1 _ _ _ (by simp at hn;omega) h.1,UX n h1 h2 r (k+1) _ (by simp at hn;omega) h.2⟩
theorem Ha {Q:Exit->Act->World->Prop}{a:Act}{l:List Oper}{n nv:Nat}{D E:List (List Nat)}{V:Nat->World->(Nat->Value)->Prop}{C:World->Prop}{R:Nat->World->World->Prop}{lost:Nat->Nat->Bool}(ZL:fP l.toArray n D) (qI:n<=nv) (hE:∀i d,d∈E.getD i []->n<=d/\d<nv)
  (hKD:∀i d k,i<n->d∈D.getD i []++E.getD i []->k<n->lost k d=true->∀s,HeadInv .any l.toArray n s->s.getD i true=false->s.getD k true=false)
  (hC:∀k w w',C w->R k w w'->C w')
  (hcong:∀j w us us',j<nv->(j<n->us j=us' j/\∀d∈D.getD j [],us d=us' d)->V j w us->V j w us')
  (hV:∀j k w w' us,j<nv->j≠k->lost k j=false->C w->R k w w'->V j w us->V j w' us)
  (hstep:∀k o,k<n->l[k]? =some o->∀us w',C w'->(∀d∈D.getD k []++E.getD k [],V d w' us)->J6 P l.toArray (R k) (λw u=>V k w (R8 us k u)) o (Jn us 0 (l.take k) a) w')
  (htail:∀us w',C w'->(∀j,j<nv->(∀k,k<n->lost k j=false)->V j w' us)->wpList P l.toArray Q (l.drop n) (Jn us 0 (l.take n) a) w') :
  ∀(f:Nat) (s:Array Bool) (w:World) (us:Nat->Value),left s n=f->HeadInv .any l.toArray n s->C w->(∀j,j<nv->(j<n->s.getD j true=true)->(∀k,k<n->lost k j=true->s.getD k true=false)->V j w us)->
   wpAny P .any l.toArray Q (f+(l.length-n)) s (JY us (λj=>s.getD j true) 0 (l.take n) a) w:=by
 have Sj:n<=l.length:=by simpa using ZL.size
 have nw:(l.take n).length=n:=by simp;omega
 intro f;induction f with
 | zero =>
  intro s w us hl inv hx hv;have UR:=Ni n hl;have VH:s.size=l.length:=by simpa using inv.size
  rw[Mz _ _ _ (λj _ h2=>UR j (by omega)),Ux];have hs:s=(Array.replicate l.toArray.size false).mapIdx λi _=>decide (i<n):=by
   apply Array.ext
   ·simp[VH]
   ·intro i h1 h2;simp only[Array.getElem_mapIdx];by_cases e:i<n
    ·have:=UR i e;simp[h1]at this;simp[e,this]
    ·have:=inv.tail i (by omega) (by simpa[VH]using h1);simp[h1]at this;simp[e,this]
  have:=wpAny_of_seq (P:=P) (md:=.any) (ops:=l.toArray) (Q':=Q) (l.drop n) n s (Jn us 0 (l.take n) a) w (λj=>by simp[Fm]) (by rw[hs,WQ];simpa using ZL.seq) (htail us w hx (λj hj hls=>hv j hj (λUU=>UR j UU) (λk hk h=>by rw[hls k hk]at h;cases h)))
  rwa [WQ]at this
 | succ f ih =>
  intro s w us hl inv hx hv;obtain⟨j,UU,hj,kS⟩:=Mm (s:=s) n (by omega);have VH:s.size=l.length:=by simpa using inv.size
  have D0:∀i,i<l.length->s.getD i true=true->s.getD i false=true:=λi hi h=>by
   have:i<s.size:=by omega
   simp[this]at h ⊢;exact h
  have vg:j∈Region.ready .any l.toArray s:=mem_ready.2 ⟨hj,l[j]'(by omega),by simp[show j<l.length by omega],λe he hb=>by
   have Qo:=ZL.back j _ UU (by simp[show j<l.length by omega]) e he hb;exact D0 _ (by omega) (kS _ Qo)⟩
  rw[show f+1+(l.length-n)=(f+(l.length-n))+1 by omega];refine⟨λh0=>(by rw[h0]at vg;cases vg),λi hi=>?_⟩;obtain⟨hiu,o,ho,UR⟩:=mem_ready.1 hi;have nN:i<l.length:=by have:=(SK.1 ho).1;simpa using this
  have UT:i<n:=by
   refine pk λh=>?_;have Qo:n<l.toArray.size:=by simp;omega
   exact tail_waits (ZL.tail Qo).1 (ZL.tail Qo).2 Qo inv _ j rfl UU hj i h hi
  have IU:l[i]? =some o:=by simpa using ho
  have IM:∀d∈D.getD i [],d<i/\s.getD d true=true:=λd hd=>by
   obtain⟨h1,h2⟩:=ZL.deps i o UT ho d hd;obtain⟨o',ho',e,he,hb,hon⟩:=Region.waitsFor_spec h2;have:o'=o:=L0 (ho'.symm.trans ho);subst this;have h3:=UR e he hb;rw[hon]at h3;have Bo:d<s.size:=by omega
   refine⟨h1,?_⟩;simp[Bo]at h3 ⊢;exact h3
  have Ko:=hstep i o UT IU us w hx (λd hd=>(SN.1 hd).elim (λh1=>hv d (by have:=(IM d h1).1;omega) (λ_=>(IM d h1).2) (λk hk hls=>hKD i d k UT hd hk hls s inv hiu)) (λh1=>hv d (hE i d h1).2 (λh2=>absurd h2 (by have:=(hE i d h1).1;omega)) (λk hk hls=>hKD i d k UT hd hk hls s inv hiu)));have Tj:∀t∈o.looksAt l.toArray,(JY us (λj=>s.getD j true) 0 (l.take n) a).tmps[t]? =(Jn us 0 (l.take i) a).tmps[t]? :=by
   have e1:Jn us 0 (l.take i) a=JY us (λj=>decide (j<0+i)) 0 (l.take n) a:=by rw[RK,hO,gz (by omega)]
   rw[e1];refine NO (l.take n) 0 a a rfl (λ_ _=>rfl) (λj' p D4 d hd hL=>?_);have IP:j'<n:=by have:=(PO.1 D4).1;simp at this;omega
   have hp:l.toArray[j']? =some p:=by rw[Ty,Qv IP]at D4;simpa using D4
   have hD:=IM j' (ZL.looks i o UT ho j' p IP hp d hd hL);rw[Ux,hD.2];simp[hD.1]
  obtain⟨kO,hwa⟩:=R1 (V:=λ_ _=>True) (ops:=l.toArray) (mH ZL.sel i o · · ho) Tj;have next:∀u w',R i w w'->V i w' (R8 us i u)->wpAny P .any l.toArray Q (f+(l.length-n)) (s.setIfInBounds i true) ((JY us (λj=>s.getD j true) 0 (l.take n) a).put o.dst u) w':=λu w' hxx hvu=>by
   have nr:=MB (us:=us) (us':=R8 us i u) (f:=λj=>s.getD j true) (f':=λj=>(s.setIfInBounds i true).getD j true) (k:=i) (o:=o) hiu (by simp[VH,nN]) (λj hj=>⟨getD_set_ne true (Fq hj),by simp[R8,hj]⟩) (l.take n) 0 a (by omega)
    (by rw[Nat.sub_zero,Ty,Qv UT];exact IU) (λj' p D4 QY t ht hpt=>by
     have IP:j'<n:=by have:=(PO.1 D4).1;simp at this;omega
     have hp:l.toArray[j']? =some p:=by rw[Ty,Qv IP]at D4;simpa using D4
     exact ZL.dsts i o UT ho j' p IP hp (by omega) t hpt ht)
   have hui:R8 us i u i=u:=by simp[R8]
   rw[hui]at nr;rw[←nr];refine ih _ _ _ ?_ (inv.set hi UT) (hC i w w' hx hxx) (λj' D4 hd Fu=>?_)
   ·have:=Gj hiu n;rw[Qv UT]at this;omega
   ·by_cases e:j'=i
    ·subst e;exact hvu
    ·have D5:lost i j'=false:=by
      cases hq:lost i j' with
      | false=>rfl
      | true =>
       have h:=Fu i UT hq;have tI:(s.setIfInBounds i true).getD i true=true:=by simp[VH,nN]
       rw[tI]at h;cases h
     have hkm:∀k,k<n->lost k j'=true->s.getD k true=false:=λk hk hq=>by
      have QY:k≠i:=λe2=>by rw[e2,D5]at hq;cases hq
      have h:=Fu k hk hq
      rwa [getD_set_ne true (Fq QY)]at h
     have vY:j'<n->s.getD j' true=true:=λh=>by
      have:=hd h
      rwa [getD_set_ne true (Fq e)]at this
     refine hcong j' w' us _ D4 (λhjn'=>⟨by simp[R8,e],λd Ef=>?_⟩) (hV j' i w w' _ D4 e D5 hx hxx (hv j' D4 vY hkm));obtain⟨o',ho'⟩:∃o',l.toArray[j']? =some o':=⟨l[j']'(by omega),by simp[show j'<l.length by omega]⟩
     have QY:d≠i:=λh=>by
      subst h;obtain⟨h1,h2⟩:=ZL.deps j' o' hjn' ho' d Ef;obtain⟨o2,ho2,e2,qF,Kj,hon2⟩:=Region.waitsFor_spec h2;have Nf:s.getD j' false=true:=D0 _ (by omega) (vY hjn');have h3:=inv.closed j' o2 ho2 Nf e2 qF Kj;rw[hon2]at h3;have Bo:d<s.size:=by omega
      simp[Bo]at h3 hiu;rw[h3]at hiu;cases hiu
     simp[R8,QY]
  unfold wpOp;simp only[ho];rcases Ko with⟨hst1,hst2⟩|⟨hst1,hst2,hst3⟩
  ·rw[←hwa]at hst1;rw[←kO]at hst2;rw[Qv hst1];exact .inl (Cp hst2 next)
  ·rw[←hwa]at hst1;rw[Qr (by rw[hst1];decide)];exact next undef w hst2 hst3
theorem Pc {Q:Exit->Act->World->Prop}{a:Act}{w:World}{l:List Oper}(n nv:Nat) (D E:List (List Nat)) (V:Nat->World->(Nat->Value)->Prop) (C:World->Prop) (R:Nat->World->World->Prop) (lost:Nat->Nat->Bool) (hB:Pb l.toArray n D=true) (qI:n<=nv) (hE:∀i d,d∈E.getD i []->n<=d/\d<nv)
  (hKD:∀i d k,i<n->d∈D.getD i []++E.getD i []->k<n->lost k d=true->∀s,HeadInv .any l.toArray n s->s.getD i true=false->s.getD k true=false)
  (hC0:C w.drew) (hV0:∀j us,n<=j->j<nv->V j w.drew us) (hC:∀k w w',C w->R k w w'->C w')
  (hcong:∀j w us us',j<nv->(j<n->us j=us' j/\∀d∈D.getD j [],us d=us' d)->V j w us->V j w us')
  (hV:∀j k w w' us,j<nv->j≠k->lost k j=false->C w->R k w w'->V j w us->V j w' us)
  (h:∀us,Qx (λk o a=>∀w',C w'->(∀d∈D.getD k []++E.getD k [],V d w' us)->J6 P l.toArray (R k) (λw u=>V k w (R8 us k u)) o a w') (λa'=>∀w',C w'->(∀j,j<nv->(∀k,k<n->lost k j=false)->V j w' us)->wpList P l.toArray Q (l.drop n) a' w') us 0 (l.take n) a) :
  wpAny P .any l.toArray Q l.toArray.size (Array.replicate l.toArray.size false) a w.drew:=by
 have ZL:=Fd hB
 have jB:HeadInv .any l.toArray n (Array.replicate l.toArray.size false) :=
  ⟨by simp,λj oj _ hl=>(by rw[getD_replicate_false]at hl;cases hl),λt _ ht=>getD_in (by simpa using ht) (getD_replicate_false _ _)⟩
 have Sj:n<=l.length:=by simpa using ZL.size
 have IR:∀j,j<n->(Array.replicate l.toArray.size false).getD j true=false:=λj hj=>getD_in (by simp;omega) (getD_replicate_false _ _);have hl:left (Array.replicate l.toArray.size false) n=n:=by
  have:∀m,m<=n->left (Array.replicate l.toArray.size false) m=m:=λm=>by
   induction m with
   | zero=>intro _;rfl
   | succ m ih=>intro h;rw[left,ih (by omega),IR m (by omega)];rfl
  exact this n (QW _)
 have key:=Ha (Q:=Q) (a:=a) (lost:=lost) ZL qI hE hKD hC hcong hV (λk o hk ho us w' hx hd=>by
  have:=(KC _ _ _ (h us)).1 k o (by rw[Ty,Qv hk];exact ho);rw[Ux,hO,gz (by omega)]at this;exact this w' hx hd) (λus w' hx hv=>(KC _ _ _ (h us)).2 w' hx hv) n _ w.drew (λ_=>undef) hl jB hC0
  (λj hj hd _=>(Nat.lt_or_ge j n).elim (λh2=>by have:=hd h2;rw[IR j h2]at this;cases this) (λh2=>hV0 j _ h2 hj))
 rw[Wa _ _ _ (λj _ h2=>IR j (by simp at h2;omega))]at key;rw[show n+(l.length-n)=l.toArray.size by simp;omega]at key;exact key
end
section
variable {P:Program}{ops:Array Oper}{Q:Exit->Act->World->Prop}{a:Act}{w:World}{l:List Oper}
theorem Co (n:Nat) (D:List (List Nat)) (V:Nat->World->Value->Prop) (hB:Pb l.toArray n D=true)
  (hV:∀k w w' u,Ext w w'->V k w u->V k w' u)
  (h:∀us,Qx (λk o a=>∀w',Ext w w'->(∀d∈D.getD k [],V d w' (us d))->J6 P l.toArray (λx y=>Ext x y) (V k) o a w') (λa'=>∀w',Ext w w'->(∀k,k<n->V k w' (us k))->wpList P l.toArray Q (l.drop n) a' w') us 0 (l.take n) a) :
  wpAny P .any l.toArray Q l.toArray.size (Array.replicate l.toArray.size false) a w.drew:=by
 refine Pc n n D [] (λk w us=>V k w (us k)) (λx=>Ext w x) (λ_ x y=>Ext x y) (λ_ _=>false) hB (QW _) (λi d hd=>by simp at hd) (λi d k _ _ _ h=>by cases h) ((Qf w).drew) (λj us h1 h2=>by omega) (λk x y h1 h2=>h1.trans h2)
  (λj x us us' hj h h2=>by rw[←(h hj).1];exact h2) (λj k x y us _ _ _ _ r h=>hV j x y _ r h) (λus=>UX n (λk o a _ H w' hx hd=>?_) (λa' T w' hx hv=>T w' hx (λk hk=>hv k hk (λ_ _=>rfl))) _ _ _ (by simp;omega) (h us))
 simp only[LS];exact H w' hx (λd h2=>hd d (j9 _ h2))
theorem ZB {id:Nat}(n:Nat) (D:List (List Nat)) (V:Nat->World->Value->Prop) (hm:P.follows .mixedOrders=true) (hB:Pb l.toArray n D=true)
  (hV:∀k w w' u,Ext w w'->V k w u->V k w' u)
  (h:∀us,Qx (λk o a=>∀w',Ext w w'->(∀d∈D.getD k [],V d w' (us d))->J6 P l.toArray (λx y=>Ext x y) (V k) o a w') (λa'=>∀w',Ext w w'->(∀k,k<n->V k w' (us k))->wpList P l.toArray Q (l.drop n) a' w') us 0 (l.take n) a):(Code.region id l.toArray true).wp P Q a w :=
 mU hm (Co n D V hB hV h)
theorem Qk {V:World->Value->Prop}{o:Oper}(d:Tmp) (hd:o.dst=some d) (Qo:d<a.tmps.size) (_:o.guard=none)
  (h:wpList P ops (λx a' w'=>x=.normal/\∃u,a'=a.put o.dst u/\Ext w w'/\V w' u) [o] a w):J6 P ops (λx y=>Ext x y) V o a w:=YE d hd Qo h
end
section
variable {P:Program}{Q:Exit->Act->World->Prop}{a:Act}{w:World}{l:List Oper}
theorem Pj {id:Nat}(n:Nat) (D:List (List Nat)) (vs:List Value) (hm:P.follows .mixedOrders=true) (hB:Pb l.toArray n D=true)
  (h:∀us:Nat->Value,Qx (λk o a=>∀w',Ext w w'->(∀d∈D.getD k [],us d=(vs[d]?).getD undef)->J6 P l.toArray (λx y=>Ext x y) (λ_ u=>u=(vs[k]?).getD undef) o a w') (λa'=>∀w',Ext w w'->(∀k,k<n->us k=(vs[k]?).getD undef)->wpList P l.toArray Q (l.drop n) a' w') us 0 (l.take n) a):(Code.region id l.toArray true).wp P Q a w :=
 ZB n D (λk _ u=>u=(vs[k]?).getD undef) hm hB (λ_ _ _ _ _ h=>h) h
theorem GH (a:Act) (d:Option Tmp) (u:Value):(a.put d u).tmps.size=a.tmps.size:=by
 cases d<;>simp[Act.put]
theorem XX {us us':Nat->Value}{L:List Tmp}:∀(l:List Oper) (i:Nat) (a b:Act),a.tmps.size=b.tmps.size->(∀t∈L,a.tmps[t]? =b.tmps[t]?)->
  (∀j o,l[j]? =some o->∀d,o.dst=some d->d∈L->us (i+j)=us' (i+j))->∀t∈L,(Jn us i l a).tmps[t]? =(Jn us' i l b).tmps[t]?
 | [],_,a,b,_,h,_=>h
 | o::r,i,a,b,hs,h,hf=>by
  rw[Jn,Jn];refine XX r (i+1) _ _ (by rw[GH,GH,hs]) (λt ht=>?_) (λj p hj d hd hL=>by have:=hf (j+1) p (by simpa using hj) d hd hL;rw[show i+1+j=i+(j+1) by omega];exact this);cases hd:o.dst with
  | none=>exact h t ht
  | some d =>
   by_cases e:d=t
   ·subst e;have:=hf 0 o rfl d hd ht;rw[fO]at this;simp only[Act.put];rw[Array.getElem?_setIfInBounds_self,Array.getElem?_setIfInBounds_self,hs,this]
   ·simp only[Act.put];rw[j0 e,j0 e];exact h t ht
theorem KJ {us us':Nat->Value}:∀(l:List Oper) (i:Nat) (a:Act),(∀j,j<l.length->us (i+j)=us' (i+j))->Jn us i l a=Jn us' i l a
 | [],_,_,_=>rfl
 | o::r,i,a,h=>by rw[Jn,Jn,show us i=us' i from h 0 (by simp)];exact KJ r (i+1) _ (λj hj=>by have:=h (j+1) (by simpa using hj);rw[show i+1+j=i+(j+1) by omega];exact this)
def Zq (H:Nat->Oper->Act->Value->Prop) (T:Act->Prop):Nat->List Oper->List Value->Act->Prop
 | _,[],_,a=>T a
 | _,_::_,[],a=>T a
 | k,o::r,v::vs,a=>H k o a v/\Zq H T (k+1) r vs (a.put o.dst v)
theorem vW {ops:Array Oper}{o:Oper}{r:List Oper}{v:Value}{vs:List Value}{T:Act->Prop}{w0:World}{k:Nat}{d:Tmp}
  (h:∀w,Ext w0 w->wpList P ops (λx a' w'=>x=.normal/\∃u,a'=a.put o.dst u/\Ext w w'/\u=v) [o] a w) (hr:Zq (λ_ o a v=>∀w',Ext w0 w'->J6 P ops (λx y=>Ext x y) (λ_ u=>u=v) o a w') T (k+1) r vs (a.put o.dst v))
  (hd:o.dst=some d:=by rfl) (Qo:d<a.tmps.size:=by simp[Act.put]) :
  Zq (λ_ o a v=>∀w',Ext w0 w'->J6 P ops (λx y=>Ext x y) (λ_ u=>u=v) o a w') T k (o::r) (v::vs) a:=⟨λw' hx=>YE d hd Qo (h w' hx),hr⟩
theorem KU {H:Nat->Oper->Act->Value->Prop}{T:Act->Prop}(us:Nat->Value):∀(l:List Oper) (vs:List Value) (k:Nat) (a:Act),l.length=vs.length->(∀j v,vs[j]? =some v->us (k+j)=v)->Zq H T k l vs a->
  (∀j o,l[j]? =some o->H (k+j) o (Jn us k (l.take j) a) (us (k+j)))/\T (Jn us k l a)
 | [],[],_,_,_,_,h=>⟨λj o hj=>by simp at hj,h⟩
 | o::r,v::vs,k,a,hl,hu,h=>by
  have h0:us k=v:=hu 0 v rfl;obtain⟨h1,h2⟩:=KU us r vs (k+1) _ (by simpa using hl) (λj u hj=>by have:=hu (j+1) u (by simpa using hj);rw[show k+1+j=k+(j+1) by omega];exact this) h.2;refine⟨λj o' hj=>?_,by rw[Jn,h0];exact h2⟩;cases j with
  | zero =>
   have:o=o':=by simpa using hj
   subst this;rw[fO,h0];exact h.1
  | succ j => have:=h1 j o' (by simpa using hj);rw[show k+1+j=k+(j+1) by omega]at this;rw[Yh,Jn,h0];exact this
theorem VJ {R:World->World->Prop}{V:World->Value->Prop}{o:Oper}(hs:∀cs b,o.op≠.select cs b) {ops:Array Oper}{a b:Act}(h:∀t∈o.looksAt ops,a.tmps[t]? =b.tmps[t]?) (hk:J6 P ops R V o b w):J6 P ops R V o a w:=by
 obtain⟨h1,h2⟩:=R1 (V:=λ_ _=>True) hs h;unfold J6;rw[h1,h2];exact hk
theorem QP {id:Nat}(n:Nat) (D:List (List Nat)) (vs:List Value) (hm:P.follows .mixedOrders=true) (hB:Pb l.toArray n D=true) (hn:vs.length=n)
  (h:Zq (λ_ o a v=>∀w',Ext w w'->J6 P l.toArray (λx y=>Ext x y) (λ_ u=>u=v) o a w') (λa'=>∀w',Ext w w'->wpList P l.toArray Q (l.drop n) a' w') 0 (l.take n) vs a):(Code.region id l.toArray true).wp P Q a w:=by
 have ZL:=Fd hB;have Sj:n<=l.length:=by simpa using ZL.size
 have hp:=KU (λk=>(vs[k]?).getD undef) (l.take n) vs 0 a (by simp;omega) (λj v hj=>by simp[hj]) h;refine Pj n D vs hm hB (λus=>Wz us _ _ _ (λj o hj w' hx hd=>?_) (λw' hx hv=>?_))
 ·have UU:j<n:=by have:=(PO.1 hj).1;simp at this;omega
  have IU:l[j]? =some o:=by rw[Ty,Qv UU]at hj;exact hj
  have h1:=hp.1 j o hj w' hx;rw[Ux]at h1 hd ⊢;refine VJ (mH ZL.sel j o · · (by simpa using IU)) (XX _ _ _ _ rfl (λ_ _=>rfl) (λi p hi d IL hL=>?_)) h1;rw[hO,Ty]at hi;have ve:i<j:=by
   by_cases e:i<min j n
   ·omega
   ·rw[Qr e]at hi;cases hi
  rw[Qv (by omega)]at hi;rw[Ux];exact hd i (ZL.looks j o UU (by simpa using IU) i p (by omega) (by simpa using hi) d IL hL)
 ·have:=hp.2 w' hx
  rwa [KJ (us':=λk=>(vs[k]?).getD undef) _ _ _ (λj hj=>by rw[Ux];exact hv j (by simp at hj;omega))]
end
def Wy (l:List (World->Value->Prop)) (k:Nat):World->Value->Prop:=(l[k]?).getD (λ_ _=>True)
def Xp (v:Value):World->Value->Prop:=λ_ u=>u=v
def Tx (p:World->Value->Prop):Prop:=∀w w' u,Ext w w'->p w u->p w' u
theorem Wv (v:Value):Tx (Xp v):=λ_ _ _ _ h=>h
theorem Uh {l:List (World->Value->Prop)}(h:∀p∈l,Tx p) (k:Nat) (w w':World) (u:Value) (hx:Ext w w') (hv:Wy l k w u):Wy l k w' u:=by
 unfold Wy at *;cases hk:l[k]? with
 | none=>trivial
 | some p => rw[hk]at hv;exact h p (rV hk) w w' u hx hv
def OT (n:Nat) (t:TypeId) (cs:Array Value):World->Value->Prop:=λw u=>∃g,u=.slice (some ⟨g,0,none⟩) n n/\Box w g t cs
theorem BM (n:Nat) (t:TypeId) (cs:Array Value):Tx (OT n t cs):=λ_ _ _ hx ⟨g,e,hb⟩=>⟨g,e,hb.ext hx⟩
section
variable {P:Program}{Q:Exit->Act->World->Prop}{a:Act}{w:World}
theorem GQ {ops:Array Oper}{rest:List Oper}{o:Oper}{n:Nat}{T:TypeId}{cs:Array Value}{d:Tmp}(hd:o.dst=some d) (Qo:d<a.tmps.size) (hg:o.guard=none)
  (h:wpList P ops (λx a' w'=>x=.normal/\∃u,a'=a.put o.dst u/\Ext w w'/\OT n T cs w' u) [o] a w)
  (hK:∀g w',Ext w w'->Box w' g T cs->wpList P ops Q rest (a.put o.dst (.slice (some ⟨g,0,none⟩) n n)) w'):wpList P ops Q (o::rest) a w:=by
 have hw:Region.wanted o (yielded ops a.tmps)=true:=by simp[Region.wanted,hg]
 rcases YE (V:=OT n T cs) (R:=λx y=>Ext x y) d hd Qo h with⟨_,h2⟩|⟨h2,_⟩
 ·rw[wpList,Qv hw];exact .inl (Cp h2 (λu w' hx ⟨g,e,hb⟩=>by subst e;exact hK g w' hx hb))
 ·rw[hw]at h2;cases h2
end
section
variable {P:Program}{Q:Exit->Act->World->Prop}{a:Act}{w:World}{l:List Oper}
abbrev Kn:=Value ⊕ { p:World->Value->Prop // Tx p }
abbrev Kn.val (v:Kn) (u:Value):Value:=match v with
 | .inl v=>v
 | .inr _=>u
abbrev Kn.is (v:Kn) (w:World) (u:Value):Prop:=match v with
 | .inl v=>u=v
 | .inr p=>p.1 w u
theorem Kn.lasts (v:Kn) {x y:World}{u:Value}(e:Ext x y) (h:v.is x u):v.is y u:=by
 cases v with
 | inl v=>exact h
 | inr p=>exact p.2 x y u e h
theorem Kn.eq (v:Kn) {x:World}{u:Value}(h:v.is x u):u=v.val u:=by
 cases v with
 | inl v=>exact h
 | inr p=>rfl
abbrev OS (n:Nat) (t:TypeId) (cs:Array Value):Kn:=.inr ⟨_,BM n t cs⟩
abbrev kn0:Kn:=.inr ⟨λ_ _=>True,λ_ _ _ _ h=>h⟩
def K0 (H:Nat->Oper->Act->Kn->Prop) (T:Act->Prop) (us:Nat->Value):Nat->List Oper->List Kn->Act->Prop
 | _,[],_,a=>T a
 | _,_::_,[],a=>T a
 | k,o::r,v::vs,a=>H k o a v/\K0 H T us (k+1) r vs (a.put o.dst (v.val (us k)))
abbrev PF (vs:List Kn) (k:Nat):Kn:=(vs[k]?).getD kn0
theorem NY {H:Nat->Oper->Act->Kn->Prop}{T:Act->Prop}{us:Nat->Value}(us':Nat->Value):∀(l:List Oper) (vs:List Kn) (k:Nat) (a:Act),l.length=vs.length->(∀j v,vs[j]? =some v->us' (k+j)=v.val (us (k+j)))->K0 H T us k l vs a->
  (∀j o v,l[j]? =some o->vs[j]? =some v->H (k+j) o (Jn us' k (l.take j) a) v)/\T (Jn us' k l a)
 | [],[],_,_,_,_,h=>⟨λj o v hj=>by simp at hj,h⟩
 | o::r,v::vs,k,a,hl,hu,h=>by
  have h0:us' k=v.val (us k):=hu 0 v rfl;obtain⟨h1,h2⟩:=NY us' r vs (k+1) _ (by simpa using hl) (λj u hj=>by have:=hu (j+1) u (by simpa using hj);rw[show k+1+j=k+(j+1) by omega];exact this) h.2;refine⟨λj o' v' hj hv=>?_,by rw[Jn,h0];exact h2⟩;cases j with
  | zero =>
   have:o=o':=by simpa using hj
   subst this;have:v=v':=by simpa using hv
   subst this;exact h.1
  | succ j => have:=h1 j o' v' (by simpa using hj) (by simpa using hv);rw[show k+1+j=k+(j+1) by omega]at this;rw[Yh,Jn,h0];exact this
abbrev HX (P:Program) (ops:Array Oper) (w0:World) (D:List (List Nat)) (vs:List Kn) (us:Nat->Value) (k:Nat) (o:Oper) (a:Act) (v:Kn):Prop :=
 ∀w',Ext w0 w'->(∀d∈D.getD k [],(PF vs d).is w' (us d))->J6 P ops (λx y=>Ext x y) (λw u=>v.is w u) o a w'
theorem xW {ops:Array Oper}{o:Oper}{r:List Oper}{v:Value}{vs0 vs:List Kn}{D:List (List Nat)}{T:Act->Prop}{w0:World}{us:Nat->Value}{k:Nat}{d:Tmp}
  (h:∀w,Ext w0 w->(∀d∈D.getD k [],(PF vs0 d).is w (us d))->wpList P ops (λx a' w'=>x=.normal/\∃u,a'=a.put o.dst u/\Ext w w'/\u=v) [o] a w) (hr:K0 (HX P ops w0 D vs0 us) T us (k+1) r vs (a.put o.dst v))
  (hd:o.dst=some d:=by rfl) (Qo:d<a.tmps.size:=by simp[Act.put]) :
  K0 (HX P ops w0 D vs0 us) T us k (o::r) (.inl v::vs) a:=⟨λw' hx Bo=>YE d hd Qo (h w' hx Bo),hr⟩
theorem xR {ops:Array Oper}{o:Oper}{r:List Oper}{p:{ p:World->Value->Prop // Tx p }} {vs0 vs:List Kn}{D:List (List Nat)}{T:Act->Prop}{w0:World}{us:Nat->Value}{k:Nat}{d:Tmp}
  (h:∀w,Ext w0 w->(∀d∈D.getD k [],(PF vs0 d).is w (us d))->wpList P ops (λx a' w'=>x=.normal/\∃u,a'=a.put o.dst u/\Ext w w'/\p.1 w' u) [o] a w) (hr:K0 (HX P ops w0 D vs0 us) T us (k+1) r vs (a.put o.dst (us k)))
  (hd:o.dst=some d:=by rfl) (Qo:d<a.tmps.size:=by simp[Act.put]) :
  K0 (HX P ops w0 D vs0 us) T us k (o::r) (.inr p::vs) a:=⟨λw' hx Bo=>YE d hd Qo (h w' hx Bo),hr⟩
theorem YS {id:Nat}(n:Nat) (D:List (List Nat)) (vs:List Kn) (hm:P.follows .mixedOrders=true) (hB:Pb l.toArray n D=true) (hn:vs.length=n)
  (h:∀us,K0 (HX P l.toArray w D vs us) (λa'=>∀w',Ext w w'->(∀k,k<n->(PF vs k).is w' (us k))->wpList P l.toArray Q (l.drop n) a' w') us 0 (l.take n) vs a):(Code.region id l.toArray true).wp P Q a w:=by
 have ZL:=Fd hB;have Sj:n<=l.length:=by simpa using ZL.size
 refine ZB n D (λk=>(PF vs k).is) hm hB (λk x y u e hv=>Kn.lasts _ e hv) (λus=>?_);have hp:=NY (λk=>(PF vs k).val (us k)) (l.take n) vs 0 a (by simp;omega) (λj v hj=>by simp[PF,hj]) (h us);refine Wz us _ _ _ (λj o hj w' hx hd=>?_) (λw' hx hv=>?_)
 ·have UU:j<n:=by have:=(PO.1 hj).1;simp at this;omega
  have IU:l[j]? =some o:=by rw[Ty,Qv UU]at hj;exact hj
  have vw:vs[j]? =some (vs[j]'(by omega)):=JZ (by omega);have h2:=hp.1 j o _ hj vw w' hx (by simpa using hd);rw[Ux]at hd ⊢;have e:vs[j]'(by omega)=PF vs j:=by unfold PF;rw[vw];rfl
  rw[e]at h2;refine VJ (mH ZL.sel j o · · (by simpa using IU)) (XX _ _ _ _ rfl (λ_ _=>rfl) (λi p hi d IL hL=>?_)) h2;rw[hO,Ty]at hi;have ve:i<j:=by
   by_cases e:i<min j n
   ·omega
   ·rw[Qr e]at hi;cases hi
  rw[Qv (by omega)]at hi;rw[Ux];exact Kn.eq _ (hd i (ZL.looks j o UU (by simpa using IU) i p (by omega) (by simpa using hi) d IL hL))
 ·have:=hp.2 w' hx hv
  rwa [KJ (us':=λk=>(PF vs k).val (us k)) _ _ _ (λj hj=>by rw[Ux];exact Kn.eq _ (hv j (by simp at hj;omega)))]
end
section
variable {P:Program}{ops:Array Oper}{md:Region.Mode}{w0:World}{V:World->Value->Prop}
def uw (w0:World) (S:World->Prop) (w:World):Prop:=Ext w0 w/\S w
def BT (P:Program) (V:World->Value->Prop) (w:World):Result Next->Prop
 | .ok (.value u) w'=>Ext w w'/\V w' u
 | .ok (.enter f args) w'=>w'=w/\Calls P f args w (λe w''=>∃u,e=.returned u/\Ext w w''/\V w'' u)
 | _=>False
def dY (P:Program) (o:Oper) (a:Act) (w0:World) (V:World->Value->Prop):Prop:=∀x:Qg w0,BT P V x.now ((execOp a.eval o).run P x.now)
def pend (P:Program) (md:Region.Mode) (ops:Array Oper) (w0:World) (V:World->Value->Prop) (n:Nat) (o0:Oper) (L:Value->Array Bool->Act->Prop):Nat->Array Bool->Act->Prop
 | 0,_,_=>False
 | f+1,s,a=>Region.ready md ops s≠[]/\∀i∈Region.ready md ops s,i<n/\
   (i+1=n->dY P o0 a w0 V/\∀u,Mh P md ops (uw w0 (λw=>V w u)) n (L u) f (s.setIfInBounds i true) (a.put o0.dst u))/\
   (i+1≠n->qOp P ops (uw w0 λ_=>True) i (pend P md ops w0 V n o0 L f (s.setIfInBounds i true)) a)
end
section
variable {P:Program}{ops:Array Oper}{a:Act}{w:World}
def fj (P:Program) (ops:Array Oper) (R:World->World->Prop) (V:World->Value->Prop) (o:Oper) (a:Act) (w:World):Prop :=
 Region.wanted o (yielded ops a.tmps)=true/\KB P R V w ((execOp a.eval o).run P w)
theorem Q4 {R:World->World->Prop}{V:World->Value->Prop}{o:Oper}(d:Tmp) (hd:o.dst=some d) (Qo:d<a.tmps.size) (hg:o.guard=none)
  (h:wpList P ops (λx a' w'=>x=.normal/\∃u,a'=a.put o.dst u/\R w w'/\V w' u) [o] a w):fj P ops R V o a w :=
 (YE d hd Qo h).elim id (λh=>by
  have:Region.wanted o (yielded ops a.tmps)=true:=by simp[Region.wanted,hg]
  rw[h.1]at this;cases this)
end
section
variable {P:Program}{Q:Exit->Act->World->Prop}{a:Act}{w:World}{l:List Oper}
theorem Kf {id:Nat}(n:Nat) (D:List (List Nat)) (V:Nat->World->Value->Prop) (C:World->Prop) (PP:Nat->World->Prop) (R:Nat->World->World->Prop) (m:Nat) (kd:List Nat) (hm:P.follows .mixedOrders=true) (hB:Pb l.toArray n D=true)
  (hKD:((List.range n).all λi=>decide (i=m)||(D.getD i []).all λd=>!kd.contains d)=true) (hC0:C { w with drawn:=w.drawn+1 }) (hP0:∀j,PP j { w with drawn:=w.drawn+1 })
  (hC:∀k w w',C w->R k w w'->C w')
  (hP:∀j k w w',j≠k->C w->PP j w->R k w w'->PP j w')
  (hV:∀j k w w' u,j<n->j≠k->(k=m->j∉kd)->C w->R k w w'->V j w u->V j w' u)
  (h:∀us,Qx (λk o a=>∀w',C w'->PP k w'->(∀d∈D.getD k [],V d w' (us d))->fj P l.toArray (R k) (V k) o a w') (λa'=>∀w',C w'->(∀k,k<n->k∉kd->V k w' (us k))->wpList P l.toArray Q (l.drop n) a' w') us 0 (l.take n) a):(Code.region id l.toArray true).wp P Q a w:=by
 have ZL:=Fd hB;refine mU hm (Pc n (n+n) D ((List.range n).map λk=>[n+k]) (λj w us=>if j<n then V j w (us j) else PP (j-n) w) C R (λk j=>(decide (k=m)&&(kd.contains j&&decide (j<n)))||decide (j=n+k)) hB (by omega) (λi d hd=>?_) (λi d k hi hd hk hl s inv hs=>?_) hC0 (λj us h1 h2=>by rw[Qr (by omega)];exact hP0 _) hC (λj x us us' hj h h2=>?_) (λj k x y us hj QY hl hx r h2=>?_) (λus=>?_))
 ·by_cases hi:i<n
  ·rw[ZG,LZ,DA hi]at hd;have:d=n+i:=by simpa using hd
   omega
  ·rw[ZG,Fl (by simpa using hi)]at hd;simp at hd
 ·rcases SN.1 hd with hd|hd
  ·have DZ:=(ZL.deps i (l[i]'(by have:=ZL.size;simp at this;omega)) hi (by simp) d hd).1;rw[fN]at hl;rcases hl with hl|hl
   ·rw[VB]at hl;have h:=Pv.1 hKD i (Pw.2 hi);rw[fN]at h;rcases h with h|h
    ·rw[VY hl.1,←VY h];exact hs
    ·have h2:=Pv.1 h d hd;rw[VB]at hl;rw[hl.2.1]at h2;cases h2
   ·have:=VY hl;omega
  ·rw[ZG,LZ,DA hi]at hd;have Bl:d=n+i:=by simpa using hd
   subst Bl;rw[fN]at hl;rcases hl with hl|hl
   ·rw[VB]at hl;rw[VB]at hl;have:=VY hl.2.2;omega
   ·have:=VY hl;rw[show k=i by omega];exact hs
 ·by_cases e:j<n
  ·rw[Qv e]at h2 ⊢;rw[←(h e).1];exact h2
  ·rw[Qr e]at h2 ⊢;exact h2
 ·rw[fJ,rT]at hl;by_cases e:j<n
  ·rw[Qv e]at h2 ⊢;exact hV j k x y _ e QY (λhk Fu=>hl.1.elim (λh=>SI h hk) (λh=>by rw[fI.2 Fu,Ve e]at h;cases h)) hx r h2
  ·rw[Qr e]at h2 ⊢;exact hP _ k x y (λh=>SI hl.2 (by omega)) hx h2 r
 ·refine UX n (λk o a hk H w' hx hd=>?_) (λa' T w' hx hv=>T w' hx (λk hk Fu=>?_)) _ _ _ (by simp;omega) (h us)
  ·have vn:PP k w':=by
    have:=hd (n+k) (ph _ (by rw[ZG,LZ,DA hk];simp));rw[Qr (by omega),show n+k-n=k by omega]at this;exact this
   have IL:∀d∈D.getD k [],V d w' (us d):=λd h2=>by have Qo:=(ZL.deps k (l[k]'(by have:=ZL.size;simp at this;omega)) hk (by simp) d h2).1;have:=hd d (j9 _ h2);rw[Qv (by omega)]at this;exact this
   have h3:=H w' hx vn IL;simp only[LS,Qv hk];exact .inl h3
  ·have:=hv k (by omega) (λi hi=>by
    rw[fJ];refine⟨?_,XI (by omega)⟩;rw[rT,rT];refine .inr (.inl ?_);cases hc:kd.contains k with
    | false=>rfl
    | true=>exact absurd (fI.1 hc) Fu)
   rw[Qv hk]at this;exact this
end
section
variable {P:Program}{Q:Exit->Act->World->Prop}{a:Act}{w:World}{l:List Oper}
theorem Ek {R R':World->World->Prop}{V V':World->Value->Prop}(hR:∀x y,R x y->R' x y) (hV:∀x y u,R x y->V y u->V' y u) {r:Result Next}(h:KB P R V w r):KB P R' V' w r:=by
 cases r with
 | ok n w' =>
  cases n<;>simp only[KB]at h ⊢;case value u=>exact⟨hR _ _ h.1,hV _ _ _ h.1 h.2⟩
  case skip=>exact⟨hR _ _ h.1,hV _ _ _ h.1 h.2⟩
  case enter f args=>exact h.mono λe w'' ⟨u,h1,h2,h3⟩=>⟨u,h1,hR _ _ h2,hV _ _ _ h2 h3⟩
  case row row args=>exact h.mono λu w'' ⟨h2,h3⟩=>⟨hR _ _ h2,hV _ _ _ h2 h3⟩
 | halt x w'=>simp only[KB]at h
theorem NI {ops:Array Oper}{R R':World->World->Prop}{V V':World->Value->Prop}{o:Oper}(hR:∀x y,R x y->R' x y) (hV:∀x y u,R x y->V y u->V' y u) (h:J6 P ops R V o a w):J6 P ops R' V' o a w :=
 h.elim (λh=>.inl ⟨h.1,Ek hR hV h.2⟩) (λh=>.inr ⟨h.1,hR _ _ h.2.1,hV _ _ _ h.2.1 h.2.2⟩)
theorem RL {us us':Nat->Value}:∀(l:List Oper) (i:Nat) (a:Act),(∀j o,l[j]? =some o->o.dst≠none->us (i+j)=us' (i+j))->Jn us i l a=Jn us' i l a
 | [],_,_,_=>rfl
 | o::r,i,a,h=>by
  rw[Jn,Jn];have e:a.put o.dst (us i)=a.put o.dst (us' i):=by
   cases hd:o.dst with
   | none=>rfl
   | some d=>rw[show us i=us' i from h 0 o rfl (by rw[hd];exactλh=>by cases h)]
  rw[e];exact RL r (i+1) _ (λj p hj hp=>by have:=h (j+1) p (by simpa using hj) hp;rw[show i+1+j=i+(j+1) by omega];exact this)
def HS (P:Program) (ops:Array Oper) (s:Nat) (Ld:List Nat) (J0 J1:World->Prop) (k:Nat) (o:Oper) (a:Act) (v:Value):Prop :=
 (k=s->∀w',J0 w'->J6 P ops (λ_ y=>J1 y) (λ_ _=>True) o a w')/\(k≠s->∀w',(k∈Ld->J0 w')->J6 P ops (λx y=>x=y) (λ_ u=>u=v) o a w')
theorem sW {ops:Array Oper}{o:Oper}{r:List Oper}{v:Value}{vs:List Value}{T:Act->Prop}{s:Nat}{Ld:List Nat}{J0 J1:World->Prop}{k:Nat}{d:Tmp}
  (h:∀w,(k∈Ld->J0 w)->wpList P ops (λx a' w'=>x=.normal/\∃u,a'=a.put o.dst u/\w=w'/\u=v) [o] a w) (hr:Zq (HS P ops s Ld J0 J1) T (k+1) r vs (a.put o.dst v))
  (hd:o.dst=some d:=by rfl) (Qo:d<a.tmps.size:=by simp[Act.put]) (hk:k≠s:=by decide):Zq (HS P ops s Ld J0 J1) T k (o::r) (v::vs) a :=
 ⟨⟨λe=>absurd e hk,λ_ w' hx=>YE d hd Qo (h w' hx)⟩,hr⟩
theorem sS {ops:Array Oper}{o:Oper}{r:List Oper}{v:Value}{vs:List Value}{T:Act->Prop}{s:Nat}{Ld:List Nat}{J0 J1:World->Prop}{k:Nat}
  (h:∀w,J0 w->wpList P ops (λx a' w'=>x=.normal/\a'=a/\J1 w'/\True) [o] a w) (hr:Zq (HS P ops s Ld J0 J1) T (k+1) r vs (a.put o.dst v))
  (hd:o.dst=none:=by rfl) (hg:o.guard=none:=by rfl) (hk:k=s:=by rfl):Zq (HS P ops s Ld J0 J1) T k (o::r) (v::vs) a :=
 ⟨⟨λ_ w' hx=>F7 hd hg (λ_ _ h=>h) (h w' hx),λe=>absurd hk e⟩,hr⟩
theorem YT {id:Nat}(n:Nat) (D:List (List Nat)) (vs:List Value) (s:Nat) (Ld:List Nat) (J0 J1:World->Prop) (hm:P.follows .mixedOrders=true) (hB:Pb l.toArray n D=true) (hn:vs.length=n)
  (Ko:(l[s]?).map (·.dst)=some none) (hs:(decide (s<n)&&Ld.all λi=>decide (i<n)&&decide (i≠s)&&Region.waitsFor .any l.toArray s i)=true) (h0:J0 w.drew)
  (h:Zq (HS P l.toArray s Ld J0 J1) (λa'=>∀w',J1 w'->wpList P l.toArray Q (l.drop n) a' w') 0 (l.take n) vs a):(Code.region id l.toArray true).wp P Q a w:=by
 have ZL:=Fd hB;have Sj:n<=l.length:=by simpa using ZL.size
 rw[VB]at hs;have Rb:s<n:=VY hs.1;have hLd:∀i∈Ld,i<n/\i≠s/\Region.waitsFor .any l.toArray s i=true:=λi hi=>by have h1:=Pv.1 hs.2 i hi;rw[VB,VB]at h1;exact⟨VY h1.1.1,VY h1.1.2,h1.2⟩
 have hp:=KU (λk=>(vs[k]?).getD undef) (l.take n) vs 0 a (by simp;omega) (λj v hj=>by simp[hj]) h
 refine mU hm (Pc n (n+1) D ((List.range n).map λk=>if k∈Ld\/k=s then [n] else []) (λj x us=>if j=n then J0 x else if j=s then J1 x else us j=(vs[j]?).getD undef) (λ_=>True) (λk x y=>if k=s then J1 y else x=y)
  (λk j=>decide (k=s)&&decide (j=n)) hB (Nat.le_succ n) (λi d hd=>?_) (λi d k hi hd hk hl t inv ht=>?_) trivial (λj us h1 h2=>?_) (λ_ _ _ _ _=>trivial) (λj x us us' hj h1 h2=>?_) (λj k x y us hj hjk hl _ r h2=>?_) (λus=>Wz us _ _ _ (λj o hj w' _ hd=>?_) (λw' _ hv=>?_)))
 ·by_cases hi:i<n
  ·rw[ZG,LZ,DA hi]at hd;simp only[au,SM]at hd;split at hd
   ·have:d=n:=by simpa using hd
    omega
   ·simp at hd
  ·rw[ZG,Fl (by simpa using hi)]at hd;simp at hd
 ·rw[VB]at hl;have hks:=VY hl.1;have Bl:=VY hl.2;subst hks;subst Bl;rcases SN.1 hd with hd|hd
  ·have:=(ZL.deps i (l[i]'(by omega)) hi (by simp) d hd).1;omega
  ·rw[ZG,LZ,DA hi]at hd;simp only[au,SM]at hd;split at hd
   ·rename_i XL;rcases XL with XL|XL
    ·refine CL inv (ch:=[i]) ?_ ht;rw[iK,(hLd i XL).2.2];simp;omega
    ·rw[←XL];exact ht
   ·simp at hd
 ·rw[Qv (by omega)];exact h0
 ·by_cases e:j=n
  ·rw[Qv e]at h2 ⊢;exact h2
  ·rw[Qr e]at h2 ⊢;split
   ·rename_i e2;rw[Qv e2]at h2;exact h2
   ·rename_i e2;rw[Qr e2]at h2;rw[←(h1 (by omega)).1];exact h2
 ·by_cases ek:k=s
  ·rw[Qv ek]at r;by_cases e:j=n
   ·subst ek;subst e;simp at hl
   ·rw[Qr e]at h2 ⊢;split
    ·exact r
    ·rename_i e2;rw[Qr e2]at h2;exact h2
  ·rw[Qr ek]at r;rw[←r];exact h2
 ·have UU:j<n:=by have:=(PO.1 hj).1;simp at this;omega
  have IU:l[j]? =some o:=by rw[Ty,Qv UU]at hj;exact hj
  have h1:=hp.1 j o hj;rw[Ux]at h1 hd ⊢;have hE:j∈Ld\/j=s->J0 w':=λhh=>by
   have h2:=hd n (ph _ (by
    rw[ZG,LZ,DA UU];simp only[au,SM];rw[Qv hh];simp))
   rwa [Qv rfl]at h2
  have nT:∀t∈o.looksAt l.toArray,(Jn us 0 ((l.take n).take j) a).tmps[t]? =(Jn (λk=>(vs[k]?).getD undef) 0 ((l.take n).take j) a).tmps[t]? :=by
   refine XX _ _ _ _ rfl (λ_ _=>rfl) (λi p hi d IL hL=>?_);rw[hO,Ty]at hi;have ve:i<j:=by
    by_cases e:i<min j n
    ·omega
    ·rw[Qr e]at hi;cases hi
   rw[Qv (by omega)]at hi;rw[Ux];have hD:=hd i (j9 _ (ZL.looks j o UU (by simpa using IU) i p (by omega) (by simpa using hi) d IL hL));rw[Qr (by omega)]at hD;by_cases e:i=s
   ·exfalso;subst e;rw[hi]at Ko;have h5:p.dst=none:=by simpa using Ko
    rw[IL]at h5;cases h5
   ·rw[Qr e]at hD;exact hD
  refine VJ (mH ZL.sel j o · · (by simpa using IU)) nT ?_;by_cases e:j=s
  ·refine NI (λx y h=>?_) (λx y u h _=>?_) (h1.1 e w' (hE (.inr e)))
   ·rw[Qv e];exact h
   ·rw[Qr (by omega),Qv e];exact h
  ·refine NI (λx y h=>?_) (λx y u h h2=>?_) (h1.2 e w' (λh=>hE (.inl h)))
   ·rw[Qr e];exact h
   ·rw[Qr (by omega),Qr e,LS];exact h2
 ·have h1:=hp.2;have h2:=hv s (by omega) (λk _=>by simp;omega);rw[Qr (by omega),Qv rfl]at h2;rw[RL (us':=λk=>(vs[k]?).getD undef) _ _ _ (λj p hj Bv=>?_)]
  ·exact h1 w' h2
  ·have UU:j<n:=by have:=(PO.1 hj).1;simp at this;omega
   rw[Ux];have h3:=hv j (by omega) (λk _=>by simp;omega);rw[Qr (by omega)]at h3;by_cases e:j=s
   ·exfalso;subst e;rw[Ty,Qv UU]at hj;rw[hj]at Ko;exact Bv (by simpa using Ko)
   ·rw[Qr e]at h3;exact h3
end
end Go.Proofs.YtfaplefkakpgcaaGreatDoor
