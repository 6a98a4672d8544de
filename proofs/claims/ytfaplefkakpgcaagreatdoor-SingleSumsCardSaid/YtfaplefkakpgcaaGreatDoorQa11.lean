import Derived.Test.YtfaplefkakpgcaaGreatDoorQa2
import Derived.OrdersIn
import Derived.RangeFuncNested
import Derived.RangeFuncBound
import Derived.RangeFuncCalls
import Derived.RangeFuncLeaves
import Derived.RangeFuncBox
set_option linter.unusedVariables false
set_option linter.unusedSimpArgs false
set_option maxHeartbeats 32000000
set_option maxRecDepth 100000
namespace Go.Proofs.YtfaplefkakpgcaaGreatDoor
open Go.RowKit
def Xz (ops:Array Oper):Bool:=ops.all λo=>match o.op with|.defer _=>false|_=>true
section
variable {P:Program}{ops:Array Oper}{Q:Exit->Act->World->Prop}{l₀ n:Nat}
theorem Ev (h:Xz ops=true) {i:Nat}{o:Oper}(hi:ops[i]? =some o) (c:Call):o.op≠.defer c:=by
 intro e;unfold Xz at h;rw[Array.all_eq_true']at h;have:=h o (Array.mem_of_getElem? hi);rw[e]at this;cases this
theorem De (hQ:¬LetsOut Q) {o:Oper}{a:Act}{K K':Act->World->Prop}(hK:∀a w,K a w->K' a w) (r:Result Next) (h:o.upon P a K Q r):o.uponIn (Fence.wide.inRound l₀) n P a K' Q r:=by
 have hn:(Fence.wide.inRound l₀).depth.isSome=true->1<=n:=λe=>by cases e
 unfold Oper.upon at h;unfold Oper.uponIn;split at h
 ·exact hK _ _ h
 ·exact hK _ _ h
 ·exact hK _ _ h
 ·refine⟨hn,CallsIn.inRound l₀ (Pp.2 (Calls.mono h λe w'' he=>?_))⟩;cases e with
  | returned v=>exact hK _ _ he
  | panicked ch=>exact he
  | outgrown=>exact he
 ·refine⟨hn,λc cs _=>?_⟩;obtain⟨v,w'',hr,hs⟩:=h c cs;exact⟨v,w'',hK _ _ hr,stepsIn_wide.2 hs⟩
 ·exact h
 ·exact h.elim
theorem Ok (hQ:¬LetsOut Q) (hd:Xz ops=true) {i:Nat}{a:Act}{w:World}{K K':Act->World->Prop}(hK:∀a w,K a w->K' a w) (h:wpOp P ops Q i K a w) :
  wpOpIn (Fence.wide.inRound l₀) n P ops Q i K' a w:=by
 unfold wpOp at h;unfold wpOpIn;cases ho:ops[i]? with
 | none=>rw[ho]at h;exact hK _ _ h
 | some o =>
  rw[ho]at h;simp only at h ⊢;by_cases hw:Region.wanted o (yielded ops a.tmps)=true
  ·rw[Qv hw]at h ⊢;rcases h with h|h
   ·refine⟨λ_ _=>trivial,?_⟩;rw[show o.semAt (Fence.wide.inRound l₀).round a.eval=execOp a.eval o from A9 l₀ a.eval o (Ev hd ho)];exact De hQ hK _ h
   ·exact(hQ h.2).elim
  ·rw[Qr hw]at h ⊢;exact⟨λ_ _=>trivial,hK _ _ h⟩
theorem Mq (hQ:¬LetsOut Q) (hd:Xz ops=true):∀(l:List Nat) (a:Act) (w:World),wpOps P ops Q l a w->wpOpsIn (Fence.wide.inRound l₀) n P ops Q l a w
 | [],_,_,h=>h
 | i::rest,a,w,h=>by rw[wpOps_cons]at h;rw[wpOpsIn_cons];exact Ok hQ hd (Mq hQ hd rest) h
theorem KV {id:Nat}{a:Act}{w:World}(hQ:¬LetsOut Q) (hd:Xz ops=true) (hm:P.follows .mixedOrders=true)
  (h:wpAny P .any ops Q ops.size (Array.replicate ops.size false) a { w with drawn:=w.drawn+1 }):(Code.region id ops true).wpIn (Fence.wide.inRound l₀) n P Q a w :=
 wpIn_region_draw λt=>by simp only[Region.schedule,hm,Bool.true_or,if_true];exact Mq hQ hd _ _ _ (wpAny_sound ops.size t _ a _ h)
theorem Km {id:Nat}{a:Act}{w:World}{l:List Oper}(k:Nat) (hQ:¬LetsOut Q) (hd:Xz l.toArray=true) (hm:P.follows .mixedOrders=true) (hB:Region.lexTailB .any l.toArray k=true)
  (h:wpQuiet P l.toArray (λw'=>∃x:Qg w,w'=x.now) (λa'=>∀w',(∃x:Qg w,w'=x.now)->wpList P l.toArray Q (l.drop k) a' w') (l.take k) a):(Code.region id l.toArray true).wpIn (Fence.wide.inRound l₀) n P Q a w :=
 KV hQ hd hm (Kq k hB ⟨⟨_,(Qf w).drew⟩,rfl⟩ h)
end
section
variable {P:Program}{l₀ nn:Nat}
theorem Ke {id:Nat}{Q:Exit->Act->World->Prop}{a:Act}{w:World}{l:List Oper}(n:Nat) (D:List (List Nat)) (V:Nat->World->Value->Prop) (hQ:¬LetsOut Q) (hd:Xz l.toArray=true) (hm:P.follows .mixedOrders=true) (hB:Pb l.toArray n D=true)
  (hV:∀k w w' u,Ext w w'->V k w u->V k w' u)
  (h:∀us,Qx (λk o a=>∀w',Ext w w'->(∀d∈D.getD k [],V d w' (us d))->J6 P l.toArray (λx y=>Ext x y) (V k) o a w') (λa'=>∀w',Ext w w'->(∀k,k<n->V k w' (us k))->wpList P l.toArray Q (l.drop n) a' w') us 0 (l.take n) a):(Code.region id l.toArray true).wpIn (Fence.wide.inRound l₀) nn P Q a w :=
 KV hQ hd hm (Co n D V hB hV h)
end
end Go.Proofs.YtfaplefkakpgcaaGreatDoor
