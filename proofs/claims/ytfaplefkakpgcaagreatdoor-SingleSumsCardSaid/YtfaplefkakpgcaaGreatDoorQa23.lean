import Derived.Test.YtfaplefkakpgcaaGreatDoorQa22
import Derived.Test.YtfaplefkakpgcaaGreatDoorQa8
set_option linter.unusedVariables false
set_option linter.unusedSimpArgs false
set_option maxHeartbeats 32000000
set_option maxRecDepth 100000
namespace Go.Proofs.YtfaplefkakpgcaaGreatDoor
open Go.Proofs.Tryz
open Go.RowKit
theorem Ou {w:World}{base n:Nat}{u:Value}{ss:List (List UInt8)}(h:w.ownsRow base 9 1 u n (Q5 ss)):∃A c,u=.slice A n c/\TRow w A n ss/\n<=c:=by
 rcases h.2 with⟨hv,h0⟩|⟨g,cap,cur,hv,_,_,hc,_⟩
 ·subst hv;subst h0;exact⟨none,0,rfl,TRow.own h,QW _⟩
 ·subst hv;exact⟨_,cap,rfl,TRow.own h,hc⟩
def zI:Option Nat->Int
 | none=>-1
 | some z=>z
def SF (s:List UInt8) (z:Option Nat) (w:World) (e:Ending) (w':World):Prop :=
 (∃l b,Jm z s=some l/\e=.returned (.pointer (some ⟨b,0,none⟩))/\w.heap.size<=b/\Qq w' b l/\Ext w w')\/(Jm z s=none/\e=QZ/\Ext w w')
theorem KD (s:List UInt8) (z:Option Nat) (w:World) (hs:s.length<=1000000000) (hz:∀n,z=some n->n<=1000) :
  Calls prog 125 #[.string (Qb s),.int .i64 (zI z)] w (SF s z w):=by
 have nS:=VV s;have HT:=Qa ((AC s w hs).mono (λe w' ⟨u,he,x,o⟩=>by
  obtain⟨A,c,hu,ht,hc⟩:=Ou o;exact(⟨A,c,by rw[he,hu],x,ht,hc⟩:∃A c,e=.returned (.tuple #[.slice A (QD s).1.length c,.int .i64 (QD s).2])/\Ext w w'/\TRow w' A (QD s).1.length (QD s).1/\(QD s).1.length<=c)))
 have hN:Zv (∀w' l b,Jm z s=some l->w.heap.size<=b->Qq w' b l->Ext w w'->SF s z w (.returned (.pointer (some ⟨b,0,none⟩))) w'):=Qa (λw' l b h1 h2 h3 h4=>.inl ⟨l,b,h1,rfl,h2,h3,h4⟩);have iZ:Zv (∀w',Jm z s=none->Ext w w'->SF s z w QZ w'):=Qa (λw' h1 h2=>.inr ⟨h1,rfl,h2⟩);by_cases he:(QD s).2=0
 ·have hb:((QD s).2 != 0)=false:=by simp[he]
  cases z with
  | none =>
   have ho:Zv (Jm none s=some (QD s).1):=Qa (Qv ⟨he,λn h=>by cases h⟩);have fh:¬((-1:Int)≥0):=by decide
   clear he hz;generalize QD s=T at *;unfold zI;go_enter func125,ntmps125;go_wp2_with (go_at_call 189;refine HT.o.mono ?_;rintro e w1 ⟨A,c,rfl,x1,ht,hc⟩)
   go_ret;exact hN.o _ _ _ ho.o x1.size ⟨A,_,c,QA _ _ _,ht.ext ((Qf _).alloc _),hc⟩ (x1.alloc _)
  | some k =>
   have hk:=hz k rfl;have fh:(0:Int)<=k:=by omega
   by_cases hl:(QD s).1.length=k
   ·have ho:Zv (Jm (some k) s=some (QD s).1):=Qa (Qv ⟨he,λn h=>by cases h;exact hl⟩);have hq:(((QD s).1.length:Int) != (k:Int))=false:=by rw[hl];simp
    clear he hz hl;generalize QD s=T at *;unfold zI;go_enter func125,ntmps125;go_wp2_with (go_at_call 189;refine HT.o.mono ?_;rintro e w1 ⟨A,c,rfl,x1,ht,hc⟩)
    go_ret;exact hN.o _ _ _ ho.o x1.size ⟨A,_,c,QA _ _ _,ht.ext ((Qf _).alloc _),hc⟩ (x1.alloc _)
   ·have ho:Zv (Jm (some k) s=none):=Qa (Qr (λh=>hl (h.2 k rfl)));have hq:(((QD s).1.length:Int) != (k:Int))=true:=by simp;omega
    clear he hz hl;generalize QD s=T at *;unfold zI;go_enter func125,ntmps125;go_wp2_with (go_at_call 189;refine HT.o.mono ?_;rintro e w1 ⟨A,c,rfl,x1,ht,hc⟩)
    exact⟨rfl,iZ.o _ ho.o x1⟩
 ·have hb:((QD s).2 != 0)=true:=by simpa using he
  have ho:Zv (Jm z s=none):=Qa (Qr (λh=>he h.1));clear he hz;generalize QD s=T at *;go_enter func125,ntmps125;go_wp2_with (go_at_call 189;refine HT.o.mono ?_;rintro e w1 ⟨A,c,rfl,x1,ht,hc⟩)
  exact⟨rfl,iZ.o _ ho.o x1⟩
end Go.Proofs.YtfaplefkakpgcaaGreatDoor
