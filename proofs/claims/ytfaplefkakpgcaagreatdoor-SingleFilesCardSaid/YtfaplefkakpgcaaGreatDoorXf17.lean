/- image.open: a cursor on the texts of a row. -/
import Derived.Test.YtfaplefkakpgcaaGreatDoorXf16
import Derived.Test.YtfaplefkakpgcaaGreatDoorXf8
import Derived.Laws.MakeOwn
set_option linter.unusedVariables false
set_option linter.unusedSimpArgs false
set_option maxHeartbeats 32000000
set_option maxRecDepth 100000
namespace Go.Proofs.YtfaplefkakpgcaaGreatDoor
open Go.Proofs.Tryz
open Go.RowKit
theorem own_trow {w:World}{base n:Nat}{u:Value}{ss:List (List UInt8)}(h:w.ownsRow base 9 1 u n (strL ss)):∃A c,u=.slice A n c/\TRow w A n ss/\n<=c:=by
 rcases h.2 with⟨hv,h0⟩|⟨g,cap,cur,hv,_,_,hc,_⟩
 ·subst hv;subst h0;exact⟨none,0,rfl,TRow.own h,Nat.le_refl _⟩
 ·subst hv;exact⟨_,cap,rfl,TRow.own h,hc⟩
def zI:Option Nat->Int
 | none=>-1
 | some z=>z
def OpenR (s:List UInt8) (z:Option Nat) (w:World) (e:Ending) (w':World):Prop :=
 (∃l b,openT z s=some l/\e=.returned (.pointer (some ⟨b,0,none⟩))/\w.heap.size<=b/\CurIn w' b l/\Ext w w')\/(openT z s=none/\e=Bent/\Ext w w')
theorem open_any (s:List UInt8) (z:Option Nat) (w:World) (hs:s.length<=1000000000) (hz:∀n,z=some n->n<=1000) :
  Calls prog 125 #[.string (str s),.int .i64 (zI z)] w (OpenR s z w):=by
 have hln:=textsP_len s;have HT:=lh_ ((texts_any s w hs).mono (λe w' ⟨u,he,x,o⟩=>by
  obtain⟨A,c,hu,ht,hc⟩:=own_trow o;exact(⟨A,c,by rw[he,hu],x,ht,hc⟩:∃A c,e=.returned (.tuple #[.slice A (textsP s).1.length c,.int .i64 (textsP s).2])/\Ext w w'/\TRow w' A (textsP s).1.length (textsP s).1/\(textsP s).1.length<=c)))
 have hN:Hid (∀w' l b,openT z s=some l->w.heap.size<=b->CurIn w' b l->Ext w w'->OpenR s z w (.returned (.pointer (some ⟨b,0,none⟩))) w'):=lh_ (λw' l b h1 h2 h3 h4=>.inl ⟨l,b,h1,rfl,h2,h3,h4⟩);have hN2:Hid (∀w',openT z s=none->Ext w w'->OpenR s z w Bent w'):=lh_ (λw' h1 h2=>.inr ⟨h1,rfl,h2⟩);by_cases he:(textsP s).2=0
 ·have hb:((textsP s).2 != 0)=false:=by simp[he]
  cases z with
  | none =>
   have ho:Hid (openT none s=some (textsP s).1):=lh_ (if_pos ⟨he,λn h=>by cases h⟩);have hz1:¬((-1:Int)≥0):=by decide
   clear he hz;generalize textsP s=T at *;unfold zI;go_enter func125,ntmps125;go_wp2_with (go_at_call 189;refine HT.out.mono ?_;rintro e w1 ⟨A,c,rfl,x1,ht,hc⟩)
   go_ret;exact hN.out _ _ _ ho.out x1.size ⟨A,_,c,Box.new _ _ _,ht.ext ((Ext.refl _).alloc _),hc⟩ (x1.alloc _)
  | some k =>
   have hk:=hz k rfl;have hz1:(0:Int)<=k:=by omega
   by_cases hl:(textsP s).1.length=k
   ·have ho:Hid (openT (some k) s=some (textsP s).1):=lh_ (if_pos ⟨he,λn h=>by cases h;exact hl⟩);have hq:(((textsP s).1.length:Int) != (k:Int))=false:=by rw[hl];simp
    clear he hz hl;generalize textsP s=T at *;unfold zI;go_enter func125,ntmps125;go_wp2_with (go_at_call 189;refine HT.out.mono ?_;rintro e w1 ⟨A,c,rfl,x1,ht,hc⟩)
    go_ret;exact hN.out _ _ _ ho.out x1.size ⟨A,_,c,Box.new _ _ _,ht.ext ((Ext.refl _).alloc _),hc⟩ (x1.alloc _)
   ·have ho:Hid (openT (some k) s=none):=lh_ (if_neg (λh=>hl (h.2 k rfl)));have hq:(((textsP s).1.length:Int) != (k:Int))=true:=by simp;omega
    clear he hz hl;generalize textsP s=T at *;unfold zI;go_enter func125,ntmps125;go_wp2_with (go_at_call 189;refine HT.out.mono ?_;rintro e w1 ⟨A,c,rfl,x1,ht,hc⟩)
    exact⟨rfl,hN2.out _ ho.out x1⟩
 ·have hb:((textsP s).2 != 0)=true:=by simpa using he
  have ho:Hid (openT z s=none):=lh_ (if_neg (λh=>he h.1));clear he hz;generalize textsP s=T at *;go_enter func125,ntmps125;go_wp2_with (go_at_call 189;refine HT.out.mono ?_;rintro e w1 ⟨A,c,rfl,x1,ht,hc⟩)
  exact⟨rfl,hN2.out _ ho.out x1⟩
theorem wp_make0 {ops:Array Oper}{rest:List Oper}{o:Oper}{a:Act}{Q:Exit->Act->World->Prop}{w:World}{c:Nat}(base:Nat) (hgd:o.guard=none) (x y:Operand)
  (ho:o.op=.makeSlice 22 x y) (hx:a.eval x=.int .i64 0) (hy:a.eval y=.int .i64 c) (hc:c<=100000) (hb:base<=w.heap.size)
  (hK:∀w',w'.ownsRow base 9 1 (.slice (some ⟨w.heap.size,0,none⟩) 0 c) 0 (strL [])->Ext w w'->wpList prog ops Q rest (a.put o.dst (.slice (some ⟨w.heap.size,0,none⟩) 0 c)) w'):wpList prog ops Q (o::rest) a w:=by
 refine wpList_plain hgd λK hK'=>?_;obtain⟨i,hi,hz,h1,h2⟩:=info_parts strInfo;obtain⟨w',hr,ho',hg⟩:=run_make_own (P:=prog) w base 22 9 i _ 1 underlying22 hi hz h1 .i64 .i64 c (by rw[h2];omega) (by unfold maxLen;omega) hb;unfold Oper.wp execOp;simp only[ho,hx,hy,Sem.run_bind,Sem.run_pure,Result.andThen_ok,hr];exact hK' _ _ (hK w' ho' (ext_grown hg))
end Go.Proofs.YtfaplefkakpgcaaGreatDoor
