/- image's cursor: more, text, fixed, bytes, dec, flag; where a text isn't as it should be they panic. -/
import Derived.Test.YtfaplefkakpgcaaGreatDoorXf1
import Derived.Test.YtfaplefkakpgcaaGreatDoorXf13
import Derived.Test.YtfaplefkakpgcaaGreatDoorXf2
import Derived.Test.YtfaplefkakpgcaaGreatDoorXf15
import Derived.Test.YtfaplefkakpgcaaGreatDoorXf4
import Derived.Lib.ConvBytes
set_option linter.unusedVariables false
set_option linter.unusedSimpArgs false
set_option maxHeartbeats 32000000
set_option maxRecDepth 100000
namespace Go.Proofs.YtfaplefkakpgcaaGreatDoor
open Go.Proofs.Tryz
open Go.RowKit
abbrev bentV:Value:=.iface 183 (.agg #[])
abbrev Bent:Ending:=.panicked [{ v:=.iface 183 (.agg #[]),recovered:=false }]
def CurIn (w:World) (b:Nat) (L:List (List UInt8)):Prop:=∃A n c,Box w b 253 #[.slice A n c]/\TRow w A n L/\n<=c
theorem CurIn.ext {w w':World}{b:Nat}{L:List (List UInt8)}(h:CurIn w b L) (x:Ext w w'):CurIn w' b L:=by
 obtain⟨A,n,c,h1,h2,h3⟩:=h;exact⟨A,n,c,h1.ext x,h2.ext x,h3⟩
theorem more_any (b:Nat) (L:List (List UInt8)) (w:World) (h:CurIn w b L) :
  Calls prog 131 #[.pointer (some ⟨b,0,none⟩)] w λe w'=>e=.returned (.bool (decide (0<L.length)))/\w=w':=by
 obtain⟨A,n,c,h1,h2,h3⟩:=h;have c0:=h1.cell 0;have hl':=h2.1;have hl:Hid (n=L.length):=hl';clear hl';clear h1 h2 h3;go_enter func131,ntmps131;go_wp2_with fail;go_ret;refine⟨?_,rfl⟩;rw[← hl.out];rfl
def NextR {α:Type} (f:List UInt8->Option α) (g:α->Value) (w:World) (b:Nat):List (List UInt8)->Ending->World->Prop
 | [],e,w'=>e=Bent/\CurIn w' b []/\But b w w'
 | s::L,e,w'=>e=(match f s with|some x=>.returned (g x)|none=>Bent)/\CurIn w' b L/\But b w w'
theorem next_some {α:Type} {f:List UInt8->Option α}{g:α->Value}{w w':World}{b:Nat}{s:List UInt8}{L:List (List UInt8)}{x:α}{e:Ending}(hx:f s=some x) (h1:e=.returned (g x)) (h2:CurIn w' b L) (h3:But b w w'):NextR f g w b (s::L) e w' :=
 ⟨h1.trans (by rw[hx]),h2,h3⟩
theorem next_none {α:Type} {f:List UInt8->Option α}{g:α->Value}{w w':World}{b:Nat}{s:List UInt8}{L:List (List UInt8)}{e:Ending}(hx:f s=none) (h1:e=Bent) (h2:CurIn w' b L) (h3:But b w w'):NextR f g w b (s::L) e w' :=
 ⟨h1.trans (by rw[hx]),h2,h3⟩
abbrev strV (s:List UInt8):Value:=.string (str s)
theorem text_any (b:Nat) (L:List (List UInt8)) (w:World) (h:CurIn w b L) :
  Calls prog 126 #[.pointer (some ⟨b,0,none⟩)] w (NextR some strV w b L):=by
 have HM:=lh_ (more_any b L w h);have HC:=lh_ h;obtain⟨A,n,c,h1,h2,h3⟩:=h;have c0:=h1.cell 0;have f0:=h1.frozen 0;cases L with
 | nil =>
  clear h1 h2 h3 c0 f0;go_enter func126,ntmps126;go_wp2_with (go_at_call 131;refine HM.out.mono ?_;rintro e w1 ⟨rfl,rfl⟩)
  exact⟨rfl,rfl,HC.out,But.refl _ _⟩
 | cons s L =>
  obtain⟨g,o,cur,fz,rfl,h4,h5⟩:=h2.2 (by rw[h2.1];simp);have c1:=h5 0 (by simp);simp only[Nat.add_zero,List.getElem_cons_zero]at c1;have ht:=h2.tail;have hn:n=L.length+1:=h2.1;subst hn;have HK:Hid (∀A' n' c' w',w'=w.setCell ⟨b,0,none⟩ (.slice A' n' c')->TRow w A' n' L->n'<=c'->CurIn w' b L/\But b w w'):=lh_ (λA' n' c' w' e ht hc=>by
   have hk:But b w w':=by rw[e];exact(But.refl b w).setCell 0 _
   refine⟨⟨A',n',c',?_,ht.but hk h1 (by decide),hc⟩,hk⟩;rw[e];exact h1.set 0 _)
  have HT:=lh_ ht;clear h1 h2 ht h4 h5 HC;by_cases hc:c=1
  ·subst hc;have hL:L=[]:=List.eq_nil_of_length_eq_zero (by omega);subst hL;go_enter func126,ntmps126;go_wp2_with (go_at_call 131;refine HM.out.mono ?_;rintro e w1 ⟨rfl,rfl⟩)
   go_ret;exact⟨rfl,HK.out _ _ _ _ rfl ⟨rfl,λh=>absurd h (by decide)⟩ (Nat.le_refl _)⟩
  ·have hc1:¬(c:Int)-1=0:=by omega
   have hc2:¬c-1=0:=by omega
   go_enter func126,ntmps126;go_wp2_with (go_at_call 131;refine HM.out.mono ?_;rintro e w1 ⟨rfl,rfl⟩)
   go_ret;exact⟨rfl,HK.out _ _ _ _ rfl HT.out (by omega)⟩
theorem fixed_any (z:Nat) (b:Nat) (L:List (List UInt8)) (w:World) (h:CurIn w b L) (hz:z<=1000) :
  Calls prog 190 #[.pointer (some ⟨b,0,none⟩),.int .i64 z] w (NextR (fixP z) strV w b L):=by
 have HT:=lh_ (text_any b L w h);have hs:=str_size;clear h;cases L with
 | nil =>
  go_enter func190,ntmps190;go_wp2_with (go_at_call 126;refine HT.out.mono ?_;rintro e w1 ⟨he,h1,h2⟩;simp only[Bent]at he;subst he)
  exact⟨rfl,rfl,h1,h2⟩
 | cons s L =>
  have HT2:=lh_ (HT.out.mono (λe w' h=>(⟨h.1,h.2.1,h.2.2⟩:e=.returned (.string (str s))/\CurIn w' b L/\But b w w')));clear HT;by_cases hl:s.length=z
  ·have hq:fixP z s=some s:=if_pos hl;have hN:Hid (∀e w',e=.returned (strV s)->CurIn w' b L->But b w w'->NextR (fixP z) strV w b (s::L) e w'):=lh_ (λe w' h1 h2 h3=>next_some hq h1 h2 h3);have hb:((s.length:Int) != (z:Int))=false:=by rw[hl];simp
   clear hq hl;go_enter func190,ntmps190;go_wp2_with (go_at_call 126;refine HT2.out.mono ?_;rintro e w1 ⟨rfl,h1,h2⟩)
   go_ret;exact hN.out _ _ rfl h1 h2
  ·have hq:fixP z s=none:=if_neg hl;have hN:Hid (∀e w',e=Bent->CurIn w' b L->But b w w'->NextR (fixP z) strV w b (s::L) e w'):=lh_ (λe w' h1 h2 h3=>next_none hq h1 h2 h3);have hb:((s.length:Int) != (z:Int))=true:=by simp;omega
   clear hq hl;go_enter func190,ntmps190;go_wp2_with (go_at_call 126;refine HT2.out.mono ?_;rintro e w1 ⟨rfl,h1,h2⟩)
   exact⟨rfl,hN.out _ _ rfl h1 h2⟩
theorem bytes_any (z:Nat) (b:Nat) (L:List (List UInt8)) (w:World) (h:CurIn w b L) (hz:z=4\/z=8) :
  Calls prog 127 #[.pointer (some ⟨b,0,none⟩),.int .i64 z] w (NextR (numP z) (λn=>.int .u64 n) w b L):=by
 have HF:=lh_ (fixed_any z b L w h (by omega));clear h;cases L with
 | nil =>
  go_enter func127,ntmps127;go_wp2_with (go_at_call 190;refine HF.out.mono ?_;rintro e w1 ⟨he,h1,h2⟩;simp only[Bent]at he;subst he)
  exact⟨rfl,rfl,h1,h2⟩
 | cons s L =>
  by_cases hl:s.length=z
  ·have hq:fixP z s=some s:=if_pos hl;have hn:numP z s=some (numL s:Int):=if_pos hl;have HG:=lh_ (λw=>get_48 s w (by omega));have hN:Hid (∀e w',e=.returned (.int .u64 (numL s:Int))->CurIn w' b L->But b w w'->NextR (numP z) (λn=>.int .u64 n) w b (s::L) e w'):=lh_ (λe w' h1 h2 h3=>next_some hn h1 h2 h3);have HF2:=lh_ (HF.out.mono (λe w' h=>(⟨h.1.trans (by rw[hq]),h.2.1,h.2.2⟩:e=.returned (.string (str s))/\CurIn w' b L/\But b w w')));clear hq hl hn HF;go_enter func127,ntmps127
   go_wp2_with (first
    | (go_at_call 190;refine HF2.out.mono ?_;rintro e w1 ⟨rfl,h1,h2⟩)
    | (go_at_call 164;refine(HG.out _).mono ?_;rintro e w2 ⟨rfl,rfl⟩))
   go_ret;exact hN.out _ _ rfl h1 h2
  ·have hq:fixP z s=none:=if_neg hl;have hn:numP z s=none:=if_neg hl;have hN:Hid (∀e w',e=Bent->CurIn w' b L->But b w w'->NextR (numP z) (λn=>.int .u64 n) w b (s::L) e w'):=lh_ (λe w' h1 h2 h3=>next_none hn h1 h2 h3);have HF2:=lh_ (HF.out.mono (λe w' h=>(⟨h.1.trans (by rw[hq]),h.2.1,h.2.2⟩:e=Bent/\CurIn w' b L/\But b w w')));clear hq hl hn HF;go_enter func127,ntmps127;go_wp2_with (go_at_call 190;refine HF2.out.mono ?_;rintro e w1 ⟨he,h1,h2⟩;simp only[Bent]at he;subst he)
   exact⟨rfl,hN.out _ _ rfl h1 h2⟩
theorem cflag_any (b:Nat) (L:List (List UInt8)) (w:World) (h:CurIn w b L) :
  Calls prog 129 #[.pointer (some ⟨b,0,none⟩)] w (NextR flagP (λn=>.bool n) w b L):=by
 have HT:=lh_ (text_any b L w h);clear h;cases L with
 | nil =>
  go_enter func129,ntmps129;go_wp2_with (go_at_call 126;refine HT.out.mono ?_;rintro e w1 ⟨he,h1,h2⟩;simp only[Bent]at he;subst he)
  exact⟨rfl,rfl,h1,h2⟩
 | cons s L =>
  have HT2:=lh_ (HT.out.mono (λe w' h=>(⟨h.1,h.2.1,h.2.2⟩:e=.returned (.string (str s))/\CurIn w' b L/\But b w w')));clear HT;by_cases h1:s=[49]
  ·have hN:Hid (∀e w',e=.returned (.bool true)->CurIn w' b L->But b w w'->NextR flagP (λn=>.bool n) w b (s::L) e w'):=lh_ (λe w' k1 k2 k3=>next_some (x:=true) (if_pos h1) k1 k2 k3);have hq:((str s).toList==[49])=true:=by rw[str_toList,h1];rfl
   clear h1;go_enter func129,ntmps129;go_wp2_with (go_at_call 126;refine HT2.out.mono ?_;rintro e w1 ⟨rfl,k1,k2⟩)
   go_ret;exact hN.out _ _ rfl k1 k2
  ·by_cases h2:s=[48]
   ·have hN:Hid (∀e w',e=.returned (.bool false)->CurIn w' b L->But b w w'->NextR flagP (λn=>.bool n) w b (s::L) e w'):=lh_ (λe w' k1 k2 k3=>next_some (x:=false) (by unfold flagP;rw[if_neg h1,if_pos h2]) k1 k2 k3);have hq:((str s).toList==[49])=false:=by rw[str_toList,h2];rfl
    have hq2:((str s).toList==[48])=true:=by rw[str_toList,h2];rfl
    clear h1 h2;go_enter func129,ntmps129;go_wp2_with (go_at_call 126;refine HT2.out.mono ?_;rintro e w1 ⟨rfl,k1,k2⟩)
    go_ret;exact hN.out _ _ rfl k1 k2
   ·have hN:Hid (∀e w',e=Bent->CurIn w' b L->But b w w'->NextR flagP (λn=>.bool n) w b (s::L) e w'):=lh_ (λe w' k1 k2 k3=>next_none (by unfold flagP;rw[if_neg h1,if_neg h2]) k1 k2 k3);have hq:((str s).toList==[49])=false:=by rw[str_toList];simpa using h1
    have hq2:((str s).toList==[48])=false:=by rw[str_toList];simpa using h2
    clear h1 h2;go_enter func129,ntmps129;go_wp2_with (go_at_call 126;refine HT2.out.mono ?_;rintro e w1 ⟨rfl,k1,k2⟩)
    exact⟨rfl,hN.out _ _ rfl k1 k2⟩
theorem cdec_any (b:Nat) (L:List (List UInt8)) (w:World) (h:CurIn w b L) (hD:∀w',But b w w'->Dec10 w') (hL:∀s∈L,s.length<=281474976710656) :
  Calls prog 128 #[.pointer (some ⟨b,0,none⟩)] w (NextR intP (λn=>.int .i64 n) w b L):=by
 have HT:=lh_ (text_any b L w h);clear h;cases L with
 | nil =>
  clear hD hL;go_enter func128,ntmps128;go_wp2_with (go_at_call 126;refine HT.out.mono ?_;rintro e w1 ⟨he,h1,h2⟩;simp only[Bent]at he;subst he)
  exact⟨rfl,rfl,h1,h2⟩
 | cons s L =>
  have HT2:=lh_ (HT.out.mono (λe w' h=>(⟨h.1,h.2.1,h.2.2⟩:e=.returned (.string (str s))/\CurIn w' b L/\But b w w')));have HI:=lh_ (λw' (k:But b w w')=>int_any s w' (hL s List.mem_cons_self) (hD w' k));clear HT hD hL;cases hp:intP s with
  | none =>
   have hN:Hid (∀e w',e=Bent->CurIn w' b L->But b w w'->NextR intP (λn=>.int .i64 n) w b (s::L) e w'):=lh_ (λe w' k1 k2 k3=>next_none hp k1 k2 k3);have HI2:=lh_ (λw' k=>(HI.out w' k).mono (λe w2 h=>(⟨h.1.trans (by unfold intR;rw[hp];rfl),h.2⟩:e=.returned (.tuple #[.int .i64 0,.bool false])/\Ext w' w2)));clear hp HI;go_enter func128,ntmps128
   go_wp2_with (first
    | (go_at_call 126;refine HT2.out.mono ?_;rintro e w1 ⟨rfl,k1,k2⟩)
    | (go_at_call 191;refine(HI2.out _ k2).mono ?_;rintro e w2 ⟨rfl,x2⟩))
   exact⟨rfl,hN.out _ _ rfl (k1.ext x2) (k2.then' x2)⟩
  | some n =>
   have hN:Hid (∀e w',e=.returned (.int .i64 n)->CurIn w' b L->But b w w'->NextR intP (λn=>.int .i64 n) w b (s::L) e w'):=lh_ (λe w' k1 k2 k3=>next_some hp k1 k2 k3);have HI2:=lh_ (λw' k=>(HI.out w' k).mono (λe w2 h=>(⟨h.1.trans (by unfold intR;rw[hp];rfl),h.2⟩:e=.returned (.tuple #[.int .i64 n,.bool true])/\Ext w' w2)));clear hp HI;go_enter func128,ntmps128
   go_wp2_with (first
    | (go_at_call 126;refine HT2.out.mono ?_;rintro e w1 ⟨rfl,k1,k2⟩)
    | (go_at_call 191;refine(HI2.out _ k2).mono ?_;rintro e w2 ⟨rfl,x2⟩))
   go_ret;exact hN.out _ _ rfl (k1.ext x2) (k2.then' x2)
theorem bytesWorld_ext (w:World) (e:TypeId) (s:ByteArray):Ext w (Lib.bytesWorld w e s) :=
 ⟨by simp[Lib.bytesWorld,World.freeze,World.alloc,World.drew,-World.alloc_eq,-World.drew_eq],by simp[Lib.bytesWorld,World.freeze,World.alloc,World.drew,-World.alloc_eq,-World.drew_eq],by simp[Lib.bytesWorld,World.freeze,World.alloc,World.drew,-World.alloc_eq,-World.drew_eq],by rw[Lib.bytesWorld_size];omega,λk hk=>Lib.bytesWorld_at_old w e s k hk⟩
theorem wp_conv_bytes {ops:Array Oper}{rest:List Oper}{o:Oper}{a:Act}{Q:Exit->Act->World->Prop}{w:World}{s:List UInt8}(x:Operand) (hgd:o.guard=none) (ho:o.op=.convert 9 167 x) (hx:a.eval x=.string (str s))
  (hK:∀cap w',(∀(j:Nat) (h:j<s.length),w'.cell? ⟨w.heap.size,j,none⟩=some (.int .u8 (s[j].toNat:Int)))->Ext w w'->wpList prog ops Q rest (a.put o.dst (.slice (some ⟨w.heap.size,0,none⟩) s.length cap)) w'):wpList prog ops Q (o::rest) a w:=by
 refine wpList_plain hgd λK hK'=>?_;have hr:=Lib.run_convert_string_bytes (P:=prog) w 9 167 5 (str s) underlying9 underlying167 underlying5;unfold Oper.wp execOp;simp only[ho,hx,Sem.run_bind,Sem.run_pure,Result.andThen_ok,hr];rw[str_size];refine hK' _ _ (hK _ _ (λj hj=>?_) (bytesWorld_ext w _ _));rw[Lib.bytesWorld_cell w _ _ j (by rw[str_size];exact hj),str_data];simp[hj]
def two2 (n:Int):List UInt8:=[b8 (n%256),b8 (n/256)]
def fillP (s:List UInt8) (n:Nat):List UInt8:=s++zs (n-s.length)
end Go.Proofs.YtfaplefkakpgcaaGreatDoor
