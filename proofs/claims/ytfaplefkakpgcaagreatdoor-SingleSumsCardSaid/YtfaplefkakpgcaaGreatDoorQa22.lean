import Derived.Test.YtfaplefkakpgcaaGreatDoorQa20
import Derived.Test.YtfaplefkakpgcaaGreatDoorQa18
import Derived.Test.YtfaplefkakpgcaaGreatDoorQa5
import Derived.Test.YtfaplefkakpgcaaGreatDoorQa14
set_option linter.unusedVariables false
set_option linter.unusedSimpArgs false
set_option maxHeartbeats 32000000
set_option maxRecDepth 100000
namespace Go.Proofs.YtfaplefkakpgcaaGreatDoor
open Go.Proofs.Tryz
open Go.RowKit
abbrev SW:Value:=.iface 183 (.agg #[])
abbrev QZ:Ending:=.panicked [{ v:=.iface 183 (.agg #[]),recovered:=false }]
def Qq (w:World) (b:Nat) (L:List (List UInt8)):Prop:=∃A n c,Box w b 253 #[.slice A n c]/\TRow w A n L/\n<=c
theorem Qq.ext {w w':World}{b:Nat}{L:List (List UInt8)}(h:Qq w b L) (x:Ext w w'):Qq w' b L:=by
 obtain⟨A,n,c,h1,h2,h3⟩:=h;exact⟨A,n,c,h1.ext x,h2.ext x,h3⟩
theorem WA (b:Nat) (L:List (List UInt8)) (w:World) (h:Qq w b L) :
  Calls prog 131 #[.pointer (some ⟨b,0,none⟩)] w λe w'=>e=.returned (.bool (decide (0<L.length)))/\w=w':=by
 obtain⟨A,n,c,h1,h2,h3⟩:=h;have c0:=h1.cell 0;have Fw:=h2.1;have hl:Zv (n=L.length):=Fw;clear Fw;clear h1 h2 h3;go_enter func131,ntmps131;go_wp2_with fail;go_ret;refine⟨?_,rfl⟩;rw[←hl.o];rfl
def Xd {α:Type} (f:List UInt8->Option α) (g:α->Value) (w:World) (b:Nat):List (List UInt8)->Ending->World->Prop
 | [],e,w'=>e=QZ/\Qq w' b []/\But b w w'
 | s::L,e,w'=>e=(match f s with|some x=>.returned (g x)|none=>QZ)/\Qq w' b L/\But b w w'
theorem Vt {α:Type} {f:List UInt8->Option α}{g:α->Value}{w w':World}{b:Nat}{s:List UInt8}{L:List (List UInt8)}{x:α}{e:Ending}(hx:f s=some x) (h1:e=.returned (g x)) (h2:Qq w' b L) (h3:But b w w'):Xd f g w b (s::L) e w' :=
 ⟨h1.trans (by rw[hx]),h2,h3⟩
theorem Ui {α:Type} {f:List UInt8->Option α}{g:α->Value}{w w':World}{b:Nat}{s:List UInt8}{L:List (List UInt8)}{e:Ending}(hx:f s=none) (h1:e=QZ) (h2:Qq w' b L) (h3:But b w w'):Xd f g w b (s::L) e w' :=
 ⟨h1.trans (by rw[hx]),h2,h3⟩
abbrev aC (s:List UInt8):Value:=.string (Qb s)
theorem Vz (b:Nat) (L:List (List UInt8)) (w:World) (h:Qq w b L) :
  Calls prog 126 #[.pointer (some ⟨b,0,none⟩)] w (Xd some aC w b L):=by
 have HM:=Qa (WA b L w h);have HC:=Qa h;obtain⟨A,n,c,h1,h2,h3⟩:=h;have c0:=h1.cell 0;have f0:=h1.frozen 0;cases L with
 | nil =>
  clear h1 h2 h3 c0 f0;go_enter func126,ntmps126;go_wp2_with (go_at_call 131;refine HM.o.mono ?_;rintro e w1 ⟨rfl,rfl⟩)
  exact⟨rfl,rfl,HC.o,But.refl _ _⟩
 | cons s L =>
  obtain⟨g,o,cur,fz,rfl,h4,h5⟩:=h2.2 (by rw[h2.1];simp);have c1:=h5 0 (by simp);simp only[fO,List.getElem_cons_zero]at c1;have ht:=h2.tail;have hn:n=L.length+1:=h2.1;subst hn;have HK:Zv (∀A' n' c' w',w'=w.setCell ⟨b,0,none⟩ (.slice A' n' c')->TRow w A' n' L->n'<=c'->Qq w' b L/\But b w w'):=Qa (λA' n' c' w' e ht hc=>by
   have hk:But b w w':=by rw[e];exact(But.refl b w).setCell 0 _
   refine⟨⟨A',n',c',?_,ht.but hk h1 (by decide),hc⟩,hk⟩;rw[e];exact h1.set 0 _)
  have HT:=Qa ht;clear h1 h2 ht h4 h5 HC;by_cases hc:c=1
  ·subst hc;have hL:L=[]:=bd (by omega);subst hL;go_enter func126,ntmps126;go_wp2_with (go_at_call 131;refine HM.o.mono ?_;rintro e w1 ⟨rfl,rfl⟩)
   go_ret;exact⟨rfl,HK.o _ _ _ _ rfl ⟨rfl,λh=>absurd h (by decide)⟩ (QW _)⟩
  ·have US:¬(c:Int)-1=0:=by omega
   have Bj:¬c-1=0:=by omega
   go_enter func126,ntmps126;go_wp2_with (go_at_call 131;refine HM.o.mono ?_;rintro e w1 ⟨rfl,rfl⟩)
   go_ret;exact⟨rfl,HK.o _ _ _ _ rfl HT.o (by omega)⟩
theorem Na (z:Nat) (b:Nat) (L:List (List UInt8)) (w:World) (h:Qq w b L) (hz:z<=1000) :
  Calls prog 190 #[.pointer (some ⟨b,0,none⟩),.int .i64 z] w (Xd (Y8 z) aC w b L):=by
 have HT:=Qa (Vz b L w h);have hs:=Qh;clear h;cases L with
 | nil =>
  go_enter func190,ntmps190;go_wp2_with (go_at_call 126;refine HT.o.mono ?_;rintro e w1 ⟨he,h1,h2⟩;simp only[QZ]at he;subst he)
  exact⟨rfl,rfl,h1,h2⟩
 | cons s L =>
  have L6:=Qa (HT.o.mono (λe w' h=>(⟨h.1,h.2.1,h.2.2⟩:e=.returned (.string (Qb s))/\Qq w' b L/\But b w w')));clear HT;by_cases hl:s.length=z
  ·have hq:Y8 z s=some s:=Qv hl;have hN:Zv (∀e w',e=.returned (aC s)->Qq w' b L->But b w w'->Xd (Y8 z) aC w b (s::L) e w'):=Qa (λe w' h1 h2 h3=>Vt hq h1 h2 h3);have hb:((s.length:Int) != (z:Int))=false:=by rw[hl];simp
   clear hq hl;go_enter func190,ntmps190;go_wp2_with (go_at_call 126;refine L6.o.mono ?_;rintro e w1 ⟨rfl,h1,h2⟩)
   go_ret;exact hN.o _ _ rfl h1 h2
  ·have hq:Y8 z s=none:=Qr hl;have hN:Zv (∀e w',e=QZ->Qq w' b L->But b w w'->Xd (Y8 z) aC w b (s::L) e w'):=Qa (λe w' h1 h2 h3=>Ui hq h1 h2 h3);have hb:((s.length:Int) != (z:Int))=true:=by simp;omega
   clear hq hl;go_enter func190,ntmps190;go_wp2_with (go_at_call 126;refine L6.o.mono ?_;rintro e w1 ⟨rfl,h1,h2⟩)
   exact⟨rfl,hN.o _ _ rfl h1 h2⟩
theorem PW (z:Nat) (b:Nat) (L:List (List UInt8)) (w:World) (h:Qq w b L) (hz:z=4\/z=8) :
  Calls prog 127 #[.pointer (some ⟨b,0,none⟩),.int .i64 z] w (Xd (VL z) (λn=>.int .u64 n) w b L):=by
 have HF:=Qa (Na z b L w h (by omega));clear h;cases L with
 | nil =>
  go_enter func127,ntmps127;go_wp2_with (go_at_call 190;refine HF.o.mono ?_;rintro e w1 ⟨he,h1,h2⟩;simp only[QZ]at he;subst he)
  exact⟨rfl,rfl,h1,h2⟩
 | cons s L =>
  by_cases hl:s.length=z
  ·have hq:Y8 z s=some s:=Qv hl;have hn:VL z s=some (Yp s:Int):=Qv hl;have HG:=Qa (λw=>IC s w (by omega));have hN:Zv (∀e w',e=.returned (.int .u64 (Yp s:Int))->Qq w' b L->But b w w'->Xd (VL z) (λn=>.int .u64 n) w b (s::L) e w'):=Qa (λe w' h1 h2 h3=>Vt hn h1 h2 h3);have AQ:=Qa (HF.o.mono (λe w' h=>(⟨h.1.trans (by rw[hq]),h.2.1,h.2.2⟩:e=.returned (.string (Qb s))/\Qq w' b L/\But b w w')));clear hq hl hn HF;go_enter func127,ntmps127
   go_wp2_with (first
    | (go_at_call 190;refine AQ.o.mono ?_;rintro e w1 ⟨rfl,h1,h2⟩)
    | (go_at_call 164;refine(HG.o _).mono ?_;rintro e w2 ⟨rfl,rfl⟩))
   go_ret;exact hN.o _ _ rfl h1 h2
  ·have hq:Y8 z s=none:=Qr hl;have hn:VL z s=none:=Qr hl;have hN:Zv (∀e w',e=QZ->Qq w' b L->But b w w'->Xd (VL z) (λn=>.int .u64 n) w b (s::L) e w'):=Qa (λe w' h1 h2 h3=>Ui hn h1 h2 h3);have AQ:=Qa (HF.o.mono (λe w' h=>(⟨h.1.trans (by rw[hq]),h.2.1,h.2.2⟩:e=QZ/\Qq w' b L/\But b w w')));clear hq hl hn HF;go_enter func127,ntmps127;go_wp2_with (go_at_call 190;refine AQ.o.mono ?_;rintro e w1 ⟨he,h1,h2⟩;simp only[QZ]at he;subst he)
   exact⟨rfl,hN.o _ _ rfl h1 h2⟩
theorem PX (b:Nat) (L:List (List UInt8)) (w:World) (h:Qq w b L) :
  Calls prog 129 #[.pointer (some ⟨b,0,none⟩)] w (Xd Vl (λn=>.bool n) w b L):=by
 have HT:=Qa (Vz b L w h);clear h;cases L with
 | nil =>
  go_enter func129,ntmps129;go_wp2_with (go_at_call 126;refine HT.o.mono ?_;rintro e w1 ⟨he,h1,h2⟩;simp only[QZ]at he;subst he)
  exact⟨rfl,rfl,h1,h2⟩
 | cons s L =>
  have L6:=Qa (HT.o.mono (λe w' h=>(⟨h.1,h.2.1,h.2.2⟩:e=.returned (.string (Qb s))/\Qq w' b L/\But b w w')));clear HT;by_cases h1:s=[49]
  ·have hN:Zv (∀e w',e=.returned (.bool true)->Qq w' b L->But b w w'->Xd Vl (λn=>.bool n) w b (s::L) e w'):=Qa (λe w' k1 k2 k3=>Vt (x:=true) (Qv h1) k1 k2 k3);have hq:((Qb s).toList==[49])=true:=by rw[Ql,h1];rfl
   clear h1;go_enter func129,ntmps129;go_wp2_with (go_at_call 126;refine L6.o.mono ?_;rintro e w1 ⟨rfl,k1,k2⟩)
   go_ret;exact hN.o _ _ rfl k1 k2
  ·by_cases h2:s=[48]
   ·have hN:Zv (∀e w',e=.returned (.bool false)->Qq w' b L->But b w w'->Xd Vl (λn=>.bool n) w b (s::L) e w'):=Qa (λe w' k1 k2 k3=>Vt (x:=false) (by unfold Vl;rw[Qr h1,Qv h2]) k1 k2 k3);have hq:((Qb s).toList==[49])=false:=by rw[Ql,h2];rfl
    have iq:((Qb s).toList==[48])=true:=by rw[Ql,h2];rfl
    clear h1 h2;go_enter func129,ntmps129;go_wp2_with (go_at_call 126;refine L6.o.mono ?_;rintro e w1 ⟨rfl,k1,k2⟩)
    go_ret;exact hN.o _ _ rfl k1 k2
   ·have hN:Zv (∀e w',e=QZ->Qq w' b L->But b w w'->Xd Vl (λn=>.bool n) w b (s::L) e w'):=Qa (λe w' k1 k2 k3=>Ui (by unfold Vl;rw[Qr h1,Qr h2]) k1 k2 k3);have hq:((Qb s).toList==[49])=false:=by rw[Ql];simpa using h1
    have iq:((Qb s).toList==[48])=false:=by rw[Ql];simpa using h2
    clear h1 h2;go_enter func129,ntmps129;go_wp2_with (go_at_call 126;refine L6.o.mono ?_;rintro e w1 ⟨rfl,k1,k2⟩)
    exact⟨rfl,hN.o _ _ rfl k1 k2⟩
theorem TH (b:Nat) (L:List (List UInt8)) (w:World) (h:Qq w b L) (hD:∀w',But b w w'->JW w') (hL:∀s∈L,s.length<=281474976710656) :
  Calls prog 128 #[.pointer (some ⟨b,0,none⟩)] w (Xd Zd (λn=>.int .i64 n) w b L):=by
 have HT:=Qa (Vz b L w h);clear h;cases L with
 | nil =>
  clear hD hL;go_enter func128,ntmps128;go_wp2_with (go_at_call 126;refine HT.o.mono ?_;rintro e w1 ⟨he,h1,h2⟩;simp only[QZ]at he;subst he)
  exact⟨rfl,rfl,h1,h2⟩
 | cons s L =>
  have L6:=Qa (HT.o.mono (λe w' h=>(⟨h.1,h.2.1,h.2.2⟩:e=.returned (.string (Qb s))/\Qq w' b L/\But b w w')));have HI:=Qa (λw' (k:But b w w')=>dQ s w' (hL s LY) (hD w' k));clear HT hD hL;cases hp:Zd s with
  | none =>
   have hN:Zv (∀e w',e=QZ->Qq w' b L->But b w w'->Xd Zd (λn=>.int .i64 n) w b (s::L) e w'):=Qa (λe w' k1 k2 k3=>Ui hp k1 k2 k3);have qi:=Qa (λw' k=>(HI.o w' k).mono (λe w2 h=>(⟨h.1.trans (by unfold Rj;rw[hp];rfl),h.2⟩:e=.returned (.tuple #[.int .i64 0,.bool false])/\Ext w' w2)));clear hp HI;go_enter func128,ntmps128
   go_wp2_with (first
    | (go_at_call 126;refine L6.o.mono ?_;rintro e w1 ⟨rfl,k1,k2⟩)
    | (go_at_call 191;refine(qi.o _ k2).mono ?_;rintro e w2 ⟨rfl,x2⟩))
   exact⟨rfl,hN.o _ _ rfl (k1.ext x2) (k2.then' x2)⟩
  | some n =>
   have hN:Zv (∀e w',e=.returned (.int .i64 n)->Qq w' b L->But b w w'->Xd Zd (λn=>.int .i64 n) w b (s::L) e w'):=Qa (λe w' k1 k2 k3=>Vt hp k1 k2 k3);have qi:=Qa (λw' k=>(HI.o w' k).mono (λe w2 h=>(⟨h.1.trans (by unfold Rj;rw[hp];rfl),h.2⟩:e=.returned (.tuple #[.int .i64 n,.bool true])/\Ext w' w2)));clear hp HI;go_enter func128,ntmps128
   go_wp2_with (first
    | (go_at_call 126;refine L6.o.mono ?_;rintro e w1 ⟨rfl,k1,k2⟩)
    | (go_at_call 191;refine(qi.o _ k2).mono ?_;rintro e w2 ⟨rfl,x2⟩))
   go_ret;exact hN.o _ _ rfl (k1.ext x2) (k2.then' x2)
def ot (n:Int):List UInt8:=[b8 (n%256),b8 (n/256)]
def fV (s:List UInt8) (n:Nat):List UInt8:=s++zs (n-s.length)
def bG (c:UInt8):Bool:=decide (97<=c.toNat/\c.toNat<=122\/65<=c.toNat/\c.toNat<=90\/48<=c.toNat/\c.toNat<=57\/c.toNat=45\/c.toNat=95\/c.toNat=46)
def YG (s:List UInt8):Bool:=decide (s≠[])&&decide (s.length<=24)&&decide (s≠[46])&&decide (s≠[46,46])&&s.all bG
theorem Og {s:List UInt8}{k:Nat}(hk:k<s.length) (h:bG s[k]=false):YG s=false:=by
 unfold YG;rw[show s.all bG=false from List.all_eq_false.2 ⟨s[k],FM hk,by rw[h];simp⟩];simp
theorem Gp {s:List UInt8}(h:YG s=true):1<=s.length/\s.length<=24:=by
 unfold YG at h;simp only[VB,Cw]at h;exact⟨Nat.pos_of_ne_zero λe=>h.1.1.1.1 (bd e),h.1.1.1.2⟩
abbrev XJ:=List UInt8 × Int
def W7 (x:XJ):List UInt8:=fV (ot x.2++[b8 x.1.length]++[0]++x.1) 32
def XP (o:List UInt8):XJ:=((o.drop 4).take (o.getD 2 0).toNat,(Yp (o.take 2):Int))
def kY (o:List UInt8):Bool:=decide ((o.getD 2 0).toNat<=24)&&decide (1<=(XP o).2)&&decide ((XP o).2<=64)&&YG (XP o).1&&decide (W7 (XP o)=o)
def Wx (l:List XJ) (x:XJ):Bool:=match l.getLast? with
 | none=>true
 | some y=>N8 y.1 x.1
def Xa (b:List UInt8) (k:Nat):List UInt8:=(b.drop (32*k)).take 32
def Z6 (b:List UInt8):Nat->Option (List XJ)
 | 0=>some []
 | k+1=>match Z6 b k with
  | none=>none
  | some l=>if kY (Xa b k)&&Wx l (XP (Xa b k)) then some (l++[XP (Xa b k)]) else none
def JN (b:List UInt8):Option (List XJ):=if b.length%32=0 then Z6 b (b.length/32) else none
theorem CU {b:List UInt8}{k:Nat}{l:List XJ}(h:Z6 b k=some l) (h1:kY (Xa b k)=true) (h2:Wx l (XP (Xa b k))=true):Z6 b (k+1)=some (l++[XP (Xa b k)]):=by
 simp only[Z6,h,h1,h2,Bool.and_self,if_true]
theorem Ir {b:List UInt8}{k:Nat}{l:List XJ}(h:Z6 b k=some l) (h1:kY (Xa b k)=false\/Wx l (XP (Xa b k))=false):Z6 b (k+1)=none:=by
 simp only[Z6,h];rcases h1 with h1|h1<;>simp[h1]
theorem FW {b:List UInt8}{k:Nat}(h:Z6 b k=none):∀m,k<=m->Z6 b m=none:=by
 intro m hm;induction m with
 | zero=>obtain rfl:k=0:=(by omega);exact h
 | succ m ih =>
  by_cases e:k=m+1
  ·subst e;exact h
  ·simp only[Z6,ih (by omega)]
theorem W8 {b:List UInt8}:∀{k:Nat}{l:List XJ},Z6 b k=some l->l.length=k
 | 0,l,h=>by cases h;rfl
 | k+1,l,h=>by
  simp only[Z6]at h;cases h1:Z6 b k with
  | none=>rw[h1]at h;cases h
  | some l1 =>
   rw[h1]at h;simp only at h;split at h
   ·cases h;rw[Kh,W8 h1];rfl
   ·cases h
def FG (l:List XJ):Prop:=(∀x∈l,YG x.1=true/\1<=x.2/\x.2<=64)/\l.Pairwise λa b=>N8 a.1 b.1=true
theorem Hr {b:List UInt8}:∀{k:Nat}{l:List XJ},Z6 b k=some l->FG l
 | 0,l,h=>by cases h;exact⟨λx hx=>absurd hx Td,List.Pairwise.nil⟩
 | k+1,l,h=>by
  simp only[Z6]at h;cases h1:Z6 b k with
  | none=>rw[h1]at h;cases h
  | some l1 =>
   rw[h1]at h;simp only at h;split at h
   ·rename_i hc;cases h;have ih:=Hr h1;simp only[VB]at hc;have ho:=hc.1;unfold kY at ho;simp only[VB,Cw]at ho;refine⟨λx hx=>?_,?_⟩
    ·rcases SN.1 hx with hx|hx
     ·exact ih.1 x hx
     ·obtain rfl:=SJ.1 hx;exact⟨ho.1.2,ho.1.1.1.2,ho.1.1.2⟩
    ·refine List.pairwise_append.2 ⟨ih.2,List.pairwise_singleton _ _,λa ha c sU=>?_⟩;obtain rfl:=SJ.1 sU;have hl:=hc.2;unfold Wx at hl;cases hq:l1.getLast? with
     | none=>rw[List.getLast?_eq_none_iff]at hq;subst hq;exact absurd ha Td
     | some y =>
      rw[hq]at hl;simp only at hl;obtain⟨ys,rfl⟩:=List.getLast?_eq_some_iff.1 hq;rcases SN.1 ha with ha|ha
      ·exact Nj _ _ _ ((List.pairwise_append.1 ih.2).2.2 a ha y LY) hl
      ·obtain rfl:=SJ.1 ha;exact hl
   ·cases h
theorem Kt {b:List UInt8}{l:List XJ}(h:JN b=some l):FG l/\32*l.length=b.length:=by
 unfold JN at h;split at h
 ·exact⟨Hr h,by rw[W8 h];omega⟩
 ·cases h
def XM (l:List XJ) (name:List UInt8):Nat:=(l.takeWhile λx=>N8 x.1 name).length
def Li (l:List XJ) (name:List UInt8):Bool:=decide (XM l name<l.length)&&decide ((l.getD (XM l name) ([],0)).1=name)
theorem Cc (l:List XJ) (name:List UInt8):XM l name<=l.length:=by
 unfold XM;have:=congrArg List.length (List.takeWhile_append_dropWhile (p:=λx:XJ=>N8 x.1 name) (l:=l));rw[Kh]at this;omega
theorem Cd {l:List XJ}{name:List UInt8}{j:Nat}(hj:j<XM l name) (hl:j<l.length):N8 l[j].1 name=true:=by
 unfold XM at hj;have h1:(l.takeWhile λx=>N8 x.1 name)[j]=l[j]:=List.IsPrefix.getElem (List.takeWhile_prefix _) hj;have h2:=List.all_takeWhile (p:=λx:XJ=>N8 x.1 name) (l:=l);rw[Pv]at h2;rw[←h1];exact h2 _ (FM hj)
theorem Cb {l:List XJ}(hl:l.Pairwise λa b=>N8 a.1 b.1=true) {name:List UInt8}{j:Nat}(hj:XM l name<=j) (h:j<l.length):N8 l[j].1 name=false:=by
 induction l generalizing j with
 | nil=>simp at h
 | cons x l ih =>
  rw[List.pairwise_cons]at hl;unfold XM at hj;rw[List.takeWhile_cons]at hj;by_cases hx:N8 x.1 name=true
  ·rw[Qv hx]at hj;simp only[YV]at hj;obtain⟨i,rfl⟩:∃i,j=i+1:=⟨j-1,by omega⟩
   simp only[List.getElem_cons_succ];exact ih hl.2 (by unfold XM;omega) (by simpa using h)
  ·rw[Bool.not_eq_true]at hx;cases j with
   | zero=>exact hx
   | succ i =>
    have nN:i<l.length:=by simpa using h
    simp only[List.getElem_cons_succ];have:=hl.1 l[i] (FM nN);cases hc:N8 l[i].1 name with
    | false=>rfl
    | true=>rw[Nj _ _ _ this hc]at hx;cases hx
theorem FT (x:XJ) (w:World) (h1:x.1.length<=24) (h2:0<=x.2) (h3:x.2<65536) :
  Calls prog 212 #[.agg #[.string (Qb x.1),.int .i64 x.2]] w λe w'=>e=.returned (.string (Qb (W7 x)))/\Ext w w':=by
 have hz:=Qh;have ig:=VT;obtain⟨name,ino⟩:=x;simp only at h1 h2 h3;obtain⟨hd,kQ⟩:∃hd:List UInt8,hd=b8 (ino%256)::b8 (ino/256)::b8 name.length::0::name:=⟨_,rfl⟩
 have hL:hd.length=4+name.length:=by rw[kQ];simp;omega
 have HE:=Qa (show W7 (name,ino)=hd++zs (28-name.length) from by
  unfold W7 fV;rw[show ot ino++[b8 name.length]++[0]++name=hd from by rw[kQ];rfl,hL];congr 2;omega)
 have b1:=QA w 154 #[.string (Qb name),.int .i64 ino];have x1:Ext w (w.alloc (.cells #[.string (Qb name),.int .i64 ino] 154)):=(Qf w).alloc _;have u1:IntKind.u64.wrap ino=ino:=by rw[A5];omega
 have u2:IntKind.u64.wrap (name.length:Int)=name.length:=by rw[A5];omega
 have HP2:=Qa (λw=>jR ino w h2 (by omega));have bL:=Qa (λw=>oU (name.length:Int) w (by omega) (by omega));have c0:∀y:Qg (w.alloc (.cells #[.string (Qb name),.int .i64 ino] 154)),y.now.cell? ⟨w.heap.size,0,none⟩=some (.string (Qb name)):=λy=>y.ext.keep (b1.cell 0);have c1:∀y:Qg (w.alloc (.cells #[.string (Qb name),.int .i64 ino] 154)),y.now.cell? ⟨w.heap.size,1,none⟩=some (.int .i64 ino):=λy=>y.ext.keep (b1.cell 1);have hk:(⟨#[0]⟩:ByteArray)=Qb [0]:=rfl;go_enter func212,ntmps212;go_upto_region 1 with fail;refine Qp (by kernel_rfl) (by kernel_rfl) ?_;repeat (go_big_quiet_step ((first|(with_reducible exact Zg (HP2.o _))|(with_reducible exact Zg (bL.o _)))))
 refine Y7 ?_;rintro w2 ⟨y,rfl⟩;have Si:=x1.trans y.ext;clear c0 c1 b1;generalize y.now=w2 at *;rw[←kQ];clear kQ;have hi:(32:Int)-(hd.length:Int)=((28-name.length:Nat):Int):=by omega
 have kR:(32:Int)-(4+(name.length:Int))=((28-name.length:Nat):Int):=by omega
 have HR:=Qa (λw=>VQ (28-name.length) w (by omega));go_wp2_with (go_at_call 119;refine(HR.o _).mono ?_;rintro e w3 ⟨rfl,x3⟩)
 go_ret;exact⟨by rw[HE.o];rfl,Si.trans x3⟩
theorem Wj (s:List UInt8) (w:World) (hs:s.length<=1000000000) :
  Calls prog 110 #[.string (Qb s)] w λe w'=>e=.returned (.bool (YG s))/\Ext w w':=by
 have hz:=Qh;have HT:=Qa (λt=>Ql t);by_cases h0:s=[]
 ·subst h0;have d1:(Qb []).toList=[]:=Ql [];go_enter func110,ntmps110;go_wp2_with fail;go_ret;exact⟨rfl,Qf _⟩
 have d1:(Qb s).toList.isEmpty=false:=by rw[Ql];cases s with
  | nil=>exact absurd rfl h0
  | cons a l=>rfl
 by_cases h1:24<s.length
 ·have HM:=Qa (show YG s=false by unfold YG;rw[show decide (s.length<=24)=false by simp;omega];simp);go_enter func110,ntmps110;go_wp2_with fail;go_ret;rw[HM.o];exact⟨rfl,Qf _⟩
 by_cases h2:s=[46]
 ·subst h2;have d2:(Qb [46]).toList=[46]:=Ql _;go_enter func110,ntmps110;go_wp2_with fail;go_ret;exact⟨rfl,Qf _⟩
 by_cases h3:s=[46,46]
 ·subst h3;have d2:(Qb [46,46]).toList=[46,46]:=Ql _;go_enter func110,ntmps110;go_wp2_with fail;go_ret;exact⟨rfl,Qf _⟩
 have d2:((Qb s).toList==[46])=false:=by rw[Ql];simpa using h2
 have d3:((Qb s).toList==[46,46])=false:=by rw[Ql];simpa using h3
 have d4:¬(Qb s).toList=[46]:=by rw[Ql];exact h2
 have d5:¬(Qb s).toList=[46,46]:=by rw[Ql];exact h3
 have SC:=Qa (show s.all bG=true->YG s=true fromλh=>by unfold YG;simp only[h,Bool.and_true,VB,Cw];exact⟨⟨⟨h0,by omega⟩,h2⟩,h3⟩);clear h2 h3;go_enter func110,ntmps110;go_wp2_with (refine PK (.tmp 20) rfl rfl rfl ?_;intro cap w1 US x1;have HC:=Qa US;clear US)
 clear d1 d2 d3 d4 d5;go_loop [4,23,27,46] (λ_ i _ _=>∃k:Nat,k<=s.length/\i=.int .i64 k/\∀(j:Nat) (h:j<s.length),j<k->bG s[j]=true) (λ_ i _ _=>s.length-(intOf i).toNat);case atStart=>exact⟨0,by omega,rfl,λj _ h=>by omega⟩
 case round =>
  obtain⟨k,hk,rfl,ZL⟩:=hrel;have HO:=Qa ZL;clear ZL;by_cases Qo:k<s.length
  ·have dH:=HC.o k Qo;have HB:=Qa (@Og s k Qo);have HN:=Qa (show bG s[k]=true->∀(j:Nat) (h:j<s.length),j<k+1->bG s[j]=true fromλh j hj Kk=>by
    by_cases e:j<k
    ·exact HO.o j hj e
    ·obtain rfl:j=k:=by omega
     exact h)
   have Bk:=s[k].toNat_lt;have HE:Zv (bG s[k]=decide (97<=s[k].toNat/\s[k].toNat<=122\/65<=s[k].toNat/\s[k].toNat<=90\/48<=s[k].toNat/\s[k].toNat<=57\/s[k].toNat=45\/s[k].toNat=95\/s[k].toNat=46)):=rfl;generalize s[k]=ch at *;rcases(by omega:(97<=ch.toNat/\ch.toNat<=122)\/(65<=ch.toNat/\ch.toNat<=90)\/(48<=ch.toNat/\ch.toNat<=57)\/(ch.toNat=45)\/(ch.toNat=95)\/(ch.toNat=46)\/(123<=ch.toNat)\/(91<=ch.toNat/\ch.toNat<=96/\ch.toNat≠95)\/(58<=ch.toNat/\ch.toNat<=64)\/(ch.toNat<=47/\ch.toNat≠46/\ch.toNat≠45)) with hc|hc|hc|hc|hc|hc|hc|hc|hc|hc
   iterate 6
    ·have tS:bG ch=true:=by rw[HE.o];simp;omega
     have e45:((ch.toNat:Int)==45)=decide (ch.toNat=45):=by rw[mT];simp;omega
     have e95:((ch.toNat:Int)==95)=decide (ch.toNat=95):=by rw[mT];simp;omega
     have mp:((ch.toNat:Int)==46)=decide (ch.toNat=46):=by rw[mT];simp;omega
     have q97:decide ((97:Int)<=(ch.toNat:Int))=decide (97<=ch.toNat):=by simp;omega
     have q122:decide ((ch.toNat:Int)<=122)=decide (ch.toNat<=122):=by simp;omega
     have q65:decide ((65:Int)<=(ch.toNat:Int))=decide (65<=ch.toNat):=by simp;omega
     have q90:decide ((ch.toNat:Int)<=90)=decide (ch.toNat<=90):=by simp;omega
     have q48:decide ((48:Int)<=(ch.toNat:Int))=decide (48<=ch.toNat):=by simp;omega
     have q57:decide ((ch.toNat:Int)<=57)=decide (ch.toNat<=57):=by simp;omega
     clear HE;go_wp2_with fail;go_round;case rel=>exact⟨k+1,by omega,by go_num,HN.o tS⟩
     case measure=>simp[intOf];omega
   all_goals
    have Ll:bG ch=false:=by rw[HE.o];simp;omega
    have mp:((ch.toNat:Int)==46)=false:=by simp;omega
    have e95:((ch.toNat:Int)==95)=false:=by simp;omega
    have e45:((ch.toNat:Int)==45)=false:=by simp;omega
    clear HE;go_wp2_with fail;go_ret;rw[HB.o Ll];exact⟨rfl,x1⟩
  ·obtain rfl:k=s.length:=by omega
   have HT:=Qa (SC.o (by rw[Pv];intro c hc;obtain⟨j,hj,rfl⟩:=aj hc;exact HO.o j hj hj));go_wp2_with fail;go_ret;rw[HT.o];exact⟨rfl,x1⟩
end Go.Proofs.YtfaplefkakpgcaaGreatDoor
