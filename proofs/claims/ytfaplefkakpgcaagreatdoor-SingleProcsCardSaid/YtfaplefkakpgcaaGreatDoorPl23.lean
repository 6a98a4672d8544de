import Derived.Test.YtfaplefkakpgcaaGreatDoorPl21
import Derived.Test.YtfaplefkakpgcaaGreatDoorPl19
import Derived.Test.YtfaplefkakpgcaaGreatDoorPl6
import Derived.Test.YtfaplefkakpgcaaGreatDoorPl15
set_option linter.unusedVariables false
set_option linter.unusedSimpArgs false
set_option maxHeartbeats 32000000
set_option maxRecDepth 100000
namespace Go.Proofs.YtfaplefkakpgcaaGreatDoor
open Go.Proofs.Tryz
open Go.RowKit
abbrev ib:Value:=.iface 183 (.agg #[])
abbrev JA:Ending:=.panicked [{ v:=.iface 183 (.agg #[]),recovered:=false }]
def QA (w:World) (b:Nat) (L:List (List UInt8)):Prop:=∃A n c,Box w b 253 #[.slice A n c]/\TRow w A n L/\n<=c
theorem QA.ext {w w':World}{b:Nat}{L:List (List UInt8)}(h:QA w b L) (x:Ext w w'):QA w' b L:=by
 obtain⟨A,n,c,h1,h2,h3⟩:=h;exact⟨A,n,c,h1.ext x,h2.ext x,h3⟩
theorem TW (b:Nat) (L:List (List UInt8)) (w:World) (h:QA w b L) :
  Calls prog 131 #[.pointer (some ⟨b,0,none⟩)] w λe w'=>e=.returned (.bool (decide (0<L.length)))/\w=w':=by
 obtain⟨A,n,c,h1,h2,h3⟩:=h;have c0:=h1.cell 0;have P8:=h2.1;have hl:Zm (n=L.length):=P8;clear P8;clear h1 h2 h3;go_enter func131,ntmps131;go_wp2_with fail;go_ret;refine⟨?_,rfl⟩;rw[←hl.o];rfl
def VH {α:Type} (f:List UInt8->Option α) (g:α->Value) (w:World) (b:Nat):List (List UInt8)->Ending->World->Prop
 | [],e,w'=>e=JA/\QA w' b []/\But b w w'
 | s::L,e,w'=>e=(match f s with|some x=>.returned (g x)|none=>JA)/\QA w' b L/\But b w w'
theorem Ud {α:Type} {f:List UInt8->Option α}{g:α->Value}{w w':World}{b:Nat}{s:List UInt8}{L:List (List UInt8)}{x:α}{e:Ending}(hx:f s=some x) (h1:e=.returned (g x)) (h2:QA w' b L) (h3:But b w w'):VH f g w b (s::L) e w' :=
 ⟨h1.trans (by rw[hx]),h2,h3⟩
theorem Na {α:Type} {f:List UInt8->Option α}{g:α->Value}{w w':World}{b:Nat}{s:List UInt8}{L:List (List UInt8)}{e:Ending}(hx:f s=none) (h1:e=JA) (h2:QA w' b L) (h3:But b w w'):VH f g w b (s::L) e w' :=
 ⟨h1.trans (by rw[hx]),h2,h3⟩
abbrev le (s:List UInt8):Value:=.string (Qb s)
theorem Un (b:Nat) (L:List (List UInt8)) (w:World) (h:QA w b L) :
  Calls prog 126 #[.pointer (some ⟨b,0,none⟩)] w (VH some le w b L):=by
 have HM:=Qa (TW b L w h);have HC:=Qa h;obtain⟨A,n,c,h1,h2,h3⟩:=h;have c0:=h1.cell 0;have f0:=h1.frozen 0;cases L with
 | nil =>
  clear h1 h2 h3 c0 f0;go_enter func126,ntmps126;go_wp2_with (go_at_call 131;refine HM.o.mono ?_;rintro e w1 ⟨rfl,rfl⟩)
  exact⟨rfl,rfl,HC.o,But.refl _ _⟩
 | cons s L =>
  obtain⟨g,o,cur,fz,rfl,h4,h5⟩:=h2.2 (by rw[h2.1];simp);have c1:=h5 0 (by simp);simp only[nb,List.getElem_cons_zero]at c1;have ht:=h2.tail;have hn:n=L.length+1:=h2.1;subst hn;have HK:Zm (∀A' n' c' w',w'=w.setCell ⟨b,0,none⟩ (.slice A' n' c')->TRow w A' n' L->n'<=c'->QA w' b L/\But b w w'):=Qa (λA' n' c' w' e ht hc=>by
   have hk:But b w w':=by rw[e];exact(But.refl b w).setCell 0 _
   refine⟨⟨A',n',c',?_,ht.but hk h1 (by decide),hc⟩,hk⟩;rw[e];exact h1.set 0 _)
  have HT:=Qa ht;clear h1 h2 ht h4 h5 HC;by_cases hc:c=1
  ·subst hc;have hL:L=[]:=bM (by omega);subst hL;go_enter func126,ntmps126;go_wp2_with (go_at_call 131;refine HM.o.mono ?_;rintro e w1 ⟨rfl,rfl⟩)
   go_ret;exact⟨rfl,HK.o _ _ _ _ rfl ⟨rfl,λh=>absurd h (by decide)⟩ (Q4 _)⟩
  ·have UB:¬(c:Int)-1=0:=by omega
   have Lk:¬c-1=0:=by omega
   go_enter func126,ntmps126;go_wp2_with (go_at_call 131;refine HM.o.mono ?_;rintro e w1 ⟨rfl,rfl⟩)
   go_ret;exact⟨rfl,HK.o _ _ _ _ rfl HT.o (by omega)⟩
theorem RH (z:Nat) (b:Nat) (L:List (List UInt8)) (w:World) (h:QA w b L) (hz:z<=1000) :
  Calls prog 190 #[.pointer (some ⟨b,0,none⟩),.int .i64 z] w (VH (Zx z) le w b L):=by
 have HT:=Qa (Un b L w h);have hs:=Qh;clear h;cases L with
 | nil =>
  go_enter func190,ntmps190;go_wp2_with (go_at_call 126;refine HT.o.mono ?_;rintro e w1 ⟨he,h1,h2⟩;simp only[JA]at he;subst he)
  exact⟨rfl,rfl,h1,h2⟩
 | cons s L =>
  have bG:=Qa (HT.o.mono (λe w' h=>(⟨h.1,h.2.1,h.2.2⟩:e=.returned (.string (Qb s))/\QA w' b L/\But b w w')));clear HT;by_cases hl:s.length=z
  ·have hq:Zx z s=some s:=QN hl;have hN:Zm (∀e w',e=.returned (le s)->QA w' b L->But b w w'->VH (Zx z) le w b (s::L) e w'):=Qa (λe w' h1 h2 h3=>Ud hq h1 h2 h3);have hb:((s.length:Int) != (z:Int))=false:=by rw[hl];simp
   clear hq hl;go_enter func190,ntmps190;go_wp2_with (go_at_call 126;refine bG.o.mono ?_;rintro e w1 ⟨rfl,h1,h2⟩)
   go_ret;exact hN.o _ _ rfl h1 h2
  ·have hq:Zx z s=none:=QD hl;have hN:Zm (∀e w',e=JA->QA w' b L->But b w w'->VH (Zx z) le w b (s::L) e w'):=Qa (λe w' h1 h2 h3=>Na hq h1 h2 h3);have hb:((s.length:Int) != (z:Int))=true:=by simp;omega
   clear hq hl;go_enter func190,ntmps190;go_wp2_with (go_at_call 126;refine bG.o.mono ?_;rintro e w1 ⟨rfl,h1,h2⟩)
   exact⟨rfl,hN.o _ _ rfl h1 h2⟩
theorem Fh (z:Nat) (b:Nat) (L:List (List UInt8)) (w:World) (h:QA w b L) (hz:z=4\/z=8) :
  Calls prog 127 #[.pointer (some ⟨b,0,none⟩),.int .i64 z] w (VH (ZF z) (λn=>.int .u64 n) w b L):=by
 have HF:=Qa (RH z b L w h (by omega));clear h;cases L with
 | nil =>
  go_enter func127,ntmps127;go_wp2_with (go_at_call 190;refine HF.o.mono ?_;rintro e w1 ⟨he,h1,h2⟩;simp only[JA]at he;subst he)
  exact⟨rfl,rfl,h1,h2⟩
 | cons s L =>
  by_cases hl:s.length=z
  ·have hq:Zx z s=some s:=QN hl;have hn:ZF z s=some (Z1 s:Int):=QN hl;have HG:=Qa (λw=>jO s w (by omega));have hN:Zm (∀e w',e=.returned (.int .u64 (Z1 s:Int))->QA w' b L->But b w w'->VH (ZF z) (λn=>.int .u64 n) w b (s::L) e w'):=Qa (λe w' h1 h2 h3=>Ud hn h1 h2 h3);have Mj:=Qa (HF.o.mono (λe w' h=>(⟨h.1.trans (by rw[hq]),h.2.1,h.2.2⟩:e=.returned (.string (Qb s))/\QA w' b L/\But b w w')));clear hq hl hn HF;go_enter func127,ntmps127
   go_wp2_with (first
    | (go_at_call 190;refine Mj.o.mono ?_;rintro e w1 ⟨rfl,h1,h2⟩)
    | (go_at_call 164;refine(HG.o _).mono ?_;rintro e w2 ⟨rfl,rfl⟩))
   go_ret;exact hN.o _ _ rfl h1 h2
  ·have hq:Zx z s=none:=QD hl;have hn:ZF z s=none:=QD hl;have hN:Zm (∀e w',e=JA->QA w' b L->But b w w'->VH (ZF z) (λn=>.int .u64 n) w b (s::L) e w'):=Qa (λe w' h1 h2 h3=>Na hn h1 h2 h3);have Mj:=Qa (HF.o.mono (λe w' h=>(⟨h.1.trans (by rw[hq]),h.2.1,h.2.2⟩:e=JA/\QA w' b L/\But b w w')));clear hq hl hn HF;go_enter func127,ntmps127;go_wp2_with (go_at_call 190;refine Mj.o.mono ?_;rintro e w1 ⟨he,h1,h2⟩;simp only[JA]at he;subst he)
   exact⟨rfl,hN.o _ _ rfl h1 h2⟩
theorem Fi (b:Nat) (L:List (List UInt8)) (w:World) (h:QA w b L) :
  Calls prog 129 #[.pointer (some ⟨b,0,none⟩)] w (VH ZH (λn=>.bool n) w b L):=by
 have HT:=Qa (Un b L w h);clear h;cases L with
 | nil =>
  go_enter func129,ntmps129;go_wp2_with (go_at_call 126;refine HT.o.mono ?_;rintro e w1 ⟨he,h1,h2⟩;simp only[JA]at he;subst he)
  exact⟨rfl,rfl,h1,h2⟩
 | cons s L =>
  have bG:=Qa (HT.o.mono (λe w' h=>(⟨h.1,h.2.1,h.2.2⟩:e=.returned (.string (Qb s))/\QA w' b L/\But b w w')));clear HT;by_cases h1:s=[49]
  ·have hN:Zm (∀e w',e=.returned (.bool true)->QA w' b L->But b w w'->VH ZH (λn=>.bool n) w b (s::L) e w'):=Qa (λe w' k1 k2 k3=>Ud (x:=true) (QN h1) k1 k2 k3);have hq:((Qb s).toList==[49])=true:=by rw[Qe,h1];rfl
   clear h1;go_enter func129,ntmps129;go_wp2_with (go_at_call 126;refine bG.o.mono ?_;rintro e w1 ⟨rfl,k1,k2⟩)
   go_ret;exact hN.o _ _ rfl k1 k2
  ·by_cases h2:s=[48]
   ·have hN:Zm (∀e w',e=.returned (.bool false)->QA w' b L->But b w w'->VH ZH (λn=>.bool n) w b (s::L) e w'):=Qa (λe w' k1 k2 k3=>Ud (x:=false) (by unfold ZH;rw[QD h1,QN h2]) k1 k2 k3);have hq:((Qb s).toList==[49])=false:=by rw[Qe,h2];rfl
    have hq2:((Qb s).toList==[48])=true:=by rw[Qe,h2];rfl
    clear h1 h2;go_enter func129,ntmps129;go_wp2_with (go_at_call 126;refine bG.o.mono ?_;rintro e w1 ⟨rfl,k1,k2⟩)
    go_ret;exact hN.o _ _ rfl k1 k2
   ·have hN:Zm (∀e w',e=JA->QA w' b L->But b w w'->VH ZH (λn=>.bool n) w b (s::L) e w'):=Qa (λe w' k1 k2 k3=>Na (by unfold ZH;rw[QD h1,QD h2]) k1 k2 k3);have hq:((Qb s).toList==[49])=false:=by rw[Qe];simpa using h1
    have hq2:((Qb s).toList==[48])=false:=by rw[Qe];simpa using h2
    clear h1 h2;go_enter func129,ntmps129;go_wp2_with (go_at_call 126;refine bG.o.mono ?_;rintro e w1 ⟨rfl,k1,k2⟩)
    exact⟨rfl,hN.o _ _ rfl k1 k2⟩
theorem M0 (b:Nat) (L:List (List UInt8)) (w:World) (h:QA w b L) (hD:∀w',But b w w'->ZG w') (hL:∀s∈L,s.length<=281474976710656) :
  Calls prog 128 #[.pointer (some ⟨b,0,none⟩)] w (VH QZ (λn=>.int .i64 n) w b L):=by
 have HT:=Qa (Un b L w h);clear h;cases L with
 | nil =>
  clear hD hL;go_enter func128,ntmps128;go_wp2_with (go_at_call 126;refine HT.o.mono ?_;rintro e w1 ⟨he,h1,h2⟩;simp only[JA]at he;subst he)
  exact⟨rfl,rfl,h1,h2⟩
 | cons s L =>
  have bG:=Qa (HT.o.mono (λe w' h=>(⟨h.1,h.2.1,h.2.2⟩:e=.returned (.string (Qb s))/\QA w' b L/\But b w w')));have HI:=Qa (λw' (k:But b w w')=>pG s w' (hL s Gq) (hD w' k));clear HT hD hL;cases hp:QZ s with
  | none =>
   have hN:Zm (∀e w',e=JA->QA w' b L->But b w w'->VH QZ (λn=>.int .i64 n) w b (s::L) e w'):=Qa (λe w' k1 k2 k3=>Na hp k1 k2 k3);have sC:=Qa (λw' k=>(HI.o w' k).mono (λe w2 h=>(⟨h.1.trans (by unfold Kr;rw[hp];rfl),h.2⟩:e=.returned (.tuple #[.int .i64 0,.bool false])/\Ext w' w2)));clear hp HI;go_enter func128,ntmps128
   go_wp2_with (first
    | (go_at_call 126;refine bG.o.mono ?_;rintro e w1 ⟨rfl,k1,k2⟩)
    | (go_at_call 191;refine(sC.o _ k2).mono ?_;rintro e w2 ⟨rfl,x2⟩))
   exact⟨rfl,hN.o _ _ rfl (k1.ext x2) (k2.then' x2)⟩
  | some n =>
   have hN:Zm (∀e w',e=.returned (.int .i64 n)->QA w' b L->But b w w'->VH QZ (λn=>.int .i64 n) w b (s::L) e w'):=Qa (λe w' k1 k2 k3=>Ud hp k1 k2 k3);have sC:=Qa (λw' k=>(HI.o w' k).mono (λe w2 h=>(⟨h.1.trans (by unfold Kr;rw[hp];rfl),h.2⟩:e=.returned (.tuple #[.int .i64 n,.bool true])/\Ext w' w2)));clear hp HI;go_enter func128,ntmps128
   go_wp2_with (first
    | (go_at_call 126;refine bG.o.mono ?_;rintro e w1 ⟨rfl,k1,k2⟩)
    | (go_at_call 191;refine(sC.o _ k2).mono ?_;rintro e w2 ⟨rfl,x2⟩))
   go_ret;exact hN.o _ _ rfl (k1.ext x2) (k2.then' x2)
def vD (n:Int):List UInt8:=[b8 (n%256),b8 (n/256)]
def CA (s:List UInt8) (n:Nat):List UInt8:=s++zs (n-s.length)
def FY (c:UInt8):Bool:=decide (97<=c.toNat/\c.toNat<=122\/65<=c.toNat/\c.toNat<=90\/48<=c.toNat/\c.toNat<=57\/c.toNat=45\/c.toNat=95\/c.toNat=46)
def Zt (s:List UInt8):Bool:=decide (s≠[])&&decide (s.length<=24)&&decide (s≠[46])&&decide (s≠[46,46])&&s.all FY
theorem C6 {s:List UInt8}{k:Nat}(hk:k<s.length) (h:FY s[k]=false):Zt s=false:=by
 unfold Zt;rw[show s.all FY=false from List.all_eq_false.2 ⟨s[k],NT hk,by rw[h];simp⟩];simp
theorem TV {s:List UInt8}(h:Zt s=true):1<=s.length/\s.length<=24:=by
 unfold Zt at h;simp only[Vg,MS]at h;exact⟨Nat.pos_of_ne_zero λe=>h.1.1.1.1 (bM e),h.1.1.1.2⟩
abbrev Ve:=List UInt8 × Int
def Xn (x:Ve):List UInt8:=CA (vD x.2++[b8 x.1.length]++[0]++x.1) 32
def Xm (o:List UInt8):Ve:=((o.drop 4).take (o.getD 2 0).toNat,(Z1 (o.take 2):Int))
def rV (o:List UInt8):Bool:=decide ((o.getD 2 0).toNat<=24)&&decide (1<=(Xm o).2)&&decide ((Xm o).2<=64)&&Zt (Xm o).1&&decide (Xn (Xm o)=o)
def U2 (l:List Ve) (x:Ve):Bool:=match l.getLast? with
 | none=>true
 | some y=>RU y.1 x.1
def Yk (b:List UInt8) (k:Nat):List UInt8:=(b.drop (32*k)).take 32
def YF (b:List UInt8):Nat->Option (List Ve)
 | 0=>some []
 | k+1=>match YF b k with
  | none=>none
  | some l=>if rV (Yk b k)&&U2 l (Xm (Yk b k)) then some (l++[Xm (Yk b k)]) else none
def Js (b:List UInt8):Option (List Ve):=if b.length%32=0 then YF b (b.length/32) else none
theorem Fr {b:List UInt8}{k:Nat}{l:List Ve}(h:YF b k=some l) (h1:rV (Yk b k)=true) (h2:U2 l (Xm (Yk b k))=true):YF b (k+1)=some (l++[Xm (Yk b k)]):=by
 simp only[YF,h,h1,h2,Bool.and_self,if_true]
theorem Cv {b:List UInt8}{k:Nat}{l:List Ve}(h:YF b k=some l) (h1:rV (Yk b k)=false\/U2 l (Xm (Yk b k))=false):YF b (k+1)=none:=by
 simp only[YF,h];rcases h1 with h1|h1<;>simp[h1]
theorem M9 {b:List UInt8}{k:Nat}(h:YF b k=none):∀m,k<=m->YF b m=none:=by
 intro m hm;induction m with
 | zero=>obtain rfl:k=0:=(by omega);exact h
 | succ m ih =>
  by_cases e:k=m+1
  ·subst e;exact h
  ·simp only[YF,ih (by omega)]
theorem WX {b:List UInt8}:∀{k:Nat}{l:List Ve},YF b k=some l->l.length=k
 | 0,l,h=>by cases h;rfl
 | k+1,l,h=>by
  simp only[YF]at h;cases h1:YF b k with
  | none=>rw[h1]at h;cases h
  | some l1 =>
   rw[h1]at h;simp only at h;split at h
   ·cases h;rw[VL,WX h1];rfl
   ·cases h
def Rp (l:List Ve):Prop:=(∀x∈l,Zt x.1=true/\1<=x.2/\x.2<=64)/\l.Pairwise λa b=>RU a.1 b.1=true
theorem Cw {b:List UInt8}:∀{k:Nat}{l:List Ve},YF b k=some l->Rp l
 | 0,l,h=>by cases h;exact⟨λx hx=>absurd hx Rw,List.Pairwise.nil⟩
 | k+1,l,h=>by
  simp only[YF]at h;cases h1:YF b k with
  | none=>rw[h1]at h;cases h
  | some l1 =>
   rw[h1]at h;simp only at h;split at h
   ·rename_i hc;cases h;have ih:=Cw h1;simp only[Vg]at hc;have ho:=hc.1;unfold rV at ho;simp only[Vg,MS]at ho;refine⟨λx hx=>?_,?_⟩
    ·rcases iO.1 hx with hx|hx
     ·exact ih.1 x hx
     ·obtain rfl:=bK.1 hx;exact⟨ho.1.2,ho.1.1.1.2,ho.1.1.2⟩
    ·refine List.pairwise_append.2 ⟨ih.2,List.pairwise_singleton _ _,λa ha c hcc=>?_⟩;obtain rfl:=bK.1 hcc;have hl:=hc.2;unfold U2 at hl;cases hq:l1.getLast? with
     | none=>rw[List.getLast?_eq_none_iff]at hq;subst hq;exact absurd ha Rw
     | some y =>
      rw[hq]at hl;simp only at hl;obtain⟨ys,rfl⟩:=List.getLast?_eq_some_iff.1 hq;rcases iO.1 ha with ha|ha
      ·exact RV _ _ _ ((List.pairwise_append.1 ih.2).2.2 a ha y Gq) hl
      ·obtain rfl:=bK.1 ha;exact hl
   ·cases h
theorem Wl {b:List UInt8}{l:List Ve}(h:Js b=some l):Rp l/\32*l.length=b.length:=by
 unfold Js at h;split at h
 ·exact⟨Cw h,by rw[WX h];omega⟩
 ·cases h
def Xw (l:List Ve) (name:List UInt8):Nat:=(l.takeWhile λx=>RU x.1 name).length
def Wn (l:List Ve) (name:List UInt8):Bool:=decide (Xw l name<l.length)&&decide ((l.getD (Xw l name) ([],0)).1=name)
theorem aU (l:List Ve) (name:List UInt8):Xw l name<=l.length:=by
 unfold Xw;have:=congrArg List.length (List.takeWhile_append_dropWhile (p:=λx:Ve=>RU x.1 name) (l:=l));rw[VL]at this;omega
theorem ME {l:List Ve}{name:List UInt8}{j:Nat}(hj:j<Xw l name) (hl:j<l.length):RU l[j].1 name=true:=by
 unfold Xw at hj;have h1:(l.takeWhile λx=>RU x.1 name)[j]=l[j]:=List.IsPrefix.getElem (List.takeWhile_prefix _) hj;have h2:=List.all_takeWhile (p:=λx:Ve=>RU x.1 name) (l:=l);rw[Rj]at h2;rw[←h1];exact h2 _ (NT hj)
theorem Ds {l:List Ve}(hl:l.Pairwise λa b=>RU a.1 b.1=true) {name:List UInt8}{j:Nat}(hj:Xw l name<=j) (h:j<l.length):RU l[j].1 name=false:=by
 induction l generalizing j with
 | nil=>simp at h
 | cons x l ih =>
  rw[List.pairwise_cons]at hl;unfold Xw at hj;rw[List.takeWhile_cons]at hj;by_cases hx:RU x.1 name=true
  ·rw[QN hx]at hj;simp only[XN]at hj;obtain⟨i,rfl⟩:∃i,j=i+1:=⟨j-1,by omega⟩
   simp only[List.getElem_cons_succ];exact ih hl.2 (by unfold Xw;omega) (by simpa using h)
  ·rw[Bool.not_eq_true]at hx;cases j with
   | zero=>exact hx
   | succ i =>
    have rQ:i<l.length:=by simpa using h
    simp only[List.getElem_cons_succ];have:=hl.1 l[i] (NT rQ);cases hc:RU l[i].1 name with
    | false=>rfl
    | true=>rw[RV _ _ _ this hc]at hx;cases hx
theorem Sj (x:Ve) (w:World) (h1:x.1.length<=24) (h2:0<=x.2) (h3:x.2<65536) :
  Calls prog 212 #[.agg #[.string (Qb x.1),.int .i64 x.2]] w λe w'=>e=.returned (.string (Qb (Xn x)))/\Ext w w':=by
 have hz:=Qh;have Lj:=JR;obtain⟨name,ino⟩:=x;simp only at h1 h2 h3;obtain⟨hd,K7⟩:∃hd:List UInt8,hd=b8 (ino%256)::b8 (ino/256)::b8 name.length::0::name:=⟨_,rfl⟩
 have hL:hd.length=4+name.length:=by rw[K7];simp;omega
 have HE:=Qa (show Xn (name,ino)=hd++zs (28-name.length) from by
  unfold Xn CA;rw[show vD ino++[b8 name.length]++[0]++name=hd from by rw[K7];rfl,hL];congr 2;omega)
 have b1:=Qs w 154 #[.string (Qb name),.int .i64 ino];have x1:Ext w (w.alloc (.cells #[.string (Qb name),.int .i64 ino] 154)):=(Qg w).alloc _;have u1:IntKind.u64.wrap ino=ino:=by rw[EO];omega
 have u2:IntKind.u64.wrap (name.length:Int)=name.length:=by rw[EO];omega
 have Aq:=Qa (λw=>ur ino w h2 (by omega));have G9:=Qa (λw=>Qcw (name.length:Int) w (by omega) (by omega));have c0:∀y:Qt (w.alloc (.cells #[.string (Qb name),.int .i64 ino] 154)),y.now.cell? ⟨w.heap.size,0,none⟩=some (.string (Qb name)):=λy=>y.ext.keep (b1.cell 0);have c1:∀y:Qt (w.alloc (.cells #[.string (Qb name),.int .i64 ino] 154)),y.now.cell? ⟨w.heap.size,1,none⟩=some (.int .i64 ino):=λy=>y.ext.keep (b1.cell 1);have hk:(⟨#[0]⟩:ByteArray)=Qb [0]:=rfl;go_enter func212,ntmps212;go_upto_region 1 with fail;refine Qk (by kernel_rfl) (by kernel_rfl) ?_;repeat (go_big_quiet_step ((first|(with_reducible exact JO (Aq.o _))|(with_reducible exact JO (G9.o _)))))
 refine VI ?_;rintro w2 ⟨y,rfl⟩;have Rl:=x1.trans y.ext;clear c0 c1 b1;generalize y.now=w2 at *;rw[←K7];clear K7;have hi:(32:Int)-(hd.length:Int)=((28-name.length:Nat):Int):=by omega
 have aD:(32:Int)-(4+(name.length:Int))=((28-name.length:Nat):Int):=by omega
 have HR:=Qa (λw=>Tc (28-name.length) w (by omega));go_wp2_with (go_at_call 119;refine(HR.o _).mono ?_;rintro e w3 ⟨rfl,x3⟩)
 go_ret;exact⟨by rw[HE.o];rfl,Rl.trans x3⟩
theorem TA (s:List UInt8) (w:World) (hs:s.length<=1000000000) :
  Calls prog 110 #[.string (Qb s)] w λe w'=>e=.returned (.bool (Zt s))/\Ext w w':=by
 have hz:=Qh;have HT:=Qa (λt=>Qe t);by_cases h0:s=[]
 ·subst h0;have d1:(Qb []).toList=[]:=Qe [];go_enter func110,ntmps110;go_wp2_with fail;go_ret;exact⟨rfl,Qg _⟩
 have d1:(Qb s).toList.isEmpty=false:=by rw[Qe];cases s with
  | nil=>exact absurd rfl h0
  | cons a l=>rfl
 by_cases h1:24<s.length
 ·have HM:=Qa (show Zt s=false by unfold Zt;rw[show decide (s.length<=24)=false by simp;omega];simp);go_enter func110,ntmps110;go_wp2_with fail;go_ret;rw[HM.o];exact⟨rfl,Qg _⟩
 by_cases h2:s=[46]
 ·subst h2;have d2:(Qb [46]).toList=[46]:=Qe _;go_enter func110,ntmps110;go_wp2_with fail;go_ret;exact⟨rfl,Qg _⟩
 by_cases h3:s=[46,46]
 ·subst h3;have d2:(Qb [46,46]).toList=[46,46]:=Qe _;go_enter func110,ntmps110;go_wp2_with fail;go_ret;exact⟨rfl,Qg _⟩
 have d2:((Qb s).toList==[46])=false:=by rw[Qe];simpa using h2
 have d3:((Qb s).toList==[46,46])=false:=by rw[Qe];simpa using h3
 have d4:¬(Qb s).toList=[46]:=by rw[Qe];exact h2
 have d5:¬(Qb s).toList=[46,46]:=by rw[Qe];exact h3
 have NQ:=Qa (show s.all FY=true->Zt s=true fromλh=>by unfold Zt;simp only[h,vp,Vg,MS];exact⟨⟨⟨h0,by omega⟩,h2⟩,h3⟩);clear h2 h3;go_enter func110,ntmps110;go_wp2_with (refine G5 (.tmp 20) rfl rfl rfl ?_;intro cap w1 UB x1;have HC:=Qa UB;clear UB)
 clear d1 d2 d3 d4 d5;go_loop [4,23,27,46] (λ_ i _ _=>∃k:Nat,k<=s.length/\i=.int .i64 k/\∀(j:Nat) (h:j<s.length),j<k->FY s[j]=true) (λ_ i _ _=>s.length-(intOf i).toNat);case atStart=>exact⟨0,by omega,rfl,λj _ h=>by omega⟩
 case round =>
  obtain⟨k,hk,rfl,Yj⟩:=hrel;have HO:=Qa Yj;clear Yj;by_cases Qn:k<s.length
  ·have ND:=HC.o k Qn;have HB:=Qa (@C6 s k Qn);have HN:=Qa (show FY s[k]=true->∀(j:Nat) (h:j<s.length),j<k+1->FY s[j]=true fromλh j hj Vq=>by
    by_cases e:j<k
    ·exact HO.o j hj e
    ·obtain rfl:j=k:=by omega
     exact h)
   have GO:=s[k].toNat_lt;have HE:Zm (FY s[k]=decide (97<=s[k].toNat/\s[k].toNat<=122\/65<=s[k].toNat/\s[k].toNat<=90\/48<=s[k].toNat/\s[k].toNat<=57\/s[k].toNat=45\/s[k].toNat=95\/s[k].toNat=46)):=rfl;generalize s[k]=ch at *;rcases(by omega:(97<=ch.toNat/\ch.toNat<=122)\/(65<=ch.toNat/\ch.toNat<=90)\/(48<=ch.toNat/\ch.toNat<=57)\/(ch.toNat=45)\/(ch.toNat=95)\/(ch.toNat=46)\/(123<=ch.toNat)\/(91<=ch.toNat/\ch.toNat<=96/\ch.toNat≠95)\/(58<=ch.toNat/\ch.toNat<=64)\/(ch.toNat<=47/\ch.toNat≠46/\ch.toNat≠45)) with hc|hc|hc|hc|hc|hc|hc|hc|hc|hc
   iterate 6
    ·have uQ:FY ch=true:=by rw[HE.o];simp;omega
     have rC:((ch.toNat:Int)==45)=decide (ch.toNat=45):=by rw[mW];simp;omega
     have wL:((ch.toNat:Int)==95)=decide (ch.toNat=95):=by rw[mW];simp;omega
     have mZ:((ch.toNat:Int)==46)=decide (ch.toNat=46):=by rw[mW];simp;omega
     have q97:decide ((97:Int)<=(ch.toNat:Int))=decide (97<=ch.toNat):=by simp;omega
     have kr:decide ((ch.toNat:Int)<=122)=decide (ch.toNat<=122):=by simp;omega
     have q65:decide ((65:Int)<=(ch.toNat:Int))=decide (65<=ch.toNat):=by simp;omega
     have q90:decide ((ch.toNat:Int)<=90)=decide (ch.toNat<=90):=by simp;omega
     have q48:decide ((48:Int)<=(ch.toNat:Int))=decide (48<=ch.toNat):=by simp;omega
     have q57:decide ((ch.toNat:Int)<=57)=decide (ch.toNat<=57):=by simp;omega
     clear HE;go_wp2_with fail;go_round;case rel=>exact⟨k+1,by omega,by go_num,HN.o uQ⟩
     case measure=>simp[intOf];omega
   all_goals
    have Xz:FY ch=false:=by rw[HE.o];simp;omega
    have mZ:((ch.toNat:Int)==46)=false:=by simp;omega
    have wL:((ch.toNat:Int)==95)=false:=by simp;omega
    have rC:((ch.toNat:Int)==45)=false:=by simp;omega
    clear HE;go_wp2_with fail;go_ret;rw[HB.o Xz];exact⟨rfl,x1⟩
  ·obtain rfl:k=s.length:=by omega
   have HT:=Qa (NQ.o (by rw[Rj];intro c hc;obtain⟨j,hj,rfl⟩:=Fd hc;exact HO.o j hj hj));go_wp2_with fail;go_ret;rw[HT.o];exact⟨rfl,x1⟩
end Go.Proofs.YtfaplefkakpgcaaGreatDoor
