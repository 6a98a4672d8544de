import Derived.Test.YtfaplefkakpgcaaGreatDoorQa28
import Derived.Test.YtfaplefkakpgcaaGreatDoorQa13
import Derived.Test.YtfaplefkakpgcaaGreatDoorQa29
set_option linter.unusedVariables false
set_option linter.unusedSimpArgs false
set_option maxHeartbeats 32000000
set_option maxRecDepth 100000
namespace Go.Proofs.YtfaplefkakpgcaaGreatDoor
open Go.Proofs.Tryz
open Go.RowKit Go.Shelf
attribute [local go_sem] A9
theorem PB (s:List UInt8) (w:World):Calls prog 109 #[.string (Qb s),.string ⟨#[47]⟩] w λe w'=>e=.returned (.bool (decide (s.head? =some 47)))/\w'=w:=by
 have h:=Any.strings_HasPrefix Tryz.lays99 (Qb s) ⟨#[47]⟩ w;rw[show Lib.hasPrefix (Qb s).data.toList (⟨#[47]⟩:ByteArray).data.toList=decide (s.head? =some 47) from by
  rw[show(Qb s).data.toList=s from rfl];cases s with
  | nil=>rfl
  | cons c s =>
   show(47==c&&true)=_;rw[Bool.and_true];by_cases h:c=47
   ·subst h;rfl
   ·exact(ai.2 (Fq h)).trans (XI (λe=>h (L0 e))).symm]at h
 exact h
theorem R6 (q:List UInt8) (w:World):Calls prog 112 #[.string (Qb (47::q)),.string ⟨#[47]⟩] w λe w'=>e=.returned (.string (Qb q))/\w'=w:=by
 have h:=Any.strings_TrimPrefix Tryz.lays101 (Qb (47::q)) ⟨#[47]⟩ w;rw[show(⟨(Lib.trimPrefix (Qb (47::q)).data.toList (⟨#[47]⟩:ByteArray).data.toList).toArray⟩:ByteArray)=Qb q from by
  rfl]at h
 exact h
theorem PD (q:List UInt8) (w:World):Calls prog 113 #[.string (Qb q),.int .u8 47] w λe w'=>e=.returned (.int .i64 (if ZP q=[] then -1 else ((Xj q).length:Int)))/\w'=w:=by
 have h:=Any.strings_IndexByte Tryz.lays137 (Qb q) 47 w;rw[show Lib.indexByte (Qb q).data.toList (47:Int).toNat.toUInt8=(if ZP q=[] then -1 else ((Xj q).length:Int)) from by
  exact BD q]at h
 exact h
theorem OZ {q:List UInt8}(h:ZP q=[]):Xj q=q:=by have:=WK q;rwa [h,SO]at this
theorem O0 (q:List UInt8):q.take (Xj q).length=Xj q:=by
 have:=List.take_left (l₁:=Xj q) (l₂:=ZP q);rwa [WK]at this
theorem Aq (q:List UInt8):q.drop (Xj q).length=ZP q:=by
 have:=List.drop_left (l₁:=Xj q) (l₂:=ZP q);rwa [WK]at this
theorem Mn (p:ByteArray) (w:World) :
  Calls prog 57 #[.string p] w λe w'=>e=.returned (.func (.func 111) #[] #[.pointer (some ⟨w.heap.size,0,none⟩)])/\w'=w.alloc (.cells #[.string p] 9):=by
 have kV:∀(fn:Fn) (first cap:Array Value) (w:World),(Instr.makeFunc fn first cap).run prog w=.ok (.func fn first cap) w:=λ_ _ _ _=>rfl;go_enter func57,ntmps57;go_wp2_with fail;go_ret;exact⟨rfl,rfl⟩
def lenOf:Value->Nat
 | .string s=>s.size
 | _=>0
def B9 (p:List UInt8) (k:Nat):Array Value:=#[.string (Qb ((QQ p).getD k []))]
theorem BZ (n:Nat) (hn:1<=n) (l b1:Nat) (p:List UInt8) (J Jx:List Nat->World->Prop) (W:World) (hJ:AbidesFrom W.heap.size J)
  (hY:∀pre x W1,J pre W1->pre.length<(QQ p).length->YieldAt Fence.wide (n-1) prog l (B9 p x) W1 λe W' =>
   (e=.returned (.bool true)/\J (pre++[x]) W'/\Vh b1 b1 W1 W')\/(e=.returned (.bool false)/\Jx (pre++[x]) W'))
  (h1:Box W b1 9 #[.string (Qb p)]) (Sf:p.head? =some 47) (h0:J [] W) :
  CallsIn Fence.wide n prog 111 #[.func (.yield l) #[] #[],.pointer (some ⟨b1,0,none⟩)] W λe W'=>(∃v,e=.returned v)/\
   ((∃ys,ys=List.range (QQ p).length/\J ys W')\/(∃pre,(∃k,k<=(QQ p).length/\pre=List.range k)/\Jx pre W')):=by
 have hs:(Qb p).toList=p:=Ql p;have cb:W.cell? ⟨b1,0,none⟩=some (.string (Qb p)):=h1.cell 0;refine callsIn_of_wp func111 rfl trivial ?_ rfl;simp only[ntmps111,N1,YV,Tz,Nat.reduceAdd,Nat.reduceSub,ah,ak,aq,an,Cx,DB];by_cases hp:p=[47]
 ·subst hp;have kW:((Qb [47]).toList==(⟨#[47]⟩:ByteArray).toList)=true:=by rw[hs,show(⟨#[47]⟩:ByteArray).toList=[47] from Ql [47]];rfl
  gi_wp2_with fail;refine ZD (UL rfl _ _ _) rfl ?_;exact⟨⟨_,rfl⟩,.inl ⟨_,rfl,h0⟩⟩
 ·have kW:(p==[47])=false:=by simpa using hp
  have Kz:QQ p=YI p:=by unfold QQ;rw[Qr hp]
  have hp0:p=[]\/∃q,p=47::q:=by
   cases p with
   | nil=>exact .inl rfl
   | cons c q=>exact .inr ⟨q,by simp at Sf;rw[Sf]⟩
  gi_wp2_with fail;gi_loopw [3,4,5] (λr _ _ wx=>∃(k:Nat) (rest:List UInt8),r=.string (Qb rest)/\(rest=[]\/∃q,rest=47::q)/\(QQ p).drop k=YI rest/\k+(YI rest).length=(QQ p).length/\J (List.range k) wx/\Box wx b1 9 #[.string (Qb p)]) (λr _ _ _=>lenOf r);case atStart=>exact⟨0,p,rfl,hp0,by rw[Kz];rfl,by rw[Kz];omega,h0,h1⟩
  case round =>
   obtain⟨k,rest,rfl,hrest,kN,hkl,hJs,Bi⟩:=hrel;rcases hrest with rfl|⟨q,rfl⟩
   ·have ni:(Qb []).toList=[]:=Ql [];rw[Rx]at hkl;gi_wp2_with fail;refine bodyPost_end (UL rfl _ _ _) rfl ?_;obtain rfl:k=(QQ p).length:=by simpa using hkl
    exact⟨⟨_,rfl⟩,.inl ⟨_,rfl,hJs⟩⟩
   ·have ni:((47::q)==([]:List UInt8))=false:=rfl;have tH:=Ql (47::q);rw[NM]at kN hkl;simp only[YV]at hkl;have Y9:k<(QQ p).length:=by omega
    have hgk:(QQ p).getD k []=Xj q:=by have e:=congrArg List.head? kN;rw[List.head?_drop,List.head?_cons]at e;rw[ZG,e];rfl
    have nK:(QQ p).drop (k+1)=YI (ZP q):=by have e:=congrArg (List.drop 1) kN;rw[hU]at e;exact e
    have hX:(Qb q).extract 0 (Xj q).length=Qb (Xj q):=by rw[JJ,Nat.sub_zero,Yu,O0]
    have hX2:(Qb q).extract (Xj q).length q.length=Qb (ZP q):=by rw[JJ,AX (by rw[WQ];omega),Aq]
    have IX:=LK q;have VH:=Qh q;obtain⟨fn,tmps,assign,body,hy,hR⟩:=hY (List.range k) k _ hJs (by rw[mO];exact Y9);have BB:(Instr.yield l #[.string (Qb (Xj q))]).run prog wr=.ok (.round l fn tmps assign body) wr:=by
     have:B9 p k=#[.string (Qb (Xj q))]:=by unfold B9;rw[hgk]
     rw[this]at hy;exact hy
    clear hy;have kQ:=EM q;have HT:=Qa (λw=>R6 q w);have pJ:=Qa (λw=>PD q w);by_cases hr:ZP q=[]
    ·rw[Qv hr]at pJ;have vt:(Xj q).length=q.length:=by rw[OZ hr]
     have sd:¬((0:Int)<=-1):=by omega
     have Fx:(Xj q).length<=q.length:=by omega
     rw[vt]at hX hX2
     gi_wp2_with (first
      | (refine⟨trivial,?_⟩;gi_at_call 112;refine(Pp.2 (HT.o _)).mono ?_;rintro e w2 ⟨rfl,rfl⟩)
      | (refine⟨trivial,?_⟩;gi_at_call 113;refine(Pp.2 (pJ.o _)).mono ?_;rintro e w2 ⟨rfl,rfl⟩))
     refine hR.mono ?_;rintro e W3 (⟨rfl,hJ3,hk3⟩|⟨rfl,hJx3⟩)
     ·gi_wp2_with fail;go_roundw;case rel=>exact⟨k+1,[],rfl,.inl rfl,by rw[nK,hr],by rw[←hr];omega,by rw[fL];exact hJ3,(hk3 _ _).1 Bi⟩
      case measure=>show 0<(Qb (47::q)).size;rw[Qh,YV];omega
     ·gi_wp2_with fail;refine ZD (UL rfl _ _ _) rfl ?_;exact⟨⟨_,rfl⟩,.inr ⟨_,⟨k+1,by omega,fL.symm⟩,hJx3⟩⟩
    ·rw[Qr hr]at pJ;have Fx:(Xj q).length<=q.length:=by omega
     gi_wp2_with (first
      | (refine⟨trivial,?_⟩;gi_at_call 112;refine(Pp.2 (HT.o _)).mono ?_;rintro e w2 ⟨rfl,rfl⟩)
      | (refine⟨trivial,?_⟩;gi_at_call 113;refine(Pp.2 (pJ.o _)).mono ?_;rintro e w2 ⟨rfl,rfl⟩))
     refine hR.mono ?_;rintro e W3 (⟨rfl,hJ3,hk3⟩|⟨rfl,hJx3⟩)
     ·gi_wp2_with fail;go_roundw;case rel=>exact⟨k+1,ZP q,rfl,kQ,nK,by omega,by rw[fL];exact hJ3,(hk3 _ _).1 Bi⟩
      case measure=>show(Qb (ZP q)).size<(Qb (47::q)).size;rw[Qh,Qh,YV];omega
     ·gi_wp2_with fail;refine ZD (UL rfl _ _ _) rfl ?_;exact⟨⟨_,rfl⟩,.inr ⟨_,⟨k+1,by omega,fL.symm⟩,hJx3⟩⟩
theorem NK (n:Nat) (hn:1<=n) (b1:Nat) (p:List UInt8) (w:World) (h1:Box w b1 9 #[.string (Qb p)]) (Sf:p.head? =some 47) :
  SeqStopsK Fence.wide n prog 111 #[.pointer (some ⟨b1,0,none⟩)] (B9 p) (Vh b1 b1) (λys=>ys=List.range (QQ p).length) (λpre=>∃k,k<=(QQ p).length/\pre=List.range k) (QQ p).length w:=λl J Jx W hW hJ _ hY h0 =>
 BZ n hn l b1 p J Jx W hJ hY (h1.ext hW) Sf h0
end Go.Proofs.YtfaplefkakpgcaaGreatDoor
