/- The walks of fs.names and fs.split. -/
import Derived.Test.YtfaplefkakpgcaaGreatDoorXf34
import Derived.Test.YtfaplefkakpgcaaGreatDoorXf21
import Derived.Test.YtfaplefkakpgcaaGreatDoorXf3
import Derived.Test.YtfaplefkakpgcaaGreatDoorXf35
set_option linter.unusedVariables false
set_option linter.unusedSimpArgs false
set_option maxHeartbeats 32000000
set_option maxRecDepth 100000
namespace Go.Proofs.YtfaplefkakpgcaaGreatDoor
open Go.Proofs.Tryz
open Go.RowKit Go.Shelf
attribute [local go_sem] Oper.semAt_some
theorem hasPrefix_any (s:List UInt8) (w:World):Calls prog 109 #[.string (str s),.string ⟨#[47]⟩] w λe w'=>e=.returned (.bool (decide (s.head? =some 47)))/\w'=w:=by
 have h:=Any.strings_HasPrefix Tryz.lays99 (str s) ⟨#[47]⟩ w;rw[show Lib.hasPrefix (str s).data.toList (⟨#[47]⟩:ByteArray).data.toList=decide (s.head? =some 47) from by
  rw[show(str s).data.toList=s from rfl];cases s with
  | nil=>rfl
  | cons c s =>
   show(47==c&&true)=_;rw[Bool.and_true];by_cases h:c=47
   ·subst h;rfl
   ·exact(beq_eq_false_iff_ne.2 (Ne.symm h)).trans (decide_eq_false (λe=>h (Option.some.inj e))).symm]at h
 exact h
theorem trimPrefix_any (q:List UInt8) (w:World):Calls prog 112 #[.string (str (47::q)),.string ⟨#[47]⟩] w λe w'=>e=.returned (.string (str q))/\w'=w:=by
 have h:=Any.strings_TrimPrefix Tryz.lays101 (str (47::q)) ⟨#[47]⟩ w;rw[show(⟨(Lib.trimPrefix (str (47::q)).data.toList (⟨#[47]⟩:ByteArray).data.toList).toArray⟩:ByteArray)=str q from by
  rfl]at h
 exact h
theorem indexByte_any (q:List UInt8) (w:World):Calls prog 113 #[.string (str q),.int .u8 47] w λe w'=>e=.returned (.int .i64 (if restP q=[] then -1 else ((segP q).length:Int)))/\w'=w:=by
 have h:=Any.strings_IndexByte Tryz.lays137 (str q) 47 w;rw[show Lib.indexByte (str q).data.toList (47:Int).toNat.toUInt8=(if restP q=[] then -1 else ((segP q).length:Int)) from by
  exact index_seg q]at h
 exact h
theorem seg_none {q:List UInt8}(h:restP q=[]):segP q=q:=by have:=seg_rest q;rwa [h,List.append_nil]at this
theorem seg_take (q:List UInt8):q.take (segP q).length=segP q:=by
 have:=List.take_left (l₁:=segP q) (l₂:=restP q);rwa [seg_rest]at this
theorem rest_drop (q:List UInt8):q.drop (segP q).length=restP q:=by
 have:=List.drop_left (l₁:=segP q) (l₂:=restP q);rwa [seg_rest]at this
theorem names_any (p:ByteArray) (w:World) :
  Calls prog 57 #[.string p] w λe w'=>e=.returned (.func (.func 111) #[] #[.pointer (some ⟨w.heap.size,0,none⟩)])/\w'=w.alloc (.cells #[.string p] 9):=by
 have hmf:∀(fn:Fn) (first cap:Array Value) (w:World),(Instr.makeFunc fn first cap).run prog w=.ok (.func fn first cap) w:=λ_ _ _ _=>rfl;go_enter func57,ntmps57;go_wp2_with fail;go_ret;exact⟨rfl,rfl⟩
def lenOf:Value->Nat
 | .string s=>s.size
 | _=>0
def nenc (p:List UInt8) (k:Nat):Array Value:=#[.string (str ((pathP p).getD k []))]
theorem names1_in (n:Nat) (hn:1<=n) (l b1:Nat) (p:List UInt8) (J Jx:List Nat->World->Prop) (W:World) (hJ:AbidesFrom W.heap.size J)
  (hY:∀pre x W1,J pre W1->pre.length<(pathP p).length->YieldAt Fence.wide (n-1) prog l (nenc p x) W1 λe W' =>
   (e=.returned (.bool true)/\J (pre++[x]) W'/\KpB b1 b1 W1 W')\/(e=.returned (.bool false)/\Jx (pre++[x]) W'))
  (h1:Box W b1 9 #[.string (str p)]) (h47:p.head? =some 47) (h0:J [] W) :
  CallsIn Fence.wide n prog 111 #[.func (.yield l) #[] #[],.pointer (some ⟨b1,0,none⟩)] W λe W'=>(∃v,e=.returned v)/\
   ((∃ys,ys=List.range (pathP p).length/\J ys W')\/(∃pre,(∃k,k<=(pathP p).length/\pre=List.range k)/\Jx pre W')):=by
 have hs:(str p).toList=p:=str_toList p;have cb:W.cell? ⟨b1,0,none⟩=some (.string (str p)):=h1.cell 0;refine callsIn_of_wp func111 rfl trivial ?_ rfl;simp only[ntmps111,List.size_toArray,List.length_cons,List.length_nil,Nat.reduceAdd,Nat.reduceSub,Array.replicate_succ,Array.replicate_zero,List.push_toArray,List.append_toArray,List.nil_append,List.cons_append];by_cases hp:p=[47]
 ·subst hp;have hs2:((str [47]).toList==(⟨#[47]⟩:ByteArray).toList)=true:=by rw[hs,show(⟨#[47]⟩:ByteArray).toList=[47] from str_toList [47]];rfl
  gi_wp2_with fail;refine bodyPost_ret (results_none rfl _ _ _) rfl ?_;exact⟨⟨_,rfl⟩,.inl ⟨_,rfl,h0⟩⟩
 ·have hs2:(p==[47])=false:=by simpa using hp
  have hpn:pathP p=partsP p:=by unfold pathP;rw[if_neg hp]
  have hp0:p=[]\/∃q,p=47::q:=by
   cases p with
   | nil=>exact .inl rfl
   | cons c q=>exact .inr ⟨q,by simp at h47;rw[h47]⟩
  gi_wp2_with fail;gi_loopw [3,4,5] (λr _ _ wx=>∃(k:Nat) (rest:List UInt8),r=.string (str rest)/\(rest=[]\/∃q,rest=47::q)/\(pathP p).drop k=partsP rest/\k+(partsP rest).length=(pathP p).length/\J (List.range k) wx/\Box wx b1 9 #[.string (str p)]) (λr _ _ _=>lenOf r);case atStart=>exact⟨0,p,rfl,hp0,by rw[hpn];rfl,by rw[hpn];omega,h0,h1⟩
  case round =>
   obtain⟨k,rest,rfl,hrest,hdr,hkl,hJs,hB1⟩:=hrel;rcases hrest with rfl|⟨q,rfl⟩
   ·have hr2:(str []).toList=[]:=str_toList [];rw[partsP_nil]at hkl;gi_wp2_with fail;refine bodyPost_end (results_none rfl _ _ _) rfl ?_;obtain rfl:k=(pathP p).length:=by simpa using hkl
    exact⟨⟨_,rfl⟩,.inl ⟨_,rfl,hJs⟩⟩
   ·have hr2:((47::q)==([]:List UInt8))=false:=rfl;have hrs:=str_toList (47::q);rw[partsP_cons]at hdr hkl;simp only[List.length_cons]at hkl;have hk1:k<(pathP p).length:=by omega
    have hgk:(pathP p).getD k []=segP q:=by have e:=congrArg List.head? hdr;rw[List.head?_drop,List.head?_cons]at e;rw[List.getD_eq_getElem?_getD,e];rfl
    have hdr2:(pathP p).drop (k+1)=partsP (restP q):=by have e:=congrArg (List.drop 1) hdr;rw[List.drop_drop]at e;exact e
    have hX:(str q).extract 0 (segP q).length=str (segP q):=by rw[str_ext,Nat.sub_zero,List.drop_zero,seg_take]
    have hX2:(str q).extract (segP q).length q.length=str (restP q):=by rw[str_ext,List.take_of_length_le (by rw[List.length_drop];omega),rest_drop]
    have hsl:=seg_len q;have hsz:=str_size q;obtain⟨fn,tmps,assign,body,hy,hR⟩:=hY (List.range k) k _ hJs (by rw[List.length_range];exact hk1);have hy':(Instr.yield l #[.string (str (segP q))]).run prog wr=.ok (.round l fn tmps assign body) wr:=by
     have:nenc p k=#[.string (str (segP q))]:=by unfold nenc;rw[hgk]
     rw[this]at hy;exact hy
    clear hy;have hhd:=restP_head q;have HT:=lh_ (λw=>trimPrefix_any q w);have HIx:=lh_ (λw=>indexByte_any q w);by_cases hr:restP q=[]
    ·rw[if_pos hr]at HIx;have hse:(segP q).length=q.length:=by rw[seg_none hr]
     have hi1:¬((0:Int)<=-1):=by omega
     have hle:(segP q).length<=q.length:=by omega
     rw[hse]at hX hX2
     gi_wp2_with (first
      | (refine⟨trivial,?_⟩;gi_at_call 112;refine(callsIn_wide.2 (HT.out _)).mono ?_;rintro e w2 ⟨rfl,rfl⟩)
      | (refine⟨trivial,?_⟩;gi_at_call 113;refine(callsIn_wide.2 (HIx.out _)).mono ?_;rintro e w2 ⟨rfl,rfl⟩))
     refine hR.mono ?_;rintro e W3 (⟨rfl,hJ3,hk3⟩|⟨rfl,hJx3⟩)
     ·gi_wp2_with fail;go_roundw;case rel=>exact⟨k+1,[],rfl,.inl rfl,by rw[hdr2,hr],by rw[← hr];omega,by rw[List.range_succ];exact hJ3,(hk3 _ _).1 hB1⟩
      case measure=>show 0<(str (47::q)).size;rw[str_size,List.length_cons];omega
     ·gi_wp2_with fail;refine bodyPost_ret (results_none rfl _ _ _) rfl ?_;exact⟨⟨_,rfl⟩,.inr ⟨_,⟨k+1,by omega,List.range_succ.symm⟩,hJx3⟩⟩
    ·rw[if_neg hr]at HIx;have hle:(segP q).length<=q.length:=by omega
     gi_wp2_with (first
      | (refine⟨trivial,?_⟩;gi_at_call 112;refine(callsIn_wide.2 (HT.out _)).mono ?_;rintro e w2 ⟨rfl,rfl⟩)
      | (refine⟨trivial,?_⟩;gi_at_call 113;refine(callsIn_wide.2 (HIx.out _)).mono ?_;rintro e w2 ⟨rfl,rfl⟩))
     refine hR.mono ?_;rintro e W3 (⟨rfl,hJ3,hk3⟩|⟨rfl,hJx3⟩)
     ·gi_wp2_with fail;go_roundw;case rel=>exact⟨k+1,restP q,rfl,hhd,hdr2,by omega,by rw[List.range_succ];exact hJ3,(hk3 _ _).1 hB1⟩
      case measure=>show(str (restP q)).size<(str (47::q)).size;rw[str_size,str_size,List.length_cons];omega
     ·gi_wp2_with fail;refine bodyPost_ret (results_none rfl _ _ _) rfl ?_;exact⟨⟨_,rfl⟩,.inr ⟨_,⟨k+1,by omega,List.range_succ.symm⟩,hJx3⟩⟩
theorem names_stops (n:Nat) (hn:1<=n) (b1:Nat) (p:List UInt8) (w:World) (h1:Box w b1 9 #[.string (str p)]) (h47:p.head? =some 47) :
  SeqStopsK Fence.wide n prog 111 #[.pointer (some ⟨b1,0,none⟩)] (nenc p) (KpB b1 b1) (λys=>ys=List.range (pathP p).length) (λpre=>∃k,k<=(pathP p).length/\pre=List.range k) (pathP p).length w:=λl J Jx W hW hJ _ hY h0 =>
 names1_in n hn l b1 p J Jx W hJ hY (h1.ext hW) h47 h0
end Go.Proofs.YtfaplefkakpgcaaGreatDoor
