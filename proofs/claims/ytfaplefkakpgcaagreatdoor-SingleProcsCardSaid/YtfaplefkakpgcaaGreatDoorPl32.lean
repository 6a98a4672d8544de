import Derived.Test.YtfaplefkakpgcaaGreatDoorPl29
import Derived.Test.YtfaplefkakpgcaaGreatDoorPl30
import Derived.Test.YtfaplefkakpgcaaGreatDoorPl31
set_option linter.unusedVariables false
set_option linter.unusedSimpArgs false
set_option maxHeartbeats 32000000
set_option maxRecDepth 100000
namespace Go.Proofs.YtfaplefkakpgcaaGreatDoor
open Go.Proofs.Tryz
open Go.RowKit Go.Shelf
attribute [local go_sem] iN
theorem GM (s:List UInt8) (w:World):Calls prog 109 #[.string (Qb s),.string ⟨#[47]⟩] w λe w'=>e=.returned (.bool (decide (s.head? =some 47)))/\w'=w:=by
 have h:=Any.strings_HasPrefix Tryz.lays99 (Qb s) ⟨#[47]⟩ w;rw[show Lib.hasPrefix (Qb s).data.toList (⟨#[47]⟩:ByteArray).data.toList=decide (s.head? =some 47) from by
  rw[show(Qb s).data.toList=s from rfl];cases s with
  | nil=>rfl
  | cons c s =>
   show(47==c&&true)=_;rw[vp];by_cases h:c=47
   ·subst h;rfl
   ·exact(Wes.2 (AX h)).trans (XI (λe=>h (NU e))).symm]at h
 exact h
theorem Hx (q:List UInt8) (w:World):Calls prog 112 #[.string (Qb (47::q)),.string ⟨#[47]⟩] w λe w'=>e=.returned (.string (Qb q))/\w'=w:=by
 have h:=Any.strings_TrimPrefix Tryz.lays101 (Qb (47::q)) ⟨#[47]⟩ w;rw[show(⟨(Lib.trimPrefix (Qb (47::q)).data.toList (⟨#[47]⟩:ByteArray).data.toList).toArray⟩:ByteArray)=Qb q from by
  rfl]at h
 exact h
theorem GT (q:List UInt8) (w:World):Calls prog 113 #[.string (Qb q),.int .u8 47] w λe w'=>e=.returned (.int .i64 (if Ys q=[] then -1 else ((Vb q).length:Int)))/\w'=w:=by
 have h:=Any.strings_IndexByte Tryz.lays137 (Qb q) 47 w;rw[show Lib.indexByte (Qb q).data.toList (47:Int).toNat.toUInt8=(if Ys q=[] then -1 else ((Vb q).length:Int)) from by
  exact dM q]at h
 exact h
theorem lW {q:List UInt8}(h:Ys q=[]):Vb q=q:=by have:=Re q;rwa [h,iP]at this
theorem lX (q:List UInt8):q.take (Vb q).length=Vb q:=by
 have:=List.take_left (l₁:=Vb q) (l₂:=Ys q);rwa [Re]at this
theorem eb (q:List UInt8):q.drop (Vb q).length=Ys q:=by
 have:=List.drop_left (l₁:=Vb q) (l₂:=Ys q);rwa [Re]at this
theorem FV (p:ByteArray) (w:World) :
  Calls prog 57 #[.string p] w λe w'=>e=.returned (.func (.func 111) #[] #[.pointer (some ⟨w.heap.size,0,none⟩)])/\w'=w.alloc (.cells #[.string p] 9):=by
 have ou:∀(fn:Fn) (first cap:Array Value) (w:World),(Instr.makeFunc fn first cap).run prog w=.ok (.func fn first cap) w:=λ_ _ _ _=>rfl;go_enter func57,ntmps57;go_wp2_with fail;go_ret;exact⟨rfl,rfl⟩
def Qcm:Value->Nat
 | .string s=>s.size
 | _=>0
def dh (p:List UInt8) (k:Nat):Array Value:=#[.string (Qb ((Q9 p).getD k []))]
theorem dg (n:Nat) (hn:1<=n) (l b1:Nat) (p:List UInt8) (J Jx:List Nat->World->Prop) (W:World) (hJ:AbidesFrom W.heap.size J)
  (hY:∀pre x W1,J pre W1->pre.length<(Q9 p).length->YieldAt Fence.wide (n-1) prog l (dh p x) W1 λe W' =>
   (e=.returned (.bool true)/\J (pre++[x]) W'/\Nr b1 b1 W1 W')\/(e=.returned (.bool false)/\Jx (pre++[x]) W'))
  (h1:Box W b1 9 #[.string (Qb p)]) (CH:p.head? =some 47) (h0:J [] W) :
  CallsIn Fence.wide n prog 111 #[.func (.yield l) #[] #[],.pointer (some ⟨b1,0,none⟩)] W λe W'=>(∃v,e=.returned v)/\
   ((∃ys,ys=List.range (Q9 p).length/\J ys W')\/(∃pre,(∃k,k<=(Q9 p).length/\pre=List.range k)/\Jx pre W')):=by
 have hs:(Qb p).toList=p:=Qe p;have cb:W.cell? ⟨b1,0,none⟩=some (.string (Qb p)):=h1.cell 0;refine callsIn_of_wp func111 rfl trivial ?_ rfl;simp only[ntmps111,NS,XN,Mn,Nat.reduceAdd,Nat.reduceSub,nY,nX,nV,nZ,bQ,fu];by_cases hp:p=[47]
 ·subst hp;have dJ:((Qb [47]).toList==(⟨#[47]⟩:ByteArray).toList)=true:=by rw[hs,show(⟨#[47]⟩:ByteArray).toList=[47] from Qe [47]];rfl
  gi_wp2_with fail;refine Jv (Cc rfl _ _ _) rfl ?_;exact⟨⟨_,rfl⟩,.inl ⟨_,rfl,h0⟩⟩
 ·have dJ:(p==[47])=false:=by simpa using hp
  have K8:Q9 p=ZJ p:=by unfold Q9;rw[QD hp]
  have wR:p=[]\/∃q,p=47::q:=by
   cases p with
   | nil=>exact .inl rfl
   | cons c q=>exact .inr ⟨q,by simp at CH;rw[CH]⟩
  gi_wp2_with fail;gi_loopw [3,4,5] (λr _ _ wx=>∃(k:Nat) (rest:List UInt8),r=.string (Qb rest)/\(rest=[]\/∃q,rest=47::q)/\(Q9 p).drop k=ZJ rest/\k+(ZJ rest).length=(Q9 p).length/\J (List.range k) wx/\Box wx b1 9 #[.string (Qb p)]) (λr _ _ _=>Qcm r);case atStart=>exact⟨0,p,rfl,wR,by rw[K8];rfl,by rw[K8];omega,h0,h1⟩
  case round =>
   obtain⟨k,rest,rfl,hrest,wN,hkl,hJs,hB1⟩:=hrel;rcases hrest with rfl|⟨q,rfl⟩
   ·have hr2:(Qb []).toList=[]:=Qe [];rw[UN]at hkl;gi_wp2_with fail;refine bodyPost_end (Cc rfl _ _ _) rfl ?_;obtain rfl:k=(Q9 p).length:=by simpa using hkl
    exact⟨⟨_,rfl⟩,.inl ⟨_,rfl,hJs⟩⟩
   ·have hr2:((47::q)==([]:List UInt8))=false:=rfl;have hrs:=Qe (47::q);rw[Kx]at wN hkl;simp only[XN]at hkl;have Vz:k<(Q9 p).length:=by omega
    have hgk:(Q9 p).getD k []=Vb q:=by have e:=congrArg List.head? wN;rw[List.head?_drop,List.head?_cons]at e;rw[Yb,e];rfl
    have Qaz:(Q9 p).drop (k+1)=ZJ (Ys q):=by have e:=congrArg (List.drop 1) wN;rw[nf]at e;exact e
    have hX:(Qb q).extract 0 (Vb q).length=Qb (Vb q):=by rw[J6,Nat.sub_zero,KJ,lX]
    have hX2:(Qb q).extract (Vb q).length q.length=Qb (Ys q):=by rw[J6,qr (by rw[Nx];omega),eb]
    have jl:=MH q;have VD:=Qh q;obtain⟨fn,tmps,assign,body,hy,hR⟩:=hY (List.range k) k _ hJs (by rw[mT];exact Vz);have SG:(Instr.yield l #[.string (Qb (Vb q))]).run prog wr=.ok (.round l fn tmps assign body) wr:=by
     have:dh p k=#[.string (Qb (Vb q))]:=by unfold dh;rw[hgk]
     rw[this]at hy;exact hy
    clear hy;have K7:=Hb q;have HT:=Qa (λw=>Hx q w);have HIx:=Qa (λw=>GT q w);by_cases hr:Ys q=[]
    ·rw[QN hr]at HIx;have hse:(Vb q).length=q.length:=by rw[lW hr]
     have hi1:¬((0:Int)<=-1):=by omega
     have Nt:(Vb q).length<=q.length:=by omega
     rw[hse]at hX hX2
     gi_wp2_with (first
      | (refine⟨trivial,?_⟩;gi_at_call 112;refine(DV.2 (HT.o _)).mono ?_;rintro e w2 ⟨rfl,rfl⟩)
      | (refine⟨trivial,?_⟩;gi_at_call 113;refine(DV.2 (HIx.o _)).mono ?_;rintro e w2 ⟨rfl,rfl⟩))
     refine hR.mono ?_;rintro e W3 (⟨rfl,hJ3,hk3⟩|⟨rfl,hJx3⟩)
     ·gi_wp2_with fail;go_roundw;case rel=>exact⟨k+1,[],rfl,.inl rfl,by rw[Qaz,hr],by rw[←hr];omega,by rw[mR];exact hJ3,(hk3 _ _).1 hB1⟩
      case measure=>show 0<(Qb (47::q)).size;rw[Qh,XN];omega
     ·gi_wp2_with fail;refine Jv (Cc rfl _ _ _) rfl ?_;exact⟨⟨_,rfl⟩,.inr ⟨_,⟨k+1,by omega,mR.symm⟩,hJx3⟩⟩
    ·rw[QD hr]at HIx;have Nt:(Vb q).length<=q.length:=by omega
     gi_wp2_with (first
      | (refine⟨trivial,?_⟩;gi_at_call 112;refine(DV.2 (HT.o _)).mono ?_;rintro e w2 ⟨rfl,rfl⟩)
      | (refine⟨trivial,?_⟩;gi_at_call 113;refine(DV.2 (HIx.o _)).mono ?_;rintro e w2 ⟨rfl,rfl⟩))
     refine hR.mono ?_;rintro e W3 (⟨rfl,hJ3,hk3⟩|⟨rfl,hJx3⟩)
     ·gi_wp2_with fail;go_roundw;case rel=>exact⟨k+1,Ys q,rfl,K7,Qaz,by omega,by rw[mR];exact hJ3,(hk3 _ _).1 hB1⟩
      case measure=>show(Qb (Ys q)).size<(Qb (47::q)).size;rw[Qh,Qh,XN];omega
     ·gi_wp2_with fail;refine Jv (Cc rfl _ _ _) rfl ?_;exact⟨⟨_,rfl⟩,.inr ⟨_,⟨k+1,by omega,mR.symm⟩,hJx3⟩⟩
theorem Py (n:Nat) (hn:1<=n) (b1:Nat) (p:List UInt8) (w:World) (h1:Box w b1 9 #[.string (Qb p)]) (CH:p.head? =some 47) :
  SeqStopsK Fence.wide n prog 111 #[.pointer (some ⟨b1,0,none⟩)] (dh p) (Nr b1 b1) (λys=>ys=List.range (Q9 p).length) (λpre=>∃k,k<=(Q9 p).length/\pre=List.range k) (Q9 p).length w:=λl J Jx W hW hJ _ hY h0 =>
 dg n hn l b1 p J Jx W hJ hY (h1.ext hW) CH h0
end Go.Proofs.YtfaplefkakpgcaaGreatDoor
namespace Go.Proofs.YtfaplefkakpgcaaGreatDoor
open Go.Proofs.Tryz
open Go.RowKit Go.Lib Go.Sort Go.Shelf
theorem cK (n m:Nat) (h:m<=n):(List.range n).countP (λi=>decide (i<m))=m:=by
 induction n generalizing m with
 | zero=>simp;omega
 | succ n ih =>
  rw[mR,List.countP_append];by_cases e:m=n+1
  ·subst e;rw[List.countP_eq_length.2 (λa ha=>by rw[Mo]at ha;simp;omega)];simp
  ·rw[ih m (by omega)];simp;omega
theorem It {l:List Ve}(hl:l.Pairwise λa b=>RU a.1 b.1=true) (name:List UInt8):(List.range l.length).countP (λi=>!(!RU (l.getD i ([],0)).1 name))=Xw l name:=by
 rw[←cK l.length (Xw l name) (aU l name)];refine List.countP_congr λi hi=>?_;rw[Mo]at hi;rw[Yb,ZX hi];simp only[OM,Bool.not_not,MS];by_cases h:i<Xw l name
 ·exact⟨λ_=>h,λ_=>ME h hi⟩
 ·refine⟨λh2=>?_,λh2=>absurd h2 h⟩;rw[Ds hl (by omega) hi]at h2;cases h2
theorem ET (ba bx b o c n:Nat) (y name:List UInt8) (i:Nat) (W:World) (hi:i<n)
  (ha:W.cell? ⟨ba,0,none⟩=some (.slice (some ⟨b,o,none⟩) n c)) (hx:W.cell? ⟨bx,0,none⟩=some (.string (Qb name))) (hc:W.cell? ⟨b,o+i*2,none⟩=some (.string (Qb y))) :
  Calls prog 180 (#[.int .i64 i]++#[.pointer (some ⟨ba,0,none⟩),.pointer (some ⟨bx,0,none⟩)]) W λe w'=>e=.returned (.bool (!RU y name))/\∃q,w'=W.drewN q:=by
 have hiz:(i:Int)<(n:Int):=by omega
 have hl:Op.bytesLess (Qb y).toList (Qb name).toList=RU y name:=by rw[Qe,Qe]
 generalize RU y name=r at *;go_enter func180,ntmps180;go_wp2;go_region;all_goals go_wp2
 all_goals go_ret
 all_goals exact⟨by first|rfl|simp,1,rfl⟩
theorem jQ (w:World) (q:Nat) (os:Array Obj):Ext w (grow (w.drewN q) os):=below_grown_sl w.heap.size w q os (Q4 _)
theorem Ct (A:Option Addr) (n c:Nat) (l:List Ve) (name:List UInt8) (w:World) (hs:aq w A n l) (hn:n<=1000) (hl:l.Pairwise λa b=>RU a.1 b.1=true) (hA:∀b o,A=some ⟨b,o,none⟩->0<n->b<w.heap.size) :
  Calls prog 114 #[.slice A n c,.string (Qb name)] w λe w'=>e=.returned (.tuple #[.int .i64 (Xw l name:Int),.bool (Wn l name)])/\Ext w w':=by
 obtain⟨W0,hW0⟩:∃W0,W0=(w.alloc (.cells #[.slice A n c] 150)).alloc (.cells #[.string (Qb name)] 9):=⟨_,rfl⟩
 have x0:Ext w W0:=by rw[hW0];exact((Qg w).alloc _).alloc _
 have aI:W0.heap.size=w.heap.size+1+1:=by rw[hW0];simp
 have ca:W0.cell? ⟨w.heap.size,0,none⟩=some (.slice A n c):=by rw[hW0];exact cell_alloc_sl _ (cell_new_sl w _ _)
 have cx:W0.cell? ⟨w.heap.size+1,0,none⟩=some (.string (Qb name)):=by rw[hW0];have:=cell_new_sl (w.alloc (.cells #[.slice A n c] 150)) (.string (Qb name)) 9;rwa [YB]at this
 have eg:∀args w,(callFunc 180 args).run prog w=.ok (.enter 180 args) w:=enters_of func180 (by kernel_rfl) rfl;have h0:=hs.ext x0;obtain rfl:=hs.1
 have hS:=Any.sort_Search Tryz.search 180 #[.pointer (some ⟨w.heap.size,0,none⟩),.pointer (some ⟨w.heap.size+1,0,none⟩)] l.length (λi=>!RU (l.getD i ([],0)).1 name) W0 eg (by omega)
  (λm os i hi=>by
   obtain⟨b,o,rfl,Qf⟩:=h0.2 (by omega);have hb:=hA b o rfl (by omega);have hcc:=(Qf i hi).1;have J7:l.getD i ([],0)=l[i]:=by rw[Yb,ZX hi];rfl
   simp only[J7]
   exact(ET w.heap.size (w.heap.size+1) b o c l.length l[i].1 name i _ hi (cell_grown (by simp[aI];omega) ca m os) (cell_grown (by simp[aI]) cx m os) (cell_grown (by simp[aI];omega) hcc m os)).mono
    λ_ _ ⟨he,q,hq⟩=>⟨he,q,#[],by rw[hq,grow_empty]⟩)
  (λa b hab hb h=>by
   have ha:a<l.length:=by omega
   simp only[Yb,ZX ha,ZX hb,OM]at h ⊢;rw[zZ]at h ⊢;by_cases e:Xw l name<=a
   ·exact Ds hl (by omega) hb
   ·rw[ME (by omega) ha]at h;cases h)
 rw[It hl]at hS;change Calls prog 179 _ _ _ at hS;have hple:=aU l name;have HS:=Qa hS;have HH:Zm (Wn l name=(decide (Xw l name<l.length)&&decide ((l.getD (Xw l name) ([],0)).1=name))):=rfl;have h1:=h0.2;clear hS hs hA eg hl;generalize Xw l name=p at *;go_enter func114,ntmps114;go_upto_region 2 with(go_at_call 179;rw[←hW0];refine HS.o.mono ?_;rintro e w1 ⟨rfl,q,os,VA⟩;have xg:Ext W0 w1:=(by rw[VA];exact jQ W0 q os);clear VA)
 have ka:∀y:Qt w1,y.now.cell? ⟨w.heap.size,0,none⟩=some (.slice A l.length c):=λy=>(xg.trans y.ext).keep ca;have kx:∀y:Qt w1,y.now.cell? ⟨w.heap.size+1,0,none⟩=some (.string (Qb name)):=λy=>(xg.trans y.ext).keep cx;have X1:=Qa (x0.trans xg);clear ca cx HS h0 hW0 aI;by_cases hp:p<l.length
 ·obtain⟨b,o,rfl,Qf⟩:=h1 (by omega);have J7:l.getD p ([],0)=l[p]:=by rw[Yb,ZX hp];rfl
  have k2:∀y:Qt w1,y.now.cell? ⟨b,o+p*2,none⟩=some (.string (Qb l[p].1)):=λy=>(xg.trans y.ext).keep (Qf p hp).1;have HV:=Qa (show Wn l name=decide (l[p].1=name) by rw[HH.o,J7,Xd hp];rfl);have U1:(p:Int)<(l.length:Int):=by omega
  have ji:decide ((p:Int)<(l.length:Int))=true:=Xd U1;have hbq:((Qb l[p].1).toList==(Qb name).toList)=decide (l[p].1=name):=by rw[Qe,Qe,mW];simp
  clear Qf h1 xg J7 HH;generalize l[p].1=y at *;refine Qk (by kernel_rfl) (by kernel_rfl) ?_;repeat (go_big_quiet_step (fail))
  refine VI ?_;rintro w5 ⟨y,rfl⟩;go_wp2_with fail;go_ret2;exact⟨by rw[HV.o];rfl,X1.o.trans y.ext⟩
 ·have HV:=Qa (show Wn l name=false by rw[HH.o,XI hp];rfl);have ji:decide ((p:Int)<(l.length:Int))=false:=XI (by omega);clear h1 xg HH;refine Qk (by kernel_rfl) (by kernel_rfl) ?_;repeat (go_big_quiet_step (fail))
  refine VI ?_;rintro w5 ⟨y,rfl⟩;go_wp2_with fail;go_ret2;exact⟨by rw[HV.o];rfl,X1.o.trans y.ext⟩
end Go.Proofs.YtfaplefkakpgcaaGreatDoor
namespace Go.Proofs.YtfaplefkakpgcaaGreatDoor
open Go.Proofs.Tryz
open Go.RowKit
def Xl (v:List (List UInt8)) (I k:Int) (name:List UInt8):Int × Int :=
 if Zt name=false then (0,7) else if (QV v I k).2≠0 then (0,(QV v I k).2)
 else if Wn (QV v I k).1 name=true then (((QV v I k).1.getD (Xw (QV v I k).1 name) ([],0)).2,0) else (0,9)
theorem Zu.old {w:World}{B:Nat}{u:Value}{l:List Ve}(h:Zu w B u l):∀b o n c,u=.slice (some ⟨b,o,none⟩) n c->b<w.heap.size:=by
 rintro b o n c rfl;rcases h.2 with⟨e,_⟩|⟨g,cap,cur,e,_,hh,_⟩
 ·cases e
 ·injection e with e1 _ _;injection e1 with e1;injection e1 with e1 _ _;subst e1;exact(Fa.1 hh).1
theorem cM (A:Option Addr) (n c:Nat) (v:List (List UInt8)) (I k:Int) (name:List UInt8) (w:World) (hv:Strs w A n v) (hg:Ji v I) (Lo:name.length<=1000000000) :
  Calls prog 58 #[.slice A n c,.int .i64 k,.string (Qb name)] w λe w'=>e=.returned (.tuple #[.int .i64 (Xl v I k name).1,.int .i64 (Xl v I k name).2])/\Ext w w':=by
 have HM:=Qa (λw=>TA name w Lo);have HL:=Qa (λw h=>Fq A n c v I k w h hg);have RJ:=VW v I k;have Nt:=V6 v I k;cases hm:Zt name with
 | false =>
  have HP:=Qa (show Xl v I k name=(0,7) from by unfold Xl;rw[QN hm]);rw[hm]at HM;go_enter func58,ntmps58;go_wp2_with (go_at_call 110;refine(HM.o _).mono ?_;rintro e w1 ⟨rfl,x1⟩)
  go_ret2;rw[HP.o];exact⟨rfl,x1⟩
 | true =>
 by_cases he:(QV v I k).2=0;case neg =>
  have HP:=Qa (show Xl v I k name=(0,(QV v I k).2) from by unfold Xl;rw[QD (by rw[hm];simp),QN he]);have de:((QV v I k).2 != 0)=true:=by simpa using he
  rw[hm]at HM;clear he hm Nt;generalize QV v I k=R at *;go_enter func58,ntmps58
  go_wp2_with (first
   | (go_at_call 110;refine(HM.o _).mono ?_;rintro e w1 ⟨rfl,x1⟩)
   | (go_at_call 107;refine(HL.o _ (hv.ext x1)).mono ?_;rintro e w2 ⟨u,rfl,x2,JP⟩))
  go_ret2;rw[HP.o];exact⟨rfl,x1.trans x2⟩
 have Ap:=Qa (show Xl v I k name=if Wn (QV v I k).1 name=true then (((QV v I k).1.getD (Xw (QV v I k).1 name) ([],0)).2,0) else (0,9) from by unfold Xl;rw[QD (by rw[hm];simp),QD (by rw[he];simp)]);rw[he]at HL;generalize Xl v I k name=D at *;clear he;generalize (QV v I k).1=l at *;have HSr:=Qa (λA c w h hA=>Ct A l.length c l name w h (by omega) Nt.2 hA);rw[hm]at HM;have HH:Zm (Wn l name=true->Xw l name<l.length):=λh=>by unfold Wn at h;simp only[Vg,MS]at h;exact h.1
 clear hm Nt;cases hh:Wn l name with
 | false =>
  rw[hh]at Ap HSr;clear hh HH;generalize Xw l name=p at *;go_enter func58,ntmps58
  go_wp2_with (first
   | (go_at_call 110;refine(HM.o _).mono ?_;rintro e w1 ⟨rfl,x1⟩)
   | (go_at_call 107;refine(HL.o _ (hv.ext x1)).mono ?_;rintro e w2 ⟨u,rfl,x2,JP⟩;obtain⟨A2,cap2,rfl,st2⟩:=JP.form;have me:=λb o (h:A2=some ⟨b,o,none⟩) (_:0<l.length)=>JP.old b o l.length cap2 (by rw[h]))
   | (go_at_call 114;refine(HSr.o A2 cap2 _ st2 me).mono ?_;rintro e w3 ⟨rfl,x3⟩))
  go_ret2;rw[Ap.o];exact⟨rfl,x1.trans (x2.trans x3)⟩
 | true =>
  have hp:=HH.o hh;rw[hh]at Ap HSr;clear hh HH;generalize Xw l name=p at *;have J7:l.getD p ([],0)=l[p]:=by rw[Yb,ZX hp];rfl
  have U1:(p:Int)<(l.length:Int):=by omega
  have G9:=Qa (show D=(l[p].2,0) from by rw[Ap.o,QN rfl,J7]);clear Ap;have HLp:=Qa J7;have Hp:=Qa hp;clear J7;go_enter func58,ntmps58
  go_wp2_with (first
   | (go_at_call 110;refine(HM.o _).mono ?_;rintro e w1 ⟨rfl,x1⟩)
   | (go_at_call 107;refine(HL.o _ (hv.ext x1)).mono ?_;rintro e w2 ⟨u,rfl,x2,JP⟩;obtain⟨A2,cap2,rfl,st2⟩:=JP.form;have me:=λb o (h:A2=some ⟨b,o,none⟩) (_:0<l.length)=>JP.old b o l.length cap2 (by rw[h]);have st0:=st2;obtain⟨b2,o2,rfl,Lk⟩:=st0.2 (by omega))
   | (go_at_call 114;refine(HSr.o _ cap2 _ st2 me).mono ?_;rintro e w3 ⟨rfl,x3⟩;have Mw:=x3.keep (Lk p Hp.o).2))
  go_ret2;rw[G9.o];exact⟨rfl,x1.trans (x2.trans x3)⟩
def Nu (p:List UInt8):Bool:=decide (p.head? =some 47)&&decide (p.length<=200)&&((Q9 p).all Zt&&decide ((Q9 p).length<=8))
theorem db {p:List UInt8}(h:Nu p=true):∃q,p=47::q:=by
 unfold Nu at h;simp only[Vg,MS]at h;cases p with
 | nil=>simp at h
 | cons c q=>exact⟨q,by have:=h.1.1;simp at this;rw[this]⟩
end Go.Proofs.YtfaplefkakpgcaaGreatDoor
namespace Go.Proofs.YtfaplefkakpgcaaGreatDoor
open Go.Proofs.Tryz
open Go.RowKit Go.Shelf
attribute [local go_sem] iN
theorem lh {l:List (List UInt8)}(k:Nat):(∀j,j<k->Zt (l.getD j [])=true)->l.length<=k->l.all Zt=true:=λh hk=>by
 rw[Rj];intro x hx;obtain⟨j,hj,rfl⟩:=Fd hx;have:=h j (by omega)
 rwa [Yb,ZX hj]at this
theorem F8 (p:List UInt8) (x:Nat):((Q9 p).getD x []).length<=p.length:=by
 rw[Yb];cases h:(Q9 p)[x]? with
 | none=>simp
 | some y=>exact(Nc p).2 y (Wfm h)
theorem pP (p:List UInt8) (w:World) (hp:p.length<=100000000) :
  Calls prog 56 #[.string (Qb p)] w λe w'=>e=.returned (.bool (Nu p))/\Ext w w':=by
 have hz:=Qh p;have HH:=Qa (λw=>GM p w);have HN:=Qa (λw=>FV (Qb p) w);have HMD:=Qa (λx w=>TA ((Q9 p).getD x []) w (by have:=F8 p x;omega));have XS:=(Nc p).1;have x0:Ext w (w.alloc (.cells #[.bool false] 4)):=(Qg w).alloc _;have b2:=Qs w 4 #[.bool false];have z0:(w.alloc (.cells #[.bool false] 4)).heap.size=w.heap.size+1:=YB _ _;by_cases CH:p.head? =some 47;case neg =>
  have d1:decide (p.head? =some 47)=false:=XI CH;rw[show Nu p=false by unfold Nu;rw[d1];rfl];go_enter func56,ntmps56;go_wp2_with (go_at_call 109;refine(HH.o _).mono ?_;rintro e w1 ⟨rfl,rfl⟩)
  refine Jv (v:=.bool false) ?_ rfl ⟨rfl,x0⟩;have hc:=b2.cell 0;simp[results,Tryz.results56,go_sem,hc]
 case pos =>
  have d1:decide (p.head? =some 47)=true:=Xd CH;by_cases YW:200<p.length
  ·have hli:(200:Int)<(p.length:Int):=by omega
   rw[show Nu p=false by unfold Nu;rw[XI (show¬p.length<=200 by omega)];simp];go_enter func56,ntmps56;go_wp2_with (go_at_call 109;refine(HH.o _).mono ?_;rintro e w1 ⟨rfl,rfl⟩)
   refine Jv (v:=.bool false) ?_ rfl ⟨rfl,x0⟩;have hc:=b2.cell 0;simp[results,Tryz.results56,go_sem,hc]
  ·have hli:¬(200:Int)<(p.length:Int):=by omega
   have b3:=Qs (w.alloc (.cells #[.bool false] 4)) 3 #[.int .i64 0];have b4:=Qs ((w.alloc (.cells #[.bool false] 4)).alloc (.cells #[.int .i64 0] 3)) 9 #[.string (Qb p)];have b2':=(b2.ext ((Qg _).alloc (.cells #[.int .i64 0] 3))).ext ((Qg _).alloc (.cells #[.string (Qb p)] 9));have np:=b3.ext ((Qg _).alloc (.cells #[.string (Qb p)] 9));have X:=((x0.alloc (.cells #[.int .i64 0] 3)).alloc (.cells #[.string (Qb p)] 9))
   clear b2 b3;simp only[YB]at np b4;refine(DV (n:=6)).1 ?_;refine callsIn_of_wp_marks func56 rfl trivial ?_ rfl;simp only[ntmps56,NS,XN,Mn,Nat.reduceAdd,Nat.reduceSub,nY,nX,nV,nZ,bQ,fu];refine wpIn_wide.2 ?_;go_upto_region 4 with(go_at_call 109;refine(HH.o _).mono ?_;rintro e w1 ⟨rfl,rfl⟩)
   go_wp2_with (go_at_call 57;refine(HN.o _).mono ?_;rintro e w1 ⟨rfl,rfl⟩)
   refine(wpIn_wide (n:=6)).1 ?_;gi_wp2_with fail;generalize ((w.alloc (.cells #[.bool false] 4)).alloc (.cells #[.int .i64 0] 3)).alloc (.cells #[.string (Qb p)] 9)=w5 at *;have hNS:=Py 5 (by decide) (w.heap.size+1+1) p w5 b4 CH;have hMP:=Qa (show Nu p=((Q9 p).all Zt&&decide ((Q9 p).length<=8)) by unfold Nu;rw[d1,Xd (show p.length<=200 by omega)];simp);have Qjy:=Qa (λh=>lh (l:=Q9 p) (Q9 p).length h (Q4 _));have hNo:Zm (∀y,y<(Q9 p).length->Zt ((Q9 p).getD y [])=false->(Q9 p).all Zt=false):=λy hy h=>by rw[Yb,ZX hy]at h;exact List.all_eq_false.2 ⟨_,NT hy,by simp only[OM]at h;rw[h];simp⟩
   clear x0 z0 HN HH;have Qn8:(Q9 p).length<=200:=by omega
   have Qbk:w.heap.size+1+1<w5.heap.size:=b4.lt;unfold dh at hNS;generalize (Q9 p).all Zt=al at *;generalize hf:(λy=>(Q9 p).getD y [])=f at *;have hf':∀y,(Q9 p).getD y []=f y:=λy=>by rw[←hf]
   simp only[hf']at *;generalize (Q9 p).length=N at *;clear hf hf';generalize hG:w.heap.size=G at *
   refine wpIn_rangeFunc_ownH rfl (by decide) (gf:=111) (lb:=#[.pointer (some ⟨G+1+1,0,none⟩)]) rfl trivial (enters_of func111 (by kernel_rfl) rfl)
    hNS Nr.trans Nr.book (qw _ _) (λ_=>rfl)
    (λpre W=>Ext w W/\Box W G 4 #[.bool false]/\Box W (G+1) 3 #[.int .i64 (pre.length:Int)]/\(∀y∈pre,Zt (f y)=true)/\pre.length<=N)
    (λc pre W=>c=.ret/\Ext w W/\Box W G 4 #[.bool false]/\∃y∈pre,Zt (f y)=false)
    (OwnFrom.and (TC (by rw[hG];omega)) (OwnFrom.and (Own.from (Yh _ _ _) _) (OwnFrom.and (Own.from (Yh _ _ _) _) (ownFrom_pure _ _))))
    (λc=>OwnFrom.and (ownFrom_pure _ _) (OwnFrom.and (TC (by rw[hG];omega)) (OwnFrom.and (Own.from (Yh _ _ _) _) (ownFrom_pure _ _)))) ⟨X,b2',np,by simp,WP _⟩
    (λx a' W=>a'={ tmps:=#[.string (Qb p),undef,.pointer (some ⟨G,0,none⟩),.pointer (some ⟨G+1,0,none⟩),.string (Qb (f x)),.string (Qb p),.bool true,.bool false,.bool false,.string (Qb p),.int .i64 (p.length:Int),.bool (decide ((200:Int)<(p.length:Int))),.bool (decide ((200:Int)<(p.length:Int))),.string (Qb p),.func (.func 111) #[] #[.pointer (some ⟨G+1+1,0,none⟩)],.string (Qb (f x)),undef,undef,undef,undef,undef,undef,undef],defers:=[] })
    (λx a' _ X Y row hs hg hr=>hs) ?assign ?body ?done ?stop
   case assign => rintro l pre x W K hi hK;gi_wp2;exact hK _ _ (ZK (Qg W)) (Nr.ext (Qg W)) hi rfl
   case body =>
    rintro l pre x a' W gC ⟨r,hr⟩ ⟨i1,i2,i3,i4,i5⟩ rfl hltN;have HD:=Qa (HMD.o x W);have Qon:pre.length<=200:=by omega
    cases hm:Zt (f x) with
    | true =>
     rw[hm]at HD
     gi_wp2_with (first
      | (refine⟨trivial,?_⟩;gi_at_call 110;refine(CallsIn.inRound l (DV.2 HD.o)).mono ?_;rintro e W2 ⟨rfl,x2⟩;have j3:=i3.ext x2;have c3:W2.cell? ⟨G+1,0,none⟩=some (.int .i64 (pre.length:Int)):=j3.cell 0;have c3f:=j3.frozen 0))
     refine⟨(ZK x2).trans ((KeepsOthers.setCell _ _ _).from _),(Nr.ext x2).set ⟨G+1,0,none⟩ (by show G+1+1≠G+1;omega) (by show G+1+1≠G+1;omega) _,(i1.trans x2).setCell (p:=⟨G+1,0,none⟩) (by show w.heap.size<=G+1;omega) _,(i2.ext x2).far (p:=⟨G+1,0,none⟩) (by show G≠G+1;omega) _,?_,?_,by simp;omega⟩
     ·rw[show((pre++[x]).length:Int)=(pre.length:Int)+1 by simp];exact j3.set 0 _
     ·intro y hy;rcases iO.1 hy with h|h
      ·exact i4 y h
      ·rw[bK.1 h];exact hm
    | false =>
     rw[hm]at HD
     gi_wp2_with (first
      | (refine⟨trivial,?_⟩;gi_at_call 110;refine(CallsIn.inRound l (DV.2 HD.o)).mono ?_;rintro e W2 ⟨rfl,x2⟩;have j2:=i2.ext x2;have c2:W2.cell? ⟨G,0,none⟩=some (.bool false):=j2.cell 0;have c2f:=j2.frozen 0))
     exact⟨(ZK x2).trans ((KeepsOthers.setCell _ _ _).from _),rfl,(i1.trans x2).setCell (p:=⟨G,0,none⟩) (by show w.heap.size<=G;omega) _,j2.set 0 _,x,by simp,hm⟩
   case done =>
    rintro D ys W hD rfl ⟨i1,i2,i3,i4,i5⟩ hK;rw[mT]at i3;have c3:W.cell? ⟨G+1,0,none⟩=some (.int .i64 (N:Int)):=i3.cell 0;have c2:W.cell? ⟨G,0,none⟩=some (.bool false):=i2.cell 0;have c2f:=i2.frozen 0;gi_wp2_with fail;have Qkt:=Qa (show decide ((N:Int)<=8)=decide (N<=8) from decide_eq_decide.2 (by omega));have KM:=(KeepsOthers.setCell W ⟨G,0,none⟩ (.bool (decide ((N:Int)<=8)))).same D _ hK rfl;have k2:=(i2.set 0 (.bool (decide ((N:Int)<=8)))).grown (grownBy_putObj' _ D (.deferred none)) (λe=>by injection e with e;omega);have rM:=k2.cell 0;go_wp2_with fail;refine⟨by simp,.inl ⟨_,_,rfl,run_takeDeferred KM,?_⟩⟩;refine⟨.bool (decide ((N:Int)<=8)),?_,?_,(i1.setCell (p:=⟨G,0,none⟩) (by show w.heap.size<=G;omega) _).putObj (.deferred none) KM (by omega)⟩
    ·simp at rM;simp[results,Tryz.results56,go_sem,rM]
    ·rw[hMP.o,Qjy.o (λj hj=>i4 j (Mo.2 hj)),Qkt.o];rfl
   case stop =>
    rintro D c pre W hD ⟨k,hk,rfl⟩ ⟨rfl,h1,h2,y,hy,hm⟩ hK;gi_wp2;have k2:=h2.grown (grownBy_putObj' _ D (.deferred none)) (λe=>by injection e with e;omega);have rM:=k2.cell 0;refine⟨by simp,.inl ⟨_,_,rfl,run_takeDeferred hK,?_⟩⟩;refine⟨.bool false,?_,?_,h1.putObj (.deferred none) hK (by omega)⟩
    ·simp at rM;simp[results,Tryz.results56,go_sem,rM]
    ·rw[hMP.o,hNo.o y (by have:=Mo.1 hy;omega) hm];rfl
attribute [local go_sem] iN
theorem ij {β γ:Type} (b:Nat) (t:TypeId) (g:γ->Array Value) (P:β->γ->Prop):Own (λ(s:β) W=>∃m,Box W b t (g m)/\P s m):=λs X Y row hs hg hr=>by
 obtain⟨m,hb,hm⟩:=hs;refine⟨m,Box.grown hb hg (λe=>?_),hm⟩;obtain⟨o,ho,hc⟩:=hr b e.symm;rw[show X.heap[b]? =_ from hb]at ho;cases ho;cases hc
theorem BF (l:List (List UInt8)) (k:Nat) (h:k<=l.length):(List.range k).map (λy=>l.getD y [])=l.take k:=by
 apply List.ext_getElem
 ·simp;omega
 ·intro i h1 h2;simp only[List.getElem_map,vh,List.getElem_take];rw[Yb,ZX (by simp at h1;omega)];rfl
attribute [local go_sem] iN
def Zi (D:Int->List UInt8->Int × Int):Int->List (List UInt8)->Int × Int
 | n,[]=>(n,0)
 | n,x::l=>if (D n x).2≠0 then (0,(D n x).2) else Zi D (D n x).1 l
def Ks (D:Int->List UInt8->Int × Int) (p:List UInt8):Int × Int:=if Nu p=false then (0,7) else Zi D 1 (Q9 p)
def Cj (_:Int) (name:List UInt8):Int × Int:=if Zt name=false then (0,7) else (0,3)
theorem PI (dd:Int->List UInt8->Int × Int) (l:List (List UInt8)):∀(n m:Int) (x:List UInt8),Zi dd n l=(m,0)->Zi dd n (l++[x])=if (dd m x).2≠0 then (0,(dd m x).2) else ((dd m x).1,0):=by
 induction l with
 | nil =>
  intro n m x h;obtain rfl:n=m:=by injection h
  simp only[bQ,Zi]
 | cons y l ih =>
  intro n m x h;simp only[fu,Zi]at h ⊢;by_cases h0:(dd n y).2≠0
  ·rw[QN h0]at h;injection h with h1 h2;exact absurd h2 h0
  ·rw[QD h0]at h ⊢;exact ih _ _ _ h
theorem PJ (dd:Int->List UInt8->Int × Int) (l b:List (List UInt8)):∀(n:Int) (R:Int × Int),Zi dd n l=R->R.2≠0->Zi dd n (l++b)=R:=by
 induction l with
 | nil => intro n R h hR;exact absurd (by rw[←h];rfl) hR
 | cons y l ih =>
  intro n R h hR;simp only[fu,Zi]at h ⊢;by_cases h0:(dd n y).2≠0
  ·rw[QN h0]at h ⊢;exact h
  ·rw[QD h0]at h ⊢;exact ih _ _ h hR
theorem CB (dd:Int->List UInt8->Int × Int) (A:Option Addr) (n c:Nat) (v:List (List UInt8)) (p:List UInt8) (w:World) (hv:Strs w A n v) (hd:∀k x w,Strs w A n v->x.length<=1000000000->Calls prog 58 #[.slice A n c,.int .i64 k,.string (Qb x)] w λe w'=>e=.returned (.tuple #[.int .i64 (dd k x).1,.int .i64 (dd k x).2])/\Ext w w') (hp:p.length<=100000000) :
  Calls prog 23 #[.slice A n c,.string (Qb p)] w λe w'=>e=.returned (.tuple #[.int .i64 (Ks dd p).1,.int .i64 (Ks dd p).2])/\Ext w w':=by
 have yN:=Qa (λw=>pP p w hp);have HN:=Qa (λw=>FV (Qb p) w);have HV:=Qa hv;have HD:=Qa (λk x w h=>hd k ((Q9 p).getD x []) w h (by have:=F8 p x;omega));have XS:=(Nc p).1;have b0:=Qs w 22 #[.slice A n c];have b1:=Qs (w.alloc (.cells #[.slice A n c] 22)) 3 #[.int .i64 0];have b2:=Qs ((w.alloc (.cells #[.slice A n c] 22)).alloc (.cells #[.int .i64 0] 3)) 27 #[.int .i64 0];have ni:=(b0.ext ((Qg _).alloc (.cells #[.int .i64 0] 3))).ext ((Qg _).alloc (.cells #[.int .i64 0] 27));have AZ:=b1.ext ((Qg _).alloc (.cells #[.int .i64 0] 27));have X:=((((Qg w).alloc (.cells #[.slice A n c] 22)).alloc (.cells #[.int .i64 0] 3)).alloc (.cells #[.int .i64 0] 27))
 clear b0 b1 hv hd;simp only[YB]at AZ b2;cases hm:Nu p with
 | false =>
  rw[hm]at yN;have HP:=Qa (show Ks dd p=(0,7) by unfold Ks;rw[hm];rfl);go_enter func23,ntmps23;go_upto_region 1 with fail;generalize ((w.alloc (.cells #[.slice A n c] 22)).alloc (.cells #[.int .i64 0] 3)).alloc (.cells #[.int .i64 0] 27)=w3 at *;go_wp2_with (go_at_call 56;refine(yN.o _).mono ?_;rintro e w4 ⟨rfl,x4⟩;have d1:=AZ.ext x4;have d2:=b2.ext x4;have e1:w4.cell? ⟨w.heap.size+1,0,none⟩=some (.int .i64 0):=d1.cell 0;have e2:w4.cell? ⟨w.heap.size+1+1,0,none⟩=some (.int .i64 0):=d2.cell 0;have f1:=d1.frozen 0;have f2:=d2.frozen 0)
  have k1:=(d1.set 0 (.int .i64 0)).far (p:=⟨w.heap.size+1+1,0,none⟩) (by show w.heap.size+1≠w.heap.size+1+1;omega) (.int .i64 7);have k2:=(d2.far (p:=⟨w.heap.size+1,0,none⟩) (by show w.heap.size+1+1≠w.heap.size+1;omega) (.int .i64 0)).set 0 (.int .i64 7);have UB:=k1.cell 0;have Lk:=k2.cell 0;refine Jv (v:=.tuple #[.int .i64 0,.int .i64 7]) ?_ rfl ⟨by rw[HP.o],((X.trans x4).setCell (p:=⟨w.heap.size+1,0,none⟩) (by show w.heap.size<=w.heap.size+1;omega) _).setCell (p:=⟨w.heap.size+1+1,0,none⟩) (by show w.heap.size<=w.heap.size+1+1;omega) _⟩;simp at UB Lk;simp[results,Tryz.results23,go_sem,UB,Lk]
 | true =>
  rw[hm]at yN;have CH:p.head? =some 47:=by obtain⟨q,rfl⟩:=db hm;rfl
  have HP:=Qa (show Ks dd p=Zi dd 1 (Q9 p) by unfold Ks;rw[hm];rfl);refine(DV (n:=6)).1 ?_;refine callsIn_of_wp_marks func23 rfl trivial ?_ rfl;simp only[ntmps23,NS,XN,Mn,Nat.reduceAdd,Nat.reduceSub,nY,nX,nV,nZ,bQ,fu];refine wpIn_wide.2 ?_;go_upto_region 1 with fail;generalize ((w.alloc (.cells #[.slice A n c] 22)).alloc (.cells #[.int .i64 0] 3)).alloc (.cells #[.int .i64 0] 27)=w3 at *;go_upto_region 3 with(go_at_call 56;refine(yN.o _).mono ?_;rintro e w4 ⟨rfl,x4⟩)
  have d0:=ni.ext x4;have d1:=AZ.ext x4;have d2:=b2.ext x4;have X4:=X.trans x4;have b3:=Qs w4 3 #[.int .i64 1];have b4:=Qs (w4.alloc (.cells #[.int .i64 1] 3)) 9 #[.string (Qb p)];have np:=b3.ext ((Qg _).alloc (.cells #[.string (Qb p)] 9));have x5:Ext w4 ((w4.alloc (.cells #[.int .i64 1] 3)).alloc (.cells #[.string (Qb p)] 9)):=((Qg w4).alloc _).alloc _;have e0:=d0.ext x5;have e1:=d1.ext x5;have e2:=d2.ext x5;have X5:=X4.trans x5;have h24:=d2.lt;clear ni AZ b2 d0 d1 d2 b3 X X4 x4 yN;simp only[YB]at b4;go_upto_region 4 with fail;go_wp2_with (go_at_call 57;refine(HN.o _).mono ?_;rintro e w1 ⟨rfl,rfl⟩)
  refine(wpIn_wide (n:=6)).1 ?_;gi_wp2_with fail;generalize hw5:(w4.alloc (.cells #[.int .i64 1] 3)).alloc (.cells #[.string (Qb p)] 9)=w5 at *;have hz5:w5.heap.size=w4.heap.size+1+1:=by rw[←hw5,YB,YB]
  clear hw5 x5 HN;have hNS:=Py 5 (by decide) (w4.heap.size+1) p w5 b4 CH;have hRN:=Qa (BF (Q9 p));have hTk:=Qa (λk=>vk k (Q9 p));have hSt:=Qa (λk (R:Int × Int) (h:Zi dd 1 ((Q9 p).take k)=R) (h0:R.2≠0)=>PJ dd ((Q9 p).take k) ((Q9 p).drop k) 1 R h h0);have hSn:=Qa (λl m x=>PI dd l 1 m x);unfold dh at hNS;generalize hf:(λy=>(Q9 p).getD y [])=f at *;have hf':∀y,(Q9 p).getD y []=f y:=λy=>by rw[←hf]
  simp only[hf']at *;generalize hLp:Q9 p=L at *;clear hf hf' hLp;have hG4:w.heap.size+1+1<w4.heap.size:=h24;have hGG:w.heap.size<=w5.heap.size:=X5.size;generalize hG:w.heap.size=G at *;generalize w4.heap.size=E at *
  refine wpIn_rangeFunc_ownH rfl (by decide) (gf:=111) (lb:=#[.pointer (some ⟨E+1,0,none⟩)]) rfl trivial (enters_of func111 (by kernel_rfl) rfl)
   hNS Nr.trans Nr.book (qw _ _) (λ_=>rfl)
   (λpre W=>Ext w W/\Box W G 22 #[.slice A n c]/\Box W (G+1) 3 #[.int .i64 0]/\Box W (G+1+1) 27 #[.int .i64 0]/\∃m,Box W E 3 #[.int .i64 m]/\Zi dd 1 (pre.map f)=(m,0))
   (λcc pre W=>cc=.ret/\Ext w W/\Box W (G+1) 3 #[.int .i64 0]/\∃r,Box W (G+1+1) 27 #[.int .i64 r]/\r≠0/\Zi dd 1 (pre.map f)=(0,r))
   (OwnFrom.and (TC (by rw[hG];omega)) (OwnFrom.and (Own.from (Yh _ _ _) _) (OwnFrom.and (Own.from (Yh _ _ _) _) (OwnFrom.and (Own.from (Yh _ _ _) _) (Own.from (ij _ _ (λm=>#[.int .i64 m]) (λ(pre:List Nat) (m:Int)=>Zi dd 1 (pre.map f)=(m,0))) _)))))
   (λcc=>OwnFrom.and (ownFrom_pure _ _) (OwnFrom.and (TC (by rw[hG];omega)) (OwnFrom.and (Own.from (Yh _ _ _) _) (Own.from (ij _ _ (λr=>#[.int .i64 r]) (λ(pre:List Nat) (r:Int)=>r≠0/\Zi dd 1 (pre.map f)=(0,r))) _)))) ⟨X5,e0,e1,e2,1,np,rfl⟩
   (λx a' W=>a'={ tmps:=#[.slice A n c,.string (Qb p),.pointer (some ⟨G,0,none⟩),undef,.pointer (some ⟨G+1,0,none⟩),.pointer (some ⟨G+1+1,0,none⟩),.pointer (some ⟨E,0,none⟩),.string (Qb (f x)),undef,undef,.string (Qb p),.bool true,.bool false,.string (Qb p),.func (.func 111) #[] #[.pointer (some ⟨E+1,0,none⟩)],.string (Qb (f x)),undef,undef,undef,undef,undef,undef,undef,undef,undef,undef,undef,undef],defers:=[] })
   (λx a' _ X Y row hs hg hr=>hs) ?assign ?body ?done ?stop
  case assign => rintro l pre x W K hi hK;gi_wp2;exact hK _ _ (ZK (Qg W)) (Nr.ext (Qg W)) hi rfl
  case body =>
   rintro l pre x a' W gC ⟨r,hr⟩ ⟨i1,i2,i3,i4,m,i5,Kq⟩ rfl hltN;have HDx:=Qa (HD.o m x W (HV.o.ext i1));have AD:=Qa (hSn.o (pre.map f) m (f x) Kq);have c0:W.cell? ⟨G,0,none⟩=some (.slice A n c):=i2.cell 0;have c6:W.cell? ⟨E,0,none⟩=some (.int .i64 m):=i5.cell 0;generalize dd m (f x)=R at *;by_cases h0:R.2=0
   ·rw[QD (λh=>h h0)]at AD;rw[h0]at HDx
    gi_wp2_with (first
     | (refine⟨trivial,?_⟩;gi_at_call 58;refine(CallsIn.inRound l (DV.2 HDx.o)).mono ?_;rintro e W2 ⟨rfl,x2⟩;have j5:=i5.ext x2;have c5:W2.cell? ⟨E,0,none⟩=some (.int .i64 m):=j5.cell 0;have c5f:=j5.frozen 0))
    refine⟨(ZK x2).trans ((KeepsOthers.setCell _ _ _).from _),(Nr.ext x2).set ⟨E,0,none⟩ (by show E+1≠E;omega) (by show E+1≠E;omega) _,(i1.trans x2).setCell (p:=⟨E,0,none⟩) (by show w.heap.size<=E;omega) _,(i2.ext x2).far (p:=⟨E,0,none⟩) (by show G≠E;omega) _,(i3.ext x2).far (p:=⟨E,0,none⟩) (by show G+1≠E;omega) _,(i4.ext x2).far (p:=⟨E,0,none⟩) (by show G+1+1≠E;omega) _,R.1,j5.set 0 _,?_⟩;rw[bS];exact AD.o
   ·have d0:(R.2 != 0)=true:=by simpa using h0
    rw[QN h0]at AD
    gi_wp2_with (first
     | (refine⟨trivial,?_⟩;gi_at_call 58;refine(CallsIn.inRound l (DV.2 HDx.o)).mono ?_;rintro e W2 ⟨rfl,x2⟩;have j3:=i3.ext x2;have j4:=i4.ext x2;have c3:W2.cell? ⟨G+1,0,none⟩=some (.int .i64 0):=j3.cell 0;have c3f:=j3.frozen 0;have c4:W2.cell? ⟨G+1+1,0,none⟩=some (.int .i64 0):=j4.cell 0;have c4f:=j4.frozen 0))
    refine⟨((ZK x2).trans ((KeepsOthers.setCell _ _ _).from _)).trans ((KeepsOthers.setCell _ _ _).from _),rfl,((i1.trans x2).setCell (p:=⟨G+1,0,none⟩) (by show w.heap.size<=G+1;omega) _).setCell (p:=⟨G+1+1,0,none⟩) (by show w.heap.size<=G+1+1;omega) _,(j3.set 0 _).far (p:=⟨G+1+1,0,none⟩) (by show G+1≠G+1+1;omega) _,R.2,(j4.far (p:=⟨G+1,0,none⟩) (by show G+1+1≠G+1;omega) _).set 0 _,h0,?_⟩;rw[bS];exact AD.o
  case done =>
   rintro D ys W hD rfl ⟨i1,i2,i3,i4,m,i5,Kq⟩ hK;have c5:W.cell? ⟨E,0,none⟩=some (.int .i64 m):=i5.cell 0;have c3:W.cell? ⟨G+1,0,none⟩=some (.int .i64 0):=i3.cell 0;have c3f:=i3.frozen 0;have c4:W.cell? ⟨G+1+1,0,none⟩=some (.int .i64 0):=i4.cell 0;have c4f:=i4.frozen 0;gi_wp2_with fail;go_wp2_with fail;have hK1:=(KeepsOthers.setCell W ⟨G+1,0,none⟩ (.int .i64 m)).same D _ hK rfl;have KM:=(KeepsOthers.setCell (W.setCell ⟨G+1,0,none⟩ (.int .i64 m)) ⟨G+1+1,0,none⟩ (.int .i64 0)).same D _ hK1 rfl;have k1:=((i3.set 0 (.int .i64 m)).far (p:=⟨G+1+1,0,none⟩) (by show G+1≠G+1+1;omega) (.int .i64 0)).grown (grownBy_putObj' _ D (.deferred none)) (λe=>by injection e with e;omega);have k2:=((i4.far (p:=⟨G+1,0,none⟩) (by show G+1+1≠G+1;omega) (.int .i64 m)).set 0 (.int .i64 0)).grown (grownBy_putObj' _ D (.deferred none)) (λe=>by injection e with e;omega);have UB:=k1.cell 0;have Lk:=k2.cell 0;refine⟨by simp,.inl ⟨_,_,rfl,run_takeDeferred KM,?_⟩⟩;refine⟨.tuple #[.int .i64 m,.int .i64 0],?_,?_,((i1.setCell (p:=⟨G+1,0,none⟩) (by show w.heap.size<=G+1;omega) _).setCell (p:=⟨G+1+1,0,none⟩) (by show w.heap.size<=G+1+1;omega) _).putObj (.deferred none) KM (by omega)⟩
   ·simp at UB Lk;simp[results,Tryz.results23,go_sem,UB,Lk]
   ·rw[hRN.o _ (Q4 _),Ri]at Kq;rw[HP.o,Kq]
  case stop =>
   rintro D cc pre W hD ⟨k,hk,rfl⟩ ⟨rfl,h1,h2,r,h3,h4,h5⟩ hK;gi_wp2;have k1:=h2.grown (grownBy_putObj' _ D (.deferred none)) (λe=>by injection e with e;omega);have k2:=h3.grown (grownBy_putObj' _ D (.deferred none)) (λe=>by injection e with e;omega);have UB:=k1.cell 0;have Lk:=k2.cell 0;refine⟨by simp,.inl ⟨_,_,rfl,run_takeDeferred hK,?_⟩⟩;refine⟨.tuple #[.int .i64 0,.int .i64 r],?_,?_,h1.putObj (.deferred none) hK (by omega)⟩
   ·simp at UB Lk;simp[results,Tryz.results23,go_sem,UB,Lk]
   ·rw[hRN.o _ hk]at h5;have:=hSt.o k _ h5 h4;rw[hTk.o]at this;rw[HP.o,this]
theorem M7 (A:Option Addr) (n c:Nat) (v:List (List UInt8)) (k:Int) (w:World) (hv:Strs w A n v) (hn:n<=9223372036854775807) (hb:∀I,¬Ji v I) :
  Calls prog 107 #[.slice A n c,.int .i64 k] w λe w'=>e=.returned (.tuple #[.slice none 0 0,.int .i64 3])/\Ext w w':=by
 have HG:=Qa (λw h=>CS A n c v k w h hn hb);go_enter func107,ntmps107
 go_wp2_with (first
  | (go_at_call 69;refine(HG.o _ hv).mono ?_;rintro e w1 ⟨rfl,x1⟩)
  | (refine QR (.tmp 6) (.tmp 15) rfl rfl w1.heap.size _ Qy 121 rfl rfl (Qs _ _ _) rfl rfl ?_;intro w2 b2 g2))
 go_ret2;exact⟨rfl,(x1.alloc _).grown g2 (λk e=>by cases e;exact x1.size)⟩
theorem Sk (A:Option Addr) (n c:Nat) (v:List (List UInt8)) (k:Int) (name:List UInt8) (w:World) (hv:Strs w A n v) (hn:n<=9223372036854775807) (hb:∀I,¬Ji v I) (Lo:name.length<=1000000000) :
  Calls prog 58 #[.slice A n c,.int .i64 k,.string (Qb name)] w λe w'=>e=.returned (.tuple #[.int .i64 (Cj k name).1,.int .i64 (Cj k name).2])/\Ext w w':=by
 have HM:=Qa (λw=>TA name w Lo);have HL:=Qa (λw h=>M7 A n c v k w h hn hb);unfold Cj;cases hm:Zt name with
 | false =>
  rw[hm]at HM;go_enter func58,ntmps58;go_wp2_with (go_at_call 110;refine(HM.o _).mono ?_;rintro e w1 ⟨rfl,x1⟩)
  go_ret2;exact⟨rfl,x1⟩
 | true =>
  rw[hm]at HM;go_enter func58,ntmps58
  go_wp2_with (first
   | (go_at_call 110;refine(HM.o _).mono ?_;rintro e w1 ⟨rfl,x1⟩)
   | (go_at_call 107;refine(HL.o _ (hv.ext x1)).mono ?_;rintro e w2 ⟨rfl,x2⟩))
  go_ret2;exact⟨rfl,x1.trans x2⟩
def JE (v:List (List UInt8)) (I:Option Int) (p:List UInt8):Int × Int:=match I with
 | some I=>Ks (Xl v I) p
 | none=>Ks Cj p
def ZW (v:List (List UInt8)):Option Int->Prop
 | some I=>Ji v I
 | none=>∀I,¬Ji v I
theorem Fu (A:Option Addr) (n c:Nat) (v:List (List UInt8)) (I:Option Int) (p:List UInt8) (w:World) (hv:Strs w A n v) (hn:n<=9223372036854775807) (hg:ZW v I) (hp:p.length<=100000000) :
  Calls prog 23 #[.slice A n c,.string (Qb p)] w λe w'=>e=.returned (.tuple #[.int .i64 (JE v I p).1,.int .i64 (JE v I p).2])/\Ext w w':=by
 cases I with
 | some I=>exact CB (Xl v I) A n c v p w hv (λk x w h hx=>cM A n c v I k x w h hg hx) hp
 | none=>exact CB Cj A n c v p w hv (λk x w h hx=>Sk A n c v k x w h hn hg hx) hp
structure Jr where
 paths:List (List UInt8)
 gone:List Int
def YH (v:List (List UInt8)) (I n:Int):Bool:=decide (1<=n/\n<=I)&&decide ((QI v n).getD 0 0=2)
def Z9 (v:List (List UInt8)) (I:Int) (path:List UInt8) (k:Option (Jr->Int->List UInt8->Jr)) (s:Jr) (x:Ve):Jr :=
 match k with
 | none=>⟨s.paths++[path++47::x.1],s.gone⟩
 | some f=>if YH v I x.2&&!s.gone.contains x.2 then f ⟨s.paths++[path++47::x.1],s.gone⟩ x.2 (path++47::x.1) else ⟨s.paths++[path++47::x.1],s.gone⟩
def V9 (v:List (List UInt8)) (I:Int):Nat->Jr->Int->List UInt8->Jr
 | 0,s,n,path=>(QV v I n).1.foldl (Z9 v I path none) ⟨s.paths,s.gone++[n]⟩
 | r+1,s,n,path=>(QV v I n).1.foldl (Z9 v I path (some (V9 v I r))) ⟨s.paths,s.gone++[n]⟩
def Qdh (v:List (List UInt8)) (I:Int):List (List UInt8):=(V9 v I 7 ⟨[],[]⟩ 1 []).paths
def CW (g:List Int):Nat:=(List.range 65).countP λi:Nat=>!g.contains (i:Int)
def Yl (s:Jr):Nat:=s.paths.length+280*CW s.gone
theorem iu {α:Type} {p q:α->Bool}{l:List α}(h:∀x∈l,q x=true->p x=true) {a:α}(ha:a∈l) (h1:p a=true) (h2:q a=false):l.countP q+1<=l.countP p:=by
 induction l with
 | nil=>exact absurd ha Rw
 | cons y l ih =>
  have Nt:l.countP q<=l.countP p:=List.countP_mono_left λx hx=>h x (EL _ hx);rcases Pm.1 ha with rfl|ha
  ·rw[We4 h1,List.countP_cons_of_neg (by rw[h2];simp)];omega
  ·have ih:=ih (λx hx=>h x (EL _ hx)) ha;by_cases hq:q y=true
   ·rw[We4 hq,We4 (h y Gq hq)];omega
   ·rw[List.countP_cons_of_neg hq,List.countP_cons];omega
theorem aM {g:List Int}{n:Int}(hn:n∉g) (h0:0<=n) (h1:n<=64):CW (g++[n])+1<=CW g:=by
 unfold CW;refine iu (a:=n.toNat) (λi _ hq=>?_) (Mo.2 (by omega)) ?_ ?_
 ·simp at hq ⊢;exact hq.1
 ·rw[show((n.toNat:Nat):Int)=n by omega];simpa using hn
 ·rw[show((n.toNat:Nat):Int)=n by omega];simp
theorem Du {s:Jr}{n:Int}(hn:n∉s.gone) (h0:0<=n) (h1:n<=64):Yl ⟨s.paths,s.gone++[n]⟩+280<=Yl s:=by
 have:=aM hn h0 h1;unfold Yl;simp only;omega
theorem kT {v:List (List UInt8)}{I:Int}{path:List UInt8}{k:Option (Jr->Int->List UInt8->Jr)}
  (hk:∀f,k=some f->∀s n p,n∉s.gone->0<=n->n<=64->Yl (f s n p)<=Yl s) {s:Jr}{x:Ve}(hI:I<=64):Yl (Z9 v I path k s x)<=Yl s+1:=by
 have h1:Yl ⟨s.paths++[path++47::x.1],s.gone⟩=Yl s+1:=by unfold Yl;simp;omega
 unfold Z9;cases k with
 | none=>exact Fc h1
 | some f =>
  simp only;split
  ·rename_i c;rw[Vg]at c;have c1:=c.1;unfold YH at c1;simp at c1;refine YR (hk f rfl _ _ _ ?_ (by omega) (by omega)) (Fc h1);simpa using c.2
  ·exact Fc h1
theorem T5 {v:List (List UInt8)}{I:Int}{path:List UInt8}{k:Option (Jr->Int->List UInt8->Jr)}
  (hk:∀f,k=some f->∀s n p,n∉s.gone->0<=n->n<=64->Yl (f s n p)<=Yl s) (hI:I<=64) (l:List Ve):∀s,Yl (l.foldl (Z9 v I path k) s)<=Yl s+l.length:=by
 induction l with
 | nil=>intro s;exact Q4 _
 | cons x l ih => intro s;rw[List.foldl_cons,XN];have:=ih (Z9 v I path k s x);have:=kT (v:=v) (path:=path) hk (s:=s) (x:=x) hI;omega
theorem T6 {v:List (List UInt8)}{I:Int}(hI:I<=64) (r:Nat):∀s n p,n∉s.gone->0<=n->n<=64->Yl (V9 v I r s n p)<=Yl s:=by
 induction r with
 | zero => intro s n p hn h0 h1;have e1:=Du hn h0 h1;have e2:=T5 (v:=v) (I:=I) (path:=p) (k:=none) (λf e=>by cases e) hI (QV v I n).1 ⟨s.paths,s.gone++[n]⟩;have e3:=VW v I n;unfold V9;omega
 | succ r ih => intro s n p hn h0 h1;have e1:=Du hn h0 h1;have e2:=T5 (v:=v) (I:=I) (path:=p) (k:=some (V9 v I r)) (λf e=>by cases e;exact ih) hI (QV v I n).1 ⟨s.paths,s.gone++[n]⟩;have e3:=VW v I n;unfold V9;omega
def XE (s:Jr):Nat:=s.gone.length+CW s.gone
theorem Dt {s:Jr}{n:Int}(hn:n∉s.gone) (h0:0<=n) (h1:n<=64) (q:List (List UInt8)):XE ⟨q,s.gone++[n]⟩<=XE s:=by
 have:=aM hn h0 h1;unfold XE;simp only[VL,Weh];omega
theorem eE {v:List (List UInt8)}{I:Int}{path:List UInt8}{k:Option (Jr->Int->List UInt8->Jr)}
  (hk:∀f,k=some f->∀s n p,n∉s.gone->0<=n->n<=64->XE (f s n p)<=XE s) {s:Jr}{x:Ve}(hI:I<=64):XE (Z9 v I path k s x)<=XE s:=by
 have h1:XE ⟨s.paths++[path++47::x.1],s.gone⟩=XE s:=rfl;unfold Z9;cases k with
 | none=>exact Fc h1
 | some f =>
  simp only;split
  ·rename_i c;rw[Vg]at c;have c1:=c.1;unfold YH at c1;simp at c1;refine YR (hk f rfl _ _ _ ?_ (by omega) (by omega)) (Fc h1);simpa using c.2
  ·exact Fc h1
theorem RZ {v:List (List UInt8)}{I:Int}{path:List UInt8}{k:Option (Jr->Int->List UInt8->Jr)}
  (hk:∀f,k=some f->∀s n p,n∉s.gone->0<=n->n<=64->XE (f s n p)<=XE s) (hI:I<=64) (l:List Ve):∀s,XE (l.foldl (Z9 v I path k) s)<=XE s:=by
 induction l with
 | nil=>intro s;exact Q4 _
 | cons x l ih => intro s;rw[List.foldl_cons];exact YR (ih _) (eE hk hI)
theorem Ec {v:List (List UInt8)}{I:Int}(hI:I<=64) (r:Nat):∀s n p,n∉s.gone->0<=n->n<=64->XE (V9 v I r s n p)<=XE s:=by
 induction r with
 | zero => intro s n p hn h0 h1;exact YR (RZ (v:=v) (I:=I) (path:=p) (k:=none) (λf e=>by cases e) hI (QV v I n).1 ⟨s.paths,s.gone++[n]⟩) (Dt hn h0 h1 _)
 | succ r ih => intro s n p hn h0 h1;exact YR (RZ (v:=v) (I:=I) (path:=p) (k:=some (V9 v I r)) (λf e=>by cases e;exact ih) hI (QV v I n).1 ⟨s.paths,s.gone++[n]⟩) (Dt hn h0 h1 _)
theorem kS:XE ⟨[],[]⟩=65:=rfl
theorem aV:Yl ⟨[],[]⟩=18200:=rfl
end Go.Proofs.YtfaplefkakpgcaaGreatDoor
