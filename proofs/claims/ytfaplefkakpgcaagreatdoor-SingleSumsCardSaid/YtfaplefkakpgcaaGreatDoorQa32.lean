import Derived.Test.YtfaplefkakpgcaaGreatDoorQa31
import Derived.Test.YtfaplefkakpgcaaGreatDoorQa30
set_option linter.unusedVariables false
set_option linter.unusedSimpArgs false
set_option maxHeartbeats 32000000
set_option maxRecDepth 100000
namespace Go.Proofs.YtfaplefkakpgcaaGreatDoor
open Go.Proofs.Tryz
open Go.RowKit Go.Lib Go.Sort Go.Shelf
theorem CQ (n m:Nat) (h:m<=n):(List.range n).countP (λi=>decide (i<m))=m:=by
 induction n generalizing m with
 | zero=>simp;omega
 | succ n ih =>
  rw[fL,List.countP_append];by_cases e:m=n+1
  ·subst e;rw[List.countP_eq_length.2 (λa ha=>by rw[Pw]at ha;simp;omega)];simp
  ·rw[ih m (by omega)];simp;omega
theorem EH {l:List XJ}(hl:l.Pairwise λa b=>N8 a.1 b.1=true) (name:List UInt8):(List.range l.length).countP (λi=>!(!N8 (l.getD i ([],0)).1 name))=XM l name:=by
 rw[←CQ l.length (XM l name) (Cc l name)];refine List.countP_congr λi hi=>?_;rw[Pw]at hi;rw[ZG,JZ hi];simp only[SM,Bool.not_not,Cw];by_cases h:i<XM l name
 ·exact⟨λ_=>h,λ_=>Cd h hi⟩
 ·refine⟨λh2=>?_,λh2=>absurd h2 h⟩;rw[Cb hl (by omega) hi]at h2;cases h2
theorem M5 (ba bx b o c n:Nat) (y name:List UInt8) (i:Nat) (W:World) (hi:i<n)
  (ha:W.cell? ⟨ba,0,none⟩=some (.slice (some ⟨b,o,none⟩) n c)) (hx:W.cell? ⟨bx,0,none⟩=some (.string (Qb name))) (hc:W.cell? ⟨b,o+i*2,none⟩=some (.string (Qb y))) :
  Calls prog 180 (#[.int .i64 i]++#[.pointer (some ⟨ba,0,none⟩),.pointer (some ⟨bx,0,none⟩)]) W λe w'=>e=.returned (.bool (!N8 y name))/\∃q,w'=W.drewN q:=by
 have hiz:(i:Int)<(n:Int):=by omega
 have hl:Op.bytesLess (Qb y).toList (Qb name).toList=N8 y name:=by rw[Ql,Ql]
 generalize N8 y name=r at *;go_enter func180,ntmps180;go_wp2;go_region;all_goals go_wp2
 all_goals go_ret
 all_goals exact⟨by first|rfl|simp,1,rfl⟩
theorem IE (w:World) (q:Nat) (os:Array Obj):Ext w (grow (w.drewN q) os):=below_grown_sl w.heap.size w q os (QW _)
theorem Ho (A:Option Addr) (n c:Nat) (l:List XJ) (name:List UInt8) (w:World) (hs:St w A n l) (hn:n<=1000) (hl:l.Pairwise λa b=>N8 a.1 b.1=true) (hA:∀b o,A=some ⟨b,o,none⟩->0<n->b<w.heap.size) :
  Calls prog 114 #[.slice A n c,.string (Qb name)] w λe w'=>e=.returned (.tuple #[.int .i64 (XM l name:Int),.bool (Li l name)])/\Ext w w':=by
 obtain⟨W0,hW0⟩:∃W0,W0=(w.alloc (.cells #[.slice A n c] 150)).alloc (.cells #[.string (Qb name)] 9):=⟨_,rfl⟩
 have x0:Ext w W0:=by rw[hW0];exact((Qf w).alloc _).alloc _
 have D7:W0.heap.size=w.heap.size+1+1:=by rw[hW0];simp
 have ca:W0.cell? ⟨w.heap.size,0,none⟩=some (.slice A n c):=by rw[hW0];exact cell_alloc_sl _ (cell_new_sl w _ _)
 have cx:W0.cell? ⟨w.heap.size+1,0,none⟩=some (.string (Qb name)):=by rw[hW0];have:=cell_new_sl (w.alloc (.cells #[.slice A n c] 150)) (.string (Qb name)) 9;rwa [Ki]at this
 have eg:∀args w,(callFunc 180 args).run prog w=.ok (.enter 180 args) w:=enters_of func180 (by kernel_rfl) rfl;have h0:=hs.ext x0;obtain rfl:=hs.1
 have hS:=Any.sort_Search Tryz.search 180 #[.pointer (some ⟨w.heap.size,0,none⟩),.pointer (some ⟨w.heap.size+1,0,none⟩)] l.length (λi=>!N8 (l.getD i ([],0)).1 name) W0 eg (by omega)
  (λm os i hi=>by
   obtain⟨b,o,rfl,Qd⟩:=h0.2 (by omega);have hb:=hA b o rfl (by omega);have sU:=(Qd i hi).1;have Q7:l.getD i ([],0)=l[i]:=by rw[ZG,JZ hi];rfl
   simp only[Q7]
   exact(M5 w.heap.size (w.heap.size+1) b o c l.length l[i].1 name i _ hi (cell_grown (by simp[D7];omega) ca m os) (cell_grown (by simp[D7]) cx m os) (cell_grown (by simp[D7];omega) sU m os)).mono
    λ_ _ ⟨he,q,hq⟩=>⟨he,q,#[],by rw[hq,grow_empty]⟩)
  (λa b hab hb h=>by
   have ha:a<l.length:=by omega
   simp only[ZG,JZ ha,JZ hb,SM]at h ⊢;rw[mQ]at h ⊢;by_cases e:XM l name<=a
   ·exact Cb hl (by omega) hb
   ·rw[Cd (by omega) ha]at h;cases h)
 rw[EH hl]at hS;change Calls prog 179 _ _ _ at hS;have hple:=Cc l name;have HS:=Qa hS;have HH:Zv (Li l name=(decide (XM l name<l.length)&&decide ((l.getD (XM l name) ([],0)).1=name))):=rfl;have h1:=h0.2;clear hS hs hA eg hl;generalize XM l name=p at *;go_enter func114,ntmps114;go_upto_region 2 with(go_at_call 179;rw[←hW0];refine HS.o.mono ?_;rintro e w1 ⟨rfl,q,os,Xo⟩;have xg:Ext W0 w1:=(by rw[Xo];exact IE W0 q os);clear Xo)
 have ka:∀y:Qg w1,y.now.cell? ⟨w.heap.size,0,none⟩=some (.slice A l.length c):=λy=>(xg.trans y.ext).keep ca;have kx:∀y:Qg w1,y.now.cell? ⟨w.heap.size+1,0,none⟩=some (.string (Qb name)):=λy=>(xg.trans y.ext).keep cx;have X1:=Qa (x0.trans xg);clear ca cx HS h0 hW0 D7;by_cases hp:p<l.length
 ·obtain⟨b,o,rfl,Qd⟩:=h1 (by omega);have Q7:l.getD p ([],0)=l[p]:=by rw[ZG,JZ hp];rfl
  have k2:∀y:Qg w1,y.now.cell? ⟨b,o+p*2,none⟩=some (.string (Qb l[p].1)):=λy=>(xg.trans y.ext).keep (Qd p hp).1;have HV:=Qa (show Li l name=decide (l[p].1=name) by rw[HH.o,Q7,Ve hp];rfl);have Bw:(p:Int)<(l.length:Int):=by omega
  have Bv:decide ((p:Int)<(l.length:Int))=true:=Ve Bw;have hbq:((Qb l[p].1).toList==(Qb name).toList)=decide (l[p].1=name):=by rw[Ql,Ql,mT];simp
  clear Qd h1 xg Q7 HH;generalize l[p].1=y at *;refine Qp (by kernel_rfl) (by kernel_rfl) ?_;repeat (go_big_quiet_step (fail))
  refine Y7 ?_;rintro w5 ⟨y,rfl⟩;go_wp2_with fail;go_ret2;exact⟨by rw[HV.o];rfl,X1.o.trans y.ext⟩
 ·have HV:=Qa (show Li l name=false by rw[HH.o,XI hp];rfl);have Bv:decide ((p:Int)<(l.length:Int))=false:=XI (by omega);clear h1 xg HH;refine Qp (by kernel_rfl) (by kernel_rfl) ?_;repeat (go_big_quiet_step (fail))
  refine Y7 ?_;rintro w5 ⟨y,rfl⟩;go_wp2_with fail;go_ret2;exact⟨by rw[HV.o];rfl,X1.o.trans y.ext⟩
end Go.Proofs.YtfaplefkakpgcaaGreatDoor
namespace Go.Proofs.YtfaplefkakpgcaaGreatDoor
open Go.Proofs.Tryz
open Go.RowKit
def Xv (v:List (List UInt8)) (I k:Int) (name:List UInt8):Int × Int :=
 if YG name=false then (0,7) else if (QF v I k).2≠0 then (0,(QF v I k).2)
 else if Li (QF v I k).1 name=true then (((QF v I k).1.getD (XM (QF v I k).1 name) ([],0)).2,0) else (0,9)
theorem ZF.old {w:World}{B:Nat}{u:Value}{l:List XJ}(h:ZF w B u l):∀b o n c,u=.slice (some ⟨b,o,none⟩) n c->b<w.heap.size:=by
 rintro b o n c rfl;rcases h.2 with⟨e,_⟩|⟨g,cap,cur,e,_,hh,_⟩
 ·cases e
 ·injection e with e1 _ _;injection e1 with e1;injection e1 with e1 _ _;subst e1;exact(SK.1 hh).1
theorem CS (A:Option Addr) (n c:Nat) (v:List (List UInt8)) (I k:Int) (name:List UInt8) (w:World) (hv:Strs w A n v) (hg:Ji v I) (Sj:name.length<=1000000000) :
  Calls prog 58 #[.slice A n c,.int .i64 k,.string (Qb name)] w λe w'=>e=.returned (.tuple #[.int .i64 (Xv v I k name).1,.int .i64 (Xv v I k name).2])/\Ext w w':=by
 have HM:=Qa (λw=>Wj name w Sj);have HL:=Qa (λw h=>P1 A n c v I k w h hg);have Bs:=Uc v I k;have Fx:=TO v I k;cases hm:YG name with
 | false =>
  have HP:=Qa (show Xv v I k name=(0,7) from by unfold Xv;rw[Qv hm]);rw[hm]at HM;go_enter func58,ntmps58;go_wp2_with (go_at_call 110;refine(HM.o _).mono ?_;rintro e w1 ⟨rfl,x1⟩)
  go_ret2;rw[HP.o];exact⟨rfl,x1⟩
 | true =>
 by_cases he:(QF v I k).2=0;case neg =>
  have HP:=Qa (show Xv v I k name=(0,(QF v I k).2) from by unfold Xv;rw[Qr (by rw[hm];simp),Qv he]);have de:((QF v I k).2 != 0)=true:=by simpa using he
  rw[hm]at HM;clear he hm Fx;generalize QF v I k=R at *;go_enter func58,ntmps58
  go_wp2_with (first
   | (go_at_call 110;refine(HM.o _).mono ?_;rintro e w1 ⟨rfl,x1⟩)
   | (go_at_call 107;refine(HL.o _ (hv.ext x1)).mono ?_;rintro e w2 ⟨u,rfl,x2,Zh⟩))
  go_ret2;rw[HP.o];exact⟨rfl,x1.trans x2⟩
 have ag:=Qa (show Xv v I k name=if Li (QF v I k).1 name=true then (((QF v I k).1.getD (XM (QF v I k).1 name) ([],0)).2,0) else (0,9) from by unfold Xv;rw[Qr (by rw[hm];simp),Qr (by rw[he];simp)]);rw[he]at HL;generalize Xv v I k name=D at *;clear he;generalize (QF v I k).1=l at *;have bT:=Qa (λA c w h hA=>Ho A l.length c l name w h (by omega) Fx.2 hA);rw[hm]at HM;have HH:Zv (Li l name=true->XM l name<l.length):=λh=>by unfold Li at h;simp only[VB,Cw]at h;exact h.1
 clear hm Fx;cases hh:Li l name with
 | false =>
  rw[hh]at ag bT;clear hh HH;generalize XM l name=p at *;go_enter func58,ntmps58
  go_wp2_with (first
   | (go_at_call 110;refine(HM.o _).mono ?_;rintro e w1 ⟨rfl,x1⟩)
   | (go_at_call 107;refine(HL.o _ (hv.ext x1)).mono ?_;rintro e w2 ⟨u,rfl,x2,Zh⟩;obtain⟨A2,cap2,rfl,st2⟩:=Zh.form;have sB:=λb o (h:A2=some ⟨b,o,none⟩) (_:0<l.length)=>Zh.old b o l.length cap2 (by rw[h]))
   | (go_at_call 114;refine(bT.o A2 cap2 _ st2 sB).mono ?_;rintro e w3 ⟨rfl,x3⟩))
  go_ret2;rw[ag.o];exact⟨rfl,x1.trans (x2.trans x3)⟩
 | true =>
  have hp:=HH.o hh;rw[hh]at ag bT;clear hh HH;generalize XM l name=p at *;have Q7:l.getD p ([],0)=l[p]:=by rw[ZG,JZ hp];rfl
  have Bw:(p:Int)<(l.length:Int):=by omega
  have bL:=Qa (show D=(l[p].2,0) from by rw[ag.o,Qv rfl,Q7]);clear ag;have HLp:=Qa Q7;have Hp:=Qa hp;clear Q7;go_enter func58,ntmps58
  go_wp2_with (first
   | (go_at_call 110;refine(HM.o _).mono ?_;rintro e w1 ⟨rfl,x1⟩)
   | (go_at_call 107;refine(HL.o _ (hv.ext x1)).mono ?_;rintro e w2 ⟨u,rfl,x2,Zh⟩;obtain⟨A2,cap2,rfl,st2⟩:=Zh.form;have sB:=λb o (h:A2=some ⟨b,o,none⟩) (_:0<l.length)=>Zh.old b o l.length cap2 (by rw[h]);have st0:=st2;obtain⟨b2,o2,rfl,Bj⟩:=st0.2 (by omega))
   | (go_at_call 114;refine(bT.o _ cap2 _ st2 sB).mono ?_;rintro e w3 ⟨rfl,x3⟩;have Mf:=x3.keep (Bj p Hp.o).2))
  go_ret2;rw[bL.o];exact⟨rfl,x1.trans (x2.trans x3)⟩
def Rq (p:List UInt8):Bool:=decide (p.head? =some 47)&&decide (p.length<=200)&&((QQ p).all YG&&decide ((QQ p).length<=8))
theorem BW {p:List UInt8}(h:Rq p=true):∃q,p=47::q:=by
 unfold Rq at h;simp only[VB,Cw]at h;cases p with
 | nil=>simp at h
 | cons c q=>exact⟨q,by have:=h.1.1;simp at this;rw[this]⟩
end Go.Proofs.YtfaplefkakpgcaaGreatDoor
namespace Go.Proofs.YtfaplefkakpgcaaGreatDoor
open Go.Proofs.Tryz
open Go.RowKit Go.Shelf
attribute [local go_sem] A9
theorem aH {l:List (List UInt8)}(k:Nat):(∀j,j<k->YG (l.getD j [])=true)->l.length<=k->l.all YG=true:=λh hk=>by
 rw[Pv];intro x hx;obtain⟨j,hj,rfl⟩:=aj hx;have:=h j (by omega)
 rwa [ZG,JZ hj]at this
theorem Mu (p:List UInt8) (x:Nat):((QQ p).getD x []).length<=p.length:=by
 rw[ZG];cases h:(QQ p)[x]? with
 | none=>simp
 | some y=>exact(Nm p).2 y (rV h)
theorem dg (p:List UInt8) (w:World) (hp:p.length<=100000000) :
  Calls prog 56 #[.string (Qb p)] w λe w'=>e=.returned (.bool (Rq p))/\Ext w w':=by
 have hz:=Qh p;have HH:=Qa (λw=>PB p w);have HN:=Qa (λw=>Mn (Qb p) w);have HMD:=Qa (λx w=>Wj ((QQ p).getD x []) w (by have:=Mu p x;omega));have Uz:=(Nm p).1;have x0:Ext w (w.alloc (.cells #[.bool false] 4)):=(Qf w).alloc _;have b2:=QA w 4 #[.bool false];have z0:(w.alloc (.cells #[.bool false] 4)).heap.size=w.heap.size+1:=Ki _ _;by_cases Sf:p.head? =some 47;case neg =>
  have d1:decide (p.head? =some 47)=false:=XI Sf;rw[show Rq p=false by unfold Rq;rw[d1];rfl];go_enter func56,ntmps56;go_wp2_with (go_at_call 109;refine(HH.o _).mono ?_;rintro e w1 ⟨rfl,rfl⟩)
  refine ZD (v:=.bool false) ?_ rfl ⟨rfl,x0⟩;have hc:=b2.cell 0;simp[results,Tryz.results56,go_sem,hc]
 case pos =>
  have d1:decide (p.head? =some 47)=true:=Ve Sf;by_cases Vb:200<p.length
  ·have D5:(200:Int)<(p.length:Int):=by omega
   rw[show Rq p=false by unfold Rq;rw[XI (show¬p.length<=200 by omega)];simp];go_enter func56,ntmps56;go_wp2_with (go_at_call 109;refine(HH.o _).mono ?_;rintro e w1 ⟨rfl,rfl⟩)
   refine ZD (v:=.bool false) ?_ rfl ⟨rfl,x0⟩;have hc:=b2.cell 0;simp[results,Tryz.results56,go_sem,hc]
  ·have D5:¬(200:Int)<(p.length:Int):=by omega
   have b3:=QA (w.alloc (.cells #[.bool false] 4)) 3 #[.int .i64 0];have b4:=QA ((w.alloc (.cells #[.bool false] 4)).alloc (.cells #[.int .i64 0] 3)) 9 #[.string (Qb p)];have b2':=(b2.ext ((Qf _).alloc (.cells #[.int .i64 0] 3))).ext ((Qf _).alloc (.cells #[.string (Qb p)] 9));have pt:=b3.ext ((Qf _).alloc (.cells #[.string (Qb p)] 9));have X:=((x0.alloc (.cells #[.int .i64 0] 3)).alloc (.cells #[.string (Qb p)] 9))
   clear b2 b3;simp only[Ki]at pt b4;refine(Pp (n:=6)).1 ?_;refine callsIn_of_wp_marks func56 rfl trivial ?_ rfl;simp only[ntmps56,N1,YV,Tz,Nat.reduceAdd,Nat.reduceSub,ah,ak,aq,an,Cx,DB];refine fQ.2 ?_;go_upto_region 4 with(go_at_call 109;refine(HH.o _).mono ?_;rintro e w1 ⟨rfl,rfl⟩)
   go_wp2_with (go_at_call 57;refine(HN.o _).mono ?_;rintro e w1 ⟨rfl,rfl⟩)
   refine(fQ (n:=6)).1 ?_;gi_wp2_with fail;generalize ((w.alloc (.cells #[.bool false] 4)).alloc (.cells #[.int .i64 0] 3)).alloc (.cells #[.string (Qb p)] 9)=w5 at *;have nC:=NK 5 (by decide) (w.heap.size+1+1) p w5 b4 Sf;have vO:=Qa (show Rq p=((QQ p).all YG&&decide ((QQ p).length<=8)) by unfold Rq;rw[d1,Ve (show p.length<=200 by omega)];simp);have sC:=Qa (λh=>aH (l:=QQ p) (QQ p).length h (QW _));have hNo:Zv (∀y,y<(QQ p).length->YG ((QQ p).getD y [])=false->(QQ p).all YG=false):=λy hy h=>by rw[ZG,JZ hy]at h;exact List.all_eq_false.2 ⟨_,FM hy,by simp only[SM]at h;rw[h];simp⟩
   clear x0 z0 HN HH;have vP:(QQ p).length<=200:=by omega
   have hlt5:w.heap.size+1+1<w5.heap.size:=b4.lt;unfold B9 at nC;generalize (QQ p).all YG=al at *;generalize hf:(λy=>(QQ p).getD y [])=f at *;have ii:∀y,(QQ p).getD y []=f y:=λy=>by rw[←hf]
   simp only[ii]at *;generalize (QQ p).length=N at *;clear hf ii;generalize hG:w.heap.size=G at *
   refine wpIn_rangeFunc_ownH rfl (by decide) (gf:=111) (lb:=#[.pointer (some ⟨G+1+1,0,none⟩)]) rfl trivial (enters_of func111 (by kernel_rfl) rfl)
    nC Vh.trans Vh.book (bj _ _) (λ_=>rfl)
    (λpre W=>Ext w W/\Box W G 4 #[.bool false]/\Box W (G+1) 3 #[.int .i64 (pre.length:Int)]/\(∀y∈pre,YG (f y)=true)/\pre.length<=N)
    (λc pre W=>c=.ret/\Ext w W/\Box W G 4 #[.bool false]/\∃y∈pre,YG (f y)=false)
    (OwnFrom.and (Wl (by rw[hG];omega)) (OwnFrom.and (Own.from (JM _ _ _) _) (OwnFrom.and (Own.from (JM _ _ _) _) (ownFrom_pure _ _))))
    (λc=>OwnFrom.and (ownFrom_pure _ _) (OwnFrom.and (Wl (by rw[hG];omega)) (OwnFrom.and (Own.from (JM _ _ _) _) (ownFrom_pure _ _)))) ⟨X,b2',pt,by simp,AZ _⟩
    (λx a' W=>a'={ tmps:=#[.string (Qb p),undef,.pointer (some ⟨G,0,none⟩),.pointer (some ⟨G+1,0,none⟩),.string (Qb (f x)),.string (Qb p),.bool true,.bool false,.bool false,.string (Qb p),.int .i64 (p.length:Int),.bool (decide ((200:Int)<(p.length:Int))),.bool (decide ((200:Int)<(p.length:Int))),.string (Qb p),.func (.func 111) #[] #[.pointer (some ⟨G+1+1,0,none⟩)],.string (Qb (f x)),undef,undef,undef,undef,undef,undef,undef],defers:=[] })
    (λx a' _ X Y row hs hg hr=>hs) ?assign ?body ?done ?stop
   case assign => rintro l pre x W K hi hK;gi_wp2;exact hK _ _ (Jf (Qf W)) (Vh.ext (Qf W)) hi rfl
   case body =>
    rintro l pre x a' W dL ⟨r,hr⟩ ⟨i1,i2,i3,i4,i5⟩ rfl hltN;have HD:=Qa (HMD.o x W);have vh:pre.length<=200:=by omega
    cases hm:YG (f x) with
    | true =>
     rw[hm]at HD
     gi_wp2_with (first
      | (refine⟨trivial,?_⟩;gi_at_call 110;refine(CallsIn.inRound l (Pp.2 HD.o)).mono ?_;rintro e W2 ⟨rfl,x2⟩;have j3:=i3.ext x2;have c3:W2.cell? ⟨G+1,0,none⟩=some (.int .i64 (pre.length:Int)):=j3.cell 0;have uv:=j3.frozen 0))
     refine⟨(Jf x2).trans ((KeepsOthers.setCell _ _ _).from _),(Vh.ext x2).set ⟨G+1,0,none⟩ (by show G+1+1≠G+1;omega) (by show G+1+1≠G+1;omega) _,(i1.trans x2).setCell (p:=⟨G+1,0,none⟩) (by show w.heap.size<=G+1;omega) _,(i2.ext x2).far (p:=⟨G+1,0,none⟩) (by show G≠G+1;omega) _,?_,?_,by simp;omega⟩
     ·rw[show((pre++[x]).length:Int)=(pre.length:Int)+1 by simp];exact j3.set 0 _
     ·intro y hy;rcases SN.1 hy with h|h
      ·exact i4 y h
      ·rw[SJ.1 h];exact hm
    | false =>
     rw[hm]at HD
     gi_wp2_with (first
      | (refine⟨trivial,?_⟩;gi_at_call 110;refine(CallsIn.inRound l (Pp.2 HD.o)).mono ?_;rintro e W2 ⟨rfl,x2⟩;have j2:=i2.ext x2;have c2:W2.cell? ⟨G,0,none⟩=some (.bool false):=j2.cell 0;have c2f:=j2.frozen 0))
     exact⟨(Jf x2).trans ((KeepsOthers.setCell _ _ _).from _),rfl,(i1.trans x2).setCell (p:=⟨G,0,none⟩) (by show w.heap.size<=G;omega) _,j2.set 0 _,x,by simp,hm⟩
   case done =>
    rintro D ys W hD rfl ⟨i1,i2,i3,i4,i5⟩ hK;rw[mO]at i3;have c3:W.cell? ⟨G+1,0,none⟩=some (.int .i64 (N:Int)):=i3.cell 0;have c2:W.cell? ⟨G,0,none⟩=some (.bool false):=i2.cell 0;have c2f:=i2.frozen 0;gi_wp2_with fail;have so:=Qa (show decide ((N:Int)<=8)=decide (N<=8) from decide_eq_decide.2 (by omega));have Ky:=(KeepsOthers.setCell W ⟨G,0,none⟩ (.bool (decide ((N:Int)<=8)))).same D _ hK rfl;have k2:=(i2.set 0 (.bool (decide ((N:Int)<=8)))).grown (grownBy_putObj' _ D (.deferred none)) (λe=>by injection e with e;omega);have nF:=k2.cell 0;go_wp2_with fail;refine⟨by simp,.inl ⟨_,_,rfl,run_takeDeferred Ky,?_⟩⟩;refine⟨.bool (decide ((N:Int)<=8)),?_,?_,(i1.setCell (p:=⟨G,0,none⟩) (by show w.heap.size<=G;omega) _).putObj (.deferred none) Ky (by omega)⟩
    ·simp at nF;simp[results,Tryz.results56,go_sem,nF]
    ·rw[vO.o,sC.o (λj hj=>i4 j (Pw.2 hj)),so.o];rfl
   case stop =>
    rintro D c pre W hD ⟨k,hk,rfl⟩ ⟨rfl,h1,h2,y,hy,hm⟩ hK;gi_wp2;have k2:=h2.grown (grownBy_putObj' _ D (.deferred none)) (λe=>by injection e with e;omega);have nF:=k2.cell 0;refine⟨by simp,.inl ⟨_,_,rfl,run_takeDeferred hK,?_⟩⟩;refine⟨.bool false,?_,?_,h1.putObj (.deferred none) hK (by omega)⟩
    ·simp at nF;simp[results,Tryz.results56,go_sem,nF]
    ·rw[vO.o,hNo.o y (by have:=Pw.1 hy;omega) hm];rfl
attribute [local go_sem] A9
theorem Ia {β γ:Type} (b:Nat) (t:TypeId) (g:γ->Array Value) (P:β->γ->Prop):Own (λ(s:β) W=>∃m,Box W b t (g m)/\P s m):=λs X Y row hs hg hr=>by
 obtain⟨m,hb,hm⟩:=hs;refine⟨m,Box.grown hb hg (λe=>?_),hm⟩;obtain⟨o,ho,hc⟩:=hr b e.symm;rw[show X.heap[b]? =_ from hb]at ho;cases ho;cases hc
theorem GJ (l:List (List UInt8)) (k:Nat) (h:k<=l.length):(List.range k).map (λy=>l.getD y [])=l.take k:=by
 apply List.ext_getElem
 ·simp;omega
 ·intro i h1 h2;simp only[List.getElem_map,List.getElem_range,List.getElem_take];rw[ZG,JZ (by simp at h1;omega)];rfl
end Go.Proofs.YtfaplefkakpgcaaGreatDoor
