import Derived.Test.YtfaplefkakpgcaaGreatDoorQa34
import Derived.Test.YtfaplefkakpgcaaGreatDoorQa15
set_option linter.unusedVariables false
set_option linter.unusedSimpArgs false
set_option maxHeartbeats 32000000
set_option maxRecDepth 100000
namespace Go.Proofs.YtfaplefkakpgcaaGreatDoor
open Go.Proofs.Tryz
open Go.RowKit
def Uy (l:List Int):List Value:=(List.range 65).map λi:Nat=>.bool (l.contains (i:Int))
theorem Zl (l:List Int):(Uy l).length=65:=by simp[Uy]
theorem TX (l:List Int) {i:Nat}(h:i<65):(Uy l)[i]? =some (.bool (l.contains (i:Int))):=by
 unfold Uy;rw[LZ,DA h];rfl
theorem Bg (l:List Int) {i:Nat}(h:i<65):(Uy l).set i (.bool true)=Uy (l++[(i:Int)]):=by
 apply go;intro j;rw[List.getElem?_set];by_cases hj:j<65
 ·rw[TX _ hj,TX _ hj];by_cases e:i=j
  ·subst e;rw[Qv rfl,Qv (by rw[Zl];exact h)];simp
  ·rw[Qr e];have:((l++[(i:Int)]).contains (j:Int))=l.contains (j:Int):=by
    simp;omega
   rw[this]
 ·have h1:(Uy l)[j]? =none:=Fl (by rw[Zl];omega);have h2:(Uy (l++[(i:Int)]))[j]? =none:=Fl (by rw[Zl];omega);rw[Qr (by omega),h1,h2]
def Yr (S:Value) (l:List Int) (u:Value):Array Value:=(S::(Uy l++[u])).toArray
theorem Pa (S:Value) (l:List Int) (u:Value) {i:Nat}(h:i<65):(Yr S l u)[1+i]? =some (.bool (l.contains (i:Int))):=by
 unfold Yr;rw[MY,show 1+i=i+1 by omega,gt,AW (by rw[Zl];omega),TX l h]
theorem LT (S:Value) (l:List Int) (u:Value):(Yr S l u)[66]? =some u:=by
 unfold Yr;rw[MY,show(66:Nat)=65+1 by omega,gt,fF (by rw[Zl];omega),Zl];rfl
theorem MM (S:Value) (l:List Int) (u:Value) {i:Nat}(h:i<65):(Yr S l u).setIfInBounds (1+i) (.bool true)=Yr S (l++[(i:Int)]) u:=by
 unfold Yr;rw[kA,show 1+i=i+1 by omega,mL,List.set_append,Qv (by rw[Zl];omega),Bg l h]
theorem AK (S:Value) (l:List Int) (u u':Value):(Yr S l u).setIfInBounds 66 u'=Yr S l u':=by
 unfold Yr;rw[kA,show(66:Nat)=65+1 by omega,mL,List.set_append,Qr (by rw[Zl];omega),Zl];rfl
def ZQ (B:Nat) (w:World) (g:Nat) (S:Value) (s:JL):Prop:=B<=g/\∃u,Box w g 98 (Yr S s.gone u)/\w.ownsRow B 9 1 u s.paths.length (Q5 s.paths)
theorem ZQ.ext {B:Nat}{w w':World}{g:Nat}{S:Value}{s:JL}(h:ZQ B w g S s) (x:Ext w w'):ZQ B w' g S s:=by
 obtain⟨hB,u,h1,h2⟩:=h;exact⟨hB,u,h1.ext x,Qe h2 x⟩
theorem aX (A:Option Addr) (n c:Nat) (v:List (List UInt8)) (I:Int) (k:Int) (g:Nat) (l:List Int) (u:Value) (w:World) (hv:Strs w A n v) (hg:Ji v I) (hb:Box w g 98 (Yr (.slice A n c) l u)) :
  Calls prog 108 #[.pointer (some ⟨g,0,none⟩),.int .i64 k] w λe w'=>e=.returned (.bool (VI v I k))/\Ext w w':=by
 have cv:w.cell? ⟨g,0,none⟩=some (.slice A n c):=hb.cell 0;by_cases h1:k<1\/I<k
 ·have HG:=Qa (λw h=>Tl A n c v I k w h hg h1);have HP:=Qa (show VI v I k=false by unfold VI;rw[XI (by omega)];rfl);have HV:=Qa hv;clear hb hv hg;go_enter func108,ntmps108
  go_wp2_with (first
   | (go_at_call 69;refine(HG.o _ HV.o).mono ?_;rintro e w1 ⟨rfl,x1⟩)
   | (refine QR (.tmp 5) (.tmp 14) rfl rfl w1.heap.size _ QE 121 rfl rfl (QA _ _ _) rfl rfl ?_;intro w2 b2 g2))
  go_ret;rw[HP.o];exact⟨rfl,(x1.alloc _).grown g2 (λk e=>by cases e;exact x1.size)⟩
 ·have HG:=Qa (λw h=>KA A n c v I k w h hg (by omega) (by omega));have hl:(QV v k).length=12:=rfl;have Ln:(Qj (QV v k))[0]? =some (.int .i64 ((QV v k).getD 0 0)):=rfl;have HP:=Qa (show VI v I k=decide ((QV v k).getD 0 0=2) by unfold VI;rw[Ve (by omega)];rfl);have HV:=Qa hv;clear hb hv hg h1;generalize (QV v k).getD 0 0=kd at *;generalize QV v k=x at *;go_enter func108,ntmps108
  go_wp2_with (first
   | (go_at_call 69;refine(HG.o _ HV.o).mono ?_;rintro e w1 ⟨rfl,x1⟩)
   | (refine QR (.tmp 5) (.tmp 14) rfl rfl w1.heap.size _ QE 121 rfl rfl (QA _ _ _) hl rfl ?_;intro w2 b2 g2;have c2:=(b2.cell 0).trans Ln))
  go_ret;rw[HP.o];exact⟨by congr 1,(x1.alloc _).grown g2 (λk e=>by cases e;exact x1.size)⟩
structure ex (W0:World) (A:Option Addr) (n c:Nat) (v:List (List UInt8)) (I:Int) (d:Nat) (f:JL->Int->List UInt8->JL):Prop where
 calls:∀(g:Nat) (s:JL) (k:Nat) (path:List UInt8) (w:World),(k:Int)∉s.gone->k<=64->Z1 s<=18200->path.length<=25*d->Ext W0 w->ZQ W0.heap.size w g (.slice A n c) s->
  Calls prog 55 #[.pointer (some ⟨g,0,none⟩),.int .i64 (k:Int),.string (Qb path),.int .i64 (d:Int)] w λe w'=>e=.returned (.tuple #[])/\ZQ W0.heap.size w' g (.slice A n c) (f s k path)/\Ext W0 w'/\Lib.OthersKept 9 (some g) w w'
 pot:∀s k p,k∉s.gone->0<=k->k<=64->Z1 (f s k p)<=Z1 s
theorem YH {t:TypeId}{g:Nat}{w w':World}(h:Ext w w'):Lib.OthersKept t (some g) w w':=λk o hk _ _ =>
 (Below.block h k (SK.1 hk).1).trans hk
theorem Ey {t:TypeId}{g B z n:Nat}{e:TypeId}{w w':World}{u:Value}{xs:List Value}(h:w.ownsRow B e z u n xs) (k:Lib.OthersKept t (some g) w w') (QY:u.ownBlock≠some g) (het:e≠t):w'.ownsRow B e z u n xs:=by
 refine⟨h.1,?_⟩;rcases h.2 with hc|⟨g1,cap,cur,rfl,hb,hh,r⟩
 ·exact .inl hc
 ·exact .inr ⟨g1,cap,cur,rfl,hb,k g1 _ hh (λe=>QY (by rw[←e];rfl)) (λc fz e=>het (by cases e;rfl)),r⟩
theorem Oq {w:World}{B z n:Nat}{e:TypeId}{u:Value}{xs:List Value}(h:w.ownsRow B e z u n xs):∀g,u.ownBlock=some g->∃c fz,w.heap[g]? =some (.cells c e fz):=by
 intro g hg;rcases h.2 with⟨rfl,_⟩|⟨g',cap,cur,rfl,_,hgg,_⟩
 ·simp[Value.ownBlock]at hg
 ·simp[Value.ownBlock]at hg;subst hg;exact⟨cur,_,hgg⟩
theorem mr (v:List (List UInt8)) (I:Int) (path:List UInt8) (kk:Option (JL->Int->List UInt8->JL)) (l:List XJ) (s:JL) (j:Nat) (h:j<l.length):(l.take (j+1)).foldl (Xe v I path kk) s=Xe v I path kk ((l.take j).foldl (Xe v I path kk) s) l[j]:=by
 rw[FL h,pj];rfl
theorem Pd (W0:World) (A:Option Addr) (n c:Nat) (v:List (List UInt8)) (I:Int) (hv:Strs W0 A n v) (hg:Ji v I) (kk:Option (JL->Int->List UInt8->JL)) (d:Nat) (hd:d<=7) (Y9:∀f,kk=some f->d+1<8/\ex W0 A n c v I (d+1) f) (Xn:kk=none->d=7)
  (g:Nat) (s:JL) (k:Nat) (path:List UInt8) (w:World) (hkg:(k:Int)∉s.gone) (hk64:k<=64) (hpot:Z1 s<=18200) (Uz:path.length<=25*d) (hx:Ext W0 w) (hw:ZQ W0.heap.size w g (.slice A n c) s) :
  Calls prog 55 #[.pointer (some ⟨g,0,none⟩),.int .i64 (k:Int),.string (Qb path),.int .i64 (d:Int)] w λe w'=>e=.returned (.tuple #[])/\ZQ W0.heap.size w' g (.slice A n c) ((QF v I k).1.foldl (Xe v I path kk) ⟨s.paths,s.gone++[(k:Int)]⟩)/\Ext W0 w'/\Lib.OthersKept 9 (some g) w w':=by
 have dC:I<=64:=(QM hg.plan).2.2.2.1;have Mi:=EI hkg (by omega) (by omega:(k:Int)<=64);have gc:=Qa (λl=>RE (v:=v) (I:=I) (path:=path) (k:=kk) (λf e s n p a b c=>(Y9 f e).2.pot s n p a b c) dC l ⟨s.paths,s.gone++[(k:Int)]⟩);have uA:=Qa (λl s j h=>mr v I path kk l s j h);have HL:=Qa (λw h=>P1 A n c v I k w h hg);have Bs:=Uc v I k;have Fx:=Qa (TO v I k);have HD:=Qa (λq g l u w h hb=>aX A n c v I q g l u w h hg hb);have qk:=Qa Y9;have ql:=Qa Xn;have HV:=Qa hv;have HX:=Qa hx;obtain⟨hB,u0,Ye,own0⟩:=hw;have ij:=Ye.lt;have ru:w.cell? ⟨g,0,none⟩=some (.slice A n c):=Ye.cell 0;have ck:w.cell? ⟨g,1+k,none⟩=some (.bool (s.gone.contains (k:Int))):=(Ye.cell (1+k)).trans (Pa _ _ _ (by omega));have fk:=Ye.frozen (1+k);have ZS:=Ye.set (1+k) (.bool true);rw[MM _ _ _ (by omega)]at ZS;have Zu:=VN (i:=1+k) own0 Ye (by decide) (.bool true);have x1:Ext W0 (w.setCell ⟨g,1+k,none⟩ (.bool true)):=hx.setCell hB _;have k1:Lib.OthersKept 9 (some g) w (w.setCell ⟨g,1+k,none⟩ (.bool true)):=(pa 9 (some g) w).setCell ⟨g,1+k,none⟩ rfl _;obtain⟨s1,BA⟩:∃s1:JL,s1=⟨s.paths,s.gone++[(k:Int)]⟩:=⟨_,rfl⟩
 have nD:ZQ W0.heap.size (w.setCell ⟨g,1+k,none⟩ (.bool true)) g (.slice A n c) s1:=by rw[BA];exact⟨hB,u0,ZS,Zu⟩
 have vp:Z1 s1+280<=18200:=by rw[BA];omega
 rw[←BA]at gc ⊢;have ux:(w.setCell ⟨g,1+k,none⟩ (.bool true)).cell? ⟨g,0,none⟩=some (.slice A n c):=ZS.cell 0;have jy:=Qa nD;have Cv:=Qa x1;have qo:=Qa k1;have Vf:(k:Int)<65:=by omega
 clear BA nD x1 Zu ZS own0 Ye Mi hkg hv hx hpot k1 Y9 Xn;generalize QF v I k=R at *;obtain⟨l,er⟩:=R;simp only at HL Bs Fx ⊢;go_enter func55,ntmps55;go_upto_region 1 with fail;generalize w.setCell ⟨g,1+k,none⟩ (.bool true)=w1 at *;have hgw1:W0.heap.size<=w1.heap.size:=Cv.o.size;clear ru ck fk;go_upto_region 3 with(go_at_call 107;refine(HL.o _ (HV.o.ext Cv.o)).mono ?_;rintro e w2 ⟨u,rfl,x2,Zh⟩;obtain⟨A2,cap2,rfl,st2⟩:=Zh.form)
 have et:=Qa Zh;have gh:=Qa x2;have HNe:=Qa (show(Value.slice A2 l.length cap2).ownBlock≠some g from by
  obtain⟨_,u1,ZS,_⟩:=jy.o;exact(Jz Zh (ZS.ext x2) (by decide)).symm)
 clear Zh x2 st2 ux;go_loopw [11,12,29] (λ_ _ t wx=>∃j:Nat,j<=l.length/\t=.int .i64 j/\ZQ W0.heap.size wx g (.slice A n c) ((l.take j).foldl (Xe v I path kk) s1)/\Ext W0 wx/\Lib.OthersKept 9 (some g) w2 wx) (λ_ _ t _=>l.length-(intOf t).toNat);case atStart=>exact⟨0,by omega,rfl,by simpa using jy.o.ext gh.o,Cv.o.trans gh.o,pa _ _ _⟩
 case round =>
  obtain⟨j,hj,rfl,hWj,xj,kj⟩:=hrel;have rL:=Qa hWj;have rM:=Qa xj;have qm:=Qa kj;clear hWj xj kj;by_cases Qo:j<l.length
  ·have HF:=Qa (uA.o l s1 j Qo);have hpj:=gc.o (l.take j);rw[WV,gz hj]at hpj;have kO:=Fx.o.1 _ (FM Qo);have WD:ZF wr w1.heap.size (.slice A2 l.length cap2) l:=Ey et.o qm.o HNe.o (by decide);obtain⟨A3,cap3,e3,st3⟩:=WD.form;injection e3 with e31 _ e33;subst e31 e33;obtain⟨b,o,rfl,Qd⟩:=st3.2 (by omega);have US:=(Qd j Qo).1;have Bj:=(Qd j Qo).2;clear Qd st3 WD uA gc;generalize l[j]=x at *;generalize (l.take j).foldl (Xe v I path kk) s1=sj at *;obtain⟨q,hq⟩:∃q:Nat,x.2=(q:Int):=⟨x.2.toNat,by omega⟩
   obtain⟨name,ino⟩:=x;simp only at US Bj kO hq;subst hq;have Sj:=Gp kO.1;have Sf:∀p:List UInt8,Qb p++⟨#[47]⟩=Qb (p++[47]):=λp=>VT p [47];have ig:=VT;have hz:=Qh;have tF:q<=64:=by omega
   have vq:(q:Int)<65:=by omega
   have bB:(path++47::name).length<=25*(d+1):=by simp;omega
   obtain⟨_,u,Ye,ownu⟩:=rL.o;have cu:wr.cell? ⟨g,66,none⟩=some u:=(Ye.cell 66).trans (LT _ _ _);clear kO;have Gd:(j:Int)<(l.length:Int):=by omega
   have yx:=QA wr 154 #[.string (Qb name),.int .i64 (q:Int)];have xa:Ext wr (wr.alloc (.cells #[.string (Qb name),.int .i64 (q:Int)] 154)):=(Qf wr).alloc _;have hxg:g≠wr.heap.size:=by have:=Ye.lt;omega
   have hW0r:W0.heap.size<=wr.heap.size:=rM.o.size;go_upto_region 5 with fail;generalize wr.alloc (.cells #[.string (Qb name),.int .i64 (q:Int)] 154)=wa at *;have cu2:=xa.keep cu;have cn:=yx.cell 0;have cq:=yx.cell 1;simp at cn cq;have wG:=AA wa (path++47::name);have Vw:=Qe ownu (xa.trans ((Qf wa).alloc (.cells #[.string (Qb (path++47::name))] 9)));have fT:=(Ye.ext xa).ext ((Qf wa).alloc (.cells #[.string (Qb (path++47::name))] 9));have tk:=yx.ext ((Qf wa).alloc (.cells #[.string (Qb (path++47::name))] 9));have nu:W0.heap.size<=(wa.alloc (.cells #[.string (Qb (path++47::name))] 9)).heap.size:=by have:=xa.size;simp;omega
   have k4:Lib.OthersKept 9 (some g) wr (wa.alloc (.cells #[.string (Qb (path++47::name))] 9)):=(YH xa).alloc _;have X4:Ext W0 (wa.alloc (.cells #[.string (Qb (path++47::name))] 9)):=(rM.o.trans xa).alloc _;have vn:sj.paths.length<=18200:=by have:sj.paths.length<=Z1 sj:=(by unfold Z1;omega);omega
   go_upto_region 7 with(at_builtin;refine Yb W0.heap.size rfl _ _ rfl rfl rfl Vw wG (by omega) nu (by omega) ?_;intro un w5 ownN g5;have iE:=fT.grown g5 (Jz Vw fT (by decide));have c66:w5.cell? ⟨g,66,none⟩=some u:=(iE.cell 66).trans (LT _ _ _);have f66:=iE.frozen 66;obtain⟨gn,cc,rfl,_,_⟩:=Strs.own' ownN (by omega))
   have vV:ZQ W0.heap.size (w5.setCell ⟨g,66,none⟩ (.slice (some ⟨gn,0,none⟩) (sj.paths.length+1) cc)) g (.slice A n c) ⟨sj.paths++[path++47::name],sj.gone⟩:=by
    refine⟨hB,.slice (some ⟨gn,0,none⟩) (sj.paths.length+1) cc,?_,?_⟩
    ·have e:=iE.set 66 (.slice (some ⟨gn,0,none⟩) (sj.paths.length+1) cc);rw[AK]at e;exact e
    ·have e:=VN (i:=66) ownN iE (by decide) (.slice (some ⟨gn,0,none⟩) (sj.paths.length+1) cc);rw[show(sj.paths++[path++47::name]).length=sj.paths.length+1 by simp];exact e
   have X6:Ext W0 (w5.setCell ⟨g,66,none⟩ (.slice (some ⟨gn,0,none⟩) (sj.paths.length+1) cc)):=(X4.grown g5 (λk e=>Jc Vw e)).setCell hB _;have K6:Lib.OthersKept 9 (some g) wr (w5.setCell ⟨g,66,none⟩ (.slice (some ⟨gn,0,none⟩) (sj.paths.length+1) cc)):=(k4.grown g5 (Oq Vw)).setCell ⟨g,66,none⟩ rfl _;have tl:Box (w5.setCell ⟨g,66,none⟩ (.slice (some ⟨gn,0,none⟩) (sj.paths.length+1) cc)) wr.heap.size 154 #[.string (Qb name),.int .i64 (q:Int)]:=(tk.grown g5 (Jz Vw tk (by decide))).setOther (Fq hxg) _;have lv:=Qa vV;have lx:=Qa X6;have pK:=Qa (qm.o.trans K6);have hp6:Z1 ⟨sj.paths++[path++47::name],sj.gone⟩<=18200:=by
    have:Z1 ⟨sj.paths++[path++47::name],sj.gone⟩=Z1 sj+1:=by unfold Z1;simp;omega
    omega
   clear vV X6 K6 c66 f66 iE ownN g5 X4 k4 nu tk fT Vw wG cn cq cu2 yx xa cu Ye ownu;generalize w5.setCell ⟨g,66,none⟩ (.slice (some ⟨gn,0,none⟩) (sj.paths.length+1) cc)=w6 at *;have bU:=Qa (show Xe v I path kk sj (name,(q:Int))=match kk with
    | none=>⟨sj.paths++[path++47::name],sj.gone⟩
    | some f=>if VI v I (q:Int)&&!sj.gone.contains (q:Int) then f ⟨sj.paths++[path++47::name],sj.gone⟩ (q:Int) (path++47::name) else ⟨sj.paths++[path++47::name],sj.gone⟩ from by unfold Xe;cases kk<;>rfl)
   have hwd:IntKind.i64.wrap ((d:Int)+1)=(d:Int)+1:=by rw[ZU];omega
   have hwd2:wrap64 ((d:Int)+1)=(d:Int)+1:=by unfold wrap64;omega
   have YX6:=Qa tl;have mn:∀y:Qg w6,y.now.cell? ⟨wr.heap.size,1,none⟩=some (.int .i64 (q:Int)):=λy=>y.ext.keep (tl.cell 1);obtain⟨_,u6,iF,_⟩:=lv.o;have kJ:∀y:Qg w6,y.now.cell? ⟨g,1+q,none⟩=some (.bool (sj.gone.contains (q:Int))):=λy=>y.ext.keep ((iF.cell (1+q)).trans (Pa _ _ _ (by omega)));have lA:=Qa (λy:Qg w6=>HD.o (q:Int) g sj.gone u6 y.now (HV.o.ext (lx.o.trans y.ext)) (iF.ext y.ext));clear HD HL iF tl ig Sf hz;cases kk with
   | none =>
    have vZ:=ql.o rfl;have hd8:decide ((d:Int)+1<8)=false:=by rw[vZ];rfl
    have Xt:=Qa bU.o;simp only at Xt;clear bU qk ql vZ kJ mn;refine Qp (by kernel_rfl) (by kernel_rfl) ?_;repeat (go_big_quiet_step (fail))
    refine Y7 ?_;rintro w7 ⟨y,rfl⟩;go_wp2_with fail;go_roundw;case rel=>exact⟨j+1,by omega,by go_num,by rw[HF.o,Xt.o];exact lv.o.ext y.ext,lx.o.trans y.ext,pK.o.trans (YH y.ext)⟩
    case measure=>simp[intOf];omega
   | some f =>
    obtain⟨hd8',hF⟩:=qk.o f rfl;have hd8:decide ((d:Int)+1<8)=true:=Ve (show(d:Int)+1<7+1 from Int.add_lt_add_right (Int.ofNat_lt.2 (Nat.lt_of_succ_lt_succ hd8')) 1);have HFk:=Qa hF;have Xt:=Qa bU.o;simp only at Xt;clear bU qk ql hF;cases hc:sj.gone.contains (q:Int) with
    | true =>
     rw[hc]at kJ Xt;simp only[Bool.not_true,Bool.and_false,Bool.false_eq_true,if_false]at Xt;clear hc lA;refine Qp (by kernel_rfl) (by kernel_rfl) ?_;repeat (go_big_quiet_step (fail))
     refine Y7 ?_;rintro w7 ⟨y,rfl⟩;clear kJ mn;go_wp2_with fail;go_roundw;case rel=>exact⟨j+1,by omega,by go_num,by rw[HF.o,Xt.o];exact lv.o.ext y.ext,lx.o.trans y.ext,pK.o.trans (YH y.ext)⟩
     case measure=>simp[intOf];omega
    | false =>
     rw[hc]at kJ Xt;simp only[Bool.not_false,Bool.and_true]at Xt;have hnc:(q:Int)∉sj.gone:=by simpa using hc
     cases hdq:VI v I (q:Int) with
     | false =>
      rw[hdq]at Xt lA;simp only[Bool.false_eq_true,if_false]at Xt;clear hc hdq;refine Qp (by kernel_rfl) (by kernel_rfl) ?_;repeat (go_big_quiet_step (exact Zg (lA.o _)))
      refine Y7 ?_;rintro w7 ⟨y,rfl⟩;clear kJ mn;go_wp2_with fail;go_roundw;case rel=>exact⟨j+1,by omega,by go_num,by rw[HF.o,Xt.o];exact lv.o.ext y.ext,lx.o.trans y.ext,pK.o.trans (YH y.ext)⟩
      case measure=>simp[intOf];omega
     | true =>
      rw[hdq]at Xt lA;simp only[if_true]at Xt;clear hc hdq;have HC:=Qa (λw h1 h2=>HFk.o.calls g ⟨sj.paths++[path++47::name],sj.gone⟩ q (path++47::name) w hnc tF hp6 (by have:=bB;simpa using this) h1 h2);rw[show((d+1:Nat):Int)=(d:Int)+1 by omega]at HC;refine Qp (by kernel_rfl) (by kernel_rfl) ?_;repeat (go_big_quiet_step (exact Zg (lA.o _)))
      refine Y7 ?_;rintro w7 ⟨y,rfl⟩;have cq7:=mn y;clear kJ mn;go_wp2_with (go_at_call 55;refine(HC.o _ (lx.o.trans y.ext) (lv.o.ext y.ext)).mono ?_;rintro e w8 ⟨rfl,hW8,x8,k8⟩)
      go_roundw;case rel=>exact⟨j+1,by omega,by go_num,by rw[HF.o,Xt.o];exact hW8,x8,(pK.o.trans (YH y.ext)).trans k8⟩
      case measure=>simp[intOf];omega
  ·obtain rfl:j=l.length:=by omega
   rw[L9]at rL;go_wp2_with fail;go_end0;exact⟨rfl,rL.o,rM.o,(qo.o.trans (YH gh.o)).trans qm.o⟩
theorem Dh (W0:World) (A:Option Addr) (n c:Nat) (v:List (List UInt8)) (I:Int) (hv:Strs W0 A n v) (hg:Ji v I) (r:Nat):∀d,r+d=7->ex W0 A n c v I d (Vp v I r):=by
 have dC:I<=64:=(QM hg.plan).2.2.2.1;induction r with
 | zero => intro d hd;refine⟨λg s k path w a1 a2 a3 a4 a5 a6=>?_,λs k p a b c=>RG dC 0 s k p a b c⟩;have:=Pd W0 A n c v I hv hg none d (by omega) (λf e=>by cases e) (λ_=>by omega) g s k path w a1 a2 a3 a4 a5 a6;exact this
 | succ r ih => intro d hd;refine⟨λg s k path w a1 a2 a3 a4 a5 a6=>?_,λs k p a b c=>RG dC (r+1) s k p a b c⟩;have:=Pd W0 A n c v I hv hg (some (Vp v I r)) d (by omega) (λf e=>by cases e;exact⟨by omega,ih (d+1) (by omega)⟩) (λe=>by cases e) g s k path w a1 a2 a3 a4 a5 a6;exact this
def Kd (v:List (List UInt8)):Option Int->List (List UInt8)
 | some I=>aT v I
 | none=>[]
theorem Fb:Tryz.zeroCells98=Yr (.slice none 0 0) [] (.slice none 0 0):=by kernel_rfl
theorem eU (A:Option Addr) (n c:Nat):(Tryz.zeroCells98).setIfInBounds 0 (.slice A n c)=Yr (.slice A n c) [] (.slice none 0 0):=by rw[Fb];rfl
theorem Wd (S:Value) (l:List Int) (u:Value):(Yr S l u).size=67:=by simp[Yr,Zl]
theorem aU:(prog.info? 98).map (·.size)=some 67:=by kernel_rfl
theorem aW (A:Option Addr) (n c:Nat):(Yr (.slice A n c) [] (.slice none 0 0)).all (·.oneCell')=true:=by
 unfold Yr Uy;simp[Value.oneCell']
theorem Di (W0:World) (A:Option Addr) (n c:Nat) (v:List (List UInt8)) (g:Nat) (s:JL) (w:World) (hv:Strs W0 A n v) (hn:n<=9223372036854775807) (sQ:∀I,¬Ji v I) (hx:Ext W0 w) (hw:ZQ W0.heap.size w g (.slice A n c) s) :
  Calls prog 55 #[.pointer (some ⟨g,0,none⟩),.int .i64 1,.string (Qb []),.int .i64 0] w λe w'=>e=.returned (.tuple #[])/\ZQ W0.heap.size w' g (.slice A n c) ⟨s.paths,s.gone++[1]⟩/\Ext W0 w':=by
 have HL:=Qa (λk w h=>TP A n c v k w h hn sQ);have HV:=Qa hv;have HX:=Qa hx;obtain⟨hB,u0,Ye,own0⟩:=hw;have ij:=Ye.lt;have ru:w.cell? ⟨g,0,none⟩=some (.slice A n c):=Ye.cell 0;have ck:w.cell? ⟨g,2,none⟩=some (.bool (s.gone.contains 1)):=(Ye.cell (1+1)).trans (Pa _ _ _ (by omega));have fk:=Ye.frozen 2;have ZS:=Ye.set (1+1) (.bool true);rw[MM _ _ _ (by omega)]at ZS;have Zu:=VN (i:=1+1) own0 Ye (by decide) (.bool true);have x1:Ext W0 (w.setCell ⟨g,2,none⟩ (.bool true)):=hx.setCell hB _;have nD:ZQ W0.heap.size (w.setCell ⟨g,2,none⟩ (.bool true)) g (.slice A n c) ⟨s.paths,s.gone++[1]⟩:=⟨hB,u0,ZS,Zu⟩
 have ux:(w.setCell ⟨g,2,none⟩ (.bool true)).cell? ⟨g,0,none⟩=some (.slice A n c):=ZS.cell 0;have jy:=Qa nD;have Cv:=Qa x1;clear nD x1 Zu ZS own0 Ye hv hx;go_enter func55,ntmps55;go_upto_region 1 with fail;generalize w.setCell ⟨g,2,none⟩ (.bool true)=w1 at *;clear ru ck fk;go_wp2_with (go_at_call 107;refine(HL.o 1 _ (HV.o.ext Cv.o)).mono ?_;rintro e w2 ⟨rfl,x2⟩)
 go_loopw [11,12,29] (λ_ _ t wx=>t=.int .i64 0/\w2=wx) (λ_ _ _ _=>0);case atStart=>exact⟨rfl,rfl⟩
 case round => obtain⟨rfl,rfl⟩:=hrel;go_wp2_with fail;go_end0;exact⟨rfl,jy.o.ext x2,Cv.o.trans x2⟩
theorem aV (A:Option Addr) (n c:Nat) (v:List (List UInt8)) (I:Option Int) (w:World) (hv:Strs w A n v) (hn:n<=9223372036854775807) (hg:Wf v I) :
  Calls prog 22 #[.slice A n c] w λe w'=>∃u,e=.returned u/\Ext w w'/\w'.ownsRow w.heap.size 9 1 u (Kd v I).length (Q5 (Kd v I)):=by
 have HE:Zv (∀W g,Ext w W->ZQ w.heap.size W g (.slice A n c) ⟨[],[]⟩->Calls prog 55 #[.pointer (some ⟨g,0,none⟩),.int .i64 1,.string (Qb []),.int .i64 0] W λe w'=>e=.returned (.tuple #[])/\(∃gn,ZQ w.heap.size w' g (.slice A n c) ⟨Kd v I,gn⟩)/\Ext w w'):=Qa (λW g hx hW=>by
  cases I with
  | none => refine(Di w A n c v g ⟨[],[]⟩ W hv hn hg hx hW).mono ?_;rintro e w' ⟨rfl,h,x⟩;exact⟨rfl,⟨_,h⟩,x⟩
  | some I =>
   have:=(Dh w A n c v I hv hg 7 0 rfl).calls g ⟨[],[]⟩ 1 [] W (by simp) (by omega) (gx Ce) (by simp) hx hW;refine this.mono ?_;rintro e w' ⟨rfl,h,x,_⟩;exact⟨rfl,⟨_,h⟩,x⟩)
 have x0:Ext w (w.alloc (.cells Tryz.zeroCells98 98)):=(Qf w).alloc _;clear hv hg;generalize Kd v I=P at *;go_enter func22,ntmps22;go_upto_region 2 with(refine Yv 98 (.tmp 3) (.tmp 5) rfl rfl w.heap.size (Yr (.slice A n c) [] (.slice none 0 0)) _ 98 rfl (congrArg Value.agg (eU A n c)) (QA _ _ _) (by rw[Wd];exact aU) (by rw[Fb,Wd,Wd]) (aW A n c) ?_;intro w2 b2 g2)
 have X2:=Qa (x0.grown g2 (λj e=>by cases e;exact QW _));have vU:ZQ w.heap.size w2 w.heap.size (.slice A n c) ⟨[],[]⟩:=⟨QW _,_,b2,ap _ _ _ _⟩
 have HC:=Qa (HE.o w2 w.heap.size X2.o vU);clear vU HE g2 b2 x0;go_upto_region 3 with(go_at_call 55;refine HC.o.mono ?_;rintro e w3 ⟨rfl,⟨gn,hW3⟩,x3⟩)
 obtain⟨_,u,bx,own⟩:=hW3;have cu:w3.cell? ⟨w.heap.size,66,none⟩=some u:=(bx.cell 66).trans (LT _ _ _);have HO:=Qa own;clear own bx;go_wp2_with fail;go_ret;exact⟨_,rfl,x3,HO.o⟩
theorem RU {v:List (List UInt8)}{I:Int}{path:List UInt8}{B:Nat}{k:Option (JL->Int->List UInt8->JL)}(hp:path.length+25<=B)
  (hk:∀f,k=some f->∀s n p,p.length<=path.length+25->(∀q∈s.paths,q.length<=B)->∀q∈(f s n p).paths,q.length<=B) :
  ∀(l:List XJ) (s:JL),(∀x∈l,x.1.length<=24)->(∀q∈s.paths,q.length<=B)->∀q∈(l.foldl (Xe v I path k) s).paths,q.length<=B:=by
 intro l;induction l with
 | nil=>intro s _ hs;exact hs
 | cons x l ih =>
  intro s hx hs;rw[List.foldl_cons];refine ih _ (λy hy=>hx y (LX _ hy)) ?_;have h1:=hx x LY;have h2:(path++47::x.1).length<=path.length+25:=by simp;omega
  have h3:∀q∈s.paths++[path++47::x.1],q.length<=B:=λq hq=>by
   rcases SN.1 hq with h|h
   ·exact hs q h
   ·rw[SJ.1 h];omega
  unfold Xe;cases k with
  | none=>exact h3
  | some f =>
   simp only;split
   ·exact hk f rfl _ _ _ h2 h3
   ·exact h3
theorem ND (v:List (List UInt8)) (I k:Int):∀x∈(QF v I k).1,x.1.length<=24:=by
 intro x hx;by_cases h:(QF v I k).2=0
 ·have h2:=(TQ h).2.2.2;exact(Gp ((Kt h2).1.1 x hx).1).2
 ·unfold QF at h hx;split at hx
  ·cases hx
  ·rename_i c;rw[Qr c]at h;split at hx
   ·cases hx
   ·rename_i c2;rw[Qr c2]at h;split at hx
    ·cases hx
    ·rename_i l e;rw[e]at h;exact absurd rfl h
theorem RV (v:List (List UInt8)) (I:Int) (B:Nat):∀(r:Nat) (s:JL) (n:Int) (path:List UInt8),path.length+25*(r+1)<=B->(∀q∈s.paths,q.length<=B)->∀q∈(Vp v I r s n path).paths,q.length<=B
 | 0,s,n,path,hb,hs=>by unfold Vp;exact RU (by omega) (λf e=>by cases e) _ _ (ND v I n) hs
 | r+1,s,n,path,hb,hs=>by unfold Vp;refine RU (by omega) (λf e=>?_) _ _ (ND v I n) hs;injection e with e;subst e;intro s n p hp hs;exact RV v I B r s n p (by omega) hs
theorem NU (v:List (List UInt8)) (I:Option Int):∀p∈Kd v I,p.length<=200:=by
 cases I with
 | none=>intro p hp;cases hp
 | some I=>exact RV v I 200 7 ⟨[],[]⟩ 1 [] (by simp) (λq hq=>by cases hq)
end Go.Proofs.YtfaplefkakpgcaaGreatDoor
