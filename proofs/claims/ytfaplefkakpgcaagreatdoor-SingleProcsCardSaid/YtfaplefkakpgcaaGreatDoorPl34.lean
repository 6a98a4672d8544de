import Derived.Test.YtfaplefkakpgcaaGreatDoorPl32
import Derived.Test.YtfaplefkakpgcaaGreatDoorPl16
set_option linter.unusedVariables false
set_option linter.unusedSimpArgs false
set_option maxHeartbeats 32000000
set_option maxRecDepth 100000
namespace Go.Proofs.YtfaplefkakpgcaaGreatDoor
open Go.Proofs.Tryz
open Go.RowKit
def NC (l:List Int):List Value:=(List.range 65).map λi:Nat=>.bool (l.contains (i:Int))
theorem Yv (l:List Int):(NC l).length=65:=by simp[NC]
theorem Lh (l:List Int) {i:Nat}(h:i<65):(NC l)[i]? =some (.bool (l.contains (i:Int))):=by
 unfold NC;rw[fo,mS h];rfl
theorem cr (l:List Int) {i:Nat}(h:i<65):(NC l).set i (.bool true)=NC (l++[(i:Int)]):=by
 apply zX;intro j;rw[List.getElem?_set];by_cases hj:j<65
 ·rw[Lh _ hj,Lh _ hj];by_cases e:i=j
  ·subst e;rw[QN rfl,QN (by rw[Yv];exact h)];simp
  ·rw[QD e];have:((l++[(i:Int)]).contains (j:Int))=l.contains (j:Int):=by
    simp;omega
   rw[this]
 ·have h1:(NC l)[j]? =none:=mQ (by rw[Yv];omega);have h2:(NC (l++[(i:Int)]))[j]? =none:=mQ (by rw[Yv];omega);rw[QD (by omega),h1,h2]
def Xx (S:Value) (l:List Int) (u:Value):Array Value:=(S::(NC l++[u])).toArray
theorem Gc (S:Value) (l:List Int) (u:Value) {i:Nat}(h:i<65):(Xx S l u)[1+i]? =some (.bool (l.contains (i:Int))):=by
 unfold Xx;rw[MR,show 1+i=i+1 by omega,so,iM (by rw[Yv];omega),Lh l h]
theorem DM (S:Value) (l:List Int) (u:Value):(Xx S l u)[66]? =some u:=by
 unfold Xx;rw[MR,show(66:Nat)=65+1 by omega,so,Wdt (by rw[Yv];omega),Yv];rfl
theorem EC (S:Value) (l:List Int) (u:Value) {i:Nat}(h:i<65):(Xx S l u).setIfInBounds (1+i) (.bool true)=Xx S (l++[(i:Int)]) u:=by
 unfold Xx;rw[vg,show 1+i=i+1 by omega,Wed,List.set_append,QN (by rw[Yv];omega),cr l h]
theorem fT (S:Value) (l:List Int) (u u':Value):(Xx S l u).setIfInBounds 66 u'=Xx S l u':=by
 unfold Xx;rw[vg,show(66:Nat)=65+1 by omega,Wed,List.set_append,QD (by rw[Yv];omega),Yv];rfl
def YV (B:Nat) (w:World) (g:Nat) (S:Value) (s:Jr):Prop:=B<=g/\∃u,Box w g 98 (Xx S s.gone u)/\w.ownsRow B 9 1 u s.paths.length (Q5 s.paths)
theorem YV.ext {B:Nat}{w w':World}{g:Nat}{S:Value}{s:Jr}(h:YV B w g S s) (x:Ext w w'):YV B w' g S s:=by
 obtain⟨hB,u,h1,h2⟩:=h;exact⟨hB,u,h1.ext x,Qc h2 x⟩
theorem lw (A:Option Addr) (n c:Nat) (v:List (List UInt8)) (I:Int) (k:Int) (g:Nat) (l:List Int) (u:Value) (w:World) (hv:Strs w A n v) (hg:Ji v I) (hb:Box w g 98 (Xx (.slice A n c) l u)) :
  Calls prog 108 #[.pointer (some ⟨g,0,none⟩),.int .i64 k] w λe w'=>e=.returned (.bool (YH v I k))/\Ext w w':=by
 have cv:w.cell? ⟨g,0,none⟩=some (.slice A n c):=hb.cell 0;by_cases h1:k<1\/I<k
 ·have HG:=Qa (λw h=>Db A n c v I k w h hg h1);have HP:=Qa (show YH v I k=false by unfold YH;rw[XI (by omega)];rfl);have HV:=Qa hv;clear hb hv hg;go_enter func108,ntmps108
  go_wp2_with (first
   | (go_at_call 69;refine(HG.o _ HV.o).mono ?_;rintro e w1 ⟨rfl,x1⟩)
   | (refine QR (.tmp 5) (.tmp 14) rfl rfl w1.heap.size _ Qy 121 rfl rfl (Qs _ _ _) rfl rfl ?_;intro w2 b2 g2))
  go_ret;rw[HP.o];exact⟨rfl,(x1.alloc _).grown g2 (λk e=>by cases e;exact x1.size)⟩
 ·have HG:=Qa (λw h=>TJ A n c v I k w h hg (by omega) (by omega));have hl:(QI v k).length=12:=rfl;have Ls:(Qj (QI v k))[0]? =some (.int .i64 ((QI v k).getD 0 0)):=rfl;have HP:=Qa (show YH v I k=decide ((QI v k).getD 0 0=2) by unfold YH;rw[Xd (by omega)];rfl);have HV:=Qa hv;clear hb hv hg h1;generalize (QI v k).getD 0 0=kd at *;generalize QI v k=x at *;go_enter func108,ntmps108
  go_wp2_with (first
   | (go_at_call 69;refine(HG.o _ HV.o).mono ?_;rintro e w1 ⟨rfl,x1⟩)
   | (refine QR (.tmp 5) (.tmp 14) rfl rfl w1.heap.size _ Qy 121 rfl rfl (Qs _ _ _) hl rfl ?_;intro w2 b2 g2;have c2:=(b2.cell 0).trans Ls))
  go_ret;rw[HP.o];exact⟨by congr 1,(x1.alloc _).grown g2 (λk e=>by cases e;exact x1.size)⟩
structure qi (W0:World) (A:Option Addr) (n c:Nat) (v:List (List UInt8)) (I:Int) (d:Nat) (f:Jr->Int->List UInt8->Jr):Prop where
 calls:∀(g:Nat) (s:Jr) (k:Nat) (path:List UInt8) (w:World),(k:Int)∉s.gone->k<=64->Yl s<=18200->path.length<=25*d->Ext W0 w->YV W0.heap.size w g (.slice A n c) s->
  Calls prog 55 #[.pointer (some ⟨g,0,none⟩),.int .i64 (k:Int),.string (Qb path),.int .i64 (d:Int)] w λe w'=>e=.returned (.tuple #[])/\YV W0.heap.size w' g (.slice A n c) (f s k path)/\Ext W0 w'/\Lib.OthersKept 9 (some g) w w'
 pot:∀s k p,k∉s.gone->0<=k->k<=64->Yl (f s k p)<=Yl s
theorem XZ {t:TypeId}{g:Nat}{w w':World}(h:Ext w w'):Lib.OthersKept t (some g) w w':=λk o hk _ _ =>
 (Below.block h k (Fa.1 hk).1).trans hk
theorem Ih {t:TypeId}{g B z n:Nat}{e:TypeId}{w w':World}{u:Value}{xs:List Value}(h:w.ownsRow B e z u n xs) (k:Lib.OthersKept t (some g) w w') (Jt:u.ownBlock≠some g) (het:e≠t):w'.ownsRow B e z u n xs:=by
 refine⟨h.1,?_⟩;rcases h.2 with hc|⟨g1,cap,cur,rfl,hb,hh,r⟩
 ·exact .inl hc
 ·exact .inr ⟨g1,cap,cur,rfl,hb,k g1 _ hh (λe=>Jt (by rw[←e];rfl)) (λc fz e=>het (by cases e;rfl)),r⟩
theorem Wy {w:World}{B z n:Nat}{e:TypeId}{u:Value}{xs:List Value}(h:w.ownsRow B e z u n xs):∀g,u.ownBlock=some g->∃c fz,w.heap[g]? =some (.cells c e fz):=by
 intro g hg;rcases h.2 with⟨rfl,_⟩|⟨g',cap,cur,rfl,_,hgg,_⟩
 ·simp[Value.ownBlock]at hg
 ·simp[Value.ownBlock]at hg;subst hg;exact⟨cur,_,hgg⟩
theorem rH (v:List (List UInt8)) (I:Int) (path:List UInt8) (kk:Option (Jr->Int->List UInt8->Jr)) (l:List Ve) (s:Jr) (j:Nat) (h:j<l.length):(l.take (j+1)).foldl (Z9 v I path kk) s=Z9 v I path kk ((l.take j).foldl (Z9 v I path kk) s) l[j]:=by
 rw[Gp h,zW];rfl
theorem Gd (W0:World) (A:Option Addr) (n c:Nat) (v:List (List UInt8)) (I:Int) (hv:Strs W0 A n v) (hg:Ji v I) (kk:Option (Jr->Int->List UInt8->Jr)) (d:Nat) (hd:d<=7) (Vz:∀f,kk=some f->d+1<8/\qi W0 A n c v I (d+1) f) (KN:kk=none->d=7)
  (g:Nat) (s:Jr) (k:Nat) (path:List UInt8) (w:World) (hkg:(k:Int)∉s.gone) (hk64:k<=64) (hpot:Yl s<=18200) (XS:path.length<=25*d) (hx:Ext W0 w) (hw:YV W0.heap.size w g (.slice A n c) s) :
  Calls prog 55 #[.pointer (some ⟨g,0,none⟩),.int .i64 (k:Int),.string (Qb path),.int .i64 (d:Int)] w λe w'=>e=.returned (.tuple #[])/\YV W0.heap.size w' g (.slice A n c) ((QV v I k).1.foldl (Z9 v I path kk) ⟨s.paths,s.gone++[(k:Int)]⟩)/\Ext W0 w'/\Lib.OthersKept 9 (some g) w w':=by
 have P7:I<=64:=(Jg hg.plan).2.2.2.1;have RL:=Du hkg (by omega) (by omega:(k:Int)<=64);have AM:=Qa (λl=>T5 (v:=v) (I:=I) (path:=path) (k:=kk) (λf e s n p a b c=>(Vz f e).2.pot s n p a b c) P7 l ⟨s.paths,s.gone++[(k:Int)]⟩);have xh:=Qa (λl s j h=>rH v I path kk l s j h);have HL:=Qa (λw h=>Fq A n c v I k w h hg);have RJ:=VW v I k;have Nt:=Qa (V6 v I k);have HD:=Qa (λq g l u w h hb=>lw A n c v I q g l u w h hg hb);have mK:=Qa Vz;have Tr:=Qa KN;have HV:=Qa hv;have HX:=Qa hx;obtain⟨hB,u0,hbx,N5⟩:=hw;have ot:=hbx.lt;have cv0:w.cell? ⟨g,0,none⟩=some (.slice A n c):=hbx.cell 0;have ck:w.cell? ⟨g,1+k,none⟩=some (.bool (s.gone.contains (k:Int))):=(hbx.cell (1+k)).trans (Gc _ _ _ (by omega));have fk:=hbx.frozen (1+k);have Vy:=hbx.set (1+k) (.bool true);rw[EC _ _ _ (by omega)]at Vy;have Z2:=YJ (i:=1+k) N5 hbx (by decide) (.bool true);have x1:Ext W0 (w.setCell ⟨g,1+k,none⟩ (.bool true)):=hx.setCell hB _;have k1:Lib.OthersKept 9 (some g) w (w.setCell ⟨g,1+k,none⟩ (.bool true)):=(Wet 9 (some g) w).setCell ⟨g,1+k,none⟩ rfl _;obtain⟨s1,hs1⟩:∃s1:Jr,s1=⟨s.paths,s.gone++[(k:Int)]⟩:=⟨_,rfl⟩
 have hW1:YV W0.heap.size (w.setCell ⟨g,1+k,none⟩ (.bool true)) g (.slice A n c) s1:=by rw[hs1];exact⟨hB,u0,Vy,Z2⟩
 have wU:Yl s1+280<=18200:=by rw[hs1];omega
 rw[←hs1]at AM ⊢;have cv1:(w.setCell ⟨g,1+k,none⟩ (.bool true)).cell? ⟨g,0,none⟩=some (.slice A n c):=Vy.cell 0;have mP:=Qa hW1;have WN:=Qa x1;have Qhp:=Qa k1;have Y6:(k:Int)<65:=by omega
 clear hs1 hW1 x1 Z2 Vy N5 hbx RL hkg hv hx hpot k1 Vz KN;generalize QV v I k=R at *;obtain⟨l,er⟩:=R;simp only at HL RJ Nt ⊢;go_enter func55,ntmps55;go_upto_region 1 with fail;generalize w.setCell ⟨g,1+k,none⟩ (.bool true)=w1 at *;have hgw1:W0.heap.size<=w1.heap.size:=WN.o.size;clear cv0 ck fk;go_upto_region 3 with(go_at_call 107;refine(HL.o _ (HV.o.ext WN.o)).mono ?_;rintro e w2 ⟨u,rfl,x2,JP⟩;obtain⟨A2,cap2,rfl,st2⟩:=JP.form)
 have go:=Qa JP;have Gx:=Qa x2;have HNe:=Qa (show(Value.slice A2 l.length cap2).ownBlock≠some g from by
  obtain⟨_,u1,Vy,_⟩:=mP.o;exact(QX JP (Vy.ext x2) (by decide)).symm)
 clear JP x2 st2 cv1;go_loopw [11,12,29] (λ_ _ t wx=>∃j:Nat,j<=l.length/\t=.int .i64 j/\YV W0.heap.size wx g (.slice A n c) ((l.take j).foldl (Z9 v I path kk) s1)/\Ext W0 wx/\Lib.OthersKept 9 (some g) w2 wx) (λ_ _ t _=>l.length-(intOf t).toNat);case atStart=>exact⟨0,by omega,rfl,by simpa using mP.o.ext Gx.o,WN.o.trans Gx.o,Wet _ _ _⟩
 case round =>
  obtain⟨j,hj,rfl,hWj,xj,kj⟩:=hrel;have bH:=Qa hWj;have sX:=Qa xj;have nI:=Qa kj;clear hWj xj kj;by_cases Qn:j<l.length
  ·have HF:=Qa (xh.o l s1 j Qn);have hpj:=AM.o (l.take j);rw[MT,vu hj]at hpj;have mf:=Nt.o.1 _ (NT Qn);have Ke:Zu wr w1.heap.size (.slice A2 l.length cap2) l:=Ih go.o nI.o HNe.o (by decide);obtain⟨A3,cap3,e3,st3⟩:=Ke.form;injection e3 with e31 _ e33;subst e31 e33;obtain⟨b,o,rfl,Qf⟩:=st3.2 (by omega);have UB:=(Qf j Qn).1;have Lk:=(Qf j Qn).2;clear Qf st3 Ke xh AM;generalize l[j]=x at *;generalize (l.take j).foldl (Z9 v I path kk) s1=sj at *;obtain⟨q,hq⟩:∃q:Nat,x.2=(q:Int):=⟨x.2.toNat,by omega⟩
   obtain⟨name,ino⟩:=x;simp only at UB Lk mf hq;subst hq;have Lo:=TV mf.1;have CH:∀p:List UInt8,Qb p++⟨#[47]⟩=Qb (p++[47]):=λp=>JR p [47];have Lj:=JR;have hz:=Qh;have uH:q<=64:=by omega
   have hqi:(q:Int)<65:=by omega
   have CP:(path++47::name).length<=25*(d+1):=by simp;omega
   obtain⟨_,u,hbx,ownu⟩:=bH.o;have cu:wr.cell? ⟨g,66,none⟩=some u:=(hbx.cell 66).trans (DM _ _ _);clear mf;have Kp:(j:Int)<(l.length:Int):=by omega
   have yx:=Qs wr 154 #[.string (Qb name),.int .i64 (q:Int)];have xa:Ext wr (wr.alloc (.cells #[.string (Qb name),.int .i64 (q:Int)] 154)):=(Qg wr).alloc _;have hxg:g≠wr.heap.size:=by have:=hbx.lt;omega
   have Qj3:W0.heap.size<=wr.heap.size:=sX.o.size;go_upto_region 5 with fail;generalize wr.alloc (.cells #[.string (Qb name),.int .i64 (q:Int)] 154)=wa at *;have cu2:=xa.keep cu;have cn:=yx.cell 0;have cq:=yx.cell 1;simp at cn cq;have st4:=Nj wa (path++47::name);have Yr:=Qc ownu (xa.trans ((Qg wa).alloc (.cells #[.string (Qb (path++47::name))] 9)));have Cn:=(hbx.ext xa).ext ((Qg wa).alloc (.cells #[.string (Qb (path++47::name))] 9));have yx4:=yx.ext ((Qg wa).alloc (.cells #[.string (Qb (path++47::name))] 9));have CR:W0.heap.size<=(wa.alloc (.cells #[.string (Qb (path++47::name))] 9)).heap.size:=by have:=xa.size;simp;omega
   have k4:Lib.OthersKept 9 (some g) wr (wa.alloc (.cells #[.string (Qb (path++47::name))] 9)):=(XZ xa).alloc _;have X4:Ext W0 (wa.alloc (.cells #[.string (Qb (path++47::name))] 9)):=(sX.o.trans xa).alloc _;have hpp:sj.paths.length<=18200:=by have:sj.paths.length<=Yl sj:=(by unfold Yl;omega);omega
   go_upto_region 7 with(at_builtin;refine Jy W0.heap.size rfl _ _ rfl rfl rfl Yr st4 (by omega) CR (by omega) ?_;intro un w5 ownN g5;have nx:=Cn.grown g5 (QX Yr Cn (by decide));have c66:w5.cell? ⟨g,66,none⟩=some u:=(nx.cell 66).trans (DM _ _ _);have f66:=nx.frozen 66;obtain⟨gn,cc,rfl,_,_⟩:=Strs.own' ownN (by omega))
   have hW6:YV W0.heap.size (w5.setCell ⟨g,66,none⟩ (.slice (some ⟨gn,0,none⟩) (sj.paths.length+1) cc)) g (.slice A n c) ⟨sj.paths++[path++47::name],sj.gone⟩:=by
    refine⟨hB,.slice (some ⟨gn,0,none⟩) (sj.paths.length+1) cc,?_,?_⟩
    ·have e:=nx.set 66 (.slice (some ⟨gn,0,none⟩) (sj.paths.length+1) cc);rw[fT]at e;exact e
    ·have e:=YJ (i:=66) ownN nx (by decide) (.slice (some ⟨gn,0,none⟩) (sj.paths.length+1) cc);rw[show(sj.paths++[path++47::name]).length=sj.paths.length+1 by simp];exact e
   have X6:Ext W0 (w5.setCell ⟨g,66,none⟩ (.slice (some ⟨gn,0,none⟩) (sj.paths.length+1) cc)):=(X4.grown g5 (λk e=>QU Yr e)).setCell hB _;have K6:Lib.OthersKept 9 (some g) wr (w5.setCell ⟨g,66,none⟩ (.slice (some ⟨gn,0,none⟩) (sj.paths.length+1) cc)):=(k4.grown g5 (Wy Yr)).setCell ⟨g,66,none⟩ rfl _;have yx6:Box (w5.setCell ⟨g,66,none⟩ (.slice (some ⟨gn,0,none⟩) (sj.paths.length+1) cc)) wr.heap.size 154 #[.string (Qb name),.int .i64 (q:Int)]:=(yx4.grown g5 (QX Yr yx4 (by decide))).setOther (AX hxg) _;have AO:=Qa hW6;have Av:=Qa X6;have ay:=Qa (nI.o.trans K6);have hp6:Yl ⟨sj.paths++[path++47::name],sj.gone⟩<=18200:=by
    have:Yl ⟨sj.paths++[path++47::name],sj.gone⟩=Yl sj+1:=by unfold Yl;simp;omega
    omega
   clear hW6 X6 K6 c66 f66 nx ownN g5 X4 k4 CR yx4 Cn Yr st4 cn cq cu2 yx xa cu hbx ownu;generalize w5.setCell ⟨g,66,none⟩ (.slice (some ⟨gn,0,none⟩) (sj.paths.length+1) cc)=w6 at *;have P0:=Qa (show Z9 v I path kk sj (name,(q:Int))=match kk with
    | none=>⟨sj.paths++[path++47::name],sj.gone⟩
    | some f=>if YH v I (q:Int)&&!sj.gone.contains (q:Int) then f ⟨sj.paths++[path++47::name],sj.gone⟩ (q:Int) (path++47::name) else ⟨sj.paths++[path++47::name],sj.gone⟩ from by unfold Z9;cases kk<;>rfl)
   have hwd:IntKind.i64.wrap ((d:Int)+1)=(d:Int)+1:=by rw[Wb];omega
   have hwd2:wrap64 ((d:Int)+1)=(d:Int)+1:=by unfold wrap64;omega
   have YX6:=Qa yx6;have cq6:∀y:Qt w6,y.now.cell? ⟨wr.heap.size,1,none⟩=some (.int .i64 (q:Int)):=λy=>y.ext.keep (yx6.cell 1);obtain⟨_,u6,tS,_⟩:=AO.o;have wJ:∀y:Qt w6,y.now.cell? ⟨g,1+q,none⟩=some (.bool (sj.gone.contains (q:Int))):=λy=>y.ext.keep ((tS.cell (1+q)).trans (Gc _ _ _ (by omega)));have xN:=Qa (λy:Qt w6=>HD.o (q:Int) g sj.gone u6 y.now (HV.o.ext (Av.o.trans y.ext)) (tS.ext y.ext));clear HD HL tS yx6 Lj CH hz;cases kk with
   | none =>
    have hd7:=Tr.o rfl;have hd8:decide ((d:Int)+1<8)=false:=by rw[hd7];rfl
    have Xc:=Qa P0.o;simp only at Xc;clear P0 mK Tr hd7 wJ cq6;refine Qk (by kernel_rfl) (by kernel_rfl) ?_;repeat (go_big_quiet_step (fail))
    refine VI ?_;rintro w7 ⟨y,rfl⟩;go_wp2_with fail;go_roundw;case rel=>exact⟨j+1,by omega,by go_num,by rw[HF.o,Xc.o];exact AO.o.ext y.ext,Av.o.trans y.ext,ay.o.trans (XZ y.ext)⟩
    case measure=>simp[intOf];omega
   | some f =>
    obtain⟨hd8',hF⟩:=mK.o f rfl;have hd8:decide ((d:Int)+1<8)=true:=Xd (show(d:Int)+1<7+1 from Int.add_lt_add_right (Int.ofNat_lt.2 (Nat.lt_of_succ_lt_succ hd8')) 1);have vL:=Qa hF;have Xc:=Qa P0.o;simp only at Xc;clear P0 mK Tr hF;cases hc:sj.gone.contains (q:Int) with
    | true =>
     rw[hc]at wJ Xc;simp only[Bool.not_true,Bool.and_false,Bool.false_eq_true,if_false]at Xc;clear hc xN;refine Qk (by kernel_rfl) (by kernel_rfl) ?_;repeat (go_big_quiet_step (fail))
     refine VI ?_;rintro w7 ⟨y,rfl⟩;clear wJ cq6;go_wp2_with fail;go_roundw;case rel=>exact⟨j+1,by omega,by go_num,by rw[HF.o,Xc.o];exact AO.o.ext y.ext,Av.o.trans y.ext,ay.o.trans (XZ y.ext)⟩
     case measure=>simp[intOf];omega
    | false =>
     rw[hc]at wJ Xc;simp only[Bool.not_false,vp]at Xc;have hnc:(q:Int)∉sj.gone:=by simpa using hc
     cases hdq:YH v I (q:Int) with
     | false =>
      rw[hdq]at Xc xN;simp only[Bool.false_eq_true,if_false]at Xc;clear hc hdq;refine Qk (by kernel_rfl) (by kernel_rfl) ?_;repeat (go_big_quiet_step (exact JO (xN.o _)))
      refine VI ?_;rintro w7 ⟨y,rfl⟩;clear wJ cq6;go_wp2_with fail;go_roundw;case rel=>exact⟨j+1,by omega,by go_num,by rw[HF.o,Xc.o];exact AO.o.ext y.ext,Av.o.trans y.ext,ay.o.trans (XZ y.ext)⟩
      case measure=>simp[intOf];omega
     | true =>
      rw[hdq]at Xc xN;simp only[if_true]at Xc;clear hc hdq;have HC:=Qa (λw h1 h2=>vL.o.calls g ⟨sj.paths++[path++47::name],sj.gone⟩ q (path++47::name) w hnc uH hp6 (by have:=CP;simpa using this) h1 h2);rw[show((d+1:Nat):Int)=(d:Int)+1 by omega]at HC;refine Qk (by kernel_rfl) (by kernel_rfl) ?_;repeat (go_big_quiet_step (exact JO (xN.o _)))
      refine VI ?_;rintro w7 ⟨y,rfl⟩;have cq7:=cq6 y;clear wJ cq6;go_wp2_with (go_at_call 55;refine(HC.o _ (Av.o.trans y.ext) (AO.o.ext y.ext)).mono ?_;rintro e w8 ⟨rfl,hW8,x8,k8⟩)
      go_roundw;case rel=>exact⟨j+1,by omega,by go_num,by rw[HF.o,Xc.o];exact hW8,x8,(ay.o.trans (XZ y.ext)).trans k8⟩
      case measure=>simp[intOf];omega
  ·obtain rfl:j=l.length:=by omega
   rw[Ri]at bH;go_wp2_with fail;go_end0;exact⟨rfl,bH.o,sX.o,(Qhp.o.trans (XZ Gx.o)).trans nI.o⟩
theorem Ok (W0:World) (A:Option Addr) (n c:Nat) (v:List (List UInt8)) (I:Int) (hv:Strs W0 A n v) (hg:Ji v I) (r:Nat):∀d,r+d=7->qi W0 A n c v I d (V9 v I r):=by
 have P7:I<=64:=(Jg hg.plan).2.2.2.1;induction r with
 | zero => intro d hd;refine⟨λg s k path w a1 a2 a3 a4 a5 a6=>?_,λs k p a b c=>T6 P7 0 s k p a b c⟩;have:=Gd W0 A n c v I hv hg none d (by omega) (λf e=>by cases e) (λ_=>by omega) g s k path w a1 a2 a3 a4 a5 a6;exact this
 | succ r ih => intro d hd;refine⟨λg s k path w a1 a2 a3 a4 a5 a6=>?_,λs k p a b c=>T6 P7 (r+1) s k p a b c⟩;have:=Gd W0 A n c v I hv hg (some (V9 v I r)) d (by omega) (λf e=>by cases e;exact⟨by omega,ih (d+1) (by omega)⟩) (λe=>by cases e) g s k path w a1 a2 a3 a4 a5 a6;exact this
def JW (v:List (List UInt8)):Option Int->List (List UInt8)
 | some I=>Qdh v I
 | none=>[]
theorem Ai:Tryz.zeroCells98=Xx (.slice none 0 0) [] (.slice none 0 0):=by kernel_rfl
theorem qJ (A:Option Addr) (n c:Nat):(Tryz.zeroCells98).setIfInBounds 0 (.slice A n c)=Xx (.slice A n c) [] (.slice none 0 0):=by rw[Ai];rfl
theorem Tj (S:Value) (l:List Int) (u:Value):(Xx S l u).size=67:=by simp[Xx,Yv]
theorem ls:(prog.info? 98).map (·.size)=some 67:=by kernel_rfl
theorem lv (A:Option Addr) (n c:Nat):(Xx (.slice A n c) [] (.slice none 0 0)).all (·.oneCell')=true:=by
 unfold Xx NC;simp[Value.oneCell']
theorem Ol (W0:World) (A:Option Addr) (n c:Nat) (v:List (List UInt8)) (g:Nat) (s:Jr) (w:World) (hv:Strs W0 A n v) (hn:n<=9223372036854775807) (og:∀I,¬Ji v I) (hx:Ext W0 w) (hw:YV W0.heap.size w g (.slice A n c) s) :
  Calls prog 55 #[.pointer (some ⟨g,0,none⟩),.int .i64 1,.string (Qb []),.int .i64 0] w λe w'=>e=.returned (.tuple #[])/\YV W0.heap.size w' g (.slice A n c) ⟨s.paths,s.gone++[1]⟩/\Ext W0 w':=by
 have HL:=Qa (λk w h=>M7 A n c v k w h hn og);have HV:=Qa hv;have HX:=Qa hx;obtain⟨hB,u0,hbx,N5⟩:=hw;have ot:=hbx.lt;have cv0:w.cell? ⟨g,0,none⟩=some (.slice A n c):=hbx.cell 0;have ck:w.cell? ⟨g,2,none⟩=some (.bool (s.gone.contains 1)):=(hbx.cell (1+1)).trans (Gc _ _ _ (by omega));have fk:=hbx.frozen 2;have Vy:=hbx.set (1+1) (.bool true);rw[EC _ _ _ (by omega)]at Vy;have Z2:=YJ (i:=1+1) N5 hbx (by decide) (.bool true);have x1:Ext W0 (w.setCell ⟨g,2,none⟩ (.bool true)):=hx.setCell hB _;have hW1:YV W0.heap.size (w.setCell ⟨g,2,none⟩ (.bool true)) g (.slice A n c) ⟨s.paths,s.gone++[1]⟩:=⟨hB,u0,Vy,Z2⟩
 have cv1:(w.setCell ⟨g,2,none⟩ (.bool true)).cell? ⟨g,0,none⟩=some (.slice A n c):=Vy.cell 0;have mP:=Qa hW1;have WN:=Qa x1;clear hW1 x1 Z2 Vy N5 hbx hv hx;go_enter func55,ntmps55;go_upto_region 1 with fail;generalize w.setCell ⟨g,2,none⟩ (.bool true)=w1 at *;clear cv0 ck fk;go_wp2_with (go_at_call 107;refine(HL.o 1 _ (HV.o.ext WN.o)).mono ?_;rintro e w2 ⟨rfl,x2⟩)
 go_loopw [11,12,29] (λ_ _ t wx=>t=.int .i64 0/\w2=wx) (λ_ _ _ _=>0);case atStart=>exact⟨rfl,rfl⟩
 case round => obtain⟨rfl,rfl⟩:=hrel;go_wp2_with fail;go_end0;exact⟨rfl,mP.o.ext x2,WN.o.trans x2⟩
theorem lu (A:Option Addr) (n c:Nat) (v:List (List UInt8)) (I:Option Int) (w:World) (hv:Strs w A n v) (hn:n<=9223372036854775807) (hg:ZW v I) :
  Calls prog 22 #[.slice A n c] w λe w'=>∃u,e=.returned u/\Ext w w'/\w'.ownsRow w.heap.size 9 1 u (JW v I).length (Q5 (JW v I)):=by
 have HE:Zm (∀W g,Ext w W->YV w.heap.size W g (.slice A n c) ⟨[],[]⟩->Calls prog 55 #[.pointer (some ⟨g,0,none⟩),.int .i64 1,.string (Qb []),.int .i64 0] W λe w'=>e=.returned (.tuple #[])/\(∃gn,YV w.heap.size w' g (.slice A n c) ⟨JW v I,gn⟩)/\Ext w w'):=Qa (λW g hx hW=>by
  cases I with
  | none => refine(Ol w A n c v g ⟨[],[]⟩ W hv hn hg hx hW).mono ?_;rintro e w' ⟨rfl,h,x⟩;exact⟨rfl,⟨_,h⟩,x⟩
  | some I =>
   have:=(Ok w A n c v I hv hg 7 0 rfl).calls g ⟨[],[]⟩ 1 [] W (by simp) (by omega) (Fc aV) (by simp) hx hW;refine this.mono ?_;rintro e w' ⟨rfl,h,x,_⟩;exact⟨rfl,⟨_,h⟩,x⟩)
 have x0:Ext w (w.alloc (.cells Tryz.zeroCells98 98)):=(Qg w).alloc _;clear hv hg;generalize JW v I=P at *;go_enter func22,ntmps22;go_upto_region 2 with(refine JU 98 (.tmp 3) (.tmp 5) rfl rfl w.heap.size (Xx (.slice A n c) [] (.slice none 0 0)) _ 98 rfl (congrArg Value.agg (qJ A n c)) (Qs _ _ _) (by rw[Tj];exact ls) (by rw[Ai,Tj,Tj]) (lv A n c) ?_;intro w2 b2 g2)
 have X2:=Qa (x0.grown g2 (λj e=>by cases e;exact Q4 _));have hW2:YV w.heap.size w2 w.heap.size (.slice A n c) ⟨[],[]⟩:=⟨Q4 _,_,b2,EN _ _ _ _⟩
 have HC:=Qa (HE.o w2 w.heap.size X2.o hW2);clear hW2 HE g2 b2 x0;go_upto_region 3 with(go_at_call 55;refine HC.o.mono ?_;rintro e w3 ⟨rfl,⟨gn,hW3⟩,x3⟩)
 obtain⟨_,u,bx,own⟩:=hW3;have cu:w3.cell? ⟨w.heap.size,66,none⟩=some u:=(bx.cell 66).trans (DM _ _ _);have HO:=Qa own;clear own bx;go_wp2_with fail;go_ret;exact⟨_,rfl,x3,HO.o⟩
theorem Ho {v:List (List UInt8)}{I:Int}{path:List UInt8}{B:Nat}{k:Option (Jr->Int->List UInt8->Jr)}(hp:path.length+25<=B)
  (hk:∀f,k=some f->∀s n p,p.length<=path.length+25->(∀q∈s.paths,q.length<=B)->∀q∈(f s n p).paths,q.length<=B) :
  ∀(l:List Ve) (s:Jr),(∀x∈l,x.1.length<=24)->(∀q∈s.paths,q.length<=B)->∀q∈(l.foldl (Z9 v I path k) s).paths,q.length<=B:=by
 intro l;induction l with
 | nil=>intro s _ hs;exact hs
 | cons x l ih =>
  intro s hx hs;rw[List.foldl_cons];refine ih _ (λy hy=>hx y (EL _ hy)) ?_;have h1:=hx x Gq;have h2:(path++47::x.1).length<=path.length+25:=by simp;omega
  have h3:∀q∈s.paths++[path++47::x.1],q.length<=B:=λq hq=>by
   rcases iO.1 hq with h|h
   ·exact hs q h
   ·rw[bK.1 h];omega
  unfold Z9;cases k with
  | none=>exact h3
  | some f =>
   simp only;split
   ·exact hk f rfl _ _ _ h2 h3
   ·exact h3
theorem Pq (v:List (List UInt8)) (I k:Int):∀x∈(QV v I k).1,x.1.length<=24:=by
 intro x hx;by_cases h:(QV v I k).2=0
 ·have h2:=(M8 h).2.2.2;exact(TV ((Wl h2).1.1 x hx).1).2
 ·unfold QV at h hx;split at hx
  ·cases hx
  ·rename_i c;rw[QD c]at h;split at hx
   ·cases hx
   ·rename_i c2;rw[QD c2]at h;split at hx
    ·cases hx
    ·rename_i l e;rw[e]at h;exact absurd rfl h
theorem Hq (v:List (List UInt8)) (I:Int) (B:Nat):∀(r:Nat) (s:Jr) (n:Int) (path:List UInt8),path.length+25*(r+1)<=B->(∀q∈s.paths,q.length<=B)->∀q∈(V9 v I r s n path).paths,q.length<=B
 | 0,s,n,path,hb,hs=>by unfold V9;exact Ho (by omega) (λf e=>by cases e) _ _ (Pq v I n) hs
 | r+1,s,n,path,hb,hs=>by unfold V9;refine Ho (by omega) (λf e=>?_) _ _ (Pq v I n) hs;injection e with e;subst e;intro s n p hp hs;exact Hq v I B r s n p (by omega) hs
theorem WI (v:List (List UInt8)) (I:Option Int):∀p∈JW v I,p.length<=200:=by
 cases I with
 | none=>intro p hp;cases hp
 | some I=>exact Hq v I 200 7 ⟨[],[]⟩ 1 [] (by simp) (λq hq=>by cases hq)
end Go.Proofs.YtfaplefkakpgcaaGreatDoor
