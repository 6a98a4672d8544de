import Derived.Test.YtfaplefkakpgcaaGreatDoorPl20
import Derived.Test.YtfaplefkakpgcaaGreatDoorPl21
set_option linter.unusedVariables false
set_option linter.unusedSimpArgs false
set_option maxHeartbeats 32000000
set_option maxRecDepth 100000
namespace Go.Proofs.YtfaplefkakpgcaaGreatDoor
open Go.Proofs.Tryz
open Go.RowKit
theorem JS {w:World}{g:Nat}{t:TypeId}{ss:List (List UInt8)}(h:Box w g t (Q5 ss).toArray):Strs w (some ⟨g,0,none⟩) ss.length ss:=⟨rfl,λ_=>⟨g,0,rfl,λj hj=>by
 rw[Nz,h.cell j];simp[Q5,hj]⟩⟩
theorem Vs {w:World}{base z n:Nat}{u:Value}{xs:List Value}{t:TypeId}(o:w.ownsRow base t z u n xs):∃A c,u=.slice A n c:=by
 rcases o.2 with⟨rfl,rfl⟩|⟨g,cap,_,rfl,_⟩
 ·exact⟨none,0,rfl⟩
 ·exact⟨_,cap,rfl⟩
theorem Y3 (z:Nat) (l:List (List UInt8)) (h:∀s∈l,s.length<=z):YE l<=l.length*(z+4):=by
 induction l with
 | nil=>simp[YE]
 | cons s l ih => have h1:=h s Gq;have h2:=ih (λx hx=>h x (EL _ hx));unfold YE at *;rw[P4,na,XN,tF];omega
theorem Yp (n:Int) (w:World) (h:Up n) (hD:ZG w) :
  Calls prog 102 #[.int .i64 n] w λe w'=>e=.returned (.string (Qb (Lib.itoa n)))/\Ext w w':=by
 have HD:=Qa (OV n w h hD);clear h hD;go_enter func102,ntmps102;go_wp2_with (go_at_call 174;refine HD.o.mono ?_;rintro e w1 ⟨rfl,x1⟩)
 go_ret;exact⟨rfl,x1⟩
theorem FO (b:Bool) (w:World):Calls prog 105 #[.bool b] w λe w'=>e=.returned (.string (Qb (Vo b)))/\Ext w w':=by
 cases b
 all_goals
  go_enter func105,ntmps105;go_wp2_with fail;go_ret;exact⟨rfl,Qg _⟩
theorem EH (A:Option Addr) (n c:Nat) (l:List ZY) (w:World) (h:Q6 Zn w A n l) (hf:MV l) (hl:l.length<=1000) (hD:ZG w) :
  Calls prog 106 #[.slice A n c] w λe w'=>e=.returned (.string (Qb (Jq l)))/\Ext w w':=by
 have hn:n=l.length:=h.1;subst hn;have HR:=Qa h;have HF:=Qa hf;have HD:=Qa hD;clear h hf hD;go_enter func106,ntmps106;generalize hG:w.heap.size=G at *;go_upto_region 2 with(refine Gh (c:=l.length) G rfl _ _ rfl rfl rfl (by omega) (Fc hG.symm) ?_;intro w1 o1 x1)
 rw[hG]at o1;go_upto_region 3 with fail;go_loopw [3,11] (λu i wx=>∃k:Nat,k<=l.length/\i=.int .i64 k/\Ext w wx/\wx.ownsRow G 9 1 u k (Q5 ((l.take k).map Q3))) (λ_ i _=>l.length-(intOf i).toNat);case atStart=>exact⟨0,by omega,rfl,x1,o1⟩
 case round =>
  clear x1 o1;obtain⟨k,hk,rfl,xk,ok⟩:=hrel;obtain⟨uL,huL⟩:∃v:Value,v=u3:=⟨_,rfl⟩
  subst huL;by_cases Qn:k<l.length
  ·obtain⟨b2,o2,hA,Qf⟩:=(HR.o.ext xk).wrs.2 (by show 0<l.length;omega);subst hA;have e1:=(Qf k Qn).1;have e2:=(Qf k Qn).2;have Y6:(k:Int)<(l.length:Int):=by omega
   have HY:=Qa (HF.o l[k] (NT _));have iB:=Qa (show(l.take (k+1)).map Q3=(l.take k).map Q3++[Q3 l[k]] by rw[Gp Qn,bS];rfl);clear Qf;generalize l[k]=y at *;have HN:=Qa HY.o.1;have KE:=Qa (show YE [Lib.itoa y.1,y.2]<=1000000000 by
    have h1:=JG HY.o.1.1 HY.o.1.2;have h2:=HY.o.2;simp only[YE,P4,Gz,na,zf];omega)
   clear HY;go_upto_region 5 with fail;have y5:Ext wr (wr.alloc (.cells #[.int .i64 y.1,.string (Qb y.2)] 92)):=(Qg wr).alloc _;have bw:=Qs wr 92 #[.int .i64 y.1,.string (Qb y.2)];have uf:=Qc ok y5;have mC:=xk.trans y5;have z7:G<=(wr.alloc (.cells #[.int .i64 y.1,.string (Qb y.2)] 92)).heap.size:=by rw[←hG];exact mC.size
   clear ok e1 e2 xk y5;generalize wr.alloc (.cells #[.int .i64 y.1,.string (Qb y.2)] 92)=w7 at *;generalize wr.heap.size=gw at *;refine JN 9 [[],[],[1],[2],[],[4],[3,5],[6],[7]] [.inl (uL),.inl (.pointer (some ⟨gw,0,none⟩)),.inl (.int .i64 ((y.1:Int))),.inl (.string (Qb (Lib.itoa y.1))),.inl (.pointer (some ⟨gw,1,none⟩)),.inl (.string (Qb (y.2))),Dz 2 9 #[.string (Qb (Lib.itoa y.1)),.string (Qb (y.2))],.inl (.string (Qb (Q3 y))),Dz 1 9 #[.string (Qb (Q3 y))]] (by kernel_rfl) (by kernel_rfl) rfl (λus=>?_);simp only[KG,KI,UY,KJ]
   iterate 3
    refine xW (λw' hx hd=>?_) ?_
    ·have c0:=(bw.ext hx).cell 0;go_wp2_with fail;exact Qg _
    simp only[S_]
   refine xW (λw' hx hd=>?_) ?_
   ·go_wp2_with (go_at_call 102;refine(Yp y.1 _ HN.o (HD.o.ext (mC.trans hx))).mono ?_;rintro e w2 ⟨rfl,x2⟩)
    all_goals rfl
   simp only[S_]
   iterate 2
    refine xW (λw' hx hd=>?_) ?_
    ·have c0:=(bw.ext hx).cell 1;go_wp2_with fail;exact Qg _
    simp only[S_]
   refine xR (λw' hx hd=>?_) ?_
   ·go_wp2_with fail;exact⟨(Qg w').alloc _,_,rfl,Qs _ _ _⟩
   simp only[S_];refine xW (λw' hx hd=>?_) ?_
   ·have h6:=hd 6 (by simp);clear hd;generalize us 6=u6 at *;obtain⟨g21,rfl,bg21⟩:=h6;have HS:=Qa (JS (ss:=[Lib.itoa y.1,y.2]) bg21);clear bg21;go_wp2_with (go_at_call 101;refine(US (some ⟨g21,0,none⟩) 2 2 [Lib.itoa y.1,y.2] _ HS.o KE.o (by decide)).mono ?_;rintro e w2 ⟨rfl,x2⟩)
    all_goals rfl
   simp only[S_];refine xR (λw' hx hd=>?_) ?_
   ·go_wp2_with fail;exact⟨(Qg w').alloc _,_,rfl,Qs _ _ _⟩
   simp only[S_];rw[Vx];intro w' hx hv;have h8:=hv 8 (by omega);clear hv;generalize us 6=u6 at *;generalize us 8=u8 at *;obtain⟨g23,rfl,bg23⟩:=h8;have v6:=JS (ss:=[Q3 y]) bg23;have kI:=Qc uf hx;have qO:=mC.trans hx;have vF:=YR z7 hx.size;go_wp2_with (refine Jy G rfl _ _ rfl rfl rfl kI v6 (by omega) vF (by decide) ?_;intro u6 w6 o6 g6)
   have x6:Ext w w6:=qO.grown g6 (λk e=>by rw[hG];exact QU kI e);go_roundw;case rel=>exact⟨k+1,by omega,by go_num,x6,by rw[iB.o];exact o6⟩
   case measure=>simp[intOf];omega
  ·obtain rfl:k=l.length:=by omega
   rw[Ri]at ok;have UC:YE (l.map Q3)<=1000000000:=by
    have:=Y3 1028 (l.map Q3) (λs hs=>by
     obtain⟨x,hx,rfl⟩:=AV.1 hs;exact Km (HF.o x hx).1 (HF.o x hx).2)
    rw[AR]at this;omega
   obtain⟨A3,c3,e3⟩:=Vs ok;subst e3;have HS:=Qa (GA ok);have KE:=Qa UC;clear ok UC;go_wp2_with (go_at_call 101;refine(US A3 l.length c3 (l.map Q3) _ HS.o KE.o (by omega)).mono ?_;rintro e w2 ⟨rfl,x2⟩)
   go_ret;exact⟨rfl,xk.trans x2⟩
def Ej (p:QF):List Value:=(List.range 16).map λi=>.int .u32 (p.reg i)
theorem pq (p:QF):∀j v,(Ej p)[j]? =some v->(Qq p).toArray[3+j]? =some v:=λj v hv=>by
 have hj:j<16:=by have:=(Ax.1 hv).1;exact this
 rw[MR];have e:(Qq p).drop 3=Ej p++([.int .u32 p.pc]++Jw p++Jf p++[.bool p.mask,.int .u32 p.code,.int .i64 p.why,.int .u64 p.num]):=rfl;rw[←EM,e,iM (by exact hj)];exact hv
theorem lE:(prog.info? 46).map (·.size)=some 16:=by kernel_rfl
theorem Hk {P:Program}{t e n:Nat}{cs:Array Value}{v:Value}{i:Nat}{d:TypeDesc}(w:World) (hu:P.underlying t=some (.array n e)) (he:P.underlying e=some d) (hd:d.isRow=false) (hs:(P.info? e).map (·.size)=some 1) (U7:i<n) (hv:cs[i]? =some v) :
  (Instr.index t (.agg cs) (.int .i64 (i:Int))).run P w=.ok v w:=by
 cases hq:P.info? e with
 | none=>simp[hq]at hs
 | some j =>
  have hz:j.size=1:=by simpa[hq]using hs
  have Sy:(isAgg e).run P w=.ok false w:=by unfold isAgg;rw[Ny,nd he w];cases d<;>simp_all
  have h1:(i:Int)<(n:Int):=by omega
  simp[Instr.index,asIntOf,nd hu,h1,sizeOf,typeInfo,hq,part,Ny,Sy,hz,hv];intro hc;exact absurd hc (by omega)
section
variable {ops:Array Oper}{rest:List Oper}{o:Oper}{a:Act}{w:World}{Q:Exit->Act->World->Prop}
theorem Ou (x:Operand) (J7:o.guard=none) (ho:o.op=.load 46 x) (g:Nat) (t:TypeId) (p:QF) (hx:a.eval x=.pointer (some ⟨g,3,none⟩))
  (hb:Box w g t (Qq p).toArray) (hK:wpList prog ops Q rest (a.put o.dst (.agg (Ej p).toArray)) w):wpList prog ops Q (o::rest) a w :=
 wpList_load_mid J7 _ x ho g 3 hx _ _ (Xe hb (pq p)) underlying46 rfl (by exact lE) hK
theorem qH:(prog.info? 45).map (·.size)=some 1:=by kernel_rfl
theorem Ot (x y:Operand) (J7:o.guard=none) (ho:o.op=.index 46 x y) (p:QF) (i:Nat) (hx:a.eval x=.agg (Ej p).toArray) (hy:a.eval y=.int .i64 (i:Int)) (hi:i<16)
  (hK:wpList prog ops Q rest (a.put o.dst (.int .u32 (p.reg i))) w):wpList prog ops Q (o::rest) a w:=by
 refine DU J7 λK KM=>?_;unfold Oper.wp execOp;have:=Hk (P:=prog) (cs:=(Ej p).toArray) (v:=.int .u32 (p.reg i)) (i:=i) w underlying46 underlying45 rfl qH hi (by simp[Ej,hi]);simp only[ho,hx,hy,this,Ny,Fb,Mm];exact KM _ _ hK
theorem VQ {B g m n:Nat}{u:Value}{l:List UInt8}(p:List UInt8) (J7:o.guard=none) (sl x:Operand)
  (ho:o.op=.call { callee:=.builtin .append,args:=#[sl,x],argTypes:=#[167,167] }) (hs:a.eval sl=u) (hx:a.eval x=.slice (some ⟨g,0,none⟩) m m)
  (cs:Array Value) (Ll:cs=(Jd p).toArray) (h0:w.ownsRow B 5 1 u n (Jd l)) (hb:Box w g 5 cs) (hm:m=p.length) (hn:n+p.length<=1000000) (hB:B<=w.heap.size)
  (hK:∀u' w',w'.ownsRow B 5 1 u' (n+p.length) (Jd (l++p))->w.grownBy w' u.ownBlock->wpList prog ops Q rest (a.put o.dst u') w'):wpList prog ops Q (o::rest) a w:=by
 subst hm;subst Ll;refine DU J7 λK KM=>?_;obtain⟨i,hi,hz,h1,h2⟩:=AW Wj;obtain⟨v',w',hr,ho2,hg,_,_⟩:=nU (P:=prog) w B 167 o.type 5 i _ 1 1 underlying167 hi hz h1 h2 rfl (by decide) u n (Jd l) h0 ⟨g,0,none⟩ p.length p.length (Jd p) (by simp[Jd]) (λj u hj=>by
  have ha:(⟨g,0,none⟩:Addr).add j=⟨g,j,none⟩:=by unfold Addr.add;split<;>simp_all
  rw[ha,hb.cell j];simpa using hj) (λv hv=>by
  simp only[Jd,AV]at hv;obtain⟨s,_,rfl⟩:=hv;rfl) (by unfold maxLen;omega) (by omega) hB
 unfold Oper.wp execOp;simp only[ho,resolve,invoke,builtin,Ny,Fb,Mm,bO,P4,Gz,hs,hx,hr];refine KM _ _ (hK v' w' ?_ hg);rw[show Jd (l++p)=Jd l++Jd p by simp[Jd]];exact ho2
end
theorem cC (a:UInt8):(#[.int .u8 (a.toNat:Int)]:Array Value)=(Jd [a]).toArray:=rfl
theorem im:(#[.int .u8 0,.int .u8 0]:Array Value)=(Jd [0,0]).toArray:=by kernel_rfl
theorem nz (b:UInt8):(#[.int .u8 1,.int .u8 (b.toNat:Int)]:Array Value)=(Jd [1,b]).toArray:=by kernel_rfl
theorem oB (b:UInt8):(#[.int .u8 2,.int .u8 (b.toNat:Int)]:Array Value)=(Jd [2,b]).toArray:=by kernel_rfl
theorem Va (f:Nat->List UInt8) (k:Nat):(List.range (k+1)).flatMap f=(List.range k).flatMap f++f k:=by
 rw[mR,AU];simp
theorem ah {n:Int}(h0:0<=n) (h1:n<256):IntKind.u8.wrap n=((b8 n).toNat:Int):=by
 rw[ns h0 h1,zb];omega
theorem km (y:QF) (w:World) (hf:Wg y) (hD:ZG w) :
  Calls prog 103 #[.agg (Qq y).toArray] w λe w'=>e=.returned (.string (Qb (ZB y)))/\Ext w w':=by
 have HF:=Qa hf;have HD:=Qa hD;have KE:=Qa (show YE (U3 y)<=1000000000 by
  have:=Y3 136 (U3 y) (R4 hf);rw[R6]at this;omega)
 have HUC:=Qa (show IntKind.u64.wrap y.code=y.code by rw[EO];have:=hf.code;omega);clear hf hD;go_enter func103,ntmps103;go_upto_region 2 with fail;have b0:=Qs w 57 (Qq y).toArray;have x0:Ext w (w.alloc (.cells (Qq y).toArray 57)):=(Qg w).alloc _;generalize w.alloc (.cells (Qq y).toArray 57)=w0 at b0 x0 ⊢;generalize w.heap.size=G at b0 ⊢;go_upto_region 3 with(refine Ou _ rfl rfl G _ y rfl b0 ?_)
 generalize hG1:w0.heap.size=G1;go_loopw [3,7,15] (λu _ i wx=>∃k:Nat,k<=16/\i=.int .i64 k/\Ext w0 wx/\wx.ownsRow G1 5 1 u (4*k) (Jd ((List.range k).flatMap λi=>Jh (y.reg i) 4))) (λ_ _ i _=>16-(intOf i).toNat);case atStart=>exact⟨0,by omega,rfl,Qg _,EN _ _ _ _⟩
 case round =>
  obtain⟨k,hk,rfl,xk,ok⟩:=hrel;obtain⟨uL,huL⟩:∃v:Value,v=u3:=⟨_,rfl⟩
  subst huL;by_cases Qn:k<16
  ·have Y6:(k:Int)<16:=by omega
   have HT:=Qa (Va (λi=>Jh (y.reg i) 4) k);have hr:=HF.o.reg k Qn;have z5:G1<=wr.heap.size:=by rw[←hG1];exact xk.size
   have hu:IntKind.u64.wrap (y.reg k)=y.reg k:=by rw[EO];omega
   have SF:=hr.1;have gH:=hr.2;clear hr
   go_wp2_with (first
    | (refine Ot (.tmp 14) (.tmp 15) rfl rfl y k rfl rfl Qn ?_)
    | (go_at_call 104;refine(ko (y.reg k) _ SF gH).mono ?_;rintro e w2 ⟨rfl,x2⟩)
    | (refine Vc rfl _ _ rfl rfl rfl (Qc ok x2) (by rw[Jo];omega) (YR z5 x2.size) ?_;intro u6 w6 o6 g6))
   have ok2:=Qc ok x2;have x6:Ext w0 w6:=(xk.trans x2).grown g6 (λj e=>by rw[hG1];exact QU ok2 e);rw[Jo,show 4*k+4=4*(k+1) by omega]at o6;go_roundw;case rel=>exact⟨k+1,by omega,by go_num,x6,by rw[HT.o];exact o6⟩
   case measure=>simp[intOf];omega
  ·obtain rfl:k=16:=by omega
   have hu:IntKind.u64.wrap y.pc=y.pc:=by rw[EO];have:=HF.o.pc;omega
   have SF:=HF.o.pc.1;have gH:=HF.o.pc.2;have z5:G1<=wr.heap.size:=by rw[←hG1];exact xk.size
   have bk:=b0.ext xk;have q:wr.cell? ⟨G,19,none⟩=some (.int .u32 y.pc):=bk.cell 19
   go_upto_region 8 with(first
    | (go_at_call 104;refine(ko y.pc _ SF gH).mono ?_;rintro e w2 ⟨rfl,x2⟩)
    | (refine Vc rfl _ _ rfl rfl rfl (Qc ok x2) (by rw[Jo];omega) (YR z5 x2.size) ?_;intro uC w6 o6 g6))
   have x6:Ext w0 w6:=(xk.trans x2).grown g6 (λj e=>by rw[hG1];exact QU ok e);rw[Jo]at o6;have oC:w6.ownsRow G1 5 1 uC 68 (Jd (GF y)):=o6;have bC:=b0.ext x6;have xC:=x0.trans x6;clear b0 x0 x6 g6 o6 x2 ok xk bk q hG1 z5 SF gH hu hk Qn;go_upto_region 9 with(refine Zs _ rfl rfl G _ y rfl bC ?_)
   generalize aA:w6.heap.size=G2;go_loopw [4,33] (λu i wx=>∃k:Nat,k<=16/\i=.int .i64 k/\Ext w6 wx/\wx.ownsRow G2 5 1 u (2*k) (Jd ((List.range k).flatMap (UP y)))) (λ_ i _=>16-(intOf i).toNat);case atStart=>exact⟨0,by omega,rfl,Qg _,EN _ _ _ _⟩
   case round =>
    obtain⟨k,hk,rfl,xk,ok⟩:=hrel;obtain⟨uM,huM⟩:∃v:Value,v=u4:=⟨_,rfl⟩
    subst huM;by_cases Qn:k<16
    ·have Y6:(k:Int)<16:=by omega
     have HT:=Qa (Va (UP y) k);have hn:2*(k+1)=2*k+2:=by omega
     have z5:G2<=wr.heap.size:=by rw[←aA];exact xk.size
     have hu:=ah (HF.o.page k Qn).1 (HF.o.page k Qn).2.1;have hfrb:=(HF.o.page k Qn).2.1;go_upto_region 12 with(refine ZV (.tmp 32) (.tmp 33) rfl rfl y k rfl rfl Qn ?_)
     have bq:=Qs wr 50 #[.bool (y.pis k),.bool (y.pwr k),.int .i64 (y.pfr k)];have xq:=xk.alloc (.cells #[.bool (y.pis k),.bool (y.pwr k),.int .i64 (y.pfr k)] 50);have oq:=Qc ok ((Qg wr).alloc (.cells #[.bool (y.pis k),.bool (y.pwr k),.int .i64 (y.pfr k)] 50));generalize wr.alloc (.cells #[.bool (y.pis k),.bool (y.pwr k),.int .i64 (y.pfr k)] 50)=wq at bq xq oq ⊢;generalize wr.heap.size=gq at bq ⊢;have zq:G2<=wq.heap.size:=by rw[←aA];exact xq.size
     have q0:wq.cell? ⟨gq,0,none⟩=some (.bool (y.pis k)):=bq.cell 0;have q1:wq.cell? ⟨gq,1,none⟩=some (.bool (y.pwr k)):=bq.cell 1;have q2:wq.cell? ⟨gq,2,none⟩=some (.int .i64 (y.pfr k)):=bq.cell 2;clear bq xk ok z5;cases e1:y.pis k with
     | false =>
      rw[e1]at q0;have hp:UP y k=[0,0]:=by unfold UP;rw[QN e1]
      go_wp2_with (refine VQ [0,0] rfl _ _ rfl rfl rfl _ im (Qc oq ((Qg wq).alloc _)) (Qs _ _ _) rfl (by simp only[XN,Mn];omega) (YR zq ((Qg wq).alloc _).size) ?_;intro u7 w7 o7 g7)
      have x7:Ext w6 w7:=(xq.alloc _).grown g7 (λj e=>by rw[aA];exact QU oq e);go_roundw;case rel=>exact⟨k+1,by omega,by go_num,x7,by rw[HT.o,hp,hn];exact o7⟩
      case measure=>simp[intOf];omega
     | true =>
      cases e2:y.pwr k with
      | true =>
       rw[e1]at q0;rw[e2]at q1;have hp:UP y k=[2,b8 (y.pfr k)]:=by unfold UP;rw[QD (by rw[e1];decide),QN e2]
       go_wp2_with (refine VQ [2,b8 (y.pfr k)] rfl _ _ rfl rfl rfl _ (oB _) (Qc oq ((Qg wq).alloc _)) (Qs _ _ _) rfl (by simp only[XN,Mn];omega) (YR zq ((Qg wq).alloc _).size) ?_;intro u7 w7 o7 g7)
       have x7:Ext w6 w7:=(xq.alloc _).grown g7 (λj e=>by rw[aA];exact QU oq e);go_roundw;case rel=>exact⟨k+1,by omega,by go_num,x7,by rw[HT.o,hp,hn];exact o7⟩
       case measure=>simp[intOf];omega
      | false =>
       rw[e1]at q0;rw[e2]at q1;have hp:UP y k=[1,b8 (y.pfr k)]:=by unfold UP;rw[QD (by rw[e1];decide),QD (by rw[e2];decide)]
       go_wp2_with (refine VQ [1,b8 (y.pfr k)] rfl _ _ rfl rfl rfl _ (nz _) (Qc oq ((Qg wq).alloc _)) (Qs _ _ _) rfl (by simp only[XN,Mn];omega) (YR zq ((Qg wq).alloc _).size) ?_;intro u7 w7 o7 g7)
       have x7:Ext w6 w7:=(xq.alloc _).grown g7 (λj e=>by rw[aA];exact QU oq e);go_roundw;case rel=>exact⟨k+1,by omega,by go_num,x7,by rw[HT.o,hp,hn];exact o7⟩
       case measure=>simp[intOf];omega
    ·obtain rfl:k=16:=by omega
     have oS:wr.ownsRow G2 5 1 uM 32 (Jd (KQ y)):=ok;have oC2:=Qc oC xk;have bC2:=bC.ext xk;have xC2:=xC.trans xk;clear ok oC bC xC xk aA hk Qn;go_upto_region 18 with(refine V3 _ rfl rfl G _ y rfl bC2 ?_)
     obtain⟨wS,hwS⟩:∃v:World,v=wr:=⟨_,rfl⟩
     subst hwS;generalize hG3:wS.heap.size=G3;go_loopw [5,61] (λu i wx=>∃k:Nat,k<=8/\i=.int .i64 k/\Ext wS wx/\wx.ownsRow G3 5 1 u (17*k) (Jd ((List.range k).flatMap (O0 y)))) (λ_ i _=>8-(intOf i).toNat);case atStart=>exact⟨0,by omega,rfl,Qg _,EN _ _ _ _⟩
     case round =>
      obtain⟨k,hk,rfl,xk,ok⟩:=hrel;obtain⟨uN,huN⟩:∃v:Value,v=u5:=⟨_,rfl⟩
      subst huN;by_cases Qn:k<8
      ·have Y6:(k:Int)<8:=by omega
       have HT:=Qa (Va (O0 y) k);have hu:=ah (HF.o.fk k Qn).1 (HF.o.fk k Qn).2;have f0:=(HF.o.fn k Qn).1;have f1:=(HF.o.fn k Qn).2;have f2:=(HF.o.fp k Qn).1;have f3:=(HF.o.fp k Qn).2;have MA:IntKind.u64.wrap (y.fn k)=y.fn k:=by rw[EO];omega
       have Y7:IntKind.u64.wrap (y.fp k)=y.fp k:=by rw[EO];omega
       go_upto_region 20 with(refine Uo (.tmp 60) (.tmp 61) rfl rfl y k rfl rfl Qn ?_)
       have bq:=Qs wr 54 #[.int .i64 (y.fk k),.int .i64 (y.fn k),.int .i64 (y.fp k)];have xq:=xk.alloc (.cells #[.int .i64 (y.fk k),.int .i64 (y.fn k),.int .i64 (y.fp k)] 54);have oq:=Qc ok ((Qg wr).alloc (.cells #[.int .i64 (y.fk k),.int .i64 (y.fn k),.int .i64 (y.fp k)] 54));generalize wr.alloc (.cells #[.int .i64 (y.fk k),.int .i64 (y.fn k),.int .i64 (y.fp k)] 54)=wq at bq xq oq ⊢;generalize wr.heap.size=gq at bq ⊢;have zq:G3<=wq.heap.size:=by rw[←hG3];exact xq.size
       have q0:=bq.cell 0;go_upto_region 21 with(refine VQ [b8 (y.fk k)] rfl _ _ rfl rfl rfl _ (cC _) (Qc oq ((Qg wq).alloc _)) (Qs _ _ _) rfl (by simp only[XN,Mn];omega) (YR zq ((Qg wq).alloc _).size) ?_;intro u7 w7 o7 g7)
       have b7:=(bq.ext ((Qg wq).alloc _)).grown g7 (QX oq bq (by decide));have x7:Ext wS w7:=(xq.alloc _).grown g7 (λj e=>by rw[hG3];exact QU oq e);have z7:G3<=w7.heap.size:=by rw[←hG3];exact x7.size
       clear bq xq oq q0 zq g7 xk ok;have q1:=b7.cell 1
       go_upto_region 22 with(first
        | (go_at_call 104;refine(BD (y.fn k) _ f0 (by omega)).mono ?_;rintro e w8 ⟨rfl,x8⟩)
        | (refine Vc rfl _ _ rfl rfl rfl (Qc o7 x8) (by rw[Jo];simp only[XN,Mn];omega) (YR z7 x8.size) ?_;intro u9 w9 o9 g9))
       have b9:=(b7.ext x8).grown g9 (QX (Qc o7 x8) (b7.ext x8) (by decide));have x9:Ext wS w9:=(x7.trans x8).grown g9 (λj e=>by rw[hG3];exact QU o7 e);have z9:G3<=w9.heap.size:=by rw[←hG3];exact x9.size
       clear b7 x7 q1 z7 g9 o7 x8;have q2:=b9.cell 2;rw[Jo]at o9
       go_wp2_with (first
        | (go_at_call 104;refine(BD (y.fp k) _ f2 (by omega)).mono ?_;rintro e gP ⟨rfl,fX⟩)
        | (refine Vc rfl _ _ rfl rfl rfl (Qc o9 fX) (by rw[Jo];simp only[XN,Mn];omega) (YR z9 fX.size) ?_;intro u11 wg o11 g11))
       have x11:Ext wS wg:=(x9.trans fX).grown g11 (λj e=>by rw[hG3];exact QU o9 e);rw[Jo,show 17*k+[b8 (y.fk k)].length+8+8=17*(k+1) by simp only[XN,Mn];omega]at o11;go_roundw;case rel=>exact⟨k+1,by omega,by go_num,x11,by rw[HT.o];simpa[O0,iR]using o11⟩
       case measure=>simp[intOf];omega
      ·obtain rfl:k=8:=by omega
       have oF:wr.ownsRow G3 5 1 uN 136 (Jd (GJ y)):=ok;have oC:=Qc oC2 xk;have oS':=Qc oS xk;clear oS;have oS:=oS';have bC:=bC2.ext xk;have xC:=xC2.trans xk;clear oS' ok oC2 bC2 xC2 xk hG3 hk Qn;go_wp2_with fail;refine Yu 28 [[],[0],[1],[],[3],[4],[],[6],[7],[],[9],[],[11],[],[13],[],[15],[16],[],[18],[19],[20],[],[22],[23],[],[25],[26],[2,5,8,10,12,14,17,21,24,27]] [(.pointer (some ⟨G,0,none⟩)),(.int .i64 ((y.pid:Int))),(.string (Qb (Lib.itoa y.pid))),(.pointer (some ⟨G,1,none⟩)),(.int .i64 ((y.parent:Int))),(.string (Qb (Lib.itoa y.parent))),(.pointer (some ⟨G,2,none⟩)),(.int .i64 ((y.state:Int))),(.string (Qb (Lib.itoa y.state))),(uC),(.string (Qb (GF y))),(uM),(.string (Qb (KQ y))),(uN),(.string (Qb (GJ y))),(.pointer (some ⟨G,92,none⟩)),(.bool y.mask),(.string (Qb (Vo y.mask))),(.pointer (some ⟨G,93,none⟩)),(.int .u32 (y.code:Int)),(.int .u64 (y.code:Int)),(.string (Qb (Jh y.code 4))),(.pointer (some ⟨G,94,none⟩)),(.int .i64 ((y.why:Int))),(.string (Qb (Lib.itoa y.why))),(.pointer (some ⟨G,95,none⟩)),(.int .u64 (y.num:Int)),(.string (Qb (Jh y.num 8)))] (by kernel_rfl) (by kernel_rfl) rfl ?_;simp only[KG,KI,UY,KJ]
       iterate 2
        refine vW (λw' hx=>?_) ?_
        ·have c0:w'.cell? ⟨G,0,none⟩=some (.int .i64 y.pid):=(bC.ext hx).cell 0;go_wp2_with fail;exact Qg _
        simp only[S_]
       refine vW (λw' hx=>?_) ?_
       ·go_wp2_with (go_at_call 102;refine(Yp y.pid _ HF.o.pid (HD.o.ext (xC.trans hx))).mono ?_;rintro e w2 ⟨rfl,x2⟩)
       simp only[S_]
       iterate 2
        refine vW (λw' hx=>?_) ?_
        ·have c0:w'.cell? ⟨G,1,none⟩=some (.int .i64 y.parent):=(bC.ext hx).cell 1;go_wp2_with fail;exact Qg _
        simp only[S_]
       refine vW (λw' hx=>?_) ?_
       ·go_wp2_with (go_at_call 102;refine(Yp y.parent _ HF.o.parent (HD.o.ext (xC.trans hx))).mono ?_;rintro e w2 ⟨rfl,x2⟩)
       simp only[S_]
       iterate 2
        refine vW (λw' hx=>?_) ?_
        ·have c0:w'.cell? ⟨G,2,none⟩=some (.int .i64 y.state):=(bC.ext hx).cell 2;go_wp2_with fail;exact Qg _
        simp only[S_]
       refine vW (λw' hx=>?_) ?_
       ·go_wp2_with (go_at_call 102;refine(Yp y.state _ HF.o.state (HD.o.ext (xC.trans hx))).mono ?_;rintro e w2 ⟨rfl,x2⟩)
       simp only[S_]
       iterate 8
        refine vW (λw' hx=>?_) ?_
        ·have cv:=M4 (Qc oC hx) (by decide);have cv:=M4 (Qc oS hx) (by decide);have cv:=M4 (Qc oF hx) (by decide);have c3:w'.cell? ⟨G,92,none⟩=some (.bool y.mask):=(bC.ext hx).cell 92;go_wp2_with fail;exact Qg _
        simp only[S_]
       refine vW (λw' hx=>?_) ?_
       ·go_wp2_with (go_at_call 105;refine(FO y.mask _).mono ?_;rintro e w2 ⟨rfl,x2⟩)
       simp only[S_]
       iterate 3
        refine vW (λw' hx=>?_) ?_
        ·have c0:w'.cell? ⟨G,93,none⟩=some (.int .u32 y.code):=(bC.ext hx).cell 93;have hu:=HUC.o;go_wp2_with fail;exact Qg _
        simp only[S_]
       refine vW (λw' hx=>?_) ?_
       ·go_wp2_with (go_at_call 104;refine(ko y.code _ HF.o.code.1 HF.o.code.2).mono ?_;rintro e w2 ⟨rfl,x2⟩)
       simp only[S_]
       iterate 2
        refine vW (λw' hx=>?_) ?_
        ·have c0:w'.cell? ⟨G,94,none⟩=some (.int .i64 y.why):=(bC.ext hx).cell 94;go_wp2_with fail;exact Qg _
        simp only[S_]
       refine vW (λw' hx=>?_) ?_
       ·go_wp2_with (go_at_call 102;refine(Yp y.why _ HF.o.why (HD.o.ext (xC.trans hx))).mono ?_;rintro e w2 ⟨rfl,x2⟩)
       simp only[S_]
       iterate 2
        refine vW (λw' hx=>?_) ?_
        ·have c0:w'.cell? ⟨G,95,none⟩=some (.int .u64 y.num):=(bC.ext hx).cell 95;go_wp2_with fail;exact Qg _
        simp only[S_]
       refine vW (λw' hx=>?_) ?_
       ·go_wp2_with (go_at_call 104;refine(BD y.num _ HF.o.num.1 HF.o.num.2).mono ?_;rintro e w2 ⟨rfl,x2⟩)
       simp only[S_];rw[NO];intro wq hxq;refine Rb (n:=10) (T:=9) (cs:=#[.string (Qb (Lib.itoa y.pid)),.string (Qb (Lib.itoa y.parent)),.string (Qb (Lib.itoa y.state)),.string (Qb (GF y)),.string (Qb (KQ y)),.string (Qb (GJ y)),.string (Qb (Vo y.mask)),.string (Qb (Jh y.code 4)),.string (Qb (Lib.itoa y.why)),.string (Qb (Jh y.num 8))]) rfl (by simp[Act.put]) rfl ?_ (λg111 w' hxw bg111=>?_)
       ·go_wp2_with fail;exact⟨(Qg wq).alloc _,_,rfl,Qs _ _ _⟩
       simp only[S_];have hx:=hxq.trans hxw;clear hxq hxw;have HS:=Qa (JS (ss:=U3 y) bg111);clear bg111;go_wp2_with (go_at_call 101;refine(US (some ⟨g111,0,none⟩) 10 10 (U3 y) _ HS.o KE.o (by decide)).mono ?_;rintro e w2 ⟨rfl,x2⟩)
       go_ret;exact⟨rfl,(xC.trans hx).trans x2⟩
theorem IF (m:QO) (d:Qz) (w:World) (hf:Y4 m d) (hi:Q0 w m d) (hD0:ZG w) :
  Calls prog 54 #[.agg m.cells] w λe w'=>e=.returned (.string (Qb (Z7 m d)))/\Ext w w':=by
 have KE:=Qa (show YE (NL m d)<=1000000000 by
  have:=Y3 1404000 (NL m d) (Ek hf);rw[show(NL m d).length=16 from rfl]at this;omega)
 have U1:=hi.pi;have aH:=hi.pr;have U8:=hi.pe;have FJ:=hi.di;have HF:=Qa hf;have x0:=(Qg w).alloc (.cells m.cells 38);have b0:=Qs w 38 m.cells;have HD:=Qa (hD0.ext x0);clear hf hi hD0;go_enter func54,ntmps54;go_upto_region 1 with fail;replace U1:=U1.ext x0;replace aH:=aH.ext x0;replace U8:=U8.ext x0;replace FJ:=FJ.ext x0;generalize w.alloc (.cells m.cells 38)=w0 at *;generalize w.heap.size=Gb at *;obtain⟨clock,quantum,cur,left,⟨fA,fn,fc⟩,⟨rA,rn,rc⟩,next,init,⟨A,n,c⟩,newPipe,inn,fin,told,⟨bA,bn,bc⟩,⟨pA,pn,pc⟩,dleft,⟨dA,dn,dc⟩⟩:=m;obtain⟨dfr,dpr,l,dbl,dpe,ddi⟩:=d;simp only at U1 aH U8 FJ;obtain rfl:n=l.length:=U1.1;obtain rfl:rn=dpr.length:=aH.1;obtain rfl:pn=dpe.length:=U8.1;obtain rfl:dn=ddi.length:=FJ.1;have HR:=Qa U1;have yh:=Qa aH;have HPe:=Qa U8;have HDi:=Qa FJ;clear U1 aH U8 FJ;have hl:l.length<=1000:=HF.o.pil;have hlr:dpr.length<=1000:=HF.o.prl;have vK:=HF;clear HF;have HF:=Qa vK.o.pi;simp only at HF;have q8:w0.cell? ⟨Gb,8,none⟩=some (.slice A l.length c):=b0.cell 8;generalize hG:w0.heap.size=G;go_upto_region 2 with(refine Gh (c:=l.length) G rfl _ _ rfl rfl rfl (by omega) (Fc hG.symm) ?_;intro w1 o1 x1)
 rw[hG]at o1;have q8':w1.cell? ⟨Gb,8,none⟩=some (.slice A l.length c):=(b0.ext x1).cell 8;clear q8;go_upto_region 3 with fail;go_loopw [3,16] (λu i wx=>∃k:Nat,k<=l.length/\i=.int .i64 k/\Ext w0 wx/\wx.ownsRow G 9 1 u k (Q5 ((l.take k).map Q3))) (λ_ i _=>l.length-(intOf i).toNat);case atStart=>exact⟨0,by omega,rfl,x1,o1⟩
 case round =>
  clear x1 o1 q8';obtain⟨k,hk,rfl,xk,ok⟩:=hrel;obtain⟨uL,huL⟩:∃v:Value,v=u3:=⟨_,rfl⟩
  subst huL;by_cases Qn:k<l.length
  ·obtain⟨b2,o2,hA,Qf⟩:=(HR.o.ext xk).wrs.2 (by show 0<l.length;omega);subst hA;have e1:=(Qf k Qn).1;have e2:=(Qf k Qn).2;have Y6:(k:Int)<(l.length:Int):=by omega
   have HY:=Qa (HF.o l[k] (NT _));have iB:=Qa (show(l.take (k+1)).map Q3=(l.take k).map Q3++[Q3 l[k]] by rw[Gp Qn,bS];rfl);clear Qf;generalize l[k]=y at *;have HN:=Qa HY.o.1;have KE:=Qa (show YE [Lib.itoa y.1,y.2]<=1000000000 by
    have h1:=JG HY.o.1.1 HY.o.1.2;have h2:=HY.o.2;simp only[YE,P4,Gz,na,zf];omega)
   clear HY;go_upto_region 5 with fail;have y5:Ext wr (wr.alloc (.cells #[.int .i64 y.1,.string (Qb y.2)] 95)):=(Qg wr).alloc _;have bw:=Qs wr 95 #[.int .i64 y.1,.string (Qb y.2)];have uf:=Qc ok y5;have mC:=xk.trans y5;have z7:G<=(wr.alloc (.cells #[.int .i64 y.1,.string (Qb y.2)] 95)).heap.size:=by rw[←hG];exact mC.size
   clear ok e1 e2 xk y5;generalize wr.alloc (.cells #[.int .i64 y.1,.string (Qb y.2)] 95)=w7 at *;generalize wr.heap.size=gw at *;refine JN 9 [[],[],[1],[2],[],[4],[3,5],[6],[7]] [.inl (uL),.inl (.pointer (some ⟨gw,0,none⟩)),.inl (.int .i64 ((y.1:Int))),.inl (.string (Qb (Lib.itoa y.1))),.inl (.pointer (some ⟨gw,1,none⟩)),.inl (.string (Qb (y.2))),Dz 2 9 #[.string (Qb (Lib.itoa y.1)),.string (Qb (y.2))],.inl (.string (Qb (Q3 y))),Dz 1 9 #[.string (Qb (Q3 y))]] (by kernel_rfl) (by kernel_rfl) rfl (λus=>?_);simp only[KG,KI,UY,KJ]
   iterate 3
    refine xW (λw' hx hd=>?_) ?_
    ·have c0:=(bw.ext hx).cell 0;go_wp2_with fail;exact Qg _
    simp only[S_]
   refine xW (λw' hx hd=>?_) ?_
   ·go_wp2_with (go_at_call 102;refine(Yp y.1 _ HN.o (HD.o.ext (mC.trans hx))).mono ?_;rintro e w2 ⟨rfl,x2⟩)
    all_goals rfl
   simp only[S_]
   iterate 2
    refine xW (λw' hx hd=>?_) ?_
    ·have c0:=(bw.ext hx).cell 1;go_wp2_with fail;exact Qg _
    simp only[S_]
   refine xR (λw' hx hd=>?_) ?_
   ·go_wp2_with fail;exact⟨(Qg w').alloc _,_,rfl,Qs _ _ _⟩
   simp only[S_];refine xW (λw' hx hd=>?_) ?_
   ·have h6:=hd 6 (by simp);clear hd;generalize us 6=u6 at *;obtain⟨g26,rfl,bg26⟩:=h6;have HS:=Qa (JS (ss:=[Lib.itoa y.1,y.2]) bg26);clear bg26;go_wp2_with (go_at_call 101;refine(US (some ⟨g26,0,none⟩) 2 2 [Lib.itoa y.1,y.2] _ HS.o KE.o (by decide)).mono ?_;rintro e w2 ⟨rfl,x2⟩)
    all_goals rfl
   simp only[S_];refine xR (λw' hx hd=>?_) ?_
   ·go_wp2_with fail;exact⟨(Qg w').alloc _,_,rfl,Qs _ _ _⟩
   simp only[S_];rw[Vx];intro w' hx hv;have h8:=hv 8 (by omega);clear hv;generalize us 6=u6 at *;generalize us 8=u8 at *;obtain⟨g28,rfl,bg28⟩:=h8;have v6:=JS (ss:=[Q3 y]) bg28;have kI:=Qc uf hx;have qO:=mC.trans hx;have vF:=YR z7 hx.size;go_wp2_with (refine Jy G rfl _ _ rfl rfl rfl kI v6 (by omega) vF (by decide) ?_;intro u6 w6 o6 g6)
   have x6:Ext w0 w6:=qO.grown g6 (λk e=>by rw[hG];exact QU kI e);go_roundw;case rel=>exact⟨k+1,by omega,by go_num,x6,by rw[iB.o];exact o6⟩
   case measure=>simp[intOf];omega
  ·obtain rfl:k=l.length:=by omega
   rw[Ri]at ok;obtain⟨wA,hwA⟩:∃v:World,v=wr:=⟨_,rfl⟩
   subst hwA;have UC:YE (l.map Q3)<=1000000000:=by
    have:=Y3 1028 (l.map Q3) (λs hs=>by
     obtain⟨x,hx,rfl⟩:=AV.1 hs;exact Km (HF.o x hx).1 (HF.o x hx).2)
    rw[AR]at this;omega
   obtain⟨A3,c3,e3⟩:=Vs ok;subst e3;have s3:=GA ok;have yH:=Qa UC;have hb:=b0.ext xk;have q5:wA.cell? ⟨Gb,5,none⟩=some (.slice rA dpr.length rc):=hb.cell 5;generalize aA:wA.heap.size=G2;go_upto_region 8 with(refine Gh (c:=dpr.length) G2 rfl _ _ rfl rfl rfl (by omega) (Fc aA.symm) ?_;intro w2 o2 x2)
   rw[aA]at o2;have q5':w2.cell? ⟨Gb,5,none⟩=some (.slice rA dpr.length rc):=(hb.ext x2).cell 5;clear q5 UC ok HR HF;go_upto_region 9 with fail;go_loopw [6,38] (λu i wx=>∃k:Nat,k<=dpr.length/\i=.int .i64 k/\Ext wA wx/\wx.ownsRow G2 9 1 u k (Q5 ((dpr.take k).map ZB))) (λ_ i _=>dpr.length-(intOf i).toNat);case atStart=>exact⟨0,by omega,rfl,x2,o2⟩
   case round =>
    clear x2 o2 q5';obtain⟨k,hk,rfl,xj,oj⟩:=hrel;obtain⟨uM,huM⟩:∃v:Value,v=u6:=⟨_,rfl⟩
    subst huM;by_cases Qn:k<dpr.length
    ·obtain⟨b2,o2,hA,Qf⟩:=yh.o.2 (by omega);subst hA;have r1:=Ze (Z6 Qf Qn) (xk.trans xj);clear Qf;have Y6:(k:Int)<(dpr.length:Int):=by omega
     have HY:=Qa (vK.o.pr dpr[k] (NT _));have iB:=Qa (show(dpr.take (k+1)).map ZB=(dpr.take k).map ZB++[ZB dpr[k]] by rw[Gp Qn,bS];rfl);generalize dpr[k]=y at *;have z5:G2<=wr.heap.size:=by rw[←aA];exact xj.size
     go_upto_region 11 with(first
      | (refine QT (.tmp 40) rfl rfl b2 (o2+k*96) y rfl r1 ?_)
      | (refine J0 (.tmp 8) (.tmp 41) rfl rfl wr.heap.size y _ 57 rfl rfl (Qs _ _ _) rfl ?_;intro w3 b3 g3))
     have x3:Ext wr w3:=((Qg wr).alloc _).grown g3 (λj e=>by cases e;exact Q4 _);have oj3:=Qc oj x3;have xj3:=xj.trans x3;have z3:=YR z5 x3.size;have Ar:=Qa (km y w3 HY.o (HD.o.ext (xk.trans xj3)));have yC:w3.rangeAt wr.heap.size 0 (Qq y):=Xe b3 (λj v h=>by rw[Nz,MR];exact h);clear r1 oj g3 x3 b3 HY;generalize wr.heap.size=gy at *;generalize ZB y=T at *;go_wp2_with (refine QT (.tmp 8) rfl rfl gy 0 y rfl yC ?_)
     refine Ar.o.mono ?_;rintro e w4 ⟨rfl,x4⟩;have ok4:=Qc oj3 (x4.alloc (.cells #[.string (Qb T)] 9));have z4:=YR z3 (x4.alloc (.cells #[.string (Qb T)] 9)).size;have s4:Strs (w4.alloc (.cells #[.string (Qb T)] 9)) (some ⟨w4.heap.size,0,none⟩) 1 [T]:=JS (ss:=[T]) (Qs w4 9 #[.string (Qb T)]);go_wp2_with (refine Jy G2 rfl _ _ rfl rfl rfl ok4 s4 (by omega) z4 (by omega) ?_;intro u7 w7 o7 g7)
     have x7:Ext wA w7:=((xj3.trans x4).alloc _).grown g7 (λj e=>by rw[aA];exact QU oj3 e);go_roundw;case rel=>exact⟨k+1,by omega,by go_num,x7,by rw[iB.o];exact o7⟩
     case measure=>simp[intOf];omega
    ·obtain rfl:k=dpr.length:=by omega
     rw[Ri]at oj;have UC:YE (dpr.map ZB)<=1000000000:=by
      have:=Y3 1400 (dpr.map ZB) (λs hs=>by
       obtain⟨x,hx,rfl⟩:=AV.1 hs;exact R7 (vK.o.pr x hx))
      rw[AR]at this;omega
     obtain⟨A4,c4,e4⟩:=Vs oj;subst e4;have gx:=Qa (GA oj);have sJ:=Qa UC;have qf:=Qa (s3.ext xj);have bC:=hb.ext xj;have xC:=xk.trans xj;have XW:=Qa (x0.trans xC);have HF:=vK;clear vK UC oj s3 hb xj xk yh hl hlr Qn hk;go_wp2_with fail;refine Yu 43 [[],[0],[1],[],[3],[4],[],[6],[7],[],[9],[10],[],[12],[13],[],[15],[],[17],[18],[],[20],[],[22],[23],[],[25],[26],[],[28],[29],[30],[],[32],[33],[34],[],[36],[37],[],[39],[],[41],[2,5,8,11,14,16,19,21,24,27,31,35,38,40,42]] [(.pointer (some ⟨Gb,0,none⟩)),(.int .u64 (clock:Int)),(.string (Qb (Jh clock 8))),(.pointer (some ⟨Gb,1,none⟩)),(.int .i64 ((quantum:Int))),(.string (Qb (Lib.itoa quantum))),(.pointer (some ⟨Gb,2,none⟩)),(.int .i64 ((cur:Int))),(.string (Qb (Lib.itoa cur))),(.pointer (some ⟨Gb,3,none⟩)),(.int .i64 ((left:Int))),(.string (Qb (Lib.itoa left))),(.pointer (some ⟨Gb,6,none⟩)),(.int .i64 ((next:Int))),(.string (Qb (Lib.itoa next))),(.pointer (some ⟨Gb,7,none⟩)),(.string (Qb (init))),(.pointer (some ⟨Gb,9,none⟩)),(.int .i64 ((newPipe:Int))),(.string (Qb (Lib.itoa newPipe))),(.pointer (some ⟨Gb,10,none⟩)),(.string (Qb (inn))),(.pointer (some ⟨Gb,11,none⟩)),(.bool fin),(.string (Qb (Vo fin))),(.pointer (some ⟨Gb,12,none⟩)),(.int .u64 (told:Int)),(.string (Qb (Jh told 8))),(.pointer (some ⟨Gb,13,none⟩)),(.pointer (some ⟨Gb,15,none⟩)),(.int .i64 ((dleft:Int))),(.string (Qb (Lib.itoa dleft))),(.pointer (some ⟨Gb,13,none⟩)),(.pointer (some ⟨Gb,14,none⟩)),(.slice pA dpe.length pc),(.string (Qb (Jq dpe))),(.pointer (some ⟨Gb,16,none⟩)),(.slice dA ddi.length dc),(.string (Qb (Jq ddi))),(.slice A3 l.length c3),(.string (Qb (Yt (l.map Q3)))),(.slice A4 dpr.length c4),(.string (Qb (Yt (dpr.map ZB))))] (by kernel_rfl) (by kernel_rfl) rfl ?_;simp only[KG,KI,UY,KJ]
     iterate 2
      refine vW (λw' hx=>?_) ?_
      ·have c0:w'.cell? ⟨Gb,0,none⟩=some (.int .u64 clock):=(bC.ext hx).cell 0;go_wp2_with fail;exact Qg _
      simp only[S_]
     refine vW (λw' hx=>?_) ?_
     ·go_wp2_with (go_at_call 104;refine(BD clock _ HF.o.clock.1 HF.o.clock.2).mono ?_;rintro e w2 ⟨rfl,x2⟩)
     simp only[S_]
     iterate 2
      refine vW (λw' hx=>?_) ?_
      ·have c0:w'.cell? ⟨Gb,1,none⟩=some (.int .i64 quantum):=(bC.ext hx).cell 1;go_wp2_with fail;exact Qg _
      simp only[S_]
     refine vW (λw' hx=>?_) ?_
     ·go_wp2_with (go_at_call 102;refine(Yp quantum _ HF.o.quantum (HD.o.ext (xC.trans hx))).mono ?_;rintro e w2 ⟨rfl,x2⟩)
     simp only[S_]
     iterate 2
      refine vW (λw' hx=>?_) ?_
      ·have c0:w'.cell? ⟨Gb,2,none⟩=some (.int .i64 cur):=(bC.ext hx).cell 2;go_wp2_with fail;exact Qg _
      simp only[S_]
     refine vW (λw' hx=>?_) ?_
     ·go_wp2_with (go_at_call 102;refine(Yp cur _ HF.o.cur (HD.o.ext (xC.trans hx))).mono ?_;rintro e w2 ⟨rfl,x2⟩)
     simp only[S_]
     iterate 2
      refine vW (λw' hx=>?_) ?_
      ·have c0:w'.cell? ⟨Gb,3,none⟩=some (.int .i64 left):=(bC.ext hx).cell 3;go_wp2_with fail;exact Qg _
      simp only[S_]
     refine vW (λw' hx=>?_) ?_
     ·go_wp2_with (go_at_call 102;refine(Yp left _ HF.o.left (HD.o.ext (xC.trans hx))).mono ?_;rintro e w2 ⟨rfl,x2⟩)
     simp only[S_]
     iterate 2
      refine vW (λw' hx=>?_) ?_
      ·have c0:w'.cell? ⟨Gb,6,none⟩=some (.int .i64 next):=(bC.ext hx).cell 6;go_wp2_with fail;exact Qg _
      simp only[S_]
     refine vW (λw' hx=>?_) ?_
     ·go_wp2_with (go_at_call 102;refine(Yp next _ HF.o.next (HD.o.ext (xC.trans hx))).mono ?_;rintro e w2 ⟨rfl,x2⟩)
     simp only[S_]
     iterate 4
      refine vW (λw' hx=>?_) ?_
      ·have c0:w'.cell? ⟨Gb,7,none⟩=some (.string (Qb init)):=(bC.ext hx).cell 7;have c1:w'.cell? ⟨Gb,9,none⟩=some (.int .i64 newPipe):=(bC.ext hx).cell 9;go_wp2_with fail;exact Qg _
      simp only[S_]
     refine vW (λw' hx=>?_) ?_
     ·go_wp2_with (go_at_call 102;refine(Yp newPipe _ HF.o.newPipe (HD.o.ext (xC.trans hx))).mono ?_;rintro e w2 ⟨rfl,x2⟩)
     simp only[S_]
     iterate 4
      refine vW (λw' hx=>?_) ?_
      ·have c0:w'.cell? ⟨Gb,10,none⟩=some (.string (Qb inn)):=(bC.ext hx).cell 10;have c1:w'.cell? ⟨Gb,11,none⟩=some (.bool fin):=(bC.ext hx).cell 11;go_wp2_with fail;exact Qg _
      simp only[S_]
     refine vW (λw' hx=>?_) ?_
     ·go_wp2_with (go_at_call 105;refine(FO fin _).mono ?_;rintro e w2 ⟨rfl,x2⟩)
     simp only[S_]
     iterate 2
      refine vW (λw' hx=>?_) ?_
      ·have c0:w'.cell? ⟨Gb,12,none⟩=some (.int .u64 told):=(bC.ext hx).cell 12;go_wp2_with fail;exact Qg _
      simp only[S_]
     refine vW (λw' hx=>?_) ?_
     ·go_wp2_with (go_at_call 104;refine(BD told _ HF.o.told.1 HF.o.told.2).mono ?_;rintro e w2 ⟨rfl,x2⟩)
     simp only[S_]
     iterate 3
      refine vW (λw' hx=>?_) ?_
      ·have c0:w'.cell? ⟨Gb,15,none⟩=some (.int .i64 dleft):=(bC.ext hx).cell 15;go_wp2_with fail;exact Qg _
      simp only[S_]
     refine vW (λw' hx=>?_) ?_
     ·go_wp2_with (go_at_call 102;refine(Yp dleft _ HF.o.dleft (HD.o.ext (xC.trans hx))).mono ?_;rintro e w2 ⟨rfl,x2⟩)
     simp only[S_]
     iterate 3
      refine vW (λw' hx=>?_) ?_
      ·have c0:w'.cell? ⟨Gb,14,none⟩=some (.slice pA dpe.length pc):=(bC.ext hx).cell 14;go_wp2_with fail;exact Qg _
      simp only[S_]
     refine vW (λw' hx=>?_) ?_
     ·go_wp2_with (go_at_call 106;refine(EH pA dpe.length pc dpe _ (HPe.o.ext (xC.trans hx)) HF.o.pe HF.o.pel (HD.o.ext (xC.trans hx))).mono ?_;rintro e w2 ⟨rfl,x2⟩)
     simp only[S_]
     iterate 2
      refine vW (λw' hx=>?_) ?_
      ·have c0:w'.cell? ⟨Gb,16,none⟩=some (.slice dA ddi.length dc):=(bC.ext hx).cell 16;go_wp2_with fail;exact Qg _
      simp only[S_]
     refine vW (λw' hx=>?_) ?_
     ·go_wp2_with (go_at_call 106;refine(EH dA ddi.length dc ddi _ (HDi.o.ext (xC.trans hx)) HF.o.di HF.o.dil (HD.o.ext (xC.trans hx))).mono ?_;rintro e w2 ⟨rfl,x2⟩)
     simp only[S_];refine vW (λw' hx=>?_) ?_
     ·go_wp2_with fail;exact Qg _
     simp only[S_];refine vW (λw' hx=>?_) ?_
     ·go_wp2_with (go_at_call 101;refine(US A3 l.length c3 (l.map Q3) _ (qf.o.ext hx) yH.o (by have:=HF.o.pil;simp only at this;omega)).mono ?_;rintro e w2 ⟨rfl,x2⟩)
     simp only[S_];refine vW (λw' hx=>?_) ?_
     ·go_wp2_with fail;exact Qg _
     simp only[S_];refine vW (λw' hx=>?_) ?_
     ·go_wp2_with (go_at_call 101;refine(US A4 dpr.length c4 (dpr.map ZB) _ (gx.o.ext hx) sJ.o (by have:=HF.o.prl;simp only at this;omega)).mono ?_;rintro e w2 ⟨rfl,x2⟩)
     simp only[S_];rw[NO];intro wq hxq;refine Rb (n:=16) (T:=9) (cs:=#[.string (Qb [104,105,98,50]),.string (Qb (Jh clock 8)),.string (Qb (Lib.itoa quantum)),.string (Qb (Lib.itoa cur)),.string (Qb (Lib.itoa left)),.string (Qb (Lib.itoa next)),.string (Qb (init)),.string (Qb (Lib.itoa newPipe)),.string (Qb (inn)),.string (Qb (Vo fin)),.string (Qb (Jh told 8)),.string (Qb (Lib.itoa dleft)),.string (Qb (Jq dpe)),.string (Qb (Jq ddi)),.string (Qb (Yt (l.map Q3))),.string (Qb (Yt (dpr.map ZB)))]) rfl (by simp[Act.put]) rfl ?_ (λg91 w' hxw bg91=>?_)
     ·go_wp2_with fail;exact⟨(Qg wq).alloc _,_,rfl,Qs _ _ _⟩
     simp only[S_];have hx:=hxq.trans hxw;clear hxq hxw;have HS:=Qa (JS (ss:=[[104,105,98,50],Jh clock 8,Lib.itoa quantum,Lib.itoa cur,Lib.itoa left,Lib.itoa next,init,Lib.itoa newPipe,inn,Vo fin,Jh told 8,Lib.itoa dleft,Jq dpe,Jq ddi,Yt (l.map Q3),Yt (dpr.map ZB)]) bg91);clear bg91;go_wp2_with (go_at_call 101;refine(US (some ⟨g91,0,none⟩) 16 16 [[104,105,98,50],Jh clock 8,Lib.itoa quantum,Lib.itoa cur,Lib.itoa left,Lib.itoa next,init,Lib.itoa newPipe,inn,Vo fin,Jh told 8,Lib.itoa dleft,Jq dpe,Jq ddi,Yt (l.map Q3),Yt (dpr.map ZB)] _ HS.o KE.o (by decide)).mono ?_;rintro e w2 ⟨rfl,x2⟩)
     go_ret;exact⟨rfl,(XW.o.trans hx).trans x2⟩
end Go.Proofs.YtfaplefkakpgcaaGreatDoor
