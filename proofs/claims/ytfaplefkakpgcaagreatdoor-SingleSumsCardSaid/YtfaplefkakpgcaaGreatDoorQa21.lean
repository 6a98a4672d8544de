import Derived.Test.YtfaplefkakpgcaaGreatDoorQa19
import Derived.Test.YtfaplefkakpgcaaGreatDoorQa20
set_option linter.unusedVariables false
set_option linter.unusedSimpArgs false
set_option maxHeartbeats 32000000
set_option maxRecDepth 100000
namespace Go.Proofs.YtfaplefkakpgcaaGreatDoor
open Go.Proofs.Tryz
open Go.RowKit
theorem JF {w:World}{g:Nat}{t:TypeId}{ss:List (List UInt8)}(h:Box w g t (Q5 ss).toArray):Strs w (some ⟨g,0,none⟩) ss.length ss:=⟨rfl,λ_=>⟨g,0,rfl,λj hj=>by
 rw[Ux,h.cell j];simp[Q5,hj]⟩⟩
theorem KE {w:World}{base z n:Nat}{u:Value}{xs:List Value}{t:TypeId}(o:w.ownsRow base t z u n xs):∃A c,u=.slice A n c:=by
 rcases o.2 with⟨rfl,rfl⟩|⟨g,cap,_,rfl,_⟩
 ·exact⟨none,0,rfl⟩
 ·exact⟨_,cap,rfl⟩
theorem Vy (z:Nat) (l:List (List UInt8)) (h:∀s∈l,s.length<=z):YZ l<=l.length*(z+4):=by
 induction l with
 | nil=>simp[YZ]
 | cons s l ih => have h1:=h s LY;have h2:=ih (λx hx=>h x (LX _ hx));unfold YZ at *;rw[FN,List.sum_cons,YV,SL];omega
theorem Zf (n:Int) (w:World) (h:Pu n) (hD:JW w) :
  Calls prog 102 #[.int .i64 n] w λe w'=>e=.returned (.string (Qb (Lib.itoa n)))/\Ext w w':=by
 have HD:=Qa (DL n w h hD);clear h hD;go_enter func102,ntmps102;go_wp2_with (go_at_call 174;refine HD.o.mono ?_;rintro e w1 ⟨rfl,x1⟩)
 go_ret;exact⟨rfl,x1⟩
theorem Mj (b:Bool) (w:World):Calls prog 105 #[.bool b] w λe w'=>e=.returned (.string (Qb (Kv b)))/\Ext w w':=by
 cases b
 all_goals
  go_enter func105,ntmps105;go_wp2_with fail;go_ret;exact⟨rfl,Qf _⟩
theorem MQ (A:Option Addr) (n c:Nat) (l:List Zs) (w:World) (h:Q8 Yd w A n l) (hf:PR l) (hl:l.length<=1000) (hD:JW w) :
  Calls prog 106 #[.slice A n c] w λe w'=>e=.returned (.string (Qb (J2 l)))/\Ext w w':=by
 have hn:n=l.length:=h.1;subst hn;have HR:=Qa h;have HF:=Qa hf;have HD:=Qa hD;clear h hf hD;go_enter func106,ntmps106;generalize hG:w.heap.size=G at *;go_upto_region 2 with(refine Ph (c:=l.length) G rfl _ _ rfl rfl rfl (by omega) (gx hG.symm) ?_;intro w1 o1 x1)
 rw[hG]at o1;go_upto_region 3 with fail;go_loopw [3,11] (λu i wx=>∃k:Nat,k<=l.length/\i=.int .i64 k/\Ext w wx/\wx.ownsRow G 9 1 u k (Q5 ((l.take k).map Q2))) (λ_ i _=>l.length-(intOf i).toNat);case atStart=>exact⟨0,by omega,rfl,x1,o1⟩
 case round =>
  clear x1 o1;obtain⟨k,hk,rfl,xk,ok⟩:=hrel;obtain⟨uL,huL⟩:∃v:Value,v=u3:=⟨_,rfl⟩
  subst huL;by_cases Qo:k<l.length
  ·obtain⟨b2,o2,hA,Qd⟩:=(HR.o.ext xk).wrs.2 (by show 0<l.length;omega);subst hA;have e1:=(Qd k Qo).1;have e2:=(Qd k Qo).2;have Vf:(k:Int)<(l.length:Int):=by omega
   have HY:=Qa (HF.o l[k] (FM _));have ls:=Qa (show(l.take (k+1)).map Q2=(l.take k).map Q2++[Q2 l[k]] by rw[FL Qo,fM];rfl);clear Qd;generalize l[k]=y at *;have HN:=Qa HY.o.1;have MS:=Qa (show YZ [Lib.itoa y.1,y.2]<=1000000000 by
    have h1:=JR HY.o.1.1 HY.o.1.2;have h2:=HY.o.2;simp only[YZ,FN,Cy,List.sum_cons,List.sum_nil];omega)
   clear HY;go_upto_region 5 with fail;have y5:Ext wr (wr.alloc (.cells #[.int .i64 y.1,.string (Qb y.2)] 92)):=(Qf wr).alloc _;have bw:=QA wr 92 #[.int .i64 y.1,.string (Qb y.2)];have tZ:=Qe ok y5;have jo:=xk.trans y5;have z7:G<=(wr.alloc (.cells #[.int .i64 y.1,.string (Qb y.2)] 92)).heap.size:=by rw[←hG];exact jo.size
   clear ok e1 e2 xk y5;generalize wr.alloc (.cells #[.int .i64 y.1,.string (Qb y.2)] 92)=w7 at *;generalize wr.heap.size=gw at *;refine YS 9 [[],[],[1],[2],[],[4],[3,5],[6],[7]] [.inl (uL),.inl (.pointer (some ⟨gw,0,none⟩)),.inl (.int .i64 ((y.1:Int))),.inl (.string (Qb (Lib.itoa y.1))),.inl (.pointer (some ⟨gw,1,none⟩)),.inl (.string (Qb (y.2))),OS 2 9 #[.string (Qb (Lib.itoa y.1)),.string (Qb (y.2))],.inl (.string (Qb (Q2 y))),OS 1 9 #[.string (Qb (Q2 y))]] (by kernel_rfl) (by kernel_rfl) rfl (λus=>?_);simp only[Yh,Yt,YB,Yu]
   iterate 3
    refine xW (λw' hx hd=>?_) ?_
    ·have c0:=(bw.ext hx).cell 0;go_wp2_with fail;exact Qf _
    simp only[S_]
   refine xW (λw' hx hd=>?_) ?_
   ·go_wp2_with (go_at_call 102;refine(Zf y.1 _ HN.o (HD.o.ext (jo.trans hx))).mono ?_;rintro e w2 ⟨rfl,x2⟩)
    all_goals rfl
   simp only[S_]
   iterate 2
    refine xW (λw' hx hd=>?_) ?_
    ·have c0:=(bw.ext hx).cell 1;go_wp2_with fail;exact Qf _
    simp only[S_]
   refine xR (λw' hx hd=>?_) ?_
   ·go_wp2_with fail;exact⟨(Qf w').alloc _,_,rfl,QA _ _ _⟩
   simp only[S_];refine xW (λw' hx hd=>?_) ?_
   ·have h6:=hd 6 (by simp);clear hd;generalize us 6=u6 at *;obtain⟨g21,rfl,bg21⟩:=h6;have HS:=Qa (JF (ss:=[Lib.itoa y.1,y.2]) bg21);clear bg21;go_wp2_with (go_at_call 101;refine(VR (some ⟨g21,0,none⟩) 2 2 [Lib.itoa y.1,y.2] _ HS.o MS.o (by decide)).mono ?_;rintro e w2 ⟨rfl,x2⟩)
    all_goals rfl
   simp only[S_];refine xR (λw' hx hd=>?_) ?_
   ·go_wp2_with fail;exact⟨(Qf w').alloc _,_,rfl,QA _ _ _⟩
   simp only[S_];rw[K0];intro w' hx hv;have h8:=hv 8 (by omega);clear hv;generalize us 6=u6 at *;generalize us 8=u8 at *;obtain⟨g23,rfl,bg23⟩:=h8;have v6:=JF (ss:=[Q2 y]) bg23;have oO:=Qe tZ hx;have tf:=jo.trans hx;have tm:=Y6 z7 hx.size;go_wp2_with (refine Yb G rfl _ _ rfl rfl rfl oO v6 (by omega) tm (by decide) ?_;intro u6 w6 o6 g6)
   have x6:Ext w w6:=tf.grown g6 (λk e=>by rw[hG];exact Jc oO e);go_roundw;case rel=>exact⟨k+1,by omega,by go_num,x6,by rw[ls.o];exact o6⟩
   case measure=>simp[intOf];omega
  ·obtain rfl:k=l.length:=by omega
   rw[L9]at ok;have Lm:YZ (l.map Q2)<=1000000000:=by
    have:=Vy 1028 (l.map Q2) (λs hs=>by
     obtain⟨x,hx,rfl⟩:=Pq.1 hs;exact VW (HF.o x hx).1 (HF.o x hx).2)
    rw[Fo]at this;omega
   obtain⟨A3,c3,e3⟩:=KE ok;subst e3;have HS:=Qa (Cz ok);have MS:=Qa Lm;clear ok Lm;go_wp2_with (go_at_call 101;refine(VR A3 l.length c3 (l.map Q2) _ HS.o MS.o (by omega)).mono ?_;rintro e w2 ⟨rfl,x2⟩)
   go_ret;exact⟨rfl,xk.trans x2⟩
def ME (p:QN):List Value:=(List.range 16).map λi=>.int .u32 (p.reg i)
theorem eC (p:QN):∀j v,(ME p)[j]? =some v->(QJ p).toArray[3+j]? =some v:=λj v hv=>by
 have hj:j<16:=by have:=(PO.1 hv).1;exact this
 rw[MY];have e:(QJ p).drop 3=ME p++([.int .u32 p.pc]++ZA p++N5 p++[.bool p.mask,.int .u32 p.code,.int .i64 p.why,.int .u64 p.num]):=rfl;rw[←Fm,e,AW (by exact hj)];exact hv
theorem OM:(prog.info? 46).map (·.size)=some 16:=by kernel_rfl
theorem RR {P:Program}{t e n:Nat}{cs:Array Value}{v:Value}{i:Nat}{d:TypeDesc}(w:World) (hu:P.underlying t=some (.array n e)) (he:P.underlying e=some d) (hd:d.isRow=false) (hs:(P.info? e).map (·.size)=some 1) (UT:i<n) (hv:cs[i]? =some v) :
  (Instr.index t (.agg cs) (.int .i64 (i:Int))).run P w=.ok v w:=by
 cases hq:P.info? e with
 | none=>simp[hq]at hs
 | some j =>
  have hz:j.size=1:=by simpa[hq]using hs
  have Ea:(isAgg e).run P w=.ok false w:=by unfold isAgg;rw[WW,SP he w];cases d<;>simp_all
  have h1:(i:Int)<(n:Int):=by omega
  simp[Instr.index,asIntOf,SP hu,h1,sizeOf,typeInfo,hq,part,WW,Ea,hz,hv];intro hc;exact absurd hc (by omega)
section
variable {ops:Array Oper}{rest:List Oper}{o:Oper}{a:Act}{w:World}{Q:Exit->Act->World->Prop}
theorem Dn (x:Operand) (Q7:o.guard=none) (ho:o.op=.load 46 x) (g:Nat) (t:TypeId) (p:QN) (hx:a.eval x=.pointer (some ⟨g,3,none⟩))
  (hb:Box w g t (QJ p).toArray) (hK:wpList prog ops Q rest (a.put o.dst (.agg (ME p).toArray)) w):wpList prog ops Q (o::rest) a w :=
 wpList_load_mid Q7 _ x ho g 3 hx _ _ (Xm hb (eC p)) underlying46 rfl (by exact OM) hK
theorem eQ:(prog.info? 45).map (·.size)=some 1:=by kernel_rfl
theorem Dm (x y:Operand) (Q7:o.guard=none) (ho:o.op=.index 46 x y) (p:QN) (i:Nat) (hx:a.eval x=.agg (ME p).toArray) (hy:a.eval y=.int .i64 (i:Int)) (hi:i<16)
  (hK:wpList prog ops Q rest (a.put o.dst (.int .u32 (p.reg i))) w):wpList prog ops Q (o::rest) a w:=by
 refine DC Q7 λK Ky=>?_;unfold Oper.wp execOp;have:=RR (P:=prog) (cs:=(ME p).toArray) (v:=.int .u32 (p.reg i)) (i:=i) w underlying46 underlying45 rfl eQ hi (by simp[ME,hi]);simp only[ho,hx,hy,this,WW,Fp,MZ];exact Ky _ _ hK
theorem Xl {B g m n:Nat}{u:Value}{l:List UInt8}(p:List UInt8) (Q7:o.guard=none) (sl x:Operand)
  (ho:o.op=.call { callee:=.builtin .append,args:=#[sl,x],argTypes:=#[167,167] }) (hs:a.eval sl=u) (hx:a.eval x=.slice (some ⟨g,0,none⟩) m m)
  (cs:Array Value) (hcs:cs=(QS p).toArray) (h0:w.ownsRow B 5 1 u n (QS l)) (hb:Box w g 5 cs) (hm:m=p.length) (hn:n+p.length<=1000000) (hB:B<=w.heap.size)
  (hK:∀u' w',w'.ownsRow B 5 1 u' (n+p.length) (QS (l++p))->w.grownBy w' u.ownBlock->wpList prog ops Q rest (a.put o.dst u') w'):wpList prog ops Q (o::rest) a w:=by
 subst hm;subst hcs;refine DC Q7 λK Ky=>?_;obtain⟨i,hi,hz,h1,h2⟩:=SQ TC;obtain⟨v',w',hr,ho2,hg,_,_⟩:=mM (P:=prog) w B 167 o.type 5 i _ 1 1 underlying167 hi hz h1 h2 rfl (by decide) u n (QS l) h0 ⟨g,0,none⟩ p.length p.length (QS p) (by simp[QS]) (λj u hj=>by
  have ha:(⟨g,0,none⟩:Addr).add j=⟨g,j,none⟩:=by unfold Addr.add;split<;>simp_all
  rw[ha,hb.cell j];simpa using hj) (λv hv=>by
  simp only[QS,Pq]at hv;obtain⟨s,_,rfl⟩:=hv;rfl) (by unfold maxLen;omega) (by omega) hB
 unfold Oper.wp execOp;simp only[ho,resolve,invoke,builtin,WW,Fp,MZ,fG,FN,Cy,hs,hx,hr];refine Ky _ _ (hK v' w' ?_ hg);rw[show QS (l++p)=QS l++QS p by simp[QS]];exact ho2
end
theorem CI (a:UInt8):(#[.int .u8 (a.toNat:Int)]:Array Value)=(QS [a]).toArray:=rfl
theorem Ie:(#[.int .u8 0,.int .u8 0]:Array Value)=(QS [0,0]).toArray:=by kernel_rfl
theorem cF (b:UInt8):(#[.int .u8 1,.int .u8 (b.toNat:Int)]:Array Value)=(QS [1,b]).toArray:=by kernel_rfl
theorem cG (b:UInt8):(#[.int .u8 2,.int .u8 (b.toNat:Int)]:Array Value)=(QS [2,b]).toArray:=by kernel_rfl
theorem Wb (f:Nat->List UInt8) (k:Nat):(List.range (k+1)).flatMap f=(List.range k).flatMap f++f k:=by
 rw[fL,AY];simp
theorem gD {n:Int}(h0:0<=n) (h1:n<256):IntKind.u8.wrap n=((b8 n).toNat:Int):=by
 rw[Te h0 h1,IntKind.wrap_u8'];omega
theorem OI (y:QN) (w:World) (hf:VX y) (hD:JW w) :
  Calls prog 103 #[.agg (QJ y).toArray] w λe w'=>e=.returned (.string (Qb (ZN y)))/\Ext w w':=by
 have HF:=Qa hf;have HD:=Qa hD;have MS:=Qa (show YZ (UC y)<=1000000000 by
  have:=Vy 136 (UC y) (Np hf);rw[Mx]at this;omega)
 have HUC:=Qa (show IntKind.u64.wrap y.code=y.code by rw[A5];have:=hf.code;omega);clear hf hD;go_enter func103,ntmps103;go_upto_region 2 with fail;have b0:=QA w 57 (QJ y).toArray;have x0:Ext w (w.alloc (.cells (QJ y).toArray 57)):=(Qf w).alloc _;generalize w.alloc (.cells (QJ y).toArray 57)=w0 at b0 x0 ⊢;generalize w.heap.size=G at b0 ⊢;go_upto_region 3 with(refine Dn _ rfl rfl G _ y rfl b0 ?_)
 generalize hG1:w0.heap.size=G1;go_loopw [3,7,15] (λu _ i wx=>∃k:Nat,k<=16/\i=.int .i64 k/\Ext w0 wx/\wx.ownsRow G1 5 1 u (4*k) (QS ((List.range k).flatMap λi=>JA (y.reg i) 4))) (λ_ _ i _=>16-(intOf i).toNat);case atStart=>exact⟨0,by omega,rfl,Qf _,ap _ _ _ _⟩
 case round =>
  obtain⟨k,hk,rfl,xk,ok⟩:=hrel;obtain⟨uL,huL⟩:∃v:Value,v=u3:=⟨_,rfl⟩
  subst huL;by_cases Qo:k<16
  ·have Vf:(k:Int)<16:=by omega
   have HT:=Qa (Wb (λi=>JA (y.reg i) 4) k);have hr:=HF.o.reg k Qo;have z5:G1<=wr.heap.size:=by rw[←hG1];exact xk.size
   have hu:IntKind.u64.wrap (y.reg k)=y.reg k:=by rw[A5];omega
   have qL:=hr.1;have iu:=hr.2;clear hr
   go_wp2_with (first
    | (refine Dm (.tmp 14) (.tmp 15) rfl rfl y k rfl rfl Qo ?_)
    | (go_at_call 104;refine(OJ (y.reg k) _ qL iu).mono ?_;rintro e w2 ⟨rfl,x2⟩)
    | (refine YM rfl _ _ rfl rfl rfl (Qe ok x2) (by rw[QO];omega) (Y6 z5 x2.size) ?_;intro u6 w6 o6 g6))
   have ok2:=Qe ok x2;have x6:Ext w0 w6:=(xk.trans x2).grown g6 (λj e=>by rw[hG1];exact Jc ok2 e);rw[QO,show 4*k+4=4*(k+1) by omega]at o6;go_roundw;case rel=>exact⟨k+1,by omega,by go_num,x6,by rw[HT.o];exact o6⟩
   case measure=>simp[intOf];omega
  ·obtain rfl:k=16:=by omega
   have hu:IntKind.u64.wrap y.pc=y.pc:=by rw[A5];have:=HF.o.pc;omega
   have qL:=HF.o.pc.1;have iu:=HF.o.pc.2;have z5:G1<=wr.heap.size:=by rw[←hG1];exact xk.size
   have bk:=b0.ext xk;have q:wr.cell? ⟨G,19,none⟩=some (.int .u32 y.pc):=bk.cell 19
   go_upto_region 8 with(first
    | (go_at_call 104;refine(OJ y.pc _ qL iu).mono ?_;rintro e w2 ⟨rfl,x2⟩)
    | (refine YM rfl _ _ rfl rfl rfl (Qe ok x2) (by rw[QO];omega) (Y6 z5 x2.size) ?_;intro uC w6 o6 g6))
   have x6:Ext w0 w6:=(xk.trans x2).grown g6 (λj e=>by rw[hG1];exact Jc ok e);rw[QO]at o6;have oC:w6.ownsRow G1 5 1 uC 68 (QS (N4 y)):=o6;have bC:=b0.ext x6;have xC:=x0.trans x6;clear b0 x0 x6 g6 o6 x2 ok xk bk q hG1 z5 qL iu hu hk Qo;go_upto_region 9 with(refine X3 _ rfl rfl G _ y rfl bC ?_)
   generalize hG2:w6.heap.size=G2;go_loopw [4,33] (λu i wx=>∃k:Nat,k<=16/\i=.int .i64 k/\Ext w6 wx/\wx.ownsRow G2 5 1 u (2*k) (QS ((List.range k).flatMap (WH y)))) (λ_ i _=>16-(intOf i).toNat);case atStart=>exact⟨0,by omega,rfl,Qf _,ap _ _ _ _⟩
   case round =>
    obtain⟨k,hk,rfl,xk,ok⟩:=hrel;obtain⟨uM,huM⟩:∃v:Value,v=u4:=⟨_,rfl⟩
    subst huM;by_cases Qo:k<16
    ·have Vf:(k:Int)<16:=by omega
     have HT:=Qa (Wb (WH y) k);have hn:2*(k+1)=2*k+2:=by omega
     have z5:G2<=wr.heap.size:=by rw[←hG2];exact xk.size
     have hu:=gD (HF.o.page k Qo).1 (HF.o.page k Qo).2.1;have hfrb:=(HF.o.page k Qo).2.1;go_upto_region 12 with(refine YN (.tmp 32) (.tmp 33) rfl rfl y k rfl rfl Qo ?_)
     have bq:=QA wr 50 #[.bool (y.pis k),.bool (y.pwr k),.int .i64 (y.pfr k)];have xq:=xk.alloc (.cells #[.bool (y.pis k),.bool (y.pwr k),.int .i64 (y.pfr k)] 50);have oq:=Qe ok ((Qf wr).alloc (.cells #[.bool (y.pis k),.bool (y.pwr k),.int .i64 (y.pfr k)] 50));generalize wr.alloc (.cells #[.bool (y.pis k),.bool (y.pwr k),.int .i64 (y.pfr k)] 50)=wq at bq xq oq ⊢;generalize wr.heap.size=gq at bq ⊢;have zq:G2<=wq.heap.size:=by rw[←hG2];exact xq.size
     have q0:wq.cell? ⟨gq,0,none⟩=some (.bool (y.pis k)):=bq.cell 0;have q1:wq.cell? ⟨gq,1,none⟩=some (.bool (y.pwr k)):=bq.cell 1;have q2:wq.cell? ⟨gq,2,none⟩=some (.int .i64 (y.pfr k)):=bq.cell 2;clear bq xk ok z5;cases e1:y.pis k with
     | false =>
      rw[e1]at q0;have hp:WH y k=[0,0]:=by unfold WH;rw[Qv e1]
      go_wp2_with (refine Xl [0,0] rfl _ _ rfl rfl rfl _ Ie (Qe oq ((Qf wq).alloc _)) (QA _ _ _) rfl (by simp only[YV,Tz];omega) (Y6 zq ((Qf wq).alloc _).size) ?_;intro u7 w7 o7 g7)
      have x7:Ext w6 w7:=(xq.alloc _).grown g7 (λj e=>by rw[hG2];exact Jc oq e);go_roundw;case rel=>exact⟨k+1,by omega,by go_num,x7,by rw[HT.o,hp,hn];exact o7⟩
      case measure=>simp[intOf];omega
     | true =>
      cases e2:y.pwr k with
      | true =>
       rw[e1]at q0;rw[e2]at q1;have hp:WH y k=[2,b8 (y.pfr k)]:=by unfold WH;rw[Qr (by rw[e1];decide),Qv e2]
       go_wp2_with (refine Xl [2,b8 (y.pfr k)] rfl _ _ rfl rfl rfl _ (cG _) (Qe oq ((Qf wq).alloc _)) (QA _ _ _) rfl (by simp only[YV,Tz];omega) (Y6 zq ((Qf wq).alloc _).size) ?_;intro u7 w7 o7 g7)
       have x7:Ext w6 w7:=(xq.alloc _).grown g7 (λj e=>by rw[hG2];exact Jc oq e);go_roundw;case rel=>exact⟨k+1,by omega,by go_num,x7,by rw[HT.o,hp,hn];exact o7⟩
       case measure=>simp[intOf];omega
      | false =>
       rw[e1]at q0;rw[e2]at q1;have hp:WH y k=[1,b8 (y.pfr k)]:=by unfold WH;rw[Qr (by rw[e1];decide),Qr (by rw[e2];decide)]
       go_wp2_with (refine Xl [1,b8 (y.pfr k)] rfl _ _ rfl rfl rfl _ (cF _) (Qe oq ((Qf wq).alloc _)) (QA _ _ _) rfl (by simp only[YV,Tz];omega) (Y6 zq ((Qf wq).alloc _).size) ?_;intro u7 w7 o7 g7)
       have x7:Ext w6 w7:=(xq.alloc _).grown g7 (λj e=>by rw[hG2];exact Jc oq e);go_roundw;case rel=>exact⟨k+1,by omega,by go_num,x7,by rw[HT.o,hp,hn];exact o7⟩
       case measure=>simp[intOf];omega
    ·obtain rfl:k=16:=by omega
     have oS:wr.ownsRow G2 5 1 uM 32 (QS (YK y)):=ok;have wD:=Qe oC xk;have rY:=bC.ext xk;have wJ:=xC.trans xk;clear ok oC bC xC xk hG2 hk Qo;go_upto_region 18 with(refine NA _ rfl rfl G _ y rfl rY ?_)
     obtain⟨wS,hwS⟩:∃v:World,v=wr:=⟨_,rfl⟩
     subst hwS;generalize hG3:wS.heap.size=G3;go_loopw [5,61] (λu i wx=>∃k:Nat,k<=8/\i=.int .i64 k/\Ext wS wx/\wx.ownsRow G3 5 1 u (17*k) (QS ((List.range k).flatMap (cW y)))) (λ_ i _=>8-(intOf i).toNat);case atStart=>exact⟨0,by omega,rfl,Qf _,ap _ _ _ _⟩
     case round =>
      obtain⟨k,hk,rfl,xk,ok⟩:=hrel;obtain⟨uN,huN⟩:∃v:Value,v=u5:=⟨_,rfl⟩
      subst huN;by_cases Qo:k<8
      ·have Vf:(k:Int)<8:=by omega
       have HT:=Qa (Wb (cW y) k);have hu:=gD (HF.o.fk k Qo).1 (HF.o.fk k Qo).2;have f0:=(HF.o.fn k Qo).1;have f1:=(HF.o.fn k Qo).2;have f2:=(HF.o.fp k Qo).1;have f3:=(HF.o.fp k Qo).2;have Fz:IntKind.u64.wrap (y.fn k)=y.fn k:=by rw[A5];omega
       have Kl:IntKind.u64.wrap (y.fp k)=y.fp k:=by rw[A5];omega
       go_upto_region 20 with(refine Nz (.tmp 60) (.tmp 61) rfl rfl y k rfl rfl Qo ?_)
       have bq:=QA wr 54 #[.int .i64 (y.fk k),.int .i64 (y.fn k),.int .i64 (y.fp k)];have xq:=xk.alloc (.cells #[.int .i64 (y.fk k),.int .i64 (y.fn k),.int .i64 (y.fp k)] 54);have oq:=Qe ok ((Qf wr).alloc (.cells #[.int .i64 (y.fk k),.int .i64 (y.fn k),.int .i64 (y.fp k)] 54));generalize wr.alloc (.cells #[.int .i64 (y.fk k),.int .i64 (y.fn k),.int .i64 (y.fp k)] 54)=wq at bq xq oq ⊢;generalize wr.heap.size=gq at bq ⊢;have zq:G3<=wq.heap.size:=by rw[←hG3];exact xq.size
       have q0:=bq.cell 0;go_upto_region 21 with(refine Xl [b8 (y.fk k)] rfl _ _ rfl rfl rfl _ (CI _) (Qe oq ((Qf wq).alloc _)) (QA _ _ _) rfl (by simp only[YV,Tz];omega) (Y6 zq ((Qf wq).alloc _).size) ?_;intro u7 w7 o7 g7)
       have b7:=(bq.ext ((Qf wq).alloc _)).grown g7 (Jz oq bq (by decide));have x7:Ext wS w7:=(xq.alloc _).grown g7 (λj e=>by rw[hG3];exact Jc oq e);have z7:G3<=w7.heap.size:=by rw[←hG3];exact x7.size
       clear bq xq oq q0 zq g7 xk ok;have q1:=b7.cell 1
       go_upto_region 22 with(first
        | (go_at_call 104;refine(GG (y.fn k) _ f0 (by omega)).mono ?_;rintro e w8 ⟨rfl,x8⟩)
        | (refine YM rfl _ _ rfl rfl rfl (Qe o7 x8) (by rw[QO];simp only[YV,Tz];omega) (Y6 z7 x8.size) ?_;intro u9 w9 o9 g9))
       have b9:=(b7.ext x8).grown g9 (Jz (Qe o7 x8) (b7.ext x8) (by decide));have x9:Ext wS w9:=(x7.trans x8).grown g9 (λj e=>by rw[hG3];exact Jc o7 e);have z9:G3<=w9.heap.size:=by rw[←hG3];exact x9.size
       clear b7 x7 q1 z7 g9 o7 x8;have q2:=b9.cell 2;rw[QO]at o9
       go_wp2_with (first
        | (go_at_call 104;refine(GG (y.fp k) _ f2 (by omega)).mono ?_;rintro e Dg ⟨rfl,Tc⟩)
        | (refine YM rfl _ _ rfl rfl rfl (Qe o9 Tc) (by rw[QO];simp only[YV,Tz];omega) (Y6 z9 Tc.size) ?_;intro u11 aS o11 g11))
       have FF:Ext wS aS:=(x9.trans Tc).grown g11 (λj e=>by rw[hG3];exact Jc o9 e);rw[QO,show 17*k+[b8 (y.fk k)].length+8+8=17*(k+1) by simp only[YV,Tz];omega]at o11;go_roundw;case rel=>exact⟨k+1,by omega,by go_num,FF,by rw[HT.o];simpa[cW,ar]using o11⟩
       case measure=>simp[intOf];omega
      ·obtain rfl:k=8:=by omega
       have oF:wr.ownsRow G3 5 1 uN 136 (QS (UQ y)):=ok;have oC:=Qe wD xk;have wE:=Qe oS xk;clear oS;have oS:=wE;have bC:=rY.ext xk;have xC:=wJ.trans xk;clear wE ok wD rY wJ xk hG3 hk Qo;go_wp2_with fail;refine QP 28 [[],[0],[1],[],[3],[4],[],[6],[7],[],[9],[],[11],[],[13],[],[15],[16],[],[18],[19],[20],[],[22],[23],[],[25],[26],[2,5,8,10,12,14,17,21,24,27]] [(.pointer (some ⟨G,0,none⟩)),(.int .i64 ((y.pid:Int))),(.string (Qb (Lib.itoa y.pid))),(.pointer (some ⟨G,1,none⟩)),(.int .i64 ((y.parent:Int))),(.string (Qb (Lib.itoa y.parent))),(.pointer (some ⟨G,2,none⟩)),(.int .i64 ((y.state:Int))),(.string (Qb (Lib.itoa y.state))),(uC),(.string (Qb (N4 y))),(uM),(.string (Qb (YK y))),(uN),(.string (Qb (UQ y))),(.pointer (some ⟨G,92,none⟩)),(.bool y.mask),(.string (Qb (Kv y.mask))),(.pointer (some ⟨G,93,none⟩)),(.int .u32 (y.code:Int)),(.int .u64 (y.code:Int)),(.string (Qb (JA y.code 4))),(.pointer (some ⟨G,94,none⟩)),(.int .i64 ((y.why:Int))),(.string (Qb (Lib.itoa y.why))),(.pointer (some ⟨G,95,none⟩)),(.int .u64 (y.num:Int)),(.string (Qb (JA y.num 8)))] (by kernel_rfl) (by kernel_rfl) rfl ?_;simp only[Yh,Yt,YB,Yu]
       iterate 2
        refine vW (λw' hx=>?_) ?_
        ·have c0:w'.cell? ⟨G,0,none⟩=some (.int .i64 y.pid):=(bC.ext hx).cell 0;go_wp2_with fail;exact Qf _
        simp only[S_]
       refine vW (λw' hx=>?_) ?_
       ·go_wp2_with (go_at_call 102;refine(Zf y.pid _ HF.o.pid (HD.o.ext (xC.trans hx))).mono ?_;rintro e w2 ⟨rfl,x2⟩)
       simp only[S_]
       iterate 2
        refine vW (λw' hx=>?_) ?_
        ·have c0:w'.cell? ⟨G,1,none⟩=some (.int .i64 y.parent):=(bC.ext hx).cell 1;go_wp2_with fail;exact Qf _
        simp only[S_]
       refine vW (λw' hx=>?_) ?_
       ·go_wp2_with (go_at_call 102;refine(Zf y.parent _ HF.o.parent (HD.o.ext (xC.trans hx))).mono ?_;rintro e w2 ⟨rfl,x2⟩)
       simp only[S_]
       iterate 2
        refine vW (λw' hx=>?_) ?_
        ·have c0:w'.cell? ⟨G,2,none⟩=some (.int .i64 y.state):=(bC.ext hx).cell 2;go_wp2_with fail;exact Qf _
        simp only[S_]
       refine vW (λw' hx=>?_) ?_
       ·go_wp2_with (go_at_call 102;refine(Zf y.state _ HF.o.state (HD.o.ext (xC.trans hx))).mono ?_;rintro e w2 ⟨rfl,x2⟩)
       simp only[S_]
       iterate 8
        refine vW (λw' hx=>?_) ?_
        ·have cv:=TJ (Qe oC hx) (by decide);have cv:=TJ (Qe oS hx) (by decide);have cv:=TJ (Qe oF hx) (by decide);have c3:w'.cell? ⟨G,92,none⟩=some (.bool y.mask):=(bC.ext hx).cell 92;go_wp2_with fail;exact Qf _
        simp only[S_]
       refine vW (λw' hx=>?_) ?_
       ·go_wp2_with (go_at_call 105;refine(Mj y.mask _).mono ?_;rintro e w2 ⟨rfl,x2⟩)
       simp only[S_]
       iterate 3
        refine vW (λw' hx=>?_) ?_
        ·have c0:w'.cell? ⟨G,93,none⟩=some (.int .u32 y.code):=(bC.ext hx).cell 93;have hu:=HUC.o;go_wp2_with fail;exact Qf _
        simp only[S_]
       refine vW (λw' hx=>?_) ?_
       ·go_wp2_with (go_at_call 104;refine(OJ y.code _ HF.o.code.1 HF.o.code.2).mono ?_;rintro e w2 ⟨rfl,x2⟩)
       simp only[S_]
       iterate 2
        refine vW (λw' hx=>?_) ?_
        ·have c0:w'.cell? ⟨G,94,none⟩=some (.int .i64 y.why):=(bC.ext hx).cell 94;go_wp2_with fail;exact Qf _
        simp only[S_]
       refine vW (λw' hx=>?_) ?_
       ·go_wp2_with (go_at_call 102;refine(Zf y.why _ HF.o.why (HD.o.ext (xC.trans hx))).mono ?_;rintro e w2 ⟨rfl,x2⟩)
       simp only[S_]
       iterate 2
        refine vW (λw' hx=>?_) ?_
        ·have c0:w'.cell? ⟨G,95,none⟩=some (.int .u64 y.num):=(bC.ext hx).cell 95;go_wp2_with fail;exact Qf _
        simp only[S_]
       refine vW (λw' hx=>?_) ?_
       ·go_wp2_with (go_at_call 104;refine(GG y.num _ HF.o.num.1 HF.o.num.2).mono ?_;rintro e w2 ⟨rfl,x2⟩)
       simp only[S_];rw[Zq];intro wq hxq;refine GQ (n:=10) (T:=9) (cs:=#[.string (Qb (Lib.itoa y.pid)),.string (Qb (Lib.itoa y.parent)),.string (Qb (Lib.itoa y.state)),.string (Qb (N4 y)),.string (Qb (YK y)),.string (Qb (UQ y)),.string (Qb (Kv y.mask)),.string (Qb (JA y.code 4)),.string (Qb (Lib.itoa y.why)),.string (Qb (JA y.num 8))]) rfl (by simp[Act.put]) rfl ?_ (λg111 w' hxw bg111=>?_)
       ·go_wp2_with fail;exact⟨(Qf wq).alloc _,_,rfl,QA _ _ _⟩
       simp only[S_];have hx:=hxq.trans hxw;clear hxq hxw;have HS:=Qa (JF (ss:=UC y) bg111);clear bg111;go_wp2_with (go_at_call 101;refine(VR (some ⟨g111,0,none⟩) 10 10 (UC y) _ HS.o MS.o (by decide)).mono ?_;rintro e w2 ⟨rfl,x2⟩)
       go_ret;exact⟨rfl,(xC.trans hx).trans x2⟩
theorem RN (m:Q1) (d:QL) (w:World) (hf:Xf m d) (hi:Jg w m d) (hD0:JW w) :
  Calls prog 54 #[.agg m.cells] w λe w'=>e=.returned (.string (Qb (Jy m d)))/\Ext w w':=by
 have MS:=Qa (show YZ (V9 m d)<=1000000000 by
  have:=Vy 1404000 (V9 m d) (Nr hf);rw[show(V9 m d).length=16 from rfl]at this;omega)
 have Bw:=hi.pi;have ip:=hi.pr;have T9:=hi.pe;have DZ:=hi.di;have HF:=Qa hf;have x0:=(Qf w).alloc (.cells m.cells 38);have b0:=QA w 38 m.cells;have HD:=Qa (hD0.ext x0);clear hf hi hD0;go_enter func54,ntmps54;go_upto_region 1 with fail;replace Bw:=Bw.ext x0;replace ip:=ip.ext x0;replace T9:=T9.ext x0;replace DZ:=DZ.ext x0;generalize w.alloc (.cells m.cells 38)=w0 at *;generalize w.heap.size=Gb at *;obtain⟨clock,quantum,cur,left,⟨fA,fn,fc⟩,⟨rA,rn,rc⟩,next,init,⟨A,n,c⟩,newPipe,inn,fin,told,⟨bA,bn,bc⟩,⟨pA,pn,pc⟩,dleft,⟨dA,dn,dc⟩⟩:=m;obtain⟨dfr,dpr,l,dbl,dpe,ddi⟩:=d;simp only at Bw ip T9 DZ;obtain rfl:n=l.length:=Bw.1;obtain rfl:rn=dpr.length:=ip.1;obtain rfl:pn=dpe.length:=T9.1;obtain rfl:dn=ddi.length:=DZ.1;have HR:=Qa Bw;have uR:=Qa ip;have HPe:=Qa T9;have HDi:=Qa DZ;clear Bw ip T9 DZ;have hl:l.length<=1000:=HF.o.pil;have hlr:dpr.length<=1000:=HF.o.prl;have lE:=HF;clear HF;have HF:=Qa lE.o.pi;simp only at HF;have q8:w0.cell? ⟨Gb,8,none⟩=some (.slice A l.length c):=b0.cell 8;generalize hG:w0.heap.size=G;go_upto_region 2 with(refine Ph (c:=l.length) G rfl _ _ rfl rfl rfl (by omega) (gx hG.symm) ?_;intro w1 o1 x1)
 rw[hG]at o1;have q8':w1.cell? ⟨Gb,8,none⟩=some (.slice A l.length c):=(b0.ext x1).cell 8;clear q8;go_upto_region 3 with fail;go_loopw [3,16] (λu i wx=>∃k:Nat,k<=l.length/\i=.int .i64 k/\Ext w0 wx/\wx.ownsRow G 9 1 u k (Q5 ((l.take k).map Q2))) (λ_ i _=>l.length-(intOf i).toNat);case atStart=>exact⟨0,by omega,rfl,x1,o1⟩
 case round =>
  clear x1 o1 q8';obtain⟨k,hk,rfl,xk,ok⟩:=hrel;obtain⟨uL,huL⟩:∃v:Value,v=u3:=⟨_,rfl⟩
  subst huL;by_cases Qo:k<l.length
  ·obtain⟨b2,o2,hA,Qd⟩:=(HR.o.ext xk).wrs.2 (by show 0<l.length;omega);subst hA;have e1:=(Qd k Qo).1;have e2:=(Qd k Qo).2;have Vf:(k:Int)<(l.length:Int):=by omega
   have HY:=Qa (HF.o l[k] (FM _));have ls:=Qa (show(l.take (k+1)).map Q2=(l.take k).map Q2++[Q2 l[k]] by rw[FL Qo,fM];rfl);clear Qd;generalize l[k]=y at *;have HN:=Qa HY.o.1;have MS:=Qa (show YZ [Lib.itoa y.1,y.2]<=1000000000 by
    have h1:=JR HY.o.1.1 HY.o.1.2;have h2:=HY.o.2;simp only[YZ,FN,Cy,List.sum_cons,List.sum_nil];omega)
   clear HY;go_upto_region 5 with fail;have y5:Ext wr (wr.alloc (.cells #[.int .i64 y.1,.string (Qb y.2)] 95)):=(Qf wr).alloc _;have bw:=QA wr 95 #[.int .i64 y.1,.string (Qb y.2)];have tZ:=Qe ok y5;have jo:=xk.trans y5;have z7:G<=(wr.alloc (.cells #[.int .i64 y.1,.string (Qb y.2)] 95)).heap.size:=by rw[←hG];exact jo.size
   clear ok e1 e2 xk y5;generalize wr.alloc (.cells #[.int .i64 y.1,.string (Qb y.2)] 95)=w7 at *;generalize wr.heap.size=gw at *;refine YS 9 [[],[],[1],[2],[],[4],[3,5],[6],[7]] [.inl (uL),.inl (.pointer (some ⟨gw,0,none⟩)),.inl (.int .i64 ((y.1:Int))),.inl (.string (Qb (Lib.itoa y.1))),.inl (.pointer (some ⟨gw,1,none⟩)),.inl (.string (Qb (y.2))),OS 2 9 #[.string (Qb (Lib.itoa y.1)),.string (Qb (y.2))],.inl (.string (Qb (Q2 y))),OS 1 9 #[.string (Qb (Q2 y))]] (by kernel_rfl) (by kernel_rfl) rfl (λus=>?_);simp only[Yh,Yt,YB,Yu]
   iterate 3
    refine xW (λw' hx hd=>?_) ?_
    ·have c0:=(bw.ext hx).cell 0;go_wp2_with fail;exact Qf _
    simp only[S_]
   refine xW (λw' hx hd=>?_) ?_
   ·go_wp2_with (go_at_call 102;refine(Zf y.1 _ HN.o (HD.o.ext (jo.trans hx))).mono ?_;rintro e w2 ⟨rfl,x2⟩)
    all_goals rfl
   simp only[S_]
   iterate 2
    refine xW (λw' hx hd=>?_) ?_
    ·have c0:=(bw.ext hx).cell 1;go_wp2_with fail;exact Qf _
    simp only[S_]
   refine xR (λw' hx hd=>?_) ?_
   ·go_wp2_with fail;exact⟨(Qf w').alloc _,_,rfl,QA _ _ _⟩
   simp only[S_];refine xW (λw' hx hd=>?_) ?_
   ·have h6:=hd 6 (by simp);clear hd;generalize us 6=u6 at *;obtain⟨g26,rfl,bg26⟩:=h6;have HS:=Qa (JF (ss:=[Lib.itoa y.1,y.2]) bg26);clear bg26;go_wp2_with (go_at_call 101;refine(VR (some ⟨g26,0,none⟩) 2 2 [Lib.itoa y.1,y.2] _ HS.o MS.o (by decide)).mono ?_;rintro e w2 ⟨rfl,x2⟩)
    all_goals rfl
   simp only[S_];refine xR (λw' hx hd=>?_) ?_
   ·go_wp2_with fail;exact⟨(Qf w').alloc _,_,rfl,QA _ _ _⟩
   simp only[S_];rw[K0];intro w' hx hv;have h8:=hv 8 (by omega);clear hv;generalize us 6=u6 at *;generalize us 8=u8 at *;obtain⟨g28,rfl,bg28⟩:=h8;have v6:=JF (ss:=[Q2 y]) bg28;have oO:=Qe tZ hx;have tf:=jo.trans hx;have tm:=Y6 z7 hx.size;go_wp2_with (refine Yb G rfl _ _ rfl rfl rfl oO v6 (by omega) tm (by decide) ?_;intro u6 w6 o6 g6)
   have x6:Ext w0 w6:=tf.grown g6 (λk e=>by rw[hG];exact Jc oO e);go_roundw;case rel=>exact⟨k+1,by omega,by go_num,x6,by rw[ls.o];exact o6⟩
   case measure=>simp[intOf];omega
  ·obtain rfl:k=l.length:=by omega
   rw[L9]at ok;obtain⟨wA,hwA⟩:∃v:World,v=wr:=⟨_,rfl⟩
   subst hwA;have Lm:YZ (l.map Q2)<=1000000000:=by
    have:=Vy 1028 (l.map Q2) (λs hs=>by
     obtain⟨x,hx,rfl⟩:=Pq.1 hs;exact VW (HF.o x hx).1 (HF.o x hx).2)
    rw[Fo]at this;omega
   obtain⟨A3,c3,e3⟩:=KE ok;subst e3;have s3:=Cz ok;have HM3:=Qa Lm;have hb:=b0.ext xk;have q5:wA.cell? ⟨Gb,5,none⟩=some (.slice rA dpr.length rc):=hb.cell 5;generalize hG2:wA.heap.size=G2;go_upto_region 8 with(refine Ph (c:=dpr.length) G2 rfl _ _ rfl rfl rfl (by omega) (gx hG2.symm) ?_;intro w2 o2 x2)
   rw[hG2]at o2;have q5':w2.cell? ⟨Gb,5,none⟩=some (.slice rA dpr.length rc):=(hb.ext x2).cell 5;clear q5 Lm ok HR HF;go_upto_region 9 with fail;go_loopw [6,38] (λu i wx=>∃k:Nat,k<=dpr.length/\i=.int .i64 k/\Ext wA wx/\wx.ownsRow G2 9 1 u k (Q5 ((dpr.take k).map ZN))) (λ_ i _=>dpr.length-(intOf i).toNat);case atStart=>exact⟨0,by omega,rfl,x2,o2⟩
   case round =>
    clear x2 o2 q5';obtain⟨k,hk,rfl,xj,oj⟩:=hrel;obtain⟨uM,huM⟩:∃v:Value,v=u6:=⟨_,rfl⟩
    subst huM;by_cases Qo:k<dpr.length
    ·obtain⟨b2,o2,hA,Qd⟩:=uR.o.2 (by omega);subst hA;have r1:=Z9 (XC Qd Qo) (xk.trans xj);clear Qd;have Vf:(k:Int)<(dpr.length:Int):=by omega
     have HY:=Qa (lE.o.pr dpr[k] (FM _));have ls:=Qa (show(dpr.take (k+1)).map ZN=(dpr.take k).map ZN++[ZN dpr[k]] by rw[FL Qo,fM];rfl);generalize dpr[k]=y at *;have z5:G2<=wr.heap.size:=by rw[←hG2];exact xj.size
     go_upto_region 11 with(first
      | (refine Zk (.tmp 40) rfl rfl b2 (o2+k*96) y rfl r1 ?_)
      | (refine VA (.tmp 8) (.tmp 41) rfl rfl wr.heap.size y _ 57 rfl rfl (QA _ _ _) rfl ?_;intro w3 b3 g3))
     have x3:Ext wr w3:=((Qf wr).alloc _).grown g3 (λj e=>by cases e;exact QW _);have wF:=Qe oj x3;have wK:=xj.trans x3;have z3:=Y6 z5 x3.size;have jw:=Qa (OI y w3 HY.o (HD.o.ext (xk.trans wK)));have HLD:w3.rangeAt wr.heap.size 0 (QJ y):=Xm b3 (λj v h=>by rw[Ux,MY];exact h);clear r1 oj g3 x3 b3 HY;generalize wr.heap.size=gy at *;generalize ZN y=T at *;go_wp2_with (refine Zk (.tmp 8) rfl rfl gy 0 y rfl HLD ?_)
     refine jw.o.mono ?_;rintro e w4 ⟨rfl,x4⟩;have ok4:=Qe wF (x4.alloc (.cells #[.string (Qb T)] 9));have z4:=Y6 z3 (x4.alloc (.cells #[.string (Qb T)] 9)).size;have s4:Strs (w4.alloc (.cells #[.string (Qb T)] 9)) (some ⟨w4.heap.size,0,none⟩) 1 [T]:=JF (ss:=[T]) (QA w4 9 #[.string (Qb T)]);go_wp2_with (refine Yb G2 rfl _ _ rfl rfl rfl ok4 s4 (by omega) z4 (by omega) ?_;intro u7 w7 o7 g7)
     have x7:Ext wA w7:=((wK.trans x4).alloc _).grown g7 (λj e=>by rw[hG2];exact Jc wF e);go_roundw;case rel=>exact⟨k+1,by omega,by go_num,x7,by rw[ls.o];exact o7⟩
     case measure=>simp[intOf];omega
    ·obtain rfl:k=dpr.length:=by omega
     rw[L9]at oj;have Lm:YZ (dpr.map ZN)<=1000000000:=by
      have:=Vy 1400 (dpr.map ZN) (λs hs=>by
       obtain⟨x,hx,rfl⟩:=Pq.1 hs;exact Nq (lE.o.pr x hx))
      rw[Fo]at this;omega
     obtain⟨A4,c4,e4⟩:=KE oj;subst e4;have L4:=Qa (Cz oj);have HM4:=Qa Lm;have MR:=Qa (s3.ext xj);have bC:=hb.ext xj;have xC:=xk.trans xj;have XW:=Qa (x0.trans xC);have HF:=lE;clear lE Lm oj s3 hb xj xk uR hl hlr Qo hk;go_wp2_with fail;refine QP 43 [[],[0],[1],[],[3],[4],[],[6],[7],[],[9],[10],[],[12],[13],[],[15],[],[17],[18],[],[20],[],[22],[23],[],[25],[26],[],[28],[29],[30],[],[32],[33],[34],[],[36],[37],[],[39],[],[41],[2,5,8,11,14,16,19,21,24,27,31,35,38,40,42]] [(.pointer (some ⟨Gb,0,none⟩)),(.int .u64 (clock:Int)),(.string (Qb (JA clock 8))),(.pointer (some ⟨Gb,1,none⟩)),(.int .i64 ((quantum:Int))),(.string (Qb (Lib.itoa quantum))),(.pointer (some ⟨Gb,2,none⟩)),(.int .i64 ((cur:Int))),(.string (Qb (Lib.itoa cur))),(.pointer (some ⟨Gb,3,none⟩)),(.int .i64 ((left:Int))),(.string (Qb (Lib.itoa left))),(.pointer (some ⟨Gb,6,none⟩)),(.int .i64 ((next:Int))),(.string (Qb (Lib.itoa next))),(.pointer (some ⟨Gb,7,none⟩)),(.string (Qb (init))),(.pointer (some ⟨Gb,9,none⟩)),(.int .i64 ((newPipe:Int))),(.string (Qb (Lib.itoa newPipe))),(.pointer (some ⟨Gb,10,none⟩)),(.string (Qb (inn))),(.pointer (some ⟨Gb,11,none⟩)),(.bool fin),(.string (Qb (Kv fin))),(.pointer (some ⟨Gb,12,none⟩)),(.int .u64 (told:Int)),(.string (Qb (JA told 8))),(.pointer (some ⟨Gb,13,none⟩)),(.pointer (some ⟨Gb,15,none⟩)),(.int .i64 ((dleft:Int))),(.string (Qb (Lib.itoa dleft))),(.pointer (some ⟨Gb,13,none⟩)),(.pointer (some ⟨Gb,14,none⟩)),(.slice pA dpe.length pc),(.string (Qb (J2 dpe))),(.pointer (some ⟨Gb,16,none⟩)),(.slice dA ddi.length dc),(.string (Qb (J2 ddi))),(.slice A3 l.length c3),(.string (Qb (Zi (l.map Q2)))),(.slice A4 dpr.length c4),(.string (Qb (Zi (dpr.map ZN))))] (by kernel_rfl) (by kernel_rfl) rfl ?_;simp only[Yh,Yt,YB,Yu]
     iterate 2
      refine vW (λw' hx=>?_) ?_
      ·have c0:w'.cell? ⟨Gb,0,none⟩=some (.int .u64 clock):=(bC.ext hx).cell 0;go_wp2_with fail;exact Qf _
      simp only[S_]
     refine vW (λw' hx=>?_) ?_
     ·go_wp2_with (go_at_call 104;refine(GG clock _ HF.o.clock.1 HF.o.clock.2).mono ?_;rintro e w2 ⟨rfl,x2⟩)
     simp only[S_]
     iterate 2
      refine vW (λw' hx=>?_) ?_
      ·have c0:w'.cell? ⟨Gb,1,none⟩=some (.int .i64 quantum):=(bC.ext hx).cell 1;go_wp2_with fail;exact Qf _
      simp only[S_]
     refine vW (λw' hx=>?_) ?_
     ·go_wp2_with (go_at_call 102;refine(Zf quantum _ HF.o.quantum (HD.o.ext (xC.trans hx))).mono ?_;rintro e w2 ⟨rfl,x2⟩)
     simp only[S_]
     iterate 2
      refine vW (λw' hx=>?_) ?_
      ·have c0:w'.cell? ⟨Gb,2,none⟩=some (.int .i64 cur):=(bC.ext hx).cell 2;go_wp2_with fail;exact Qf _
      simp only[S_]
     refine vW (λw' hx=>?_) ?_
     ·go_wp2_with (go_at_call 102;refine(Zf cur _ HF.o.cur (HD.o.ext (xC.trans hx))).mono ?_;rintro e w2 ⟨rfl,x2⟩)
     simp only[S_]
     iterate 2
      refine vW (λw' hx=>?_) ?_
      ·have c0:w'.cell? ⟨Gb,3,none⟩=some (.int .i64 left):=(bC.ext hx).cell 3;go_wp2_with fail;exact Qf _
      simp only[S_]
     refine vW (λw' hx=>?_) ?_
     ·go_wp2_with (go_at_call 102;refine(Zf left _ HF.o.left (HD.o.ext (xC.trans hx))).mono ?_;rintro e w2 ⟨rfl,x2⟩)
     simp only[S_]
     iterate 2
      refine vW (λw' hx=>?_) ?_
      ·have c0:w'.cell? ⟨Gb,6,none⟩=some (.int .i64 next):=(bC.ext hx).cell 6;go_wp2_with fail;exact Qf _
      simp only[S_]
     refine vW (λw' hx=>?_) ?_
     ·go_wp2_with (go_at_call 102;refine(Zf next _ HF.o.next (HD.o.ext (xC.trans hx))).mono ?_;rintro e w2 ⟨rfl,x2⟩)
     simp only[S_]
     iterate 4
      refine vW (λw' hx=>?_) ?_
      ·have c0:w'.cell? ⟨Gb,7,none⟩=some (.string (Qb init)):=(bC.ext hx).cell 7;have c1:w'.cell? ⟨Gb,9,none⟩=some (.int .i64 newPipe):=(bC.ext hx).cell 9;go_wp2_with fail;exact Qf _
      simp only[S_]
     refine vW (λw' hx=>?_) ?_
     ·go_wp2_with (go_at_call 102;refine(Zf newPipe _ HF.o.newPipe (HD.o.ext (xC.trans hx))).mono ?_;rintro e w2 ⟨rfl,x2⟩)
     simp only[S_]
     iterate 4
      refine vW (λw' hx=>?_) ?_
      ·have c0:w'.cell? ⟨Gb,10,none⟩=some (.string (Qb inn)):=(bC.ext hx).cell 10;have c1:w'.cell? ⟨Gb,11,none⟩=some (.bool fin):=(bC.ext hx).cell 11;go_wp2_with fail;exact Qf _
      simp only[S_]
     refine vW (λw' hx=>?_) ?_
     ·go_wp2_with (go_at_call 105;refine(Mj fin _).mono ?_;rintro e w2 ⟨rfl,x2⟩)
     simp only[S_]
     iterate 2
      refine vW (λw' hx=>?_) ?_
      ·have c0:w'.cell? ⟨Gb,12,none⟩=some (.int .u64 told):=(bC.ext hx).cell 12;go_wp2_with fail;exact Qf _
      simp only[S_]
     refine vW (λw' hx=>?_) ?_
     ·go_wp2_with (go_at_call 104;refine(GG told _ HF.o.told.1 HF.o.told.2).mono ?_;rintro e w2 ⟨rfl,x2⟩)
     simp only[S_]
     iterate 3
      refine vW (λw' hx=>?_) ?_
      ·have c0:w'.cell? ⟨Gb,15,none⟩=some (.int .i64 dleft):=(bC.ext hx).cell 15;go_wp2_with fail;exact Qf _
      simp only[S_]
     refine vW (λw' hx=>?_) ?_
     ·go_wp2_with (go_at_call 102;refine(Zf dleft _ HF.o.dleft (HD.o.ext (xC.trans hx))).mono ?_;rintro e w2 ⟨rfl,x2⟩)
     simp only[S_]
     iterate 3
      refine vW (λw' hx=>?_) ?_
      ·have c0:w'.cell? ⟨Gb,14,none⟩=some (.slice pA dpe.length pc):=(bC.ext hx).cell 14;go_wp2_with fail;exact Qf _
      simp only[S_]
     refine vW (λw' hx=>?_) ?_
     ·go_wp2_with (go_at_call 106;refine(MQ pA dpe.length pc dpe _ (HPe.o.ext (xC.trans hx)) HF.o.pe HF.o.pel (HD.o.ext (xC.trans hx))).mono ?_;rintro e w2 ⟨rfl,x2⟩)
     simp only[S_]
     iterate 2
      refine vW (λw' hx=>?_) ?_
      ·have c0:w'.cell? ⟨Gb,16,none⟩=some (.slice dA ddi.length dc):=(bC.ext hx).cell 16;go_wp2_with fail;exact Qf _
      simp only[S_]
     refine vW (λw' hx=>?_) ?_
     ·go_wp2_with (go_at_call 106;refine(MQ dA ddi.length dc ddi _ (HDi.o.ext (xC.trans hx)) HF.o.di HF.o.dil (HD.o.ext (xC.trans hx))).mono ?_;rintro e w2 ⟨rfl,x2⟩)
     simp only[S_];refine vW (λw' hx=>?_) ?_
     ·go_wp2_with fail;exact Qf _
     simp only[S_];refine vW (λw' hx=>?_) ?_
     ·go_wp2_with (go_at_call 101;refine(VR A3 l.length c3 (l.map Q2) _ (MR.o.ext hx) HM3.o (by have:=HF.o.pil;simp only at this;omega)).mono ?_;rintro e w2 ⟨rfl,x2⟩)
     simp only[S_];refine vW (λw' hx=>?_) ?_
     ·go_wp2_with fail;exact Qf _
     simp only[S_];refine vW (λw' hx=>?_) ?_
     ·go_wp2_with (go_at_call 101;refine(VR A4 dpr.length c4 (dpr.map ZN) _ (L4.o.ext hx) HM4.o (by have:=HF.o.prl;simp only at this;omega)).mono ?_;rintro e w2 ⟨rfl,x2⟩)
     simp only[S_];rw[Zq];intro wq hxq;refine GQ (n:=16) (T:=9) (cs:=#[.string (Qb [104,105,98,50]),.string (Qb (JA clock 8)),.string (Qb (Lib.itoa quantum)),.string (Qb (Lib.itoa cur)),.string (Qb (Lib.itoa left)),.string (Qb (Lib.itoa next)),.string (Qb (init)),.string (Qb (Lib.itoa newPipe)),.string (Qb (inn)),.string (Qb (Kv fin)),.string (Qb (JA told 8)),.string (Qb (Lib.itoa dleft)),.string (Qb (J2 dpe)),.string (Qb (J2 ddi)),.string (Qb (Zi (l.map Q2))),.string (Qb (Zi (dpr.map ZN)))]) rfl (by simp[Act.put]) rfl ?_ (λg91 w' hxw bg91=>?_)
     ·go_wp2_with fail;exact⟨(Qf wq).alloc _,_,rfl,QA _ _ _⟩
     simp only[S_];have hx:=hxq.trans hxw;clear hxq hxw;have HS:=Qa (JF (ss:=[[104,105,98,50],JA clock 8,Lib.itoa quantum,Lib.itoa cur,Lib.itoa left,Lib.itoa next,init,Lib.itoa newPipe,inn,Kv fin,JA told 8,Lib.itoa dleft,J2 dpe,J2 ddi,Zi (l.map Q2),Zi (dpr.map ZN)]) bg91);clear bg91;go_wp2_with (go_at_call 101;refine(VR (some ⟨g91,0,none⟩) 16 16 [[104,105,98,50],JA clock 8,Lib.itoa quantum,Lib.itoa cur,Lib.itoa left,Lib.itoa next,init,Lib.itoa newPipe,inn,Kv fin,JA told 8,Lib.itoa dleft,J2 dpe,J2 ddi,Zi (l.map Q2),Zi (dpr.map ZN)] _ HS.o MS.o (by decide)).mono ?_;rintro e w2 ⟨rfl,x2⟩)
     go_ret;exact⟨rfl,(XW.o.trans hx).trans x2⟩
end Go.Proofs.YtfaplefkakpgcaaGreatDoor
