import Derived.Test.YtfaplefkakpgcaaGreatDoorPl39
set_option linter.unusedVariables false
set_option linter.unusedSimpArgs false
set_option maxHeartbeats 32000000
set_option maxRecDepth 100000
namespace Go.Proofs.YtfaplefkakpgcaaGreatDoor
open Go.Proofs.Tryz
open Go.RowKit
theorem BT (n:Int) (z:Nat) (w:World) (h0:0<=n) (h1:n<18446744073709551616) (hz:z<=8) :
  Calls prog 85 #[.int .u64 n,.int .i64 z] w λe w'=>e=.returned (.string (Qb (Jh n z)))/\Ext w w':=by
 obtain⟨k,rfl⟩:=sq h0;exact lU k z w (by omega) hz
theorem IM (n:Int) (w:World) (h0:0<=n) (h1:n<18446744073709551616):Calls prog 85 #[.int .u64 n,.int .i64 4] w λe w'=>e=.returned (.string (Qb (Jh n 4)))/\Ext w w':=BT n 4 w h0 h1 (by decide)
theorem Hi (n:Int) (w:World) (h0:0<=n) (h1:n<18446744073709551616):Calls prog 85 #[.int .u64 n,.int .i64 8] w λe w'=>e=.returned (.string (Qb (Jh n 8)))/\Ext w w':=BT n 8 w h0 h1 (by decide)
theorem ZL (n:Int) (w:World) (h:Up n) :
  Calls prog 86 #[.int .i64 n] w λe w'=>e=.returned (.string (Qb (Lib.itoa n)))/\Ext w w':=by
 have HD:=Qa (BH n w h);clear h;go_enter func86,ntmps86;go_wp2_with (go_at_call 157;refine HD.o.mono ?_;rintro e w1 ⟨rfl,x1⟩)
 go_ret;exact⟨rfl,x1⟩
theorem Hg (b:Bool) (w:World):Calls prog 87 #[.bool b] w λe w'=>e=.returned (.string (Qb (Vo b)))/\Ext w w':=by
 cases b
 all_goals
  go_enter func87,ntmps87;go_wp2_with fail;go_ret;exact⟨rfl,Qg _⟩
theorem OQ (b:UInt8):b8 (b.toNat:Int)=b:=by rw[ES];simp
theorem Rd (A:Option Addr) (n c:Nat) (l:List ZY) (w:World) (h:Q6 Zn w A n l) (hf:MV l) (hl:l.length<=1000) :
  Calls prog 88 #[.slice A n c] w λe w'=>e=.returned (.string (Qb (Jq l)))/\Ext w w':=by
 have hn:n=l.length:=h.1;subst hn;have o0:=Y2 w 9 1;have x0:=(Qg w).alloc (.cells #[] 9);have HR:=Qa h;have HF:=Qa hf;clear h hf;go_enter func88,ntmps88;go_upto_region 3 with fail;generalize w.alloc (.cells #[] 9)=w1 at *;have gm:=Qa o0;have yw:=Qa x0;clear o0 x0;go_loopw [3,8] (λu i wx=>∃k:Nat,k<=l.length/\i=.int .i64 k/\Ext w wx/\wx.ownsRow w.heap.size 9 1 u k (Q5 ((l.take k).map Q3))) (λ_ i _=>l.length-(intOf i).toNat);case atStart=>exact⟨0,by omega,rfl,yw.o,gm.o⟩
 case round =>
  clear yw gm;obtain⟨k,hk,rfl,xk,ok⟩:=hrel;obtain⟨uL,huL⟩:∃v:Value,v=u3:=⟨_,rfl⟩
  subst huL;by_cases Qn:k<l.length
  ·obtain⟨g,o,hA,Qf⟩:=(HR.o.ext xk).wrs.2 (by show 0<l.length;omega);subst hA;have e1:=(Qf k Qn).1;have e2:=(Qf k Qn).2;have Y6:(k:Int)<(l.length:Int):=by omega
   have HY:=Qa (HF.o l[k] (NT _));have iB:=Qa (show(l.take (k+1)).map Q3=(l.take k).map Q3++[Q3 l[k]] by rw[Gp Qn,bS];rfl);clear Qf;generalize l[k]=y at *;have HN:=Qa HY.o.1;have KE:=Qa (show YE [Lib.itoa y.1,y.2]<=1000000000 by
    have h1:=JG HY.o.1.1 HY.o.1.2;have h2:=HY.o.2;simp only[YE,P4,Gz,na,zf];omega)
   clear HY;have uf:=ok;have mC:=xk;have Gn:=Qa (λ(w':World) (x:Ext wr w')=>x.keep e1);have Pj:=Qa (λ(w':World) (x:Ext wr w')=>x.keep e2);clear ok e1 e2 xk;go_upto_region 5 with fail;refine JN 15 [[],[],[],[1,2],[3],[4],[5],[],[],[7,8],[9],[10],[6,11],[12],[13]] [.inl (uL),.inl (.slice (some ⟨g,o,none⟩) l.length c),.inl (.int .i64 (k:Int)),.inl (.pointer (some ⟨g,o+k*2,none⟩)),.inl (.pointer (some ⟨g,o+k*2,none⟩)),.inl (.int .i64 (y.1:Int)),.inl (.string (Qb (Lib.itoa y.1))),.inl (.slice (some ⟨g,o,none⟩) l.length c),.inl (.int .i64 (k:Int)),.inl (.pointer (some ⟨g,o+k*2,none⟩)),.inl (.pointer (some ⟨g,o+k*2+1,none⟩)),.inl (.string (Qb (y.2))),Dz 2 9 #[.string (Qb (Lib.itoa y.1)),.string (Qb (y.2))],.inl (.string (Qb (Q3 y))),Dz 1 9 #[.string (Qb (Q3 y))]] (by kernel_rfl) (by kernel_rfl) rfl (λus=>?_);simp only[KG,KI,UY,KJ]
   iterate 6
    refine xW (λw' hx hd=>?_) ?_
    ·have c0:=Gn.o w' hx;go_wp2_with fail;exact Qg _
    simp only[S_]
   refine xW (λw' hx hd=>?_) ?_
   ·go_wp2_with (go_at_call 86;refine(ZL y.1 _ HN.o).mono ?_;rintro e w2 ⟨rfl,x2⟩)
    all_goals rfl
   simp only[S_]
   iterate 5
    refine xW (λw' hx hd=>?_) ?_
    ·have c0:=Pj.o w' hx;go_wp2_with fail;exact Qg _
    simp only[S_]
   refine xR (λw' hx hd=>?_) ?_
   ·go_wp2_with fail;exact⟨(Qg w').alloc _,_,rfl,Qs _ _ _⟩
   simp only[S_];refine xW (λw' hx hd=>?_) ?_
   ·have Sw:=hd 12 (by simp);clear hd;generalize us 12=u12 at *;obtain⟨g23,rfl,bg23⟩:=Sw;have HS:=Qa (JS (ss:=[Lib.itoa y.1,y.2]) bg23);clear bg23;go_wp2_with (go_at_call 84;refine(Ki (some ⟨g23,0,none⟩) 2 2 [Lib.itoa y.1,y.2] _ HS.o KE.o (by decide)).mono ?_;rintro e w2 ⟨rfl,x2⟩)
    all_goals rfl
   simp only[S_];refine xR (λw' hx hd=>?_) ?_
   ·go_wp2_with fail;exact⟨(Qg w').alloc _,_,rfl,Qs _ _ _⟩
   simp only[S_];rw[Vx];intro w' hx hv;have oZ:=hv 14 (by omega);clear hv;generalize us 12=u12 at *;generalize us 14=u14 at *;obtain⟨g25,rfl,bg25⟩:=oZ;have v6:=JS (ss:=[Q3 y]) bg25;have kI:=Qc uf hx;have qO:=mC.trans hx;have vF:=qO.size;go_wp2_with (refine Jy w.heap.size rfl _ _ rfl rfl rfl kI v6 (by omega) vF (by decide) ?_;intro u6 w6 o6 g6)
   have x6:Ext w w6:=qO.grown g6 (λk e=>QU kI e);go_roundw;case rel=>exact⟨k+1,by omega,by go_num,x6,by rw[iB.o];exact o6⟩
   case measure=>simp[intOf];omega
  ·obtain rfl:k=l.length:=by omega
   rw[Ri]at ok;have UC:YE (l.map Q3)<=1000000000:=by
    have:=Y3 1028 (l.map Q3) (λs hs=>by
     obtain⟨x,hx,rfl⟩:=AV.1 hs;exact Km (HF.o x hx).1 (HF.o x hx).2)
    rw[AR]at this;omega
   obtain⟨A3,c3,e3⟩:=Vs ok;subst e3;have HS:=Qa (GA ok);have KE:=Qa UC;clear ok UC;go_wp2_with (go_at_call 84;refine(Ki A3 l.length c3 (l.map Q3) _ HS.o KE.o (by omega)).mono ?_;rintro e w2 ⟨rfl,x2⟩)
   go_ret;exact⟨rfl,xk.trans x2⟩
theorem BR (A:Option Addr) (n c:Nat) (l:List ZY) (w:World) (h:Q6 Zn w A n l) (hf:MV l) (hl:l.length<=1000) :
  Calls prog 89 #[.slice A n c] w λe w'=>e=.returned (.string (Qb (Jq l)))/\Ext w w':=by
 have hn:n=l.length:=h.1;subst hn;have o0:=Y2 w 9 1;have x0:=(Qg w).alloc (.cells #[] 9);have HR:=Qa h;have HF:=Qa hf;clear h hf;go_enter func89,ntmps89;go_upto_region 3 with fail;generalize w.alloc (.cells #[] 9)=w1 at *;have gm:=Qa o0;have yw:=Qa x0;clear o0 x0;go_loopw [3,8] (λu i wx=>∃k:Nat,k<=l.length/\i=.int .i64 k/\Ext w wx/\wx.ownsRow w.heap.size 9 1 u k (Q5 ((l.take k).map Q3))) (λ_ i _=>l.length-(intOf i).toNat);case atStart=>exact⟨0,by omega,rfl,yw.o,gm.o⟩
 case round =>
  clear yw gm;obtain⟨k,hk,rfl,xk,ok⟩:=hrel;obtain⟨uL,huL⟩:∃v:Value,v=u3:=⟨_,rfl⟩
  subst huL;by_cases Qn:k<l.length
  ·obtain⟨g,o,hA,Qf⟩:=(HR.o.ext xk).wrs.2 (by show 0<l.length;omega);subst hA;have e1:=(Qf k Qn).1;have e2:=(Qf k Qn).2;have Y6:(k:Int)<(l.length:Int):=by omega
   have HY:=Qa (HF.o l[k] (NT _));have iB:=Qa (show(l.take (k+1)).map Q3=(l.take k).map Q3++[Q3 l[k]] by rw[Gp Qn,bS];rfl);clear Qf;generalize l[k]=y at *;have HN:=Qa HY.o.1;have KE:=Qa (show YE [Lib.itoa y.1,y.2]<=1000000000 by
    have h1:=JG HY.o.1.1 HY.o.1.2;have h2:=HY.o.2;simp only[YE,P4,Gz,na,zf];omega)
   clear HY;have uf:=ok;have mC:=xk;have Gn:=Qa (λ(w':World) (x:Ext wr w')=>x.keep e1);have Pj:=Qa (λ(w':World) (x:Ext wr w')=>x.keep e2);clear ok e1 e2 xk;go_upto_region 5 with fail;refine JN 15 [[],[],[],[1,2],[3],[4],[5],[],[],[7,8],[9],[10],[6,11],[12],[13]] [.inl (uL),.inl (.slice (some ⟨g,o,none⟩) l.length c),.inl (.int .i64 (k:Int)),.inl (.pointer (some ⟨g,o+k*2,none⟩)),.inl (.pointer (some ⟨g,o+k*2,none⟩)),.inl (.int .i64 (y.1:Int)),.inl (.string (Qb (Lib.itoa y.1))),.inl (.slice (some ⟨g,o,none⟩) l.length c),.inl (.int .i64 (k:Int)),.inl (.pointer (some ⟨g,o+k*2,none⟩)),.inl (.pointer (some ⟨g,o+k*2+1,none⟩)),.inl (.string (Qb (y.2))),Dz 2 9 #[.string (Qb (Lib.itoa y.1)),.string (Qb (y.2))],.inl (.string (Qb (Q3 y))),Dz 1 9 #[.string (Qb (Q3 y))]] (by kernel_rfl) (by kernel_rfl) rfl (λus=>?_);simp only[KG,KI,UY,KJ]
   iterate 6
    refine xW (λw' hx hd=>?_) ?_
    ·have c0:=Gn.o w' hx;go_wp2_with fail;exact Qg _
    simp only[S_]
   refine xW (λw' hx hd=>?_) ?_
   ·go_wp2_with (go_at_call 86;refine(ZL y.1 _ HN.o).mono ?_;rintro e w2 ⟨rfl,x2⟩)
    all_goals rfl
   simp only[S_]
   iterate 5
    refine xW (λw' hx hd=>?_) ?_
    ·have c0:=Pj.o w' hx;go_wp2_with fail;exact Qg _
    simp only[S_]
   refine xR (λw' hx hd=>?_) ?_
   ·go_wp2_with fail;exact⟨(Qg w').alloc _,_,rfl,Qs _ _ _⟩
   simp only[S_];refine xW (λw' hx hd=>?_) ?_
   ·have Sw:=hd 12 (by simp);clear hd;generalize us 12=u12 at *;obtain⟨g23,rfl,bg23⟩:=Sw;have HS:=Qa (JS (ss:=[Lib.itoa y.1,y.2]) bg23);clear bg23;go_wp2_with (go_at_call 84;refine(Ki (some ⟨g23,0,none⟩) 2 2 [Lib.itoa y.1,y.2] _ HS.o KE.o (by decide)).mono ?_;rintro e w2 ⟨rfl,x2⟩)
    all_goals rfl
   simp only[S_];refine xR (λw' hx hd=>?_) ?_
   ·go_wp2_with fail;exact⟨(Qg w').alloc _,_,rfl,Qs _ _ _⟩
   simp only[S_];rw[Vx];intro w' hx hv;have oZ:=hv 14 (by omega);clear hv;generalize us 12=u12 at *;generalize us 14=u14 at *;obtain⟨g25,rfl,bg25⟩:=oZ;have v6:=JS (ss:=[Q3 y]) bg25;have kI:=Qc uf hx;have qO:=mC.trans hx;have vF:=qO.size;go_wp2_with (refine Jy w.heap.size rfl _ _ rfl rfl rfl kI v6 (by omega) vF (by decide) ?_;intro u6 w6 o6 g6)
   have x6:Ext w w6:=qO.grown g6 (λk e=>QU kI e);go_roundw;case rel=>exact⟨k+1,by omega,by go_num,x6,by rw[iB.o];exact o6⟩
   case measure=>simp[intOf];omega
  ·obtain rfl:k=l.length:=by omega
   rw[Ri]at ok;have UC:YE (l.map Q3)<=1000000000:=by
    have:=Y3 1028 (l.map Q3) (λs hs=>by
     obtain⟨x,hx,rfl⟩:=AV.1 hs;exact Km (HF.o x hx).1 (HF.o x hx).2)
    rw[AR]at this;omega
   obtain⟨A3,c3,e3⟩:=Vs ok;subst e3;have HS:=Qa (GA ok);have KE:=Qa UC;clear ok UC;go_wp2_with (go_at_call 84;refine(Ki A3 l.length c3 (l.map Q3) _ HS.o KE.o (by omega)).mono ?_;rintro e w2 ⟨rfl,x2⟩)
   go_ret;exact⟨rfl,xk.trans x2⟩
def NV (p:QF):List Value:=(List.range 16).map (λi=>.int .u32 (p.reg i))++[.int .u32 p.pc]
theorem iv (p:QF) {k:Nat}(hk:k<16):(NV p).toArray[k]? =some (.int .u32 (p.reg k)):=by
 rw[MR];unfold NV;rw[iM (by simpa using hk)];simp[hk]
theorem oK (p:QF):(NV p).toArray[16]? =some (.int .u32 p.pc):=rfl
theorem eV (y:QF) (w:World) (hf:Wg y) :
  Calls prog 153 #[.agg (NV y).toArray] w λe w'=>e=.returned (.string (Qb (GF y)))/\Ext w w':=by
 have HF:=Qa hf;have hz:=Qh;have Lj:=JR;have b0:=Qs w 48 (NV y).toArray;have x0:Ext w (w.alloc (.cells (NV y).toArray 48)):=(Qg w).alloc _;clear hf;go_enter func153,ntmps153;go_upto_region 1 with fail;change Code.wp _ _ _ _ (w.alloc (.cells (NV y).toArray 48));generalize w.alloc (.cells (NV y).toArray 48)=w0 at b0 x0 ⊢;generalize w.heap.size=G at b0 ⊢;go_upto_region 3 with fail;go_loopw [3,4] (λu i wx=>∃k:Nat,k<=16/\i=.int .i64 k/\u=.string (Qb ((List.range k).flatMap λi=>Jh (y.reg i) 4))/\Ext w0 wx) (λ_ i _=>16-(intOf i).toNat);case atStart=>exact⟨0,by omega,rfl,rfl,Qg _⟩
 case round =>
  obtain⟨k,hk,rfl,rfl,xk⟩:=hrel;by_cases Qn:k<16
  ·have Y6:(k:Int)<16:=by omega
   have HT:=Qa (Va (λi=>Jh (y.reg i) 4) k);have SF:=(HF.o.reg k Qn).1;have gH:y.reg k<18446744073709551616:=by have:=(HF.o.reg k Qn).2;omega
   have hu:IntKind.u64.wrap (y.reg k)=y.reg k:=by rw[EO];omega
   have q0:wr.cell? ⟨G,k,none⟩=some (.int .u32 (y.reg k)):=(((b0.ext xk).cell k).trans (iv y Qn))
   have HZ:=Qa (show((List.range k).flatMap λi=>Jh (y.reg i) 4).length=k*4 by rw[YG _ _ 4 (λi _=>Jo _ _)];simp);have hzl:=HZ.o;have hp4:=Jo (y.reg k) 4;generalize (List.range k).flatMap (λi=>Jh (y.reg i) 4)=P at *;generalize y.reg k=rk at *;go_wp2_with (go_at_call 85;refine(IM rk _ SF gH).mono ?_;rintro e w2 ⟨rfl,x2⟩)
   go_roundw;case rel=>exact⟨k+1,by omega,by go_num,by rw[HT.o],xk.trans x2⟩
   case measure=>simp[intOf];omega
  ·obtain rfl:k=16:=by omega
   have SF:=HF.o.pc.1;have gH:y.pc<18446744073709551616:=by have:=HF.o.pc.2;omega
   have hu:IntKind.u64.wrap y.pc=y.pc:=by rw[EO];omega
   have q0:wr.cell? ⟨G,16,none⟩=some (.int .u32 y.pc):=((b0.ext xk).cell 16).trans (oK y);have HT:=Qa (show GF y=((List.range 16).flatMap λi=>Jh (y.reg i) 4)++Jh y.pc 4 from rfl);have hzl:((List.range 16).flatMap λi=>Jh (y.reg i) 4).length=64:=by rw[YG _ _ 4 (λi _=>Jo _ _)];rfl
   have hp4:=Jo y.pc 4;generalize (List.range 16).flatMap (λi=>Jh (y.reg i) 4)=P at *;generalize gD:y.pc=rk at *;clear gD;go_wp2_with (go_at_call 85;refine(IM rk _ SF gH).mono ?_;rintro e w2 ⟨rfl,x2⟩)
   go_ret;exact⟨by rw[HT.o];rfl,x0.trans (xk.trans x2)⟩
theorem Tg (p:QF) {k:Nat}(hk:k<16):∀j v,(Kf p k)[j]? =some v->(Jw p).toArray[k*3+j]? =some v:=λj v hv=>by
 have hj:j<3:=by have:=(Ax.1 hv).1;exact this
 rw[MR];have h1:=VN (Kf p) 3 (List.range 16) (λ_ _=>rfl) k (by rw[mT];exact hk) j hj;rw[vh]at h1;show((List.range 16).flatMap (Kf p))[k*3+j]? =some v;rw[h1];exact hv
theorem BU (y:QF) (w:World) (hf:Wg y) :
  Calls prog 154 #[.agg (Jw y).toArray] w λe w'=>e=.returned (.string (Qb (KQ y)))/\Ext w w':=by
 have HF:=Qa hf;have hz:=Qh;have Lj:=JR;have b0:=Qs w 52 (Jw y).toArray;have x0:Ext w (w.alloc (.cells (Jw y).toArray 52)):=(Qg w).alloc _;clear hf;go_enter func154,ntmps154;go_upto_region 1 with fail;change Code.wp _ _ _ _ (w.alloc (.cells (Jw y).toArray 52));generalize w.alloc (.cells (Jw y).toArray 52)=w0 at b0 x0 ⊢;generalize w.heap.size=G at b0 ⊢;go_upto_region 3 with fail;go_loopw [3,4] (λu i wx=>∃k:Nat,k<=16/\i=.int .i64 k/\u=.string (Qb ((List.range k).flatMap (UP y)))/\Ext w0 wx) (λ_ i _=>16-(intOf i).toNat);case atStart=>exact⟨0,by omega,rfl,rfl,Qg _⟩
 case round =>
  obtain⟨k,hk,rfl,rfl,xk⟩:=hrel;by_cases Qn:k<16
  ·have Y6:(k:Int)<16:=by omega
   have HT:=Qa (Va (UP y) k);have DS:=Qa (HF.o.page k Qn);have HZ:=Qa (show((List.range k).flatMap (UP y)).length=k*2 by rw[YG _ _ 2 (λi _=>Bz _ _)];simp);have hzl:=HZ.o;have bk:=b0.ext xk;have c0:wr.cell? ⟨G,k*3,none⟩=some (.bool (y.pis k)):=(bk.cell (k*3)).trans (Tg y Qn 0 _ rfl);have c1:wr.cell? ⟨G,k*3+1,none⟩=some (.bool (y.pwr k)):=(bk.cell (k*3+1)).trans (Tg y Qn 1 _ rfl);have c2:wr.cell? ⟨G,k*3+2,none⟩=some (.int .i64 (y.pfr k)):=(bk.cell (k*3+2)).trans (Tg y Qn 2 _ rfl);generalize (List.range k).flatMap (UP y)=P at *;go_upto_region 6 with fail;have b3:=Qs wr 50 #[.bool (y.pis k),.bool (y.pwr k),.int .i64 (y.pfr k)];have xz:=xk.alloc (.cells #[.bool (y.pis k),.bool (y.pwr k),.int .i64 (y.pfr k)] 50);generalize wr.alloc (.cells #[.bool (y.pis k),.bool (y.pwr k),.int .i64 (y.pfr k)] 50)=w3 at *;have q0:=b3.cell 0;have q1:=b3.cell 1;have q2:=b3.cell 2;have yf:=Qa (show UP y k=if y.pis k=false then [0,0] else if y.pwr k=true then [2,b8 (y.pfr k)] else [1,b8 (y.pfr k)] from rfl);have HU:=Qa (ah DS.o.1 DS.o.2.1);clear bk b3 xk DS c0 c1 c2;generalize wr.heap.size=gp at *;generalize y.pis k=pis at *;generalize y.pwr k=pwr at *;generalize y.pfr k=pfr at *;generalize UP y k=PT at *;have e1:(⟨#[0,0]⟩:ByteArray)=Qb [0,0]:=rfl;have e2:(⟨#[2]⟩:ByteArray)=Qb [2]:=rfl;have e3:(⟨#[1]⟩:ByteArray)=Qb [1]:=rfl;cases pis with
   | false =>
    obtain rfl:=yf.o;go_wp2_with fail;go_roundw;case rel=>exact⟨k+1,by omega,by go_num,by rw[HT.o];rfl,xz⟩
    case measure=>simp[intOf];omega
   | true =>
    have hc:=RA (w3.alloc (.cells #[.int .u8 ((b8 pfr).toNat:Int)] 5)) w3.heap.size ((b8 pfr).toNat:Int) (Qs _ _ _);rw[OQ]at hc;have hu:=HU.o;cases pwr with
    | true =>
     obtain rfl:=yf.o;go_wp2_with fail;go_roundw;case rel=>exact⟨k+1,by omega,by go_num,by rw[HT.o];simp[JR,←iR],xz.alloc _⟩
     case measure=>simp[intOf];omega
    | false =>
     obtain rfl:=yf.o;go_wp2_with fail;go_roundw;case rel=>exact⟨k+1,by omega,by go_num,by rw[HT.o];simp[JR,←iR],xz.alloc _⟩
     case measure=>simp[intOf];omega
  ·obtain rfl:k=16:=by omega
   have HT:=Qa (show KQ y=(List.range 16).flatMap (UP y) from rfl);generalize (List.range 16).flatMap (UP y)=P at *;go_wp2_with fail;go_ret;exact⟨by rw[HT.o];rfl,x0.trans xk⟩
theorem RG (p:QF) {k j:Nat}(hk:k<8) (hj:j<3):(Jf p).toArray[k*3+j]? =(GH p k)[j]? :=by
 rw[MR];have h1:=VN (GH p) 3 (List.range 8) (λ_ _=>rfl) k (by rw[mT];exact hk) j hj;rw[vh]at h1;exact h1
theorem ec (y:QF) (w:World) (hf:Wg y) :
  Calls prog 155 #[.agg (Jf y).toArray] w λe w'=>e=.returned (.string (Qb (GJ y)))/\Ext w w':=by
 have HF:=Qa hf;have hz:=Qh;have Lj:=JR;have b0:=Qs w 55 (Jf y).toArray;have x0:Ext w (w.alloc (.cells (Jf y).toArray 55)):=(Qg w).alloc _;clear hf;go_enter func155,ntmps155;go_upto_region 1 with fail;change Code.wp _ _ _ _ (w.alloc (.cells (Jf y).toArray 55));generalize w.alloc (.cells (Jf y).toArray 55)=w0 at b0 x0 ⊢;generalize w.heap.size=G at b0 ⊢;go_upto_region 3 with fail;go_loopw [3,4] (λu i wx=>∃k:Nat,k<=8/\i=.int .i64 k/\u=.string (Qb ((List.range k).flatMap (O0 y)))/\Ext w0 wx) (λ_ i _=>8-(intOf i).toNat);case atStart=>exact⟨0,by omega,rfl,rfl,Qg _⟩
 case round =>
  obtain⟨k,hk,rfl,rfl,xk⟩:=hrel;by_cases Qn:k<8
  ·have Y6:(k:Int)<8:=by omega
   have HT:=Qa (Va (O0 y) k);have mH:=Qa (show O0 y k=[b8 (y.fk k)]++(Jh (y.fn k) 8++Jh (y.fp k) 8) from rfl);have bk:=b0.ext xk;have vG:=Qa (λ(w':World) (x:Ext wr w')=>show w'.cell? ⟨G,k*3,none⟩=some (.int .i64 (y.fk k)) from((bk.ext x).cell (k*3)).trans (RG y Qn (j:=0) (by decide)));have Gn:=Qa (λ(w':World) (x:Ext wr w')=>show w'.cell? ⟨G,k*3+1,none⟩=some (.int .i64 (y.fn k)) from((bk.ext x).cell (k*3+1)).trans (RG y Qn (j:=1) (by decide)));have Pj:=Qa (λ(w':World) (x:Ext wr w')=>show w'.cell? ⟨G,k*3+2,none⟩=some (.int .i64 (y.fp k)) from((bk.ext x).cell (k*3+2)).trans (RG y Qn (j:=2) (by decide)));have HU:=Qa (ah (HF.o.fk k Qn).1 (HF.o.fk k Qn).2);have mN:=Qa (HF.o.fn k Qn);have Ap:=Qa (HF.o.fp k Qn);have HUN:=Qa (show IntKind.u64.wrap (y.fn k)=y.fn k by rw[EO];have:=mN.o;omega);have HUP:=Qa (show IntKind.u64.wrap (y.fp k)=y.fp k by rw[EO];have:=Ap.o;omega);have hzl:((List.range k).flatMap (O0 y)).length=k*17:=by rw[YG _ _ 17 (λi _=>O1 _ _)];simp
   clear bk;generalize (List.range k).flatMap (O0 y)=P at *;generalize O0 y k=FT at *;generalize y.fk k=fk at *;generalize y.fn k=fn at *;generalize y.fp k=fp at *;go_upto_region 5 with fail;refine JN 23 [[],[],[1],[2],[3],[4],[5],[6],[0,7],[],[9],[10],[11],[12],[13],[8,14],[],[16],[17],[18],[19],[20],[15,21]] [.inl (.string (Qb P)),.inl (.int .i64 (k:Int)),.inl (.pointer (some ⟨G,k*3,none⟩)),.inl (.pointer (some ⟨G,k*3,none⟩)),.inl (.int .i64 fk),.inl (.int .u8 ((b8 fk).toNat:Int)),Dz 1 5 #[.int .u8 ((b8 fk).toNat:Int)],.inl (.string (Qb [b8 fk])),.inl (.string (Qb (P++[b8 fk]))),.inl (.int .i64 (k:Int)),.inl (.pointer (some ⟨G,k*3,none⟩)),.inl (.pointer (some ⟨G,k*3+1,none⟩)),.inl (.int .i64 fn),.inl (.int .u64 fn),.inl (.string (Qb (Jh fn 8))),.inl (.string (Qb (P++[b8 fk]++Jh fn 8))),.inl (.int .i64 (k:Int)),.inl (.pointer (some ⟨G,k*3,none⟩)),.inl (.pointer (some ⟨G,k*3+2,none⟩)),.inl (.int .i64 fp),.inl (.int .u64 fp),.inl (.string (Qb (Jh fp 8))),.inl (.string (Qb (P++[b8 fk]++Jh fn 8++Jh fp 8)))] (by kernel_rfl) (by kernel_rfl) rfl (λus=>?_);simp only[KG,KI,UY,KJ]
   iterate 6
    refine xW (λw' hx hd=>?_) ?_
    ·have c0:=vG.o w' hx;have hu:=HU.o;go_wp2_with fail;exact Qg _
    simp only[S_]
   refine xR (λw' hx hd=>?_) ?_
   ·go_wp2_with fail;exact⟨(Qg w').alloc _,_,rfl,Qs _ _ _⟩
   simp only[S_];refine xW (λw' hx hd=>?_) ?_
   ·have h6:=hd 6 (by simp);clear hd;generalize us 6=u6 at *;obtain⟨g15,rfl,bg15⟩:=h6;have hc:=RA w' g15 ((b8 fk).toNat:Int) bg15;rw[OQ]at hc;go_wp2_with fail;exact Qg _
   simp only[S_]
   iterate 6
    refine xW (λw' hx hd=>?_) ?_
    ·have c0:=Gn.o w' hx;have hu:=HUN.o;go_wp2_with fail;exact Qg _
    simp only[S_]
   refine xW (λw' hx hd=>?_) ?_
   ·go_wp2_with (go_at_call 85;refine(Hi fn _ mN.o.1 (by have:=mN.o.2;omega)).mono ?_;rintro e w2 ⟨rfl,x2⟩)
    all_goals rfl
   simp only[S_]
   iterate 6
    refine xW (λw' hx hd=>?_) ?_
    ·have hp8:=Jo fn 8;have c1:=Pj.o w' hx;have hu:=HUP.o;go_wp2_with fail;exact Qg _
    simp only[S_]
   refine xW (λw' hx hd=>?_) ?_
   ·go_wp2_with (go_at_call 85;refine(Hi fp _ Ap.o.1 (by have:=Ap.o.2;omega)).mono ?_;rintro e w2 ⟨rfl,x2⟩)
    all_goals rfl
   simp only[S_];refine xW (λw' hx hd=>?_) ?_
   ·have hp8:=Jo fn 8;have hp9:=Jo fp 8;go_wp2_with fail;exact Qg _
   simp only[S_];rw[Vx];intro w' hx hv;clear hv;generalize us 6=u6 at *;go_wp2_with fail;go_roundw;case rel=>exact⟨k+1,by omega,by go_num,by rw[HT.o,mH.o];simp[iR],xk.trans hx⟩
   case measure=>simp[intOf];omega
  ·obtain rfl:k=8:=by omega
   have HT:=Qa (show GJ y=(List.range 8).flatMap (O0 y) from rfl);generalize (List.range 8).flatMap (O0 y)=P at *;go_wp2_with fail;go_ret;exact⟨by rw[HT.o];rfl,x0.trans xk⟩
theorem pp (p:QF):∀j v,(NV p)[j]? =some v->(Qq p).toArray[3+j]? =some v:=λj v hv=>by
 have hj:j<17:=by have:=(Ax.1 hv).1;exact this
 rw[MR];have e:(Qq p).drop 3=NV p++(Jw p++Jf p++[.bool p.mask,.int .u32 p.code,.int .i64 p.why,.int .u64 p.num]):=rfl;rw[←EM,e,iM (by exact hj)];exact hv
theorem th:(prog.info? 48).map (·.size)=some 17:=by kernel_rfl
section
variable {ops:Array Oper}{rest:List Oper}{o:Oper}{a:Act}{w:World}{Q:Exit->Act->World->Prop}
theorem Gg (x:Operand) (J7:o.guard=none) (ho:o.op=.load 48 x) (g:Nat) (t:TypeId) (p:QF) (hx:a.eval x=.pointer (some ⟨g,3,none⟩))
  (hb:Box w g t (Qq p).toArray) (hK:wpList prog ops Q rest (a.put o.dst (.agg (NV p).toArray)) w):wpList prog ops Q (o::rest) a w :=
 wpList_load_mid J7 _ x ho g 3 hx _ _ (Xe hb (pp p)) underlying48 rfl (by exact th) hK
end
theorem IL (y:QF) (w:World) (hf:Wg y) :
  Calls prog 83 #[.agg (Qq y).toArray] w λe w'=>e=.returned (.string (Qb (ZB y)))/\Ext w w':=by
 have HF:=Qa hf;have KE:=Qa (show YE (U3 y)<=1000000000 by
  have:=Y3 136 (U3 y) (R4 hf);rw[R6]at this;omega)
 have HUC:=Qa (show IntKind.u64.wrap y.code=y.code by rw[EO];have:=hf.code;omega);clear hf;go_enter func83,ntmps83;go_upto_region 1 with fail;have bC:=Qs w 57 (Qq y).toArray;have xC:Ext w (w.alloc (.cells (Qq y).toArray 57)):=(Qg w).alloc _;change Code.wp _ _ _ _ (w.alloc (.cells (Qq y).toArray 57));generalize w.alloc (.cells (Qq y).toArray 57)=w0 at bC xC ⊢;generalize w.heap.size=G at bC ⊢;refine Yu 31 [[],[0],[1],[],[3],[4],[],[6],[7],[],[9],[10],[],[12],[13],[],[15],[16],[],[18],[19],[],[21],[22],[23],[],[25],[26],[],[28],[29],[2,5,8,11,14,17,20,24,27,30]] [(.pointer (some ⟨G,0,none⟩)),(.int .i64 y.pid),(.string (Qb (Lib.itoa y.pid))),(.pointer (some ⟨G,1,none⟩)),(.int .i64 y.parent),(.string (Qb (Lib.itoa y.parent))),(.pointer (some ⟨G,2,none⟩)),(.int .i64 y.state),(.string (Qb (Lib.itoa y.state))),(.pointer (some ⟨G,3,none⟩)),(.agg (NV y).toArray),(.string (Qb (GF y))),(.pointer (some ⟨G,20,none⟩)),(.agg (Jw y).toArray),(.string (Qb (KQ y))),(.pointer (some ⟨G,68,none⟩)),(.agg (Jf y).toArray),(.string (Qb (GJ y))),(.pointer (some ⟨G,92,none⟩)),(.bool y.mask),(.string (Qb (Vo y.mask))),(.pointer (some ⟨G,93,none⟩)),(.int .u32 y.code),(.int .u64 y.code),(.string (Qb (Jh y.code 4))),(.pointer (some ⟨G,94,none⟩)),(.int .i64 y.why),(.string (Qb (Lib.itoa y.why))),(.pointer (some ⟨G,95,none⟩)),(.int .u64 y.num),(.string (Qb (Jh y.num 8)))] (by kernel_rfl) (by kernel_rfl) rfl ?_;simp only[KG,KI,UY,KJ]
 iterate 2
  refine vW (λw' hx=>?_) ?_
  ·have c0:w'.cell? ⟨G,0,none⟩=some (.int .i64 y.pid):=(bC.ext hx).cell 0;go_wp2_with fail;exact Qg _
  simp only[S_]
 refine vW (λw' hx=>?_) ?_
 ·go_wp2_with (go_at_call 86;refine(ZL y.pid _ HF.o.pid).mono ?_;rintro e w2 ⟨rfl,x2⟩)
 simp only[S_]
 iterate 2
  refine vW (λw' hx=>?_) ?_
  ·have c0:w'.cell? ⟨G,1,none⟩=some (.int .i64 y.parent):=(bC.ext hx).cell 1;go_wp2_with fail;exact Qg _
  simp only[S_]
 refine vW (λw' hx=>?_) ?_
 ·go_wp2_with (go_at_call 86;refine(ZL y.parent _ HF.o.parent).mono ?_;rintro e w2 ⟨rfl,x2⟩)
 simp only[S_]
 iterate 2
  refine vW (λw' hx=>?_) ?_
  ·have c0:w'.cell? ⟨G,2,none⟩=some (.int .i64 y.state):=(bC.ext hx).cell 2;go_wp2_with fail;exact Qg _
  simp only[S_]
 refine vW (λw' hx=>?_) ?_
 ·go_wp2_with (go_at_call 86;refine(ZL y.state _ HF.o.state).mono ?_;rintro e w2 ⟨rfl,x2⟩)
 simp only[S_];refine vW (λw' hx=>?_) ?_
 ·go_wp2_with fail;exact Qg _
 simp only[S_];refine vW (λw' hx=>?_) ?_
 ·have b':=bC.ext hx;go_wp2_with (refine Gg _ rfl rfl G _ y rfl b' ?_)
  exact Qg _
 simp only[S_];refine vW (λw' hx=>?_) ?_
 ·go_wp2_with (go_at_call 153;refine(eV y _ HF.o).mono ?_;rintro e w2 ⟨rfl,x2⟩)
 simp only[S_];refine vW (λw' hx=>?_) ?_
 ·go_wp2_with fail;exact Qg _
 simp only[S_];refine vW (λw' hx=>?_) ?_
 ·have b':=bC.ext hx;go_wp2_with (refine Zs _ rfl rfl G _ y rfl b' ?_)
  exact Qg _
 simp only[S_];refine vW (λw' hx=>?_) ?_
 ·go_wp2_with (go_at_call 154;refine(BU y _ HF.o).mono ?_;rintro e w2 ⟨rfl,x2⟩)
 simp only[S_];refine vW (λw' hx=>?_) ?_
 ·go_wp2_with fail;exact Qg _
 simp only[S_];refine vW (λw' hx=>?_) ?_
 ·have b':=bC.ext hx;go_wp2_with (refine V3 _ rfl rfl G _ y rfl b' ?_)
  exact Qg _
 simp only[S_];refine vW (λw' hx=>?_) ?_
 ·go_wp2_with (go_at_call 155;refine(ec y _ HF.o).mono ?_;rintro e w2 ⟨rfl,x2⟩)
 simp only[S_]
 iterate 2
  refine vW (λw' hx=>?_) ?_
  ·have c0:w'.cell? ⟨G,92,none⟩=some (.bool y.mask):=(bC.ext hx).cell 92;go_wp2_with fail;exact Qg _
  simp only[S_]
 refine vW (λw' hx=>?_) ?_
 ·go_wp2_with (go_at_call 87;refine(Hg y.mask _).mono ?_;rintro e w2 ⟨rfl,x2⟩)
 simp only[S_]
 iterate 3
  refine vW (λw' hx=>?_) ?_
  ·have c0:w'.cell? ⟨G,93,none⟩=some (.int .u32 y.code):=(bC.ext hx).cell 93;have hu:=HUC.o;go_wp2_with fail;exact Qg _
  simp only[S_]
 refine vW (λw' hx=>?_) ?_
 ·go_wp2_with (go_at_call 85;refine(IM y.code _ HF.o.code.1 (by have:=HF.o.code.2;omega)).mono ?_;rintro e w2 ⟨rfl,x2⟩)
 simp only[S_]
 iterate 2
  refine vW (λw' hx=>?_) ?_
  ·have c0:w'.cell? ⟨G,94,none⟩=some (.int .i64 y.why):=(bC.ext hx).cell 94;go_wp2_with fail;exact Qg _
  simp only[S_]
 refine vW (λw' hx=>?_) ?_
 ·go_wp2_with (go_at_call 86;refine(ZL y.why _ HF.o.why).mono ?_;rintro e w2 ⟨rfl,x2⟩)
 simp only[S_]
 iterate 2
  refine vW (λw' hx=>?_) ?_
  ·have c0:w'.cell? ⟨G,95,none⟩=some (.int .u64 y.num):=(bC.ext hx).cell 95;go_wp2_with fail;exact Qg _
  simp only[S_]
 refine vW (λw' hx=>?_) ?_
 ·go_wp2_with (go_at_call 85;refine(Hi y.num _ HF.o.num.1 HF.o.num.2).mono ?_;rintro e w2 ⟨rfl,x2⟩)
 simp only[S_];rw[NO];intro wq hxq;refine Rb (n:=10) (T:=9) (cs:=#[.string (Qb (Lib.itoa y.pid)),.string (Qb (Lib.itoa y.parent)),.string (Qb (Lib.itoa y.state)),.string (Qb (GF y)),.string (Qb (KQ y)),.string (Qb (GJ y)),.string (Qb (Vo y.mask)),.string (Qb (Jh y.code 4)),.string (Qb (Lib.itoa y.why)),.string (Qb (Jh y.num 8))]) rfl (by simp[Act.put]) rfl ?_ (λg34 w' hxw bg34=>?_)
 ·go_wp2_with fail;exact⟨(Qg wq).alloc _,_,rfl,Qs _ _ _⟩
 simp only[S_];have hx:=hxq.trans hxw;clear hxq hxw;have HS:=Qa (JS (ss:=U3 y) bg34);clear bg34;go_wp2_with (go_at_call 84;refine(Ki (some ⟨g34,0,none⟩) 10 10 (U3 y) _ HS.o KE.o (by decide)).mono ?_;rintro e w2 ⟨rfl,x2⟩)
 go_ret;exact⟨rfl,(xC.trans hx).trans x2⟩
theorem Tf (m:QO) (d:Qz) (w:World) (hf:Y4 m d) (hi:Q0 w m d) :
  Calls prog 43 #[.agg m.cells] w λe w'=>e=.returned (.string (Qb (Z7 m d)))/\Ext w w':=by
 have KE:=Qa (show YE (NL m d)<=1000000000 by
  have:=Y3 1404000 (NL m d) (Ek hf);rw[show(NL m d).length=16 from rfl]at this;omega)
 have U1:=hi.pi;have aH:=hi.pr;have U8:=hi.pe;have FJ:=hi.di;have HF:=Qa hf;have x0:=(Qg w).alloc (.cells m.cells 38);have b0:=Qs w 38 m.cells;clear hf hi;go_enter func43,ntmps43;go_upto_region 1 with fail;replace U1:=U1.ext x0;replace aH:=aH.ext x0;replace U8:=U8.ext x0;replace FJ:=FJ.ext x0;generalize w.alloc (.cells m.cells 38)=w0 at *;generalize w.heap.size=G at *;obtain⟨clock,quantum,cur,left,⟨fA,fn,fc⟩,⟨rA,rn,rc⟩,next,init,⟨A,n,c⟩,newPipe,inn,fin,told,⟨bA,bn,bc⟩,⟨pA,pn,pc⟩,dleft,⟨dA,dn,dc⟩⟩:=m;obtain⟨dfr,dpr,l,dbl,dpe,ddi⟩:=d;simp only at U1 aH U8 FJ;obtain rfl:n=l.length:=U1.1;obtain rfl:rn=dpr.length:=aH.1;obtain rfl:pn=dpe.length:=U8.1;obtain rfl:dn=ddi.length:=FJ.1;have HR:=Qa U1;have yh:=Qa aH;have HPe:=Qa U8;have HDi:=Qa FJ;clear U1 aH U8 FJ;have hlr:dpr.length<=1000:=HF.o.prl;have o0:=Y2 w0 9 1;have x1:=(Qg w0).alloc (.cells #[] 9);go_upto_region 2 with fail;generalize w0.alloc (.cells #[] 9)=w1 at *;have q5:w1.cell? ⟨G,5,none⟩=some (.slice rA dpr.length rc):=(b0.ext x1).cell 5;have gm:=Qa o0;have WN:=Qa x1;clear o0 x1;go_upto_region 3 with fail;go_loopw [3,9] (λu i wx=>∃k:Nat,k<=dpr.length/\i=.int .i64 k/\Ext w0 wx/\wx.ownsRow w0.heap.size 9 1 u k (Q5 ((dpr.take k).map ZB))) (λ_ i _=>dpr.length-(intOf i).toNat);case atStart=>exact⟨0,by omega,rfl,WN.o,gm.o⟩
 case round =>
  clear WN gm q5;obtain⟨k,hk,rfl,xj,oj⟩:=hrel;obtain⟨uM,huM⟩:∃v:Value,v=u3:=⟨_,rfl⟩
  subst huM;by_cases Qn:k<dpr.length
  ·obtain⟨b2,o2,hA,Qf⟩:=yh.o.2 (by omega);subst hA;have r1:=Ze (Z6 Qf Qn) xj;clear Qf;have Y6:(k:Int)<(dpr.length:Int):=by omega
   have HY:=Qa (HF.o.pr dpr[k] (NT _));have iB:=Qa (show(dpr.take (k+1)).map ZB=(dpr.take k).map ZB++[ZB dpr[k]] by rw[Gp Qn,bS];rfl);generalize dpr[k]=y at *;have z5:=xj.size;have q5:wr.cell? ⟨G,5,none⟩=some (.slice (some ⟨b2,o2,none⟩) dpr.length rc):=(b0.ext xj).cell 5;have Ar:=Qa (IL y wr HY.o);have HOJ:=Qa oj;clear HY oj;generalize ZB y=T at *
   go_wp2_with (first
    | (refine QT (.tmp 16) rfl rfl b2 (o2+k*96) y rfl r1 ?_)
    | (go_at_call 83;refine Ar.o.mono ?_;rintro e w4 ⟨rfl,x4⟩)
    | (refine Jy w0.heap.size rfl _ _ rfl rfl rfl (Qc HOJ.o (x4.alloc (.cells #[.string (Qb T)] 9))) (JS (ss:=[T]) (Qs w4 9 #[.string (Qb T)])) (by omega) (YR z5 (x4.alloc (.cells #[.string (Qb T)] 9)).size) (by omega) ?_;intro u7 w7 o7 g7))
   have x7:Ext w0 w7:=((xj.trans x4).alloc _).grown g7 (λj e=>QU HOJ.o e);go_roundw;case rel=>exact⟨k+1,by omega,by go_num,x7,by rw[iB.o];exact o7⟩
   case measure=>simp[intOf];omega
  ·obtain rfl:k=dpr.length:=by omega
   rw[Ri]at oj;have UC:YE (dpr.map ZB)<=1000000000:=by
    have:=Y3 1400 (dpr.map ZB) (λs hs=>by
     obtain⟨x,hx,rfl⟩:=AV.1 hs;exact R7 (HF.o.pr x hx))
    rw[AR]at this;omega
   obtain⟨A4,c4,e4⟩:=Vs oj;subst e4;have gx:=Qa (GA oj);have sJ:=Qa UC;have bC:=b0.ext xj;have xC:=xj;have X0:=Qa x0;clear UC oj b0 xj yh hlr Qn hk x0;go_upto_region 7 with fail;refine Yu 44 [[],[0],[1],[],[3],[4],[],[6],[7],[],[9],[10],[],[12],[13],[],[15],[],[17],[18],[],[20],[],[22],[23],[],[25],[26],[],[28],[29],[30],[],[32],[33],[34],[],[36],[37],[],[39],[40],[],[42],[2,5,8,11,14,16,19,21,24,27,31,35,38,41,43]] [(.pointer (some ⟨G,0,none⟩)),(.int .u64 clock),(.string (Qb (Jh clock 8))),(.pointer (some ⟨G,1,none⟩)),(.int .i64 quantum),(.string (Qb (Lib.itoa quantum))),(.pointer (some ⟨G,2,none⟩)),(.int .i64 cur),(.string (Qb (Lib.itoa cur))),(.pointer (some ⟨G,3,none⟩)),(.int .i64 left),(.string (Qb (Lib.itoa left))),(.pointer (some ⟨G,6,none⟩)),(.int .i64 next),(.string (Qb (Lib.itoa next))),(.pointer (some ⟨G,7,none⟩)),(.string (Qb (init))),(.pointer (some ⟨G,9,none⟩)),(.int .i64 newPipe),(.string (Qb (Lib.itoa newPipe))),(.pointer (some ⟨G,10,none⟩)),(.string (Qb (inn))),(.pointer (some ⟨G,11,none⟩)),(.bool fin),(.string (Qb (Vo fin))),(.pointer (some ⟨G,12,none⟩)),(.int .u64 told),(.string (Qb (Jh told 8))),(.pointer (some ⟨G,13,none⟩)),(.pointer (some ⟨G,15,none⟩)),(.int .i64 dleft),(.string (Qb (Lib.itoa dleft))),(.pointer (some ⟨G,13,none⟩)),(.pointer (some ⟨G,14,none⟩)),(.slice pA dpe.length pc),(.string (Qb (Jq dpe))),(.pointer (some ⟨G,16,none⟩)),(.slice dA ddi.length dc),(.string (Qb (Jq ddi))),(.pointer (some ⟨G,8,none⟩)),(.slice A l.length c),(.string (Qb (Jq l))),(.slice A4 dpr.length c4),(.string (Qb (Yt (dpr.map ZB))))] (by kernel_rfl) (by kernel_rfl) rfl ?_;simp only[KG,KI,UY,KJ]
   iterate 2
    refine vW (λw' hx=>?_) ?_
    ·have c0:w'.cell? ⟨G,0,none⟩=some (.int .u64 clock):=(bC.ext hx).cell 0;go_wp2_with fail;exact Qg _
    simp only[S_]
   refine vW (λw' hx=>?_) ?_
   ·go_wp2_with (go_at_call 85;refine(Hi clock _ HF.o.clock.1 HF.o.clock.2).mono ?_;rintro e w2 ⟨rfl,x2⟩)
   simp only[S_]
   iterate 2
    refine vW (λw' hx=>?_) ?_
    ·have c0:w'.cell? ⟨G,1,none⟩=some (.int .i64 quantum):=(bC.ext hx).cell 1;go_wp2_with fail;exact Qg _
    simp only[S_]
   refine vW (λw' hx=>?_) ?_
   ·go_wp2_with (go_at_call 86;refine(ZL quantum _ HF.o.quantum).mono ?_;rintro e w2 ⟨rfl,x2⟩)
   simp only[S_]
   iterate 2
    refine vW (λw' hx=>?_) ?_
    ·have c0:w'.cell? ⟨G,2,none⟩=some (.int .i64 cur):=(bC.ext hx).cell 2;go_wp2_with fail;exact Qg _
    simp only[S_]
   refine vW (λw' hx=>?_) ?_
   ·go_wp2_with (go_at_call 86;refine(ZL cur _ HF.o.cur).mono ?_;rintro e w2 ⟨rfl,x2⟩)
   simp only[S_]
   iterate 2
    refine vW (λw' hx=>?_) ?_
    ·have c0:w'.cell? ⟨G,3,none⟩=some (.int .i64 left):=(bC.ext hx).cell 3;go_wp2_with fail;exact Qg _
    simp only[S_]
   refine vW (λw' hx=>?_) ?_
   ·go_wp2_with (go_at_call 86;refine(ZL left _ HF.o.left).mono ?_;rintro e w2 ⟨rfl,x2⟩)
   simp only[S_]
   iterate 2
    refine vW (λw' hx=>?_) ?_
    ·have c0:w'.cell? ⟨G,6,none⟩=some (.int .i64 next):=(bC.ext hx).cell 6;go_wp2_with fail;exact Qg _
    simp only[S_]
   refine vW (λw' hx=>?_) ?_
   ·go_wp2_with (go_at_call 86;refine(ZL next _ HF.o.next).mono ?_;rintro e w2 ⟨rfl,x2⟩)
   simp only[S_]
   iterate 4
    refine vW (λw' hx=>?_) ?_
    ·have c0:w'.cell? ⟨G,7,none⟩=some (.string (Qb (init))):=(bC.ext hx).cell 7;have c1:w'.cell? ⟨G,9,none⟩=some (.int .i64 newPipe):=(bC.ext hx).cell 9;go_wp2_with fail;exact Qg _
    simp only[S_]
   refine vW (λw' hx=>?_) ?_
   ·go_wp2_with (go_at_call 86;refine(ZL newPipe _ HF.o.newPipe).mono ?_;rintro e w2 ⟨rfl,x2⟩)
   simp only[S_]
   iterate 4
    refine vW (λw' hx=>?_) ?_
    ·have c0:w'.cell? ⟨G,10,none⟩=some (.string (Qb (inn))):=(bC.ext hx).cell 10;have c1:w'.cell? ⟨G,11,none⟩=some (.bool fin):=(bC.ext hx).cell 11;go_wp2_with fail;exact Qg _
    simp only[S_]
   refine vW (λw' hx=>?_) ?_
   ·go_wp2_with (go_at_call 87;refine(Hg fin _).mono ?_;rintro e w2 ⟨rfl,x2⟩)
   simp only[S_]
   iterate 2
    refine vW (λw' hx=>?_) ?_
    ·have c0:w'.cell? ⟨G,12,none⟩=some (.int .u64 told):=(bC.ext hx).cell 12;go_wp2_with fail;exact Qg _
    simp only[S_]
   refine vW (λw' hx=>?_) ?_
   ·go_wp2_with (go_at_call 85;refine(Hi told _ HF.o.told.1 HF.o.told.2).mono ?_;rintro e w2 ⟨rfl,x2⟩)
   simp only[S_]
   iterate 3
    refine vW (λw' hx=>?_) ?_
    ·have c0:w'.cell? ⟨G,15,none⟩=some (.int .i64 dleft):=(bC.ext hx).cell 15;go_wp2_with fail;exact Qg _
    simp only[S_]
   refine vW (λw' hx=>?_) ?_
   ·go_wp2_with (go_at_call 86;refine(ZL dleft _ HF.o.dleft).mono ?_;rintro e w2 ⟨rfl,x2⟩)
   simp only[S_]
   iterate 3
    refine vW (λw' hx=>?_) ?_
    ·have c0:w'.cell? ⟨G,14,none⟩=some (.slice pA dpe.length pc):=(bC.ext hx).cell 14;go_wp2_with fail;exact Qg _
    simp only[S_]
   refine vW (λw' hx=>?_) ?_
   ·go_wp2_with (go_at_call 88;refine(Rd pA dpe.length pc dpe _ (HPe.o.ext (xC.trans hx)) HF.o.pe HF.o.pel).mono ?_;rintro e w2 ⟨rfl,x2⟩)
   simp only[S_]
   iterate 2
    refine vW (λw' hx=>?_) ?_
    ·have c0:w'.cell? ⟨G,16,none⟩=some (.slice dA ddi.length dc):=(bC.ext hx).cell 16;go_wp2_with fail;exact Qg _
    simp only[S_]
   refine vW (λw' hx=>?_) ?_
   ·go_wp2_with (go_at_call 88;refine(Rd dA ddi.length dc ddi _ (HDi.o.ext (xC.trans hx)) HF.o.di HF.o.dil).mono ?_;rintro e w2 ⟨rfl,x2⟩)
   simp only[S_]
   iterate 2
    refine vW (λw' hx=>?_) ?_
    ·have c0:w'.cell? ⟨G,8,none⟩=some (.slice A l.length c):=(bC.ext hx).cell 8;go_wp2_with fail;exact Qg _
    simp only[S_]
   refine vW (λw' hx=>?_) ?_
   ·go_wp2_with (go_at_call 89;refine(BR A l.length c l _ (HR.o.ext (xC.trans hx)) HF.o.pi HF.o.pil).mono ?_;rintro e w2 ⟨rfl,x2⟩)
   simp only[S_];refine vW (λw' hx=>?_) ?_
   ·go_wp2_with fail;exact Qg _
   simp only[S_];refine vW (λw' hx=>?_) ?_
   ·go_wp2_with (go_at_call 84;refine(Ki A4 dpr.length c4 (dpr.map ZB) _ (gx.o.ext hx) sJ.o (by have:=HF.o.prl;simp only at this;omega)).mono ?_;rintro e w2 ⟨rfl,x2⟩)
   simp only[S_];rw[NO];intro wq hxq;refine Rb (n:=16) (T:=9) (cs:=#[.string (Qb [104,105,98,50]),.string (Qb (Jh clock 8)),.string (Qb (Lib.itoa quantum)),.string (Qb (Lib.itoa cur)),.string (Qb (Lib.itoa left)),.string (Qb (Lib.itoa next)),.string (Qb (init)),.string (Qb (Lib.itoa newPipe)),.string (Qb (inn)),.string (Qb (Vo fin)),.string (Qb (Jh told 8)),.string (Qb (Lib.itoa dleft)),.string (Qb (Jq dpe)),.string (Qb (Jq ddi)),.string (Qb (Jq l)),.string (Qb (Yt (dpr.map ZB)))]) rfl (by simp[Act.put]) rfl ?_ (λg66 w' hxw bg66=>?_)
   ·go_wp2_with fail;exact⟨(Qg wq).alloc _,_,rfl,Qs _ _ _⟩
   simp only[S_];have hx:=hxq.trans hxw;clear hxq hxw;have HS:=Qa (JS (ss:=[[104,105,98,50],Jh clock 8,Lib.itoa quantum,Lib.itoa cur,Lib.itoa left,Lib.itoa next,init,Lib.itoa newPipe,inn,Vo fin,Jh told 8,Lib.itoa dleft,Jq dpe,Jq ddi,Jq l,Yt (dpr.map ZB)]) bg66);clear bg66;go_wp2_with (go_at_call 84;refine(Ki (some ⟨g66,0,none⟩) 16 16 [[104,105,98,50],Jh clock 8,Lib.itoa quantum,Lib.itoa cur,Lib.itoa left,Lib.itoa next,init,Lib.itoa newPipe,inn,Vo fin,Jh told 8,Lib.itoa dleft,Jq dpe,Jq ddi,Jq l,Yt (dpr.map ZB)] _ HS.o KE.o (by decide)).mono ?_;rintro e w2 ⟨rfl,x2⟩)
   go_ret;exact⟨rfl,((X0.o.trans xC).trans hx).trans x2⟩
abbrev Xs (fr bl:Sl) (s:List UInt8):Array Value:=#[.slice fr.A fr.n fr.c,.slice bl.A bl.n bl.c,.string (Qb s)]
theorem CT {fr bl:Sl}{s:List UInt8}:(prog.info? 24).map (·.size)=some (Xs fr bl s).size:=by kernel_rfl
theorem Qck (fr bl:Sl) (s:List UInt8):(Xs fr bl s).all (·.oneCell')=true:=by kernel_rfl
theorem fB (m:QO) (d:Qz) (w:World) (hf:Y4 m d) (hi:Q0 w m d) :
  Calls prog 71 #[.agg m.cells] w λe w'=>e=.returned (.agg (Xs m.fr m.bl (Z7 m d)))/\Ext w w':=by
 have x0:=((Qg w).alloc (.cells m.cells 38)).alloc (.cells (Xs Q1 Q1 []) 24);have bm:=(Qs w 38 m.cells).ext ((Qg _).alloc (.cells (Xs Q1 Q1 []) 24));have br:=Qs (w.alloc (.cells m.cells 38)) 24 (Xs Q1 Q1 []);rw[YB]at br;have HI:=Qa hi;have HF:=Qa hf;clear hf hi;go_enter func71,ntmps71;go_upto_region 1 with fail;change Code.wp _ _ _ _ ((w.alloc (.cells m.cells 38)).alloc (.cells (Xs Q1 Q1 []) 24));generalize (w.alloc (.cells m.cells 38)).alloc (.cells (Xs Q1 Q1 []) 24)=w0 at *;obtain⟨G,hG⟩:∃G,G=w.heap.size:=⟨_,rfl⟩
 have rJ:w.heap.size<=G+1:=by omega
 rw[←hG]at bm br ⊢;clear hG;have rt:=Qa (λ(w':World) (h:But (G+1) w0.drew w')=>h.box (bm.ext (Qg w0).drew) (show G≠G+1 by omega));have sW:=Qa (λ(w':World) (h:But (G+1) w0.drew w')=>h.past (x0.trans (Qg w0).drew) rJ);clear rJ;refine Vl 9 [[],[0],[],[2],[3],[],[5],[1,4,6],[7]] [.pointer (some ⟨G,4,none⟩),.slice m.fr.A m.fr.n m.fr.c,.pointer (some ⟨G,13,none⟩),.pointer (some ⟨G,13,none⟩),.slice m.bl.A m.bl.n m.bl.c,.agg m.cells,.string (Qb (Z7 m d)),.agg (Xs m.fr m.bl (Z7 m d)),undef] 8 (G+1) 24 (Xs m.fr m.bl (Z7 m d)) _ (by kernel_rfl) (by kernel_rfl) br rfl (λus=>?_);simp only[KG,KI,UY,KJ];rw[Qu];refine ZU (λw' hC hd=>?_) ?_
 ·clear hd;refine Qx 3 rfl (by simp[Act.put]) ?_;go_wp2_with fail;exact⟨ZE.same (by decide),QP.of (by decide) rfl⟩
 simp only[S_];rw[Qu];refine ZU (λw' hC hd=>?_) ?_
 ·have h0:us 0=.pointer (some ⟨G,4,none⟩):=QP.at (by decide) (hd 0 (by simp));clear hd;generalize us 0=u0 at *;subst h0;have q0:w'.cell? ⟨G,4,none⟩=some (.slice m.fr.A m.fr.n m.fr.c):=(rt.o w' hC.1).cell 4;refine Qx 4 rfl (by simp[Act.put]) ?_;go_wp2_with fail;exact⟨ZE.same (by decide),QP.of (by decide) rfl⟩
 simp only[S_];rw[Qu];refine ZU (λw' hC hd=>?_) ?_
 ·clear hd;refine Qx 5 rfl (by simp[Act.put]) ?_;go_wp2_with fail;exact⟨ZE.same (by decide),QP.of (by decide) rfl⟩
 simp only[S_];rw[Qu];refine ZU (λw' hC hd=>?_) ?_
 ·have h2:us 2=.pointer (some ⟨G,13,none⟩):=QP.at (by decide) (hd 2 (by simp));clear hd;generalize us 2=u2 at *;subst h2;refine Qx 6 rfl (by simp[Act.put]) ?_;go_wp2_with fail;exact⟨ZE.same (by decide),QP.of (by decide) rfl⟩
 simp only[S_];rw[Qu];refine ZU (λw' hC hd=>?_) ?_
 ·have h3:us 3=.pointer (some ⟨G,13,none⟩):=QP.at (by decide) (hd 3 (by simp));clear hd;generalize us 3=u3 at *;subst h3;have q0:w'.cell? ⟨G,13,none⟩=some (.slice m.bl.A m.bl.n m.bl.c):=(rt.o w' hC.1).cell 13;refine Qx 7 rfl (by simp[Act.put]) ?_;go_wp2_with fail;exact⟨ZE.same (by decide),QP.of (by decide) rfl⟩
 simp only[S_];rw[Qu];refine ZU (λw' hC hd=>?_) ?_
 ·clear hd;have b':=rt.o w' hC.1;refine Qx 8 rfl (by simp[Act.put]) ?_;go_wp2_with (refine Qo _ rfl rfl G _ _ rfl b' rfl ?_)
  exact⟨ZE.same (by decide),QP.of (by decide) rfl⟩
 simp only[S_];rw[Qu];refine ZU (λw' hC hd=>?_) ?_
 ·have h5:us 5=.agg m.cells:=QP.at (by decide) (hd 5 (by simp));clear hd;generalize us 5=u5 at *;subst h5;have hi:=HI.o.ext (sW.o w' hC.1);refine Qx 9 rfl (by simp[Act.put]) ?_;go_wp2_with (go_at_call 43;refine(Tf m d _ HF.o hi).mono ?_;rintro e w2 ⟨rfl,x2⟩)
  exact⟨ZE.ext (by decide) x2,QP.of (by decide) rfl⟩
 simp only[S_];rw[Qu];refine ZU (λw' hC hd=>?_) ?_
 ·have h1:us 1=.slice m.fr.A m.fr.n m.fr.c:=QP.at (by decide) (hd 1 (by simp));have h4:us 4=.slice m.bl.A m.bl.n m.bl.c:=QP.at (by decide) (hd 4 (by simp));have h6:us 6=.string (Qb (Z7 m d)):=QP.at (by decide) (hd 6 (by simp));clear hd;generalize us 1=u1 at *;subst h1;generalize us 4=u4 at *;subst h4;generalize us 6=u6 at *;subst h6;refine Qx 10 rfl (by simp[Act.put]) ?_;go_wp2_with fail;exact⟨ZE.same (by decide),QP.of (by decide) rfl⟩
 simp only[S_];rw[Qu];refine ZU (λw' hC hd=>?_) ?_
 ·have h7:us 7=.agg (Xs m.fr m.bl (Z7 m d)):=QP.at (by decide) (hd 7 (by simp));clear hd;generalize us 7=u7 at *;subst h7;obtain⟨hC1,cs,hC2,hC3⟩:=hC;refine Uz rfl rfl (λw u h=>h) ?_;go_wp2_with (refine JU _ (.tmp 2) (.tmp 10) rfl rfl (G+1) (Xs m.fr m.bl (Z7 m d)) cs _ rfl rfl hC2 CT hC3 (Qck _ _ _) ?_;intro w2 b2 g2)
  exact⟨ZE.st ⟨g2.os,g2.tape,g2.output,g2.size,λk hk Jt=>g2.block k hk (λe=>Jt (by injection e))⟩ b2,QP.st b2⟩
 simp only[S_];rw[Qu];intro wz hC hv;have h0:us 0=.pointer (some ⟨G,4,none⟩):=QP.at (by decide) (hv 0 (by omega));have h1:us 1=.slice m.fr.A m.fr.n m.fr.c:=QP.at (by decide) (hv 1 (by omega));have h2:us 2=.pointer (some ⟨G,13,none⟩):=QP.at (by decide) (hv 2 (by omega));have h3:us 3=.pointer (some ⟨G,13,none⟩):=QP.at (by decide) (hv 3 (by omega));have h4:us 4=.slice m.bl.A m.bl.n m.bl.c:=QP.at (by decide) (hv 4 (by omega));have h5:us 5=.agg m.cells:=QP.at (by decide) (hv 5 (by omega));have h6:us 6=.string (Qb (Z7 m d)):=QP.at (by decide) (hv 6 (by omega));have h7:us 7=.agg (Xs m.fr m.bl (Z7 m d)):=QP.at (by decide) (hv 7 (by omega));have bz:Box wz (G+1) 24 (Xs m.fr m.bl (Z7 m d)):=QP.bx (hv 8 (by omega));clear hv;generalize us 0=y0 at *;subst h0;generalize us 1=y1 at *;subst h1;generalize us 2=y2 at *;subst h2;generalize us 3=y3 at *;subst h3;generalize us 4=y4 at *;subst h4;generalize us 5=y5 at *;subst h5;generalize us 6=y6 at *;subst h6;generalize us 7=y7 at *;subst h7;generalize us 8=y8 at *;rw[wpList];have xz:=sW.o wz hC.1;go_wp2_with fail;exact Jv (QQ rfl _ _ (G+1) _ _ _ rfl bz underlying24 rfl CT) rfl ⟨rfl,xz⟩
section
variable {ops:Array Oper}{rest:List Oper}{o:Oper}{a:Act}{w:World}{Q:Exit->Act->World->Prop}
theorem DO (x:Operand) (J7:o.guard=none) (ho:o.op=.field 24 x 2) (fr bl:Sl) (s:List UInt8) (hx:a.eval x=.agg (Xs fr bl s)) (hK:wpList prog ops Q rest (a.put o.dst (.string (Qb s))) w):wpList prog ops Q (o::rest) a w:=by
 refine DU J7 λK KM=>?_;unfold Oper.wp execOp;have:(Instr.field 24 (.agg (Xs fr bl s)) 2).run prog w=.ok (.string (Qb s)) w:=by
  have Sy:(isAgg 9).run prog w=.ok false w:=by unfold isAgg;rw[Ny,nd underlying9 w];rfl
  simp[Instr.field,asAgg,nd underlying24,part,Ny,Sy]
 simp only[ho,hx,this,Ny,Fb,Mm];exact KM _ _ hK
end
structure RO (B:Nat) (w:World) (z:QO) (e:Qz):Prop where
 pr:w.ownsRow B 57 96 (.slice z.pr.A z.pr.n z.pr.c) z.pr.n (e.pr.flatMap Qq)
 pi:w.ownsRow B 95 2 (.slice z.pi.A z.pi.n z.pi.c) z.pi.n (e.pi.flatMap Zn)
 pe:w.ownsRow B 92 2 (.slice z.pe.A z.pe.n z.pe.c) z.pe.n (e.pe.flatMap Zn)
 di:w.ownsRow B 92 2 (.slice z.di.A z.di.n z.di.c) z.di.n (e.di.flatMap Zn)
theorem RO.ext {B:Nat}{w w':World}{z:QO}{e:Qz}(h:RO B w z e) (x:Ext w w'):RO B w' z e:=⟨Qc h.pr x,Qc h.pi x,Qc h.pe x,Qc h.di x⟩
theorem RO.grown {B g:Nat}{w w':World}{z:QO}{e:Qz}{cs:Array Value}(h:RO B w z e) (hb:Box w g 38 cs) (k:w.grownBy w' (some g)):RO B w' z e :=
 ⟨h.pr.kept k (.inr (QX h.pr hb (by decide)).symm),h.pi.kept k (.inr (QX h.pi hb (by decide)).symm),h.pe.kept k (.inr (QX h.pe hb (by decide)).symm),h.di.kept k (.inr (QX h.di hb (by decide)).symm)⟩
structure RMK (FB BB:List (List UInt8)) (s:List UInt8) (z0 z:QO) (e0:Qz):Prop where
 sc:Zv z z0
 frn:z.fr.n=FB.length
 bln:z.bl.n=BB.length
 frk:z.fr.ok
 blk:z.bl.ok
 prn:z.pr.n=e0.pr.length
 pin:z.pi.n=e0.pi.length
 pen:z.pe.n=e0.pe.length
 din:z.di.n=e0.di.length
 fit:ql s z0 e0
theorem RMK.mac {FB BB:List (List UInt8)}{s:List UInt8}{z0 z:QO}{e0:Qz}{B:Nat}{w:World}(h:RMK FB BB s z0 z e0) (hs:s.length<=4000) (o:RO B w z e0) (hF:Q6 Nv w z.fr.A z.fr.n FB) (hB:Q6 Nv w z.bl.A z.bl.n BB):Q0 w z (JY FB BB e0):=by
 have k1:=h.fit.prl;have k2:=h.fit.pil;have k3:=h.fit.pel;have k4:=h.fit.dil;have k6:=h.fit.initl;have k7:=h.fit.innl
 refine⟨hF,J5 o.pr (λ_ _=>Q2 _) h.prn rfl,J5 o.pi (λ_ _=>rfl) h.pin rfl,hB,J5 o.pe (λ_ _=>rfl) h.pen rfl,J5 o.di (λ_ _=>rfl) h.din rfl,
  h.frk,ZI o.pr (by rw[h.prn];omega),ZI o.pi (by rw[h.pin];omega),h.blk,ZI o.pe (by rw[h.pen];omega),ZI o.di (by rw[h.din];omega),?_,?_,?_⟩
 ·rw[h.sc.init];unfold maxLen;omega
 ·rw[h.sc.inn];unfold maxLen;omega
 ·rw[h.sc.dleft];exact h.fit.dwf
theorem lN (fr bl:Sl) (FB BB:List (List UInt8)) (s:List UInt8) (w:World) (hs:s.length<=4000) (hq:Ye s=none) :
  Calls prog 29 #[.agg (Xs fr bl s)] w (Wd FB BB s w):=by
 have HR:=Qa (λw=>(ab fr bl s w (by omega)).mono (λe w' k=>by unfold ToR at k;rw[hq]at k;obtain⟨z,k1,k2,_⟩:=k;exact(⟨z,k1,k2⟩:∃z:QO,e=.returned (.tuple #[.agg z.cells,.bool false])/\Ext w w')));have x0:=((Qg w).alloc (.cells (Xs fr bl s) 24)).alloc (.cells QB.cells 38);have bx:=(Qs w 24 (Xs fr bl s)).ext ((Qg _).alloc (.cells QB.cells 38));have br:=Qs (w.alloc (.cells (Xs fr bl s) 24)) 38 QB.cells;rw[YB]at br;have HE:=Qa (show V7 FB BB s=3 by unfold V7;rw[hq]);clear hq hs;go_enter func29,ntmps29;go_upto_region 1 with fail;change Code.wp _ _ _ _ ((w.alloc (.cells (Xs fr bl s) 24)).alloc (.cells QB.cells 38));generalize (w.alloc (.cells (Xs fr bl s) 24)).alloc (.cells QB.cells 38)=w0 at x0 bx br ⊢;obtain⟨G,hG⟩:∃G,G=w.heap.size:=⟨_,rfl⟩
 rw[←hG]at bx br ⊢;have HG:=Qa hG;clear hG
 go_upto_region 2 with(first
  | (refine J2 _ _ rfl rfl G (Xs fr bl s) _ _ rfl bx underlying24 rfl CT ?_)
  | (go_at_call 70;refine(HR.o _).mono ?_;rintro e w1 ⟨zz,rfl,x1⟩)
  | (refine Qr (.tmp 4) (.tmp 10) rfl rfl w1.heap.size zz _ _ rfl rfl (Qs _ _ _) rfl ?_;intro w2 b2 g2))
 have y2:Ext w1 w2:=((Qg w1).alloc _).grown g2 (λj e=>by cases e;exact Q4 _);have Sf:=br.ext (x1.trans y2);go_wp2_with (refine Qr (.tmp 2) (.tmp 14) rfl rfl (G+1) QB _ _ rfl rfl Sf rfl ?_;intro w9 b9 g9)
 refine Jv (Qd rfl _ _ (G+1) _ _ _ _ rfl rfl b9 underlying38 rfl J1) rfl (.inl ⟨by rw[HE.o];decide,by rw[HE.o];rfl,(x0.trans (x1.trans y2)).grown g9 (λj e=>by cases e;rw[←HG.o];exact WQ _)⟩)
theorem IH (fr bl:Sl) (FB BB:List (List UInt8)) (s:List UInt8) (z0:QO) (e0:Qz) (w:World) (hF:Q6 Nv w fr.A fr.n FB) (GP:fr.ok) (hB:Q6 Nv w bl.A bl.n BB) (N0:bl.ok)
  (hs:s.length<=4000) (hq:Ye s=some (z0,e0)) (U8:e0.pe.length<=1000) :
  Calls prog 29 #[.agg (Xs fr bl s)] w (Wd FB BB s w):=by
 have HR:=Qa (λw=>(ab fr bl s w (by omega)).mono (λe w' k=>by
  unfold ToR at k;obtain⟨z,k1,k2,k3⟩:=k;obtain⟨k4,k5,k6,k7,k8,k9,Mb,k11,k12,k13,k14⟩:=k3 z0 e0 hq;rw[hq]at k1;exact(⟨z,k1,k2,k4,k5,k6,k7,k8,k9,Mb,⟨k11,k12,k13,k14⟩⟩:∃z:QO,e=.returned (.tuple #[.agg z.cells,.bool true])/\Ext w w'/\Zv z z0/\z.fr=fr/\z.bl=bl/\z.pr.n=e0.pr.length/\z.pi.n=e0.pi.length/\z.pe.n=e0.pe.length/\z.di.n=e0.di.length/\RO w.heap.size w' z e0)))
 have nA:=Qa (Uk hq);have x0:=((Qg w).alloc (.cells (Xs fr bl s) 24)).alloc (.cells QB.cells 38);have bx:=(Qs w 24 (Xs fr bl s)).ext ((Qg _).alloc (.cells QB.cells 38));have br:=Qs (w.alloc (.cells (Xs fr bl s) 24)) 38 QB.cells;rw[YB]at br;have HQ:=Qa hq;have HS:=Qa hs;have gt:=Qa U8;have HFB:=Qa hF;have au:=Qa hB;have HFK:=Qa GP;have HBK:=Qa N0;obtain⟨OUT,NZ⟩:∃OUT,OUT=Wd FB BB s w:=⟨_,rfl⟩
 rw[←NZ];have HO:=Qa NZ;clear hF GP hB N0 hs hq U8 NZ;go_enter func29,ntmps29;go_upto_region 1 with fail;change Code.wp _ _ _ _ ((w.alloc (.cells (Xs fr bl s) 24)).alloc (.cells QB.cells 38));generalize (w.alloc (.cells (Xs fr bl s) 24)).alloc (.cells QB.cells 38)=w0 at x0 bx br ⊢;obtain⟨G,hG⟩:∃G,G=w.heap.size:=⟨_,rfl⟩
 rw[←hG]at bx br ⊢;have HG:=Qa hG;clear hG;have hgr:G+1<w0.heap.size:=br.lt
 go_upto_region 2 with(first
  | (refine J2 _ _ rfl rfl G (Xs fr bl s) _ _ rfl bx underlying24 rfl CT ?_)
  | (go_at_call 70;refine(HR.o _).mono ?_;rintro e w1 ⟨M3,rfl,x1,c1,c2,c3,c4,c5,c6,c7,hro⟩)
  | (refine Qr (.tmp 4) (.tmp 10) rfl rfl w1.heap.size M3 _ _ rfl rfl (Qs _ _ _) rfl ?_;intro w2 b2 g2))
 have y2:Ext w1 w2:=((Qg w1).alloc _).grown g2 (λj e=>by cases e;exact Q4 _);have X2:=x1.trans y2;have qd:=Qa (hro.ext y2);have HK:Zm (RMK FB BB s z0 M3 e0):=Qa ⟨c1,by rw[c2];exact HFB.o.1,by rw[c3];exact au.o.1,by rw[c2];exact HFK.o,by rw[c3];exact HBK.o,c4,c5,c6,c7,nA.o⟩;have xY:=Qa c2;have HBL:=Qa c3;have hgM:w0.heap.size<=w1.heap.size:=x1.size;replace b2:Box w2 w1.heap.size 38 M3.cells:=b2;generalize w1.heap.size=gM at b2 hgM ⊢;have XW:=Qa (x0.trans X2);replace br:=br.ext X2;replace bx:=bx.ext X2;clear x1 y2 g2 hro c1 c2 c3 c4 c5 c6 c7 HR X2 hgM;clear w1;have mM:=Qa (λ(w':World) (x:Ext w w') (o:RO w0.heap.size w' M3 e0)=>show Q0 w' M3 (JY FB BB e0) from HK.o.mac HS.o o (by rw[xY.o];exact HFB.o.ext x) (by rw[HBL.o];exact au.o.ext x));have vH:=Qa (show Zk M3 (JY FB BB e0)=Zk (jn z0 (JY FB BB e0)) (JY FB BB e0) from Fl ⟨HK.o.sc.clock,HK.o.sc.quantum,HK.o.sc.cur,HK.o.sc.left,HK.o.sc.next,HK.o.sc.init,HK.o.sc.newPipe,HK.o.sc.inn,HK.o.sc.fin,HK.o.sc.told,HK.o.sc.dleft⟩ HK.o.frn HK.o.prn HK.o.pin);have Ar:=Qa (show M3.pr.n<=4000 by rw[HK.o.prn];exact YR nA.o.prl HS.o);have vR:=Qa (show M3.pi.n<=4000 by rw[HK.o.pin];exact YR nA.o.pil HS.o)
 go_upto_region 5 with(first
  | (refine Qo _ rfl rfl gM _ _ rfl b2 rfl ?_)
  | (go_at_call 19;refine(Ei M3 (JY FB BB e0) _ (mM.o _ XW.o qd.o) Ar.o vR.o).mono ?_;rintro e w7 ⟨⟨nn,rfl,hnn⟩,x7⟩;subst hnn))
 replace b2:=b2.ext x7;replace bx:=bx.ext x7;replace br:=br.ext x7;replace qd:=Qa (qd.o.ext x7);replace XW:=Qa (XW.o.trans x7);clear x7;by_cases hc:Zk M3 (JY FB BB e0)=0;case neg =>
  have HE:=Qa (show V7 FB BB s=Zk M3 (JY FB BB e0) by unfold V7;rw[HQ.o];simp only;rw[←vH.o,Zy hc]);have HCN:=Qa hc;generalize Zk M3 (JY FB BB e0)=c at *;have GO:(c != 0)=true:=by simpa using hc
  clear hc;go_wp2_with (refine Qr (.tmp 2) (.tmp 19) rfl rfl (G+1) QB _ _ rfl rfl br rfl ?_;intro w9 b9 g9)
  refine Jv (Qd rfl _ _ (G+1) _ _ _ _ rfl rfl b9 underlying38 rfl J1) rfl ?_;rw[HO.o];exact .inl ⟨by rw[HE.o];exact HCN.o,by rw[HE.o];rfl,XW.o.grown g9 (λj e=>by cases e;rw[←HG.o];exact WQ _)⟩
 have tw:=XP.1 hc;have U6:=Qa tw;have yI:=Qa (Ww nA.o.fit HK.o.sc (d':=JY FB BB e0) rfl);have HRF:=Qa (Hc tw yI.o HK.o.prn.symm HK.o.pin.symm gt.o);have qe:=Qa (λw hi=>fB M3 (JY FB BB e0) w HRF.o hi);have HE:=Qa (show V7 FB BB s=if Z7 M3 (JY FB BB e0)=s then 0 else 3 by unfold V7;rw[HQ.o];simp only;rw[←vH.o,hc,QY,Td HK.o.sc]);rw[hc];obtain⟨t,htt⟩:∃t,t=Z7 M3 (JY FB BB e0):=⟨_,rfl⟩
 rw[←htt]at qe HE;have HT:=Qa htt;clear hc tw htt;go_upto_region 7 with fail;refine JN 5 [[],[0],[1],[],[3]] [.inl (.agg M3.cells),.inl (.agg (Xs M3.fr M3.bl t)),.inl (.string (Qb t)),.inl (.pointer (some ⟨G,2,none⟩)),.inl (.string (Qb s))] (by kernel_rfl) (by kernel_rfl) rfl (λus=>?_);simp only[KG,KI,UY,KJ];refine xW (λw' hx hd=>?_) ?_
 ·go_wp2_with (refine Qo _ rfl rfl gM _ _ rfl (b2.ext hx) rfl ?_)
  exact Qg _
 simp only[S_];refine xW (λw' hx hd=>?_) ?_
 ·go_wp2_with (go_at_call 71;refine(qe.o _ (mM.o _ (XW.o.trans hx) (qd.o.ext hx))).mono ?_;rintro e w2 ⟨rfl,x2⟩)
  all_goals rfl
 simp only[S_];refine xW (λw' hx hd=>?_) ?_
 ·go_wp2_with (refine DO (.tmp 22) rfl rfl M3.fr M3.bl t rfl ?_)
  exact Qg _
 simp only[S_]
 iterate 2
  refine xW (λw' hx hd=>?_) ?_
  ·have c0:w'.cell? ⟨G,2,none⟩=some (.string (Qb s)):=(bx.ext hx).cell 2;go_wp2_with fail;exact Qg _
  simp only[S_]
 rw[Vx];intro w' hx hv;clear hv;have bf:=b2.ext hx;have rf:=br.ext hx;have XF:=Qa (XW.o.trans hx);have Qif:=Qa (qd.o.ext hx);by_cases he:t=s
 ·have mx:=Qa (show V7 FB BB s=0 by rw[HE.o,QN he]);have HTS:=Qa (show Z7 M3 (JY FB BB e0)=s by rw[←HT.o];exact he);have hq:((Qb t).toList==(Qb s).toList)=true:=by rw[he];simp
  clear he
  go_wp2_with (first
   | (refine Qo _ rfl rfl gM _ _ rfl bf rfl ?_)
   | (refine Qr (.tmp 2) (.tmp 28) rfl rfl (G+1) M3 _ _ rfl rfl rf rfl ?_;intro w9 b9 g9))
  refine Jv (Qd rfl _ _ (G+1) _ _ _ _ rfl rfl b9 underlying38 rfl J1) rfl ?_;rw[HO.o];have X9:=XF.o.grown g9 (λj e=>by cases e;rw[←HG.o];exact WQ _);exact .inr ⟨mx.o,z0,e0,M3,HQ.o,rfl,X9,HK.o.sc,mM.o _ X9 (Qif.o.grown rf g9),U6.o,yI.o,HTS.o⟩
 ·have mx:=Qa (show V7 FB BB s=3 by rw[HE.o,QD he]);have hq:((Qb t).toList==(Qb s).toList)=false:=by rw[Qe,Qe];simpa using he
  clear he;go_wp2_with (refine Qr (.tmp 2) (.tmp 27) rfl rfl (G+1) QB _ _ rfl rfl rf rfl ?_;intro w9 b9 g9)
  refine Jv (Qd rfl _ _ (G+1) _ _ _ _ rfl rfl b9 underlying38 rfl J1) rfl ?_;rw[HO.o];exact .inl ⟨by rw[mx.o];decide,by rw[mx.o];rfl,XF.o.grown g9 (λj e=>by cases e;rw[←HG.o];exact WQ _)⟩
theorem et (fr bl:Sl) (FB BB:List (List UInt8)) (s:List UInt8) (w:World) (hF:Q6 Nv w fr.A fr.n FB) (GP:fr.ok) (hB:Q6 Nv w bl.A bl.n BB) (N0:bl.ok) (hs:s.length<=4000) :
  Calls prog 29 #[.agg (Xs fr bl s)] w (Wd FB BB s w):=by
 cases hq:Ye s with
 | none=>exact lN fr bl FB BB s w hs hq
 | some p=>exact IH fr bl FB BB s p.1 p.2 w hF GP hB N0 hs hq (BK hq hs)
def SV (l:List QF) (pid:Int):Option QF:=l.find? λp=>p.pid==pid&&p.state != 3
theorem BN (m:QO) (d:Qz) (pid:Int) (w:World) (hi:Q0 w m d) (Tm:m.pr.n<=4000) :
  Calls prog 38 #[.agg m.cells,.int .i64 pid] w λe w'=>e=.returned (.tuple #[.agg (Qq ((SV d.pr pid).getD JK)).toArray,.bool (SV d.pr pid).isSome])/\Ext w w':=by
 have x0:=((Qg w).alloc (.cells m.cells 38)).alloc (.cells (Qq JK).toArray 57);have bm:=(Qs w 38 m.cells).ext ((Qg _).alloc (.cells (Qq JK).toArray 57));have bp:=Qs (w.alloc (.cells m.cells 38)) 57 (Qq JK).toArray;rw[YB]at bp;obtain⟨MA,Y7⟩:=hi.pr;have P1:=Qa MA;clear hi MA;obtain⟨LP,hLP⟩:∃LP,LP=SV d.pr pid:=⟨_,rfl⟩
 rw[←hLP];have yD:=Qa hLP;clear hLP;go_enter func38,ntmps38;go_upto_region 1 with fail;change Code.wp _ _ _ _ ((w.alloc (.cells m.cells 38)).alloc (.cells (Qq JK).toArray 57));generalize (w.alloc (.cells m.cells 38)).alloc (.cells (Qq JK).toArray 57)=w1 at *;obtain⟨G,hG⟩:∃G,G=w.heap.size:=⟨_,rfl⟩
 rw[←hG]at bm bp ⊢;have HG:=Qa hG;clear hG;have k5:w1.cell? ⟨G,5,none⟩=some (.slice m.pr.A m.pr.n m.pr.c):=bm.cell 5;go_upto_region 2 with fail;clear k5;have rt:=Qa (λ(w':World) (x:Ext w1 w')=>show w'.cell? ⟨G,5,none⟩=some (.slice m.pr.A m.pr.n m.pr.c) from(bm.ext x).cell 5);clear bm;have Rn:m.pr.n=d.pr.length:=P1.o;generalize m.pr.A=A at *;generalize m.pr.n=pn at *;subst Rn;have HF:=Qa (λk (hk:k<d.pr.length)=>Mu (l:=d.pr) (p:=λp=>p.pid==pid&&p.state != 3) hk);have sQ:=Qa (λ(h:∀(j:Nat) (hj:j<d.pr.length),j<d.pr.length->(d.pr[j].pid==pid&&d.pr[j].state != 3)=false)=>show SV d.pr pid=none from We3.2 (λp hp=>by
  obtain⟨j,hj,rfl⟩:=Fd hp;rw[h j hj hj];decide))
 have yC:=Qa (show SV d.pr pid=d.pr.find? (λp=>p.pid==pid&&p.state != 3) from rfl);generalize d.pr=l at *;go_loopw [10] (λi wx=>∃k:Nat,k<=l.length/\i=.int .i64 k/\Ext w1 wx/\∀(j:Nat) (h:j<l.length),j<k->(l[j].pid==pid&&l[j].state != 3)=false) (λi _=>l.length-(intOf i).toNat);case atStart=>exact⟨0,by omega,rfl,Qg _,λj h h2=>by omega⟩
 case round =>
  obtain⟨k,hk,rfl,xk,Xz⟩:=hrel;have WM:=Qa Xz;clear Xz;have wG:=bp.ext xk;by_cases Qn:k<l.length
  ·obtain⟨b,o,rfl,Qf⟩:=Y7 (by omega);have r1:=Ze (Z6 Qf Qn) (x0.trans xk);have k5:=rt.o wr xk;have Y6:(k:Int)<(l.length:Int):=by omega
   have Mk:=Qa (show(l[k].pid==pid&&l[k].state != 3)=false->∀(j:Nat) (h:j<l.length),j<k+1->(l[j].pid==pid&&l[j].state != 3)=false fromλh j hj hjk=>by
    by_cases e:j<k
    ·exact WM.o j hj e
    ·obtain rfl:j=k:=by omega
     exact h)
   have vL:=Qa (show(l[k].pid==pid&&l[k].state != 3)=true->LP=some l[k] fromλh=>by rw[yD.o,yC.o];exact HF.o k Qn h WM.o);clear Qf WM HF sQ;generalize l[k]=y at *;have c0:wr.cell? ⟨b,o+k*96,none⟩=some (.int .i64 y.pid):=r1 0 _ rfl;have c2:wr.cell? ⟨b,o+k*96+2,none⟩=some (.int .i64 y.state):=r1 2 _ rfl;clear bp;rcases VS (y.pid==pid) with h1|h1
   ·rcases VS (y.state != 3) with h2|h2
    ·have HL:=Qa (vL.o (by rw[h1,h2];rfl))
     go_wp2_with (first
      | (refine QT (.tmp 33) rfl rfl b (o+k*96) y rfl r1 ?_)
      | (refine J0 (.tmp 4) (.tmp 34) rfl rfl (G+1) y _ 57 rfl rfl wG rfl ?_;intro w4 b4 g4))
     refine Jv (Qd rfl _ _ (G+1) _ _ _ _ rfl rfl b4 underlying57 rfl kW) rfl ⟨by rw[HL.o];rfl,(x0.trans xk).grown g4 (λj e=>by cases e;rw[←HG.o];exact WQ _)⟩
    ·have HL:=Qa (Mk.o (by rw[h1,h2];rfl));go_wp2_with fail;go_roundw;case rel=>exact⟨k+1,by omega,by go_num,xk,HL.o⟩
     case measure=>simp[intOf];omega
   ·have HL:=Qa (Mk.o (by rw[h1];rfl));go_wp2_with fail;go_roundw;case rel=>exact⟨k+1,by omega,by go_num,xk,HL.o⟩
    case measure=>simp[intOf];omega
  ·obtain rfl:k=l.length:=by omega
   have HL:=Qa (show LP=none from yD.o.trans (sQ.o (λj h _=>WM.o j h h)));clear WM HF sQ;go_wp2_with (refine J0 (.tmp 4) (.tmp 36) rfl rfl (G+1) JK _ 57 rfl rfl wG rfl ?_;intro w4 b4 g4)
   refine Jv (Qd rfl _ _ (G+1) _ _ _ _ rfl rfl b4 underlying57 rfl kW) rfl ⟨by rw[HL.o];rfl,(x0.trans xk).grown g4 (λj e=>by cases e;rw[←HG.o];exact WQ _)⟩
theorem Nd (p:QF) {k:Nat}(hk:k<16):∀j v,(Kf p k)[j]? =some v->(Qq p).toArray[20+k*3+j]? =some v:=λj v hv=>by
 have hj:j<3:=by have:=(Ax.1 hv).1;exact this
 have h1:=VN (Kf p) 3 (List.range 16) (λ_ _=>rfl) k (by rw[mT];exact hk) j hj;rw[vh]at h1;rw[vo];exact Bv p (k*3+j) v (by show((List.range 16).flatMap (Kf p))[k*3+j]? =some v;rw[h1];exact hv)
theorem IJ (y:QF) (w:World) :
  Calls prog 40 #[.agg (Qq y).toArray] w λe w'=>e=.returned (.int .i64 (QL y 16))/\Ext w w':=by
 have x0:=(Qg w).alloc (.cells (Qq y).toArray 57);have b0:=Qs w 57 (Qq y).toArray;go_enter func40,ntmps40;go_upto_region 1 with fail;change Code.wp _ _ _ _ (w.alloc (.cells (Qq y).toArray 57));generalize w.alloc (.cells (Qq y).toArray 57)=w1 at *;generalize w.heap.size=G at b0 ⊢;go_upto_region 3 with fail;go_loopw [3,4] (λs i wx=>∃j:Nat,j<=16/\i=.int .i64 j/\s=.int .i64 (QL y j)/\Ext w1 wx) (λ_ i _=>16-(intOf i).toNat);case atStart=>exact⟨0,by omega,rfl,rfl,Qg _⟩
 case round =>
  obtain⟨j,hj,rfl,rfl,xj⟩:=hrel;by_cases Qn:j<16
  ·have Kp:(j:Int)<16:=by omega
   have HC:=Qa (show QL y (j+1)=QL y j+(if y.pis j=true then 1 else 0) from rfl);have HB:=Qa (show QL y j<=j from by
    clear HC Kp Qn hj xj;induction j with
    | zero=>exact Q4 _
    | succ j ih=>rw[QL];split<;>omega)
   have q0:wr.cell? ⟨G,20+j*3,none⟩=some (.bool (y.pis j)):=((b0.ext xj).cell (20+j*3)).trans (Nd y Qn 0 _ rfl);have GO:QL y j<=16:=by have:=HB.o;omega
   generalize QL y j=cj at *;generalize y.pis j=ia at *;cases ia
   ·go_wp2_with fail;go_roundw;case rel=>exact⟨j+1,by omega,by go_num,by rw[HC.o];rfl,xj⟩
    case measure=>simp[intOf];omega
   ·go_wp2_with fail;go_roundw;case rel=>exact⟨j+1,by omega,by go_num,by rw[HC.o];go_num,xj⟩
    case measure=>simp[intOf];omega
  ·obtain rfl:j=16:=by omega
   go_wp2_with fail;go_ret;exact⟨rfl,x0.trans xj⟩
theorem ed (m:QO) (d:Qz) (w:World) (hi:Q0 w m d) (Tm:m.pr.n<=4000) (Mx:m.fr.n<=100000) :
  Calls prog 39 #[.agg m.cells] w λe w'=>∃u,e=.returned u/\Ext w w'/\w'.ownsRow w.heap.size 3 1 u (Jc m.fr.n d.pr).length (Vr (Yc m.fr.n d.pr)):=by
 have x0:=(Qg w).alloc (.cells m.cells 38);have bm:=Qs w 38 m.cells;have HU:=Qa (λ(f:Int) w (h:Q6 Qq w m.pr.A m.pr.n d.pr)=>Af m d.pr f w h Tm);have HR:=Qa (hi.pr.ext x0);clear hi;go_enter func39,ntmps39;go_upto_region 1 with fail;generalize w.alloc (.cells m.cells 38)=w1 at *;generalize hG:w.heap.size=G at *;have HGe:=Qa hG;have o0:=Y2 w1 3 1;have x1:=(Qg w1).alloc (.cells #[] 3);go_upto_region 2 with fail;generalize w1.alloc (.cells #[] 3)=w2 at *;have k4:w2.cell? ⟨G,4,none⟩=some (.slice m.fr.A m.fr.n m.fr.c):=(bm.ext x1).cell 4;have gm:=Qa o0;have WN:=Qa x1;clear o0 x1;go_upto_region 3 with fail;clear k4;obtain⟨fn,hfe⟩:∃n,n=m.fr.n:=⟨_,rfl⟩
 rw[←hfe]at Mx ⊢;have xY:=Qa hfe;clear hfe;go_loopw [3,9] (λu i wx=>∃j:Nat,j<=fn/\i=.int .i64 j/\Ext w1 wx/\wx.ownsRow w1.heap.size 3 1 u (Yc j d.pr).length (Vr (Yc j d.pr))) (λ_ i _=>fn-(intOf i).toNat);case atStart=>exact⟨0,by omega,rfl,WN.o,gm.o⟩
 case round =>
  clear WN gm;obtain⟨j,hj,rfl,xj,own⟩:=hrel;have uP:=xj.size;by_cases Qn:j<fn
  ·have Kp:(j:Int)<(fn:Int):=by omega
   have bmj:=bm.ext xj;have YW:(Yc j d.pr).length<=j:=by rw[K0];exact TG j d.pr
   have HY:=Qa (λ(h:Q7 d.pr (j:Int) d.pr.length=0)=>show Yc (j+1) d.pr=Yc j d.pr++[(j:Int)] from by
    unfold Yc;rw[FG h,bS];rfl)
   have HN:=Qa (λ(h:Q7 d.pr (j:Int) d.pr.length≠0)=>show Yc (j+1) d.pr=Yc j d.pr from by
    unfold Yc;rw[CE h])
   have HUj:=Qa (λw h=>HU.o (j:Int) w h);have VD:=x0.size;have Wc:=Qa own;clear own;generalize Yc j d.pr=L at *;generalize Q7 d.pr (j:Int) d.pr.length=us at *;rcases VS (((us:Nat):Int)==0) with hz|hz
   ·have HYz:=Qa (HY.o (by simpa using hz))
    go_wp2_with (first
     | (refine Qo _ rfl rfl G _ _ rfl bmj rfl ?_)
     | (go_at_call 81;refine(HUj.o _ (HR.o.ext xj)).mono ?_;rintro e w4 ⟨rfl,x4⟩)
     | (refine UV rfl _ _ rfl rfl rfl (Qc Wc.o (x4.alloc (.cells #[.int .i64 (j:Int)] 3))) (Qs _ _ _) (by omega) (by have:=(x4.alloc (.cells #[.int .i64 (j:Int)] 3)).size;omega) ?_;intro u' w5 XD g5))
    go_roundw;case rel=>exact⟨j+1,by omega,by go_num,((xj.trans x4).alloc _).grown g5 (λq e=>by have:=QU Wc.o e;omega),by rw[HYz.o,VL];exact XD⟩
    case measure=>simp[intOf];omega
   ·have Rt:=Qa (HN.o (by simpa using hz))
    go_wp2_with (first
     | (refine Qo _ rfl rfl G _ _ rfl bmj rfl ?_)
     | (go_at_call 81;refine(HUj.o _ (HR.o.ext xj)).mono ?_;rintro e w4 ⟨rfl,x4⟩))
    go_roundw;case rel=>exact⟨j+1,by omega,by go_num,xj.trans x4,by rw[Rt.o];exact Qc Wc.o x4⟩
    case measure=>simp[intOf];omega
  ·obtain rfl:j=fn:=by omega
   go_wp2_with fail;go_ret;refine⟨_,rfl,x0.trans xj,?_⟩;have h:=Q8 own (show w.heap.size<=w1.heap.size by have:=x0.size;have:=HGe.o;omega);rw[←xY.o,←K0];exact h
theorem Hj (A B:Option Addr) (n c m d:Nat) (l:List (List UInt8)) (w:World) (ha:Strs w A n l) (hb:Strs w B m l) (hn:n<=1000000) :
  Calls prog 42 #[.slice A n c,.slice B m d] w λe w'=>e=.returned (.bool true)/\Ext w w':=by
 obtain⟨rfl,ha2⟩:=ha;obtain⟨rfl,Pt⟩:=hb;go_enter func42,ntmps42;go_upto_region 4 with fail;go_loopw [13] (λt wx=>∃i:Nat,i<=l.length/\t=.int .i64 i/\Ext w wx) (λt _=>l.length-(intOf t).toNat);case atStart=>exact⟨0,by omega,rfl,Qg _⟩
 case round =>
  obtain⟨i,hi,rfl,xi⟩:=hrel;by_cases Qn:i<l.length
  ·obtain⟨b1,o1,rfl,UB⟩:=ha2 (by omega);obtain⟨b2,o2,rfl,Lk⟩:=Pt (by omega);have k1:∀y:Qt wr,y.now.cell? ⟨b1,o1+i,none⟩=some (.string (Qb l[i])):=λy=>(xi.trans y.ext).keep (UB i Qn);have k2:∀y:Qt wr,y.now.cell? ⟨b2,o2+i,none⟩=some (.string (Qb l[i])):=λy=>(xi.trans y.ext).keep (Lk i Qn);have hii:(i:Int)<(l.length:Int):=by omega
   clear UB Lk ha2 Pt;generalize l[i]=s at *;go_upto_region 6 with fail;refine Qk (by kernel_rfl) (by kernel_rfl) ?_;repeat (go_big_quiet_step (fail))
   refine VI ?_;rintro w9 ⟨y,rfl⟩;clear k1 k2;go_wp2_with fail;go_roundw;case rel=>exact⟨i+1,by omega,by go_num,xi.trans y.ext⟩
   case measure=>simp[intOf];omega
  ·obtain rfl:i=l.length:=by omega
   go_wp2_with fail;go_ret;exact⟨rfl,xi⟩
section
variable {C:World->Prop}{K:Act->Prop}{o:Oper}{a:Act}
theorem T7 (x:Operand) (h:o.op=.load 57 x) (b i:Nat) (hx:a.eval x=.pointer (some ⟨b,i,none⟩)) (p:QF) (hc:∀w,C w->w.rangeAt b i (Qq p)) (hk:K (a.put o.dst (.agg (Qq p).toArray))):o.quiet prog a C K :=
 Kg _ x h b i hx _ _ hc underlying57 rfl (by rw[Q2];exact R0) hk
end
theorem IP (m1 m2:QO) (d:Qz) (w:World) (h1:Q0 w m1 d) (h2:Q0 w m2 d) (hs:Zv m2 m1) (hf:Y4 m1 d) (Mx:m1.fr.n<=1000000) (SA:m1.bl.n<=1000000) (Tm:m1.pr.n<=1000) :
  Calls prog 16 #[.agg m1.cells,.agg m2.cells] w λe w'=>e=.returned (.bool true)/\Ext w w':=by
 have x0:=((Qg w).alloc (.cells m1.cells 38)).alloc (.cells m2.cells 38);have b1:=(Qs w 38 m1.cells).ext ((Qg _).alloc (.cells m2.cells 38));have b2:=Qs (w.alloc (.cells m1.cells 38)) 38 m2.cells;rw[YB]at b2;have H1:=Qa (h1.ext x0);have H2:=Qa (h2.ext x0);have HF:=Qa hf;have Mj:=Qa (Ra hf hs);have HR2:=Qa (show Z7 m2 d=Z7 m1 d from Td hs);have fe:=Qa Mx;have qU:=Qa SA;have Ym:=Qa Tm;clear h1 h2 hs hf Mx SA Tm;go_enter func16,ntmps16;go_upto_region 1 with fail;change Code.wp _ _ _ _ ((w.alloc (.cells m1.cells 38)).alloc (.cells m2.cells 38));generalize (w.alloc (.cells m1.cells 38)).alloc (.cells m2.cells 38)=w0 at *;obtain⟨G,hG⟩:∃G,G=w.heap.size:=⟨_,rfl⟩
 rw[←hG]at b1 b2 ⊢;clear hG;obtain⟨t,ht⟩:∃t,t=Z7 m1 d:=⟨_,rfl⟩
 have mP:=Qa (λw h=>Tf m1 d w HF.o h);have yt:=Qa (λw h=>Tf m2 d w Mj.o h);rw[←ht]at mP;rw[HR2.o,←ht]at yt;clear ht;refine Yu 23 [[],[0],[],[2],[1,3],[4],[5],[6],[6,7],[6,8],[6],[6,10],[6,11],[6,9,12],[6,13],[6,14],[15],[16],[16,17],[16],[16,19],[16,18,20],[16,21]] [.pointer (some ⟨G,4,none⟩),.slice m1.fr.A m1.fr.n m1.fr.c,.pointer (some ⟨G+1,4,none⟩),.slice m2.fr.A m2.fr.n m2.fr.c,.bool true,.bool false,.bool false,.pointer (some ⟨G,13,none⟩),.pointer (some ⟨G,13,none⟩),.slice m1.bl.A m1.bl.n m1.bl.c,.pointer (some ⟨G+1,13,none⟩),.pointer (some ⟨G+1,13,none⟩),.slice m2.bl.A m2.bl.n m2.bl.c,.bool true,.bool false,.bool false,.bool false,.agg m1.cells,.string (Qb t),.agg m2.cells,.string (Qb t),.bool false,.bool false] (by kernel_rfl) (by kernel_rfl) rfl ?_;simp only[KG,KI,UY,KJ]
 iterate 4
  refine vW (λw' hx=>?_) ?_
  ·have c0:w'.cell? ⟨G,4,none⟩=some (.slice m1.fr.A m1.fr.n m1.fr.c):=(b1.ext hx).cell 4;have c1:w'.cell? ⟨G+1,4,none⟩=some (.slice m2.fr.A m2.fr.n m2.fr.c):=(b2.ext hx).cell 4;go_wp2_with fail;exact Qg _
  simp only[S_]
 refine vW (λw' hx=>?_) ?_
 ·go_wp2_with (go_at_call 42;refine(Hj m1.fr.A m2.fr.A m1.fr.n m1.fr.c m2.fr.n m2.fr.c d.fr _ (H1.o.ext hx).fr.strs (H2.o.ext hx).fr.strs fe.o).mono ?_;rintro e w2 ⟨rfl,x2⟩)
  all_goals rfl
 simp only[S_]
 iterate 8
  refine vW (λw' hx=>?_) ?_
  ·have c0:w'.cell? ⟨G,13,none⟩=some (.slice m1.bl.A m1.bl.n m1.bl.c):=(b1.ext hx).cell 13;have c1:w'.cell? ⟨G+1,13,none⟩=some (.slice m2.bl.A m2.bl.n m2.bl.c):=(b2.ext hx).cell 13;go_wp2_with fail;exact Qg _
  simp only[S_]
 refine vW (λw' hx=>?_) ?_
 ·go_wp2_with (go_at_call 42;refine(Hj m1.bl.A m2.bl.A m1.bl.n m1.bl.c m2.bl.n m2.bl.c d.bl _ (H1.o.ext hx).bl.strs (H2.o.ext hx).bl.strs qU.o).mono ?_;rintro e w2 ⟨rfl,x2⟩)
  all_goals rfl
 simp only[S_]
 iterate 3
  refine vW (λw' hx=>?_) ?_
  ·go_wp2_with fail;exact Qg _
  simp only[S_]
 refine vW (λw' hx=>?_) ?_
 ·have b':=b1.ext hx;go_wp2_with (refine Jz (.tmp 2) rfl rfl G m1 38 rfl b' ?_)
  exact Qg _
 simp only[S_];refine vW (λw' hx=>?_) ?_
 ·go_wp2_with (go_at_call 43;refine(mP.o _ (H1.o.ext hx)).mono ?_;rintro e w2 ⟨rfl,x2⟩)
  all_goals rfl
 simp only[S_];refine vW (λw' hx=>?_) ?_
 ·have b':=b2.ext hx;go_wp2_with (refine Jz (.tmp 3) rfl rfl (G+1) m2 38 rfl b' ?_)
  exact Qg _
 simp only[S_];refine vW (λw' hx=>?_) ?_
 ·go_wp2_with (go_at_call 43;refine(yt.o _ (H2.o.ext hx)).mono ?_;rintro e w2 ⟨rfl,x2⟩)
  all_goals rfl
 simp only[S_]
 iterate 2
  refine vW (λw' hx=>?_) ?_
  ·go_wp2_with fail;exact Qg _
  simp only[S_]
 rw[NO];intro wz hx;rw[wpList];have HX:=Qa hx;replace b1:=b1.ext hx;replace b2:=b2.ext hx;have E7:m1.pr.n=d.pr.length:=H1.o.pr.1;have Rm:m2.pr.n=d.pr.length:=H2.o.pr.1;have Gn:=Qa (λ(w':World) (x:Ext wz w')=>show w'.cell? ⟨G,5,none⟩=some (.slice m1.pr.A d.pr.length m1.pr.c) from by rw[←E7];exact(b1.ext x).cell 5);have Pj:=Qa (λ(w':World) (x:Ext wz w')=>show w'.cell? ⟨G+1,5,none⟩=some (.slice m2.pr.A d.pr.length m2.pr.c) from by rw[←Rm];exact(b2.ext x).cell 5);have G9:=Qa (H1.o.pr.ext hx);have Aq:=Qa (H2.o.pr.ext hx);have q5:=Gn.o wz (Qg wz);have Rn:d.pr.length<=1000:=by rw[←E7];exact Ym.o
 clear b1 b2 H1 H2 mP yt HF Mj HR2 E7 Rm hx;go_upto_region 4 with fail;clear q5;go_loopw [32] (λi wx=>∃k:Nat,k<=d.pr.length/\i=.int .i64 k/\Ext wz wx) (λi _=>d.pr.length-(intOf i).toNat);case atStart=>exact⟨0,by omega,rfl,Qg _⟩
 case round =>
  obtain⟨k,hk,rfl,xk⟩:=hrel;by_cases Qn:k<d.pr.length
  ·obtain⟨c1,o1,hA1,hcell1⟩:=G9.o.2 (by rw[G9.o.1];omega);obtain⟨c2,o2,me,hcell2⟩:=Aq.o.2 (by rw[Aq.o.1];omega);have r1:=Z6 hcell1 Qn;have r2:=Z6 hcell2 Qn;have HQ1:=Qa Gn.o;have HQ2:=Qa Pj.o;rw[hA1]at HQ1;rw[me]at HQ2;have Y6:(k:Int)<(d.pr.length:Int):=by omega
   clear hcell1 hcell2;generalize d.pr[k]=p at *;have R1:=Qa (show∀wx,(∃x:Qt wr,wx=x.now)->wx.rangeAt c1 (o1+k*96) (Qq p) fromλwx ⟨x,e⟩=>by rw[e];exact Ze r1 (xk.trans x.ext));have R2:=Qa (show∀wx,(∃x:Qt wr,wx=x.now)->wx.rangeAt c2 (o2+k*96) (Qq p) fromλwx ⟨x,e⟩=>by rw[e];exact Ze r2 (xk.trans x.ext));have q1:∀x:Qt wr,x.now.cell? ⟨G,5,none⟩=some (.slice (some ⟨c1,o1,none⟩) d.pr.length m1.pr.c):=λx=>HQ1.o _ (xk.trans x.ext);have q2:∀x:Qt wr,x.now.cell? ⟨G+1,5,none⟩=some (.slice (some ⟨c2,o2,none⟩) d.pr.length m2.pr.c):=λx=>HQ2.o _ (xk.trans x.ext);clear r1 r2 hA1 me;go_upto_region 6 with fail;try simp only[Act.put]
   refine Qk (by kernel_rfl) (by kernel_rfl) ?_
   repeat (first
    | (go_big_quiet_want;refine T7 (.tmp 38) rfl c1 _ rfl p R1.o ?_;simp only[S_];go_big_quiet_on)
    | (go_big_quiet_want;refine T7 (.tmp 43) rfl c2 _ rfl p R2.o ?_;simp only[S_];go_big_quiet_on)
    | (go_big_quiet_want;refine Dw (.tmp 39) (.tmp 44) rfl p rfl rfl ?_;simp only[S_];go_big_quiet_on)
    | go_big_quiet_step (fail))
   refine VI ?_;rintro w6 ⟨x6,rfl⟩;clear q1 q2 R1 R2;go_wp2_with fail;go_roundw;case rel=>exact⟨k+1,by omega,by go_num,xk.trans x6.ext⟩
   case measure=>simp[intOf];omega
  ·obtain rfl:k=d.pr.length:=by omega
   go_wp2_with fail;go_ret;exact⟨rfl,(x0.trans HX.o).trans xk⟩
end Go.Proofs.YtfaplefkakpgcaaGreatDoor
