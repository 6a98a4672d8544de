/- image's writer: dec, flag, writeRows. -/
import Derived.Test.YtfaplefkakpgcaaGreatDoorXf8
import Derived.Test.YtfaplefkakpgcaaGreatDoorXf24
import Derived.Test.YtfaplefkakpgcaaGreatDoorXf17
import Derived.Test.YtfaplefkakpgcaaGreatDoorXf13
import Derived.Test.YtfaplefkakpgcaaGreatDoorXf2
import Derived.Test.YtfaplefkakpgcaaGreatDoorXf5
import Derived.Test.YtfaplefkakpgcaaGreatDoorXf20
import Derived.Test.YtfaplefkakpgcaaGreatDoorXf21
set_option linter.unusedVariables false
set_option linter.unusedSimpArgs false
set_option maxHeartbeats 32000000
set_option maxRecDepth 100000
namespace Go.Proofs.YtfaplefkakpgcaaGreatDoor
open Go.Proofs.Tryz
open Go.RowKit
theorem strs_ofBox {w:World}{g:Nat}{t:TypeId}{ss:List (List UInt8)}(h:Box w g t (strL ss).toArray):Strs w (some ⟨g,0,none⟩) ss.length ss:=⟨rfl,λ_=>⟨g,0,rfl,λj hj=>by
 rw[Nat.zero_add,h.cell j];simp[strL,hj]⟩⟩
theorem own_asSl {w:World}{base z n:Nat}{u:Value}{xs:List Value}{t:TypeId}(o:w.ownsRow base t z u n xs):∃A c,u=.slice A n c:=by
 rcases o.2 with⟨rfl,rfl⟩|⟨g,cap,_,rfl,_⟩
 ·exact⟨none,0,rfl⟩
 ·exact⟨_,cap,rfl⟩
theorem sumL_few (z:Nat) (l:List (List UInt8)) (h:∀s∈l,s.length<=z):sumL l<=l.length*(z+4):=by
 induction l with
 | nil=>simp[sumL]
 | cons s l ih => have h1:=h s List.mem_cons_self;have h2:=ih (λx hx=>h x (List.mem_cons_of_mem _ hx));unfold sumL at *;rw[List.map_cons,List.sum_cons,List.length_cons,Nat.succ_mul];omega
theorem idec_any (n:Int) (w:World) (h:N64 n) (hD:Dec10 w) :
  Calls prog 102 #[.int .i64 n] w λe w'=>e=.returned (.string (str (Lib.itoa n)))/\Ext w w':=by
 have HD:=lh_ (dec_any n w h hD);clear h hD;go_enter func102,ntmps102;go_wp2_with (go_at_call 174;refine HD.out.mono ?_;rintro e w1 ⟨rfl,x1⟩)
 go_ret;exact⟨rfl,x1⟩
theorem iflag_any (b:Bool) (w:World):Calls prog 105 #[.bool b] w λe w'=>e=.returned (.string (str (flagT b)))/\Ext w w':=by
 cases b
 all_goals
  go_enter func105,ntmps105;go_wp2_with fail;go_ret;exact⟨rfl,Ext.refl _⟩
theorem wrows_any (A:Option Addr) (n c:Nat) (l:List WrT) (w:World) (h:RowOf wrL w A n l) (hf:WrFit l) (hl:l.length<=1000) (hD:Dec10 w) :
  Calls prog 106 #[.slice A n c] w λe w'=>e=.returned (.string (str (writesT l)))/\Ext w w':=by
 have hn:n=l.length:=h.1;subst hn;have HR:=lh_ h;have HF:=lh_ hf;have HD:=lh_ hD;clear h hf hD;go_enter func106,ntmps106;generalize hG:w.heap.size=G at *;go_upto_region 2 with(refine wp_make0 (c:=l.length) G rfl _ _ rfl rfl rfl (by omega) (Nat.le_of_eq hG.symm) ?_;intro w1 o1 x1)
 rw[hG]at o1;go_upto_region 3 with fail;go_loopw [3,11] (λu i wx=>∃k:Nat,k<=l.length/\i=.int .i64 k/\Ext w wx/\wx.ownsRow G 9 1 u k (strL ((l.take k).map writeT))) (λ_ i _=>l.length-(intOf i).toNat);case atStart=>exact⟨0,by omega,rfl,x1,o1⟩
 case round =>
  clear x1 o1;obtain⟨k,hk,rfl,xk,ok⟩:=hrel;obtain⟨uL,huL⟩:∃v:Value,v=u3:=⟨_,rfl⟩
  subst huL;by_cases hlt:k<l.length
  ·obtain⟨b2,o2,hA,hcell⟩:=(HR.out.ext xk).wrs.2 (by show 0<l.length;omega);subst hA;have e1:=(hcell k hlt).1;have e2:=(hcell k hlt).2;have hki:(k:Int)<(l.length:Int):=by omega
   have HY:=lh_ (HF.out l[k] (List.getElem_mem _));have HT1:=lh_ (show(l.take (k+1)).map writeT=(l.take k).map writeT++[writeT l[k]] by rw[List.take_succ_eq_append_getElem hlt,List.map_append];rfl);clear hcell;generalize l[k]=y at *;have HN:=lh_ HY.out.1;have HSum:=lh_ (show sumL [Lib.itoa y.1,y.2]<=1000000000 by
    have h1:=itoa_len HY.out.1.1 HY.out.1.2;have h2:=HY.out.2;simp only[sumL,List.map_cons,List.map_nil,List.sum_cons,List.sum_nil];omega)
   clear HY;go_upto_region 5 with fail;have y5:Ext wr (wr.alloc (.cells #[.int .i64 y.1,.string (str y.2)] 92)):=(Ext.refl wr).alloc _;have bw:=Box.new wr 92 #[.int .i64 y.1,.string (str y.2)];have ok5:=own_ext ok y5;have xk7:=xk.trans y5;have z7:G<=(wr.alloc (.cells #[.int .i64 y.1,.string (str y.2)] 92)).heap.size:=by rw[← hG];exact xk7.size
   clear ok e1 e2 xk y5;generalize wr.alloc (.cells #[.int .i64 y.1,.string (str y.2)] 92)=w7 at *;generalize wr.heap.size=gw at *;refine wp_region_web' 9 [[],[],[1],[2],[],[4],[3,5],[6],[7]] (listV [isV (uL),isV (.pointer (some ⟨gw,0,none⟩)),isV (.int .i64 ((y.1:Int))),isV (.string (str (Lib.itoa y.1))),isV (.pointer (some ⟨gw,1,none⟩)),isV (.string (str (y.2))),rowV 2 9 #[.string (str (Lib.itoa y.1)),.string (str (y.2))],isV (.string (str (writeT y))),rowV 1 9 #[.string (str (writeT y))]]) (by kernel_rfl) (by kernel_rfl) (listV_ext (λp hp=>by simp only[List.mem_cons,List.not_mem_nil,or_false]at hp;rcases hp with rfl|rfl|rfl|rfl|rfl|rfl|rfl|rfl|rfl<;>first|exact lasts_is _|exact lasts_row _ _ _)) (λus=>?_);simp only[List.take_succ_cons,List.take_zero,List.drop_succ_cons,List.drop_zero];rw[mWalk];refine And.intro (λw' hx hd=>?_) ?_
   ·clear hd;refine web_of_list 15 rfl (by simp) rfl ?_;go_wp2_with fail;exact⟨Ext.refl _,rfl⟩
   simp only[pS_,pN_,sA_,s0_,s1_];rw[mWalk];refine And.intro (λw' hx hd=>?_) ?_
   ·clear hd;refine web_of_list 16 rfl (by simp[Act.put]) rfl ?_;go_wp2_with fail;exact⟨Ext.refl _,rfl⟩
   simp only[pS_,pN_,sA_,s0_,s1_];rw[mWalk];refine And.intro (λw' hx hd=>?_) ?_
   ·have h1:=hd 1 (by simp);clear hd;generalize us 1=u1 at *;obtain rfl:u1=.pointer (some ⟨gw,0,none⟩):=h1;have q0:=(bw.ext hx).cell 0;refine web_of_list 17 rfl (by simp[Act.put]) rfl ?_;go_wp2_with fail;exact⟨Ext.refl _,rfl⟩
   simp only[pS_,pN_,sA_,s0_,s1_];rw[mWalk];refine And.intro (λw' hx hd=>?_) ?_
   ·have h2:=hd 2 (by simp);clear hd;generalize us 2=u2 at *;obtain rfl:u2=.int .i64 (y.1:Int):=h2;refine web_of_list 18 rfl (by simp[Act.put]) rfl ?_;go_wp2_with (go_at_call 102;refine(idec_any y.1 _ HN.out (HD.out.ext (xk7.trans hx))).mono ?_;rintro e w2 ⟨rfl,x2⟩)
    first|exact⟨x2,rfl⟩|exact rfl
   simp only[pS_,pN_,sA_,s0_,s1_];rw[mWalk];refine And.intro (λw' hx hd=>?_) ?_
   ·clear hd;refine web_of_list 19 rfl (by simp[Act.put]) rfl ?_;go_wp2_with fail;exact⟨Ext.refl _,rfl⟩
   simp only[pS_,pN_,sA_,s0_,s1_];rw[mWalk];refine And.intro (λw' hx hd=>?_) ?_
   ·have h4:=hd 4 (by simp);clear hd;generalize us 4=u4 at *;obtain rfl:u4=.pointer (some ⟨gw,1,none⟩):=h4;have q0:=(bw.ext hx).cell 1;refine web_of_list 20 rfl (by simp[Act.put]) rfl ?_;go_wp2_with fail;exact⟨Ext.refl _,rfl⟩
   simp only[pS_,pN_,sA_,s0_,s1_];rw[mWalk];refine And.intro (λw' hx hd=>?_) ?_
   ·have h3:=hd 3 (by simp);have h5:=hd 5 (by simp);clear hd;generalize us 3=u3 at *;generalize us 5=u5 at *;obtain rfl:u3=.string (str (Lib.itoa y.1)):=h3;obtain rfl:u5=.string (str (y.2)):=h5;refine web_of_list 21 rfl (by simp[Act.put]) rfl ?_;go_wp2_with fail;exact⟨(Ext.refl w').alloc _,_,rfl,Box.new _ _ _⟩
   simp only[pS_,pN_,sA_,s0_,s1_];rw[mWalk];refine And.intro (λw' hx hd=>?_) ?_
   ·have h6:=hd 6 (by simp);clear hd;generalize us 6=u6 at *;obtain⟨g21,rfl,bg21⟩:=h6;have HS:=lh_ (strs_ofBox (ss:=[Lib.itoa y.1,y.2]) bg21);clear bg21;refine web_of_list 22 rfl (by simp[Act.put]) rfl ?_;go_wp2_with (go_at_call 101;refine(row_any (some ⟨g21,0,none⟩) 2 2 [Lib.itoa y.1,y.2] _ HS.out HSum.out (by decide)).mono ?_;rintro e w2 ⟨rfl,x2⟩)
    first|exact⟨x2,rfl⟩|exact rfl
   simp only[pS_,pN_,sA_,s0_,s1_];rw[mWalk];refine And.intro (λw' hx hd=>?_) ?_
   ·have h7:=hd 7 (by simp);clear hd;generalize us 7=u7 at *;obtain rfl:u7=.string (str (writeT y)):=h7;refine web_of_list 23 rfl (by simp[Act.put]) rfl ?_;go_wp2_with fail;exact⟨(Ext.refl w').alloc _,_,rfl,Box.new _ _ _⟩
   simp only[pS_,pN_,sA_,s0_,s1_];rw[mWalk];intro w' hx hv;have h0:=hv 0 (by omega);have h8:=hv 8 (by omega);clear hv;generalize us 0=u0 at *;generalize us 6=u6 at *;generalize us 8=u8 at *;obtain rfl:u0=uL:=h0;obtain⟨g23,rfl,bg23⟩:=h8;have v6:=strs_ofBox (ss:=[writeT y]) bg23;have o5':=own_ext ok5 hx;have x5':=xk7.trans hx;have z5':=Nat.le_trans z7 hx.size;go_wp2_with (refine wp_app_strs G rfl _ _ rfl rfl rfl o5' v6 (by omega) z5' (by decide) ?_;intro u6 w6 o6 g6)
   have x6:Ext w w6:=x5'.grown g6 (λk e=>by rw[hG];exact own_low o5' e);go_roundw;case rel=>exact⟨k+1,by omega,by go_num,x6,by rw[HT1.out];exact o6⟩
   case measure=>simp[intOf];omega
  ·obtain rfl:k=l.length:=by omega
   rw[List.take_length]at ok;have hsum:sumL (l.map writeT)<=1000000000:=by
    have:=sumL_few 1028 (l.map writeT) (λs hs=>by
     obtain⟨x,hx,rfl⟩:=List.mem_map.1 hs;exact writeT_len (HF.out x hx).1 (HF.out x hx).2)
    rw[List.length_map]at this;omega
   obtain⟨A3,c3,e3⟩:=own_asSl ok;subst e3;have HS:=lh_ (Strs.own ok);have HSum:=lh_ hsum;clear ok hsum;go_wp2_with (go_at_call 101;refine(row_any A3 l.length c3 (l.map writeT) _ HS.out HSum.out (by omega)).mono ?_;rintro e w2 ⟨rfl,x2⟩)
   go_ret;exact⟨rfl,xk.trans x2⟩
def regsL (p:PrT):List Value:=(List.range 16).map λi=>.int .u32 (p.reg i)
theorem pr_regs (p:PrT):∀j v,(regsL p)[j]? =some v->(prL p).toArray[3+j]? =some v:=λj v hv=>by
 have hj:j<16:=by have:=(List.getElem?_eq_some_iff.1 hv).1;exact this
 rw[List.getElem?_toArray];have e:(prL p).drop 3=regsL p++([.int .u32 p.pc]++spaceL p++fdsL p++[.bool p.mask,.int .u32 p.code,.int .i64 p.why,.int .u64 p.num]):=rfl;rw[← List.getElem?_drop,e,List.getElem?_append_left (by exact hj)];exact hv
theorem regsSize:(prog.info? 46).map (·.size)=some 16:=by kernel_rfl
theorem run_index_cell {P:Program}{t e n:Nat}{cs:Array Value}{v:Value}{i:Nat}{d:TypeDesc}(w:World) (hu:P.underlying t=some (.array n e)) (he:P.underlying e=some d) (hd:d.isRow=false) (hs:(P.info? e).map (·.size)=some 1) (hin:i<n) (hv:cs[i]? =some v) :
  (Instr.index t (.agg cs) (.int .i64 (i:Int))).run P w=.ok v w:=by
 cases hq:P.info? e with
 | none=>simp[hq]at hs
 | some j =>
  have hz:j.size=1:=by simpa[hq]using hs
  have hagg:(isAgg e).run P w=.ok false w:=by unfold isAgg;rw[Sem.run_bind,run_underlying he w];cases d<;>simp_all
  have h1:(i:Int)<(n:Int):=by omega
  simp[Instr.index,asIntOf,run_underlying hu,h1,sizeOf,typeInfo,hq,part,Sem.run_bind,hagg,hz,hv];intro hc;exact absurd hc (by omega)
section
variable {ops:Array Oper}{rest:List Oper}{o:Oper}{a:Act}{w:World}{Q:Exit->Act->World->Prop}
theorem wp_ld_regs (x:Operand) (hgd:o.guard=none) (ho:o.op=.load 46 x) (g:Nat) (t:TypeId) (p:PrT) (hx:a.eval x=.pointer (some ⟨g,3,none⟩))
  (hb:Box w g t (prL p).toArray) (hK:wpList prog ops Q rest (a.put o.dst (.agg (regsL p).toArray)) w):wpList prog ops Q (o::rest) a w :=
 wpList_load_mid hgd _ x ho g 3 hx _ _ (box_range hb (pr_regs p)) underlying46 rfl (by exact regsSize) hK
theorem u32Size:(prog.info? 45).map (·.size)=some 1:=by kernel_rfl
theorem wp_idx_reg (x y:Operand) (hgd:o.guard=none) (ho:o.op=.index 46 x y) (p:PrT) (i:Nat) (hx:a.eval x=.agg (regsL p).toArray) (hy:a.eval y=.int .i64 (i:Int)) (hi:i<16)
  (hK:wpList prog ops Q rest (a.put o.dst (.int .u32 (p.reg i))) w):wpList prog ops Q (o::rest) a w:=by
 refine wpList_plain hgd λK hK'=>?_;unfold Oper.wp execOp;have:=run_index_cell (P:=prog) (cs:=(regsL p).toArray) (v:=.int .u32 (p.reg i)) (i:=i) w underlying46 underlying45 rfl u32Size hi (by simp[regsL,hi]);simp only[ho,hx,hy,this,Sem.run_bind,Sem.run_pure,Result.andThen_ok];exact hK' _ _ hK
theorem wp_app_bytes {B g m n:Nat}{u:Value}{l:List UInt8}(p:List UInt8) (hgd:o.guard=none) (sl x:Operand)
  (ho:o.op=.call { callee:=.builtin .append,args:=#[sl,x],argTypes:=#[167,167] }) (hs:a.eval sl=u) (hx:a.eval x=.slice (some ⟨g,0,none⟩) m m)
  (cs:Array Value) (hcs:cs=(byteL p).toArray) (h0:w.ownsRow B 5 1 u n (byteL l)) (hb:Box w g 5 cs) (hm:m=p.length) (hn:n+p.length<=1000000) (hB:B<=w.heap.size)
  (hK:∀u' w',w'.ownsRow B 5 1 u' (n+p.length) (byteL (l++p))->w.grownBy w' u.ownBlock->wpList prog ops Q rest (a.put o.dst u') w'):wpList prog ops Q (o::rest) a w:=by
 subst hm;subst hcs;refine wpList_plain hgd λK hK'=>?_;obtain⟨i,hi,hz,h1,h2⟩:=info_parts byteInfo;obtain⟨v',w',hr,ho2,hg,_,_⟩:=run_append_own_at (P:=prog) w B 167 o.type 5 i _ 1 1 underlying167 hi hz h1 h2 rfl (by decide) u n (byteL l) h0 ⟨g,0,none⟩ p.length p.length (byteL p) (by simp[byteL]) (λj u hj=>by
  have ha:(⟨g,0,none⟩:Addr).add j=⟨g,j,none⟩:=by unfold Addr.add;split<;>simp_all
  rw[ha,hb.cell j];simpa using hj) (λv hv=>by
  simp only[byteL,List.mem_map]at hv;obtain⟨s,_,rfl⟩:=hv;rfl) (by unfold maxLen;omega) (by omega) hB
 unfold Oper.wp execOp;simp only[ho,resolve,invoke,builtin,Sem.run_bind,Sem.run_pure,Result.andThen_ok,List.map_toArray,List.map_cons,List.map_nil,hs,hx,hr];refine hK' _ _ (hK v' w' ?_ hg);rw[show byteL (l++p)=byteL l++byteL p by simp[byteL]];exact ho2
end
theorem bytes_one (a:UInt8):(#[.int .u8 (a.toNat:Int)]:Array Value)=(byteL [a]).toArray:=rfl
theorem bytes_00:(#[.int .u8 0,.int .u8 0]:Array Value)=(byteL [0,0]).toArray:=by kernel_rfl
theorem bytes_1 (b:UInt8):(#[.int .u8 1,.int .u8 (b.toNat:Int)]:Array Value)=(byteL [1,b]).toArray:=by kernel_rfl
theorem bytes_2 (b:UInt8):(#[.int .u8 2,.int .u8 (b.toNat:Int)]:Array Value)=(byteL [2,b]).toArray:=by kernel_rfl
theorem range_more (f:Nat->List UInt8) (k:Nat):(List.range (k+1)).flatMap f=(List.range k).flatMap f++f k:=by
 rw[List.range_succ,List.flatMap_append];simp
theorem u8_b8 {n:Int}(h0:0<=n) (h1:n<256):IntKind.u8.wrap n=((b8 n).toNat:Int):=by
 rw[b8_natT h0 h1,IntKind.wrap_u8'];omega
theorem prow_any (y:PrT) (w:World) (hf:PrFit y) (hD:Dec10 w) :
  Calls prog 103 #[.agg (prL y).toArray] w λe w'=>e=.returned (.string (str (procT y)))/\Ext w w':=by
 have HF:=lh_ hf;have HD:=lh_ hD;have HSum:=lh_ (show sumL (procL y)<=1000000000 by
  have:=sumL_few 136 (procL y) (procL_few hf);rw[procL_len]at this;omega)
 have HUC:=lh_ (show IntKind.u64.wrap y.code=y.code by rw[IntKind.wrap_u64];have:=hf.code;omega);clear hf hD;go_enter func103,ntmps103;go_upto_region 2 with fail;have b0:=Box.new w 57 (prL y).toArray;have x0:Ext w (w.alloc (.cells (prL y).toArray 57)):=(Ext.refl w).alloc _;generalize w.alloc (.cells (prL y).toArray 57)=w0 at b0 x0 ⊢;generalize w.heap.size=G at b0 ⊢;go_upto_region 3 with(refine wp_ld_regs _ rfl rfl G _ y rfl b0 ?_)
 generalize hG1:w0.heap.size=G1;go_loopw [3,7,15] (λu _ i wx=>∃k:Nat,k<=16/\i=.int .i64 k/\Ext w0 wx/\wx.ownsRow G1 5 1 u (4*k) (byteL ((List.range k).flatMap λi=>putL (y.reg i) 4))) (λ_ _ i _=>16-(intOf i).toNat);case atStart=>exact⟨0,by omega,rfl,Ext.refl _,World.ownsRow_nil _ _ _ _⟩
 case round =>
  obtain⟨k,hk,rfl,xk,ok⟩:=hrel;obtain⟨uL,huL⟩:∃v:Value,v=u3:=⟨_,rfl⟩
  subst huL;by_cases hlt:k<16
  ·have hki:(k:Int)<16:=by omega
   have HT:=lh_ (range_more (λi=>putL (y.reg i) 4) k);have hr:=HF.out.reg k hlt;have z5:G1<=wr.heap.size:=by rw[← hG1];exact xk.size
   have hu:IntKind.u64.wrap (y.reg k)=y.reg k:=by rw[IntKind.wrap_u64];omega
   have hr0:=hr.1;have hr1:=hr.2;clear hr
   go_wp2_with (first
    | (refine wp_idx_reg (.tmp 14) (.tmp 15) rfl rfl y k rfl rfl hlt ?_)
    | (go_at_call 104;refine(put_4 (y.reg k) _ hr0 hr1).mono ?_;rintro e w2 ⟨rfl,x2⟩)
    | (refine wp_app_str rfl _ _ rfl rfl rfl (own_ext ok x2) (by rw[putL_len];omega) (Nat.le_trans z5 x2.size) ?_;intro u6 w6 o6 g6))
   have ok2:=own_ext ok x2;have x6:Ext w0 w6:=(xk.trans x2).grown g6 (λj e=>by rw[hG1];exact own_low ok2 e);rw[putL_len,show 4*k+4=4*(k+1) by omega]at o6;go_roundw;case rel=>exact⟨k+1,by omega,by go_num,x6,by rw[HT.out];exact o6⟩
   case measure=>simp[intOf];omega
  ·obtain rfl:k=16:=by omega
   have hu:IntKind.u64.wrap y.pc=y.pc:=by rw[IntKind.wrap_u64];have:=HF.out.pc;omega
   have hr0:=HF.out.pc.1;have hr1:=HF.out.pc.2;have z5:G1<=wr.heap.size:=by rw[← hG1];exact xk.size
   have bk:=b0.ext xk;have q:wr.cell? ⟨G,19,none⟩=some (.int .u32 y.pc):=bk.cell 19
   go_upto_region 8 with(first
    | (go_at_call 104;refine(put_4 y.pc _ hr0 hr1).mono ?_;rintro e w2 ⟨rfl,x2⟩)
    | (refine wp_app_str rfl _ _ rfl rfl rfl (own_ext ok x2) (by rw[putL_len];omega) (Nat.le_trans z5 x2.size) ?_;intro uC w6 o6 g6))
   have x6:Ext w0 w6:=(xk.trans x2).grown g6 (λj e=>by rw[hG1];exact own_low ok e);rw[putL_len]at o6;have oC:w6.ownsRow G1 5 1 uC 68 (byteL (cpuT y)):=o6;have bC:=b0.ext x6;have xC:=x0.trans x6;clear b0 x0 x6 g6 o6 x2 ok xk bk q hG1 z5 hr0 hr1 hu hk hlt;go_upto_region 9 with(refine wp_ld_space _ rfl rfl G _ y rfl bC ?_)
   generalize hG2:w6.heap.size=G2;go_loopw [4,33] (λu i wx=>∃k:Nat,k<=16/\i=.int .i64 k/\Ext w6 wx/\wx.ownsRow G2 5 1 u (2*k) (byteL ((List.range k).flatMap (pteT y)))) (λ_ i _=>16-(intOf i).toNat);case atStart=>exact⟨0,by omega,rfl,Ext.refl _,World.ownsRow_nil _ _ _ _⟩
   case round =>
    obtain⟨k,hk,rfl,xk,ok⟩:=hrel;obtain⟨uM,huM⟩:∃v:Value,v=u4:=⟨_,rfl⟩
    subst huM;by_cases hlt:k<16
    ·have hki:(k:Int)<16:=by omega
     have HT:=lh_ (range_more (pteT y) k);have hn:2*(k+1)=2*k+2:=by omega
     have z5:G2<=wr.heap.size:=by rw[← hG2];exact xk.size
     have hu:=u8_b8 (HF.out.page k hlt).1 (HF.out.page k hlt).2.1;have hfrb:=(HF.out.page k hlt).2.1;go_upto_region 12 with(refine wp_idx_pte (.tmp 32) (.tmp 33) rfl rfl y k rfl rfl hlt ?_)
     have bq:=Box.new wr 50 #[.bool (y.pis k),.bool (y.pwr k),.int .i64 (y.pfr k)];have xq:=xk.alloc (.cells #[.bool (y.pis k),.bool (y.pwr k),.int .i64 (y.pfr k)] 50);have oq:=own_ext ok ((Ext.refl wr).alloc (.cells #[.bool (y.pis k),.bool (y.pwr k),.int .i64 (y.pfr k)] 50));generalize wr.alloc (.cells #[.bool (y.pis k),.bool (y.pwr k),.int .i64 (y.pfr k)] 50)=wq at bq xq oq ⊢;generalize wr.heap.size=gq at bq ⊢;have zq:G2<=wq.heap.size:=by rw[← hG2];exact xq.size
     have q0:wq.cell? ⟨gq,0,none⟩=some (.bool (y.pis k)):=bq.cell 0;have q1:wq.cell? ⟨gq,1,none⟩=some (.bool (y.pwr k)):=bq.cell 1;have q2:wq.cell? ⟨gq,2,none⟩=some (.int .i64 (y.pfr k)):=bq.cell 2;clear bq xk ok z5;cases e1:y.pis k with
     | false =>
      rw[e1]at q0;have hp:pteT y k=[0,0]:=by unfold pteT;rw[if_pos e1]
      go_wp2_with (refine wp_app_bytes [0,0] rfl _ _ rfl rfl rfl _ bytes_00 (own_ext oq ((Ext.refl wq).alloc _)) (Box.new _ _ _) rfl (by simp only[List.length_cons,List.length_nil];omega) (Nat.le_trans zq ((Ext.refl wq).alloc _).size) ?_;intro u7 w7 o7 g7)
      have x7:Ext w6 w7:=(xq.alloc _).grown g7 (λj e=>by rw[hG2];exact own_low oq e);go_roundw;case rel=>exact⟨k+1,by omega,by go_num,x7,by rw[HT.out,hp,hn];exact o7⟩
      case measure=>simp[intOf];omega
     | true =>
      cases e2:y.pwr k with
      | true =>
       rw[e1]at q0;rw[e2]at q1;have hp:pteT y k=[2,b8 (y.pfr k)]:=by unfold pteT;rw[if_neg (by rw[e1];decide),if_pos e2]
       go_wp2_with (refine wp_app_bytes [2,b8 (y.pfr k)] rfl _ _ rfl rfl rfl _ (bytes_2 _) (own_ext oq ((Ext.refl wq).alloc _)) (Box.new _ _ _) rfl (by simp only[List.length_cons,List.length_nil];omega) (Nat.le_trans zq ((Ext.refl wq).alloc _).size) ?_;intro u7 w7 o7 g7)
       have x7:Ext w6 w7:=(xq.alloc _).grown g7 (λj e=>by rw[hG2];exact own_low oq e);go_roundw;case rel=>exact⟨k+1,by omega,by go_num,x7,by rw[HT.out,hp,hn];exact o7⟩
       case measure=>simp[intOf];omega
      | false =>
       rw[e1]at q0;rw[e2]at q1;have hp:pteT y k=[1,b8 (y.pfr k)]:=by unfold pteT;rw[if_neg (by rw[e1];decide),if_neg (by rw[e2];decide)]
       go_wp2_with (refine wp_app_bytes [1,b8 (y.pfr k)] rfl _ _ rfl rfl rfl _ (bytes_1 _) (own_ext oq ((Ext.refl wq).alloc _)) (Box.new _ _ _) rfl (by simp only[List.length_cons,List.length_nil];omega) (Nat.le_trans zq ((Ext.refl wq).alloc _).size) ?_;intro u7 w7 o7 g7)
       have x7:Ext w6 w7:=(xq.alloc _).grown g7 (λj e=>by rw[hG2];exact own_low oq e);go_roundw;case rel=>exact⟨k+1,by omega,by go_num,x7,by rw[HT.out,hp,hn];exact o7⟩
       case measure=>simp[intOf];omega
    ·obtain rfl:k=16:=by omega
     have oS:wr.ownsRow G2 5 1 uM 32 (byteL (spaceT y)):=ok;have oC2:=own_ext oC xk;have bC2:=bC.ext xk;have xC2:=xC.trans xk;clear ok oC bC xC xk hG2 hk hlt;go_upto_region 18 with(refine wp_ld_fds _ rfl rfl G _ y rfl bC2 ?_)
     obtain⟨wS,hwS⟩:∃v:World,v=wr:=⟨_,rfl⟩
     subst hwS;generalize hG3:wS.heap.size=G3;go_loopw [5,61] (λu i wx=>∃k:Nat,k<=8/\i=.int .i64 k/\Ext wS wx/\wx.ownsRow G3 5 1 u (17*k) (byteL ((List.range k).flatMap (fdT y)))) (λ_ i _=>8-(intOf i).toNat);case atStart=>exact⟨0,by omega,rfl,Ext.refl _,World.ownsRow_nil _ _ _ _⟩
     case round =>
      obtain⟨k,hk,rfl,xk,ok⟩:=hrel;obtain⟨uN,huN⟩:∃v:Value,v=u5:=⟨_,rfl⟩
      subst huN;by_cases hlt:k<8
      ·have hki:(k:Int)<8:=by omega
       have HT:=lh_ (range_more (fdT y) k);have hu:=u8_b8 (HF.out.fk k hlt).1 (HF.out.fk k hlt).2;have f0:=(HF.out.fn k hlt).1;have f1:=(HF.out.fn k hlt).2;have f2:=(HF.out.fp k hlt).1;have f3:=(HF.out.fp k hlt).2;have hv1:IntKind.u64.wrap (y.fn k)=y.fn k:=by rw[IntKind.wrap_u64];omega
       have hv2:IntKind.u64.wrap (y.fp k)=y.fp k:=by rw[IntKind.wrap_u64];omega
       go_upto_region 20 with(refine wp_idx_fd (.tmp 60) (.tmp 61) rfl rfl y k rfl rfl hlt ?_)
       have bq:=Box.new wr 54 #[.int .i64 (y.fk k),.int .i64 (y.fn k),.int .i64 (y.fp k)];have xq:=xk.alloc (.cells #[.int .i64 (y.fk k),.int .i64 (y.fn k),.int .i64 (y.fp k)] 54);have oq:=own_ext ok ((Ext.refl wr).alloc (.cells #[.int .i64 (y.fk k),.int .i64 (y.fn k),.int .i64 (y.fp k)] 54));generalize wr.alloc (.cells #[.int .i64 (y.fk k),.int .i64 (y.fn k),.int .i64 (y.fp k)] 54)=wq at bq xq oq ⊢;generalize wr.heap.size=gq at bq ⊢;have zq:G3<=wq.heap.size:=by rw[← hG3];exact xq.size
       have q0:=bq.cell 0;go_upto_region 21 with(refine wp_app_bytes [b8 (y.fk k)] rfl _ _ rfl rfl rfl _ (bytes_one _) (own_ext oq ((Ext.refl wq).alloc _)) (Box.new _ _ _) rfl (by simp only[List.length_cons,List.length_nil];omega) (Nat.le_trans zq ((Ext.refl wq).alloc _).size) ?_;intro u7 w7 o7 g7)
       have b7:=(bq.ext ((Ext.refl wq).alloc _)).grown g7 (own_ne oq bq (by decide));have x7:Ext wS w7:=(xq.alloc _).grown g7 (λj e=>by rw[hG3];exact own_low oq e);have z7:G3<=w7.heap.size:=by rw[← hG3];exact x7.size
       clear bq xq oq q0 zq g7 xk ok;have q1:=b7.cell 1
       go_upto_region 22 with(first
        | (go_at_call 104;refine(put_8 (y.fn k) _ f0 (by omega)).mono ?_;rintro e w8 ⟨rfl,x8⟩)
        | (refine wp_app_str rfl _ _ rfl rfl rfl (own_ext o7 x8) (by rw[putL_len];simp only[List.length_cons,List.length_nil];omega) (Nat.le_trans z7 x8.size) ?_;intro u9 w9 o9 g9))
       have b9:=(b7.ext x8).grown g9 (own_ne (own_ext o7 x8) (b7.ext x8) (by decide));have x9:Ext wS w9:=(x7.trans x8).grown g9 (λj e=>by rw[hG3];exact own_low o7 e);have z9:G3<=w9.heap.size:=by rw[← hG3];exact x9.size
       clear b7 x7 q1 z7 g9 o7 x8;have q2:=b9.cell 2;rw[putL_len]at o9
       go_wp2_with (first
        | (go_at_call 104;refine(put_8 (y.fp k) _ f2 (by omega)).mono ?_;rintro e w10 ⟨rfl,x10⟩)
        | (refine wp_app_str rfl _ _ rfl rfl rfl (own_ext o9 x10) (by rw[putL_len];simp only[List.length_cons,List.length_nil];omega) (Nat.le_trans z9 x10.size) ?_;intro u11 w11 o11 g11))
       have x11:Ext wS w11:=(x9.trans x10).grown g11 (λj e=>by rw[hG3];exact own_low o9 e);rw[putL_len,show 17*k+[b8 (y.fk k)].length+8+8=17*(k+1) by simp only[List.length_cons,List.length_nil];omega]at o11;go_roundw;case rel=>exact⟨k+1,by omega,by go_num,x11,by rw[HT.out];simpa[fdT,List.append_assoc]using o11⟩
       case measure=>simp[intOf];omega
      ·obtain rfl:k=8:=by omega
       have oF:wr.ownsRow G3 5 1 uN 136 (byteL (fdsT y)):=ok;have oC:=own_ext oC2 xk;have oS':=own_ext oS xk;clear oS;have oS:=oS';have bC:=bC2.ext xk;have xC:=xC2.trans xk;clear oS' ok oC2 bC2 xC2 xk hG3 hk hlt;go_wp2_with fail;refine wp_region_known 28 [[],[0],[1],[],[3],[4],[],[6],[7],[],[9],[],[11],[],[13],[],[15],[16],[],[18],[19],[20],[],[22],[23],[],[25],[26],[2,5,8,10,12,14,17,21,24,27]] [(.pointer (some ⟨G,0,none⟩)),(.int .i64 ((y.pid:Int))),(.string (str (Lib.itoa y.pid))),(.pointer (some ⟨G,1,none⟩)),(.int .i64 ((y.parent:Int))),(.string (str (Lib.itoa y.parent))),(.pointer (some ⟨G,2,none⟩)),(.int .i64 ((y.state:Int))),(.string (str (Lib.itoa y.state))),(uC),(.string (str (cpuT y))),(uM),(.string (str (spaceT y))),(uN),(.string (str (fdsT y))),(.pointer (some ⟨G,92,none⟩)),(.bool y.mask),(.string (str (flagT y.mask))),(.pointer (some ⟨G,93,none⟩)),(.int .u32 (y.code:Int)),(.int .u64 (y.code:Int)),(.string (str (putL y.code 4))),(.pointer (some ⟨G,94,none⟩)),(.int .i64 ((y.why:Int))),(.string (str (Lib.itoa y.why))),(.pointer (some ⟨G,95,none⟩)),(.int .u64 (y.num:Int)),(.string (str (putL y.num 8)))] (by kernel_rfl) (by kernel_rfl) rfl ?_;simp only[List.take_succ_cons,List.take_zero,List.drop_succ_cons,List.drop_zero]
       iterate 2
        refine vW rfl (by simp[Act.put]) (λw' hx=>?_) ?_
        ·have c0:w'.cell? ⟨G,0,none⟩=some (.int .i64 y.pid):=(bC.ext hx).cell 0;go_wp2_with fail;exact Ext.refl _
        simp only[pS_,pN_,sA_,s0_,s1_]
       refine vW rfl (by simp[Act.put]) (λw' hx=>?_) ?_
       ·go_wp2_with (go_at_call 102;refine(idec_any y.pid _ HF.out.pid (HD.out.ext (xC.trans hx))).mono ?_;rintro e w2 ⟨rfl,x2⟩)
       simp only[pS_,pN_,sA_,s0_,s1_]
       iterate 2
        refine vW rfl (by simp[Act.put]) (λw' hx=>?_) ?_
        ·have c0:w'.cell? ⟨G,1,none⟩=some (.int .i64 y.parent):=(bC.ext hx).cell 1;go_wp2_with fail;exact Ext.refl _
        simp only[pS_,pN_,sA_,s0_,s1_]
       refine vW rfl (by simp[Act.put]) (λw' hx=>?_) ?_
       ·go_wp2_with (go_at_call 102;refine(idec_any y.parent _ HF.out.parent (HD.out.ext (xC.trans hx))).mono ?_;rintro e w2 ⟨rfl,x2⟩)
       simp only[pS_,pN_,sA_,s0_,s1_]
       iterate 2
        refine vW rfl (by simp[Act.put]) (λw' hx=>?_) ?_
        ·have c0:w'.cell? ⟨G,2,none⟩=some (.int .i64 y.state):=(bC.ext hx).cell 2;go_wp2_with fail;exact Ext.refl _
        simp only[pS_,pN_,sA_,s0_,s1_]
       refine vW rfl (by simp[Act.put]) (λw' hx=>?_) ?_
       ·go_wp2_with (go_at_call 102;refine(idec_any y.state _ HF.out.state (HD.out.ext (xC.trans hx))).mono ?_;rintro e w2 ⟨rfl,x2⟩)
       simp only[pS_,pN_,sA_,s0_,s1_]
       iterate 8
        refine vW rfl (by simp[Act.put]) (λw' hx=>?_) ?_
        ·have cv:=conv_own (own_ext oC hx) (by decide);have cv:=conv_own (own_ext oS hx) (by decide);have cv:=conv_own (own_ext oF hx) (by decide);have c3:w'.cell? ⟨G,92,none⟩=some (.bool y.mask):=(bC.ext hx).cell 92;go_wp2_with fail;exact Ext.refl _
        simp only[pS_,pN_,sA_,s0_,s1_]
       refine vW rfl (by simp[Act.put]) (λw' hx=>?_) ?_
       ·go_wp2_with (go_at_call 105;refine(iflag_any y.mask _).mono ?_;rintro e w2 ⟨rfl,x2⟩)
       simp only[pS_,pN_,sA_,s0_,s1_]
       iterate 3
        refine vW rfl (by simp[Act.put]) (λw' hx=>?_) ?_
        ·have c0:w'.cell? ⟨G,93,none⟩=some (.int .u32 y.code):=(bC.ext hx).cell 93;have hu:=HUC.out;go_wp2_with fail;exact Ext.refl _
        simp only[pS_,pN_,sA_,s0_,s1_]
       refine vW rfl (by simp[Act.put]) (λw' hx=>?_) ?_
       ·go_wp2_with (go_at_call 104;refine(put_4 y.code _ HF.out.code.1 HF.out.code.2).mono ?_;rintro e w2 ⟨rfl,x2⟩)
       simp only[pS_,pN_,sA_,s0_,s1_]
       iterate 2
        refine vW rfl (by simp[Act.put]) (λw' hx=>?_) ?_
        ·have c0:w'.cell? ⟨G,94,none⟩=some (.int .i64 y.why):=(bC.ext hx).cell 94;go_wp2_with fail;exact Ext.refl _
        simp only[pS_,pN_,sA_,s0_,s1_]
       refine vW rfl (by simp[Act.put]) (λw' hx=>?_) ?_
       ·go_wp2_with (go_at_call 102;refine(idec_any y.why _ HF.out.why (HD.out.ext (xC.trans hx))).mono ?_;rintro e w2 ⟨rfl,x2⟩)
       simp only[pS_,pN_,sA_,s0_,s1_]
       iterate 2
        refine vW rfl (by simp[Act.put]) (λw' hx=>?_) ?_
        ·have c0:w'.cell? ⟨G,95,none⟩=some (.int .u64 y.num):=(bC.ext hx).cell 95;go_wp2_with fail;exact Ext.refl _
        simp only[pS_,pN_,sA_,s0_,s1_]
       refine vW rfl (by simp[Act.put]) (λw' hx=>?_) ?_
       ·go_wp2_with (go_at_call 104;refine(put_8 y.num _ HF.out.num.1 HF.out.num.2).mono ?_;rintro e w2 ⟨rfl,x2⟩)
       simp only[pS_,pN_,sA_,s0_,s1_];rw[vWalk];intro wq hxq;refine row_step (n:=10) (T:=9) (cs:=#[.string (str (Lib.itoa y.pid)),.string (str (Lib.itoa y.parent)),.string (str (Lib.itoa y.state)),.string (str (cpuT y)),.string (str (spaceT y)),.string (str (fdsT y)),.string (str (flagT y.mask)),.string (str (putL y.code 4)),.string (str (Lib.itoa y.why)),.string (str (putL y.num 8))]) rfl (by simp[Act.put]) rfl ?_ (λg111 w' hxw bg111=>?_)
       ·go_wp2_with fail;exact⟨(Ext.refl wq).alloc _,_,rfl,Box.new _ _ _⟩
       simp only[pS_,pN_,sA_,s0_,s1_];have hx:=hxq.trans hxw;clear hxq hxw;have HS:=lh_ (strs_ofBox (ss:=procL y) bg111);clear bg111;go_wp2_with (go_at_call 101;refine(row_any (some ⟨g111,0,none⟩) 10 10 (procL y) _ HS.out HSum.out (by decide)).mono ?_;rintro e w2 ⟨rfl,x2⟩)
       go_ret;exact⟨rfl,(xC.trans hx).trans x2⟩
theorem restOf_any (m:Mac) (d:MacD) (w:World) (hf:RestFit m d) (hi:MacIn w m d) (hD0:Dec10 w) :
  Calls prog 54 #[.agg m.cells] w λe w'=>e=.returned (.string (str (restT m d)))/\Ext w w':=by
 have HSum:=lh_ (show sumL (restL m d)<=1000000000 by
  have:=sumL_few 1404000 (restL m d) (restL_few hf);rw[show(restL m d).length=16 from rfl]at this;omega)
 have hpi:=hi.pi;have hpr:=hi.pr;have hpe:=hi.pe;have hdi:=hi.di;have HF:=lh_ hf;have x0:=(Ext.refl w).alloc (.cells m.cells 38);have b0:=Box.new w 38 m.cells;have HD:=lh_ (hD0.ext x0);clear hf hi hD0;go_enter func54,ntmps54;go_upto_region 1 with fail;replace hpi:=hpi.ext x0;replace hpr:=hpr.ext x0;replace hpe:=hpe.ext x0;replace hdi:=hdi.ext x0;generalize w.alloc (.cells m.cells 38)=w0 at *;generalize w.heap.size=Gb at *;obtain⟨clock,quantum,cur,left,⟨fA,fn,fc⟩,⟨rA,rn,rc⟩,next,init,⟨A,n,c⟩,newPipe,inn,fin,told,⟨bA,bn,bc⟩,⟨pA,pn,pc⟩,dleft,⟨dA,dn,dc⟩⟩:=m;obtain⟨dfr,dpr,l,dbl,dpe,ddi⟩:=d;simp only at hpi hpr hpe hdi;obtain rfl:n=l.length:=hpi.1;obtain rfl:rn=dpr.length:=hpr.1;obtain rfl:pn=dpe.length:=hpe.1;obtain rfl:dn=ddi.length:=hdi.1;have HR:=lh_ hpi;have HPr:=lh_ hpr;have HPe:=lh_ hpe;have HDi:=lh_ hdi;clear hpi hpr hpe hdi;have hl:l.length<=1000:=HF.out.pil;have hlr:dpr.length<=1000:=HF.out.prl;have HF0:=HF;clear HF;have HF:=lh_ HF0.out.pi;simp only at HF;have q8:w0.cell? ⟨Gb,8,none⟩=some (.slice A l.length c):=b0.cell 8;generalize hG:w0.heap.size=G;go_upto_region 2 with(refine wp_make0 (c:=l.length) G rfl _ _ rfl rfl rfl (by omega) (Nat.le_of_eq hG.symm) ?_;intro w1 o1 x1)
 rw[hG]at o1;have q8':w1.cell? ⟨Gb,8,none⟩=some (.slice A l.length c):=(b0.ext x1).cell 8;clear q8;go_upto_region 3 with fail;go_loopw [3,16] (λu i wx=>∃k:Nat,k<=l.length/\i=.int .i64 k/\Ext w0 wx/\wx.ownsRow G 9 1 u k (strL ((l.take k).map writeT))) (λ_ i _=>l.length-(intOf i).toNat);case atStart=>exact⟨0,by omega,rfl,x1,o1⟩
 case round =>
  clear x1 o1 q8';obtain⟨k,hk,rfl,xk,ok⟩:=hrel;obtain⟨uL,huL⟩:∃v:Value,v=u3:=⟨_,rfl⟩
  subst huL;by_cases hlt:k<l.length
  ·obtain⟨b2,o2,hA,hcell⟩:=(HR.out.ext xk).wrs.2 (by show 0<l.length;omega);subst hA;have e1:=(hcell k hlt).1;have e2:=(hcell k hlt).2;have hki:(k:Int)<(l.length:Int):=by omega
   have HY:=lh_ (HF.out l[k] (List.getElem_mem _));have HT1:=lh_ (show(l.take (k+1)).map writeT=(l.take k).map writeT++[writeT l[k]] by rw[List.take_succ_eq_append_getElem hlt,List.map_append];rfl);clear hcell;generalize l[k]=y at *;have HN:=lh_ HY.out.1;have HSum:=lh_ (show sumL [Lib.itoa y.1,y.2]<=1000000000 by
    have h1:=itoa_len HY.out.1.1 HY.out.1.2;have h2:=HY.out.2;simp only[sumL,List.map_cons,List.map_nil,List.sum_cons,List.sum_nil];omega)
   clear HY;go_upto_region 5 with fail;have y5:Ext wr (wr.alloc (.cells #[.int .i64 y.1,.string (str y.2)] 95)):=(Ext.refl wr).alloc _;have bw:=Box.new wr 95 #[.int .i64 y.1,.string (str y.2)];have ok5:=own_ext ok y5;have xk7:=xk.trans y5;have z7:G<=(wr.alloc (.cells #[.int .i64 y.1,.string (str y.2)] 95)).heap.size:=by rw[← hG];exact xk7.size
   clear ok e1 e2 xk y5;generalize wr.alloc (.cells #[.int .i64 y.1,.string (str y.2)] 95)=w7 at *;generalize wr.heap.size=gw at *;refine wp_region_web' 9 [[],[],[1],[2],[],[4],[3,5],[6],[7]] (listV [isV (uL),isV (.pointer (some ⟨gw,0,none⟩)),isV (.int .i64 ((y.1:Int))),isV (.string (str (Lib.itoa y.1))),isV (.pointer (some ⟨gw,1,none⟩)),isV (.string (str (y.2))),rowV 2 9 #[.string (str (Lib.itoa y.1)),.string (str (y.2))],isV (.string (str (writeT y))),rowV 1 9 #[.string (str (writeT y))]]) (by kernel_rfl) (by kernel_rfl) (listV_ext (λp hp=>by simp only[List.mem_cons,List.not_mem_nil,or_false]at hp;rcases hp with rfl|rfl|rfl|rfl|rfl|rfl|rfl|rfl|rfl<;>first|exact lasts_is _|exact lasts_row _ _ _)) (λus=>?_);simp only[List.take_succ_cons,List.take_zero,List.drop_succ_cons,List.drop_zero];rw[mWalk];refine And.intro (λw' hx hd=>?_) ?_
   ·clear hd;refine web_of_list 20 rfl (by simp) rfl ?_;go_wp2_with fail;exact⟨Ext.refl _,rfl⟩
   simp only[pS_,pN_,sA_,s0_,s1_];rw[mWalk];refine And.intro (λw' hx hd=>?_) ?_
   ·clear hd;refine web_of_list 21 rfl (by simp[Act.put]) rfl ?_;go_wp2_with fail;exact⟨Ext.refl _,rfl⟩
   simp only[pS_,pN_,sA_,s0_,s1_];rw[mWalk];refine And.intro (λw' hx hd=>?_) ?_
   ·have h1:=hd 1 (by simp);clear hd;generalize us 1=u1 at *;obtain rfl:u1=.pointer (some ⟨gw,0,none⟩):=h1;have q0:=(bw.ext hx).cell 0;refine web_of_list 22 rfl (by simp[Act.put]) rfl ?_;go_wp2_with fail;exact⟨Ext.refl _,rfl⟩
   simp only[pS_,pN_,sA_,s0_,s1_];rw[mWalk];refine And.intro (λw' hx hd=>?_) ?_
   ·have h2:=hd 2 (by simp);clear hd;generalize us 2=u2 at *;obtain rfl:u2=.int .i64 (y.1:Int):=h2;refine web_of_list 23 rfl (by simp[Act.put]) rfl ?_;go_wp2_with (go_at_call 102;refine(idec_any y.1 _ HN.out (HD.out.ext (xk7.trans hx))).mono ?_;rintro e w2 ⟨rfl,x2⟩)
    first|exact⟨x2,rfl⟩|exact rfl
   simp only[pS_,pN_,sA_,s0_,s1_];rw[mWalk];refine And.intro (λw' hx hd=>?_) ?_
   ·clear hd;refine web_of_list 24 rfl (by simp[Act.put]) rfl ?_;go_wp2_with fail;exact⟨Ext.refl _,rfl⟩
   simp only[pS_,pN_,sA_,s0_,s1_];rw[mWalk];refine And.intro (λw' hx hd=>?_) ?_
   ·have h4:=hd 4 (by simp);clear hd;generalize us 4=u4 at *;obtain rfl:u4=.pointer (some ⟨gw,1,none⟩):=h4;have q0:=(bw.ext hx).cell 1;refine web_of_list 25 rfl (by simp[Act.put]) rfl ?_;go_wp2_with fail;exact⟨Ext.refl _,rfl⟩
   simp only[pS_,pN_,sA_,s0_,s1_];rw[mWalk];refine And.intro (λw' hx hd=>?_) ?_
   ·have h3:=hd 3 (by simp);have h5:=hd 5 (by simp);clear hd;generalize us 3=u3 at *;generalize us 5=u5 at *;obtain rfl:u3=.string (str (Lib.itoa y.1)):=h3;obtain rfl:u5=.string (str (y.2)):=h5;refine web_of_list 26 rfl (by simp[Act.put]) rfl ?_;go_wp2_with fail;exact⟨(Ext.refl w').alloc _,_,rfl,Box.new _ _ _⟩
   simp only[pS_,pN_,sA_,s0_,s1_];rw[mWalk];refine And.intro (λw' hx hd=>?_) ?_
   ·have h6:=hd 6 (by simp);clear hd;generalize us 6=u6 at *;obtain⟨g26,rfl,bg26⟩:=h6;have HS:=lh_ (strs_ofBox (ss:=[Lib.itoa y.1,y.2]) bg26);clear bg26;refine web_of_list 27 rfl (by simp[Act.put]) rfl ?_;go_wp2_with (go_at_call 101;refine(row_any (some ⟨g26,0,none⟩) 2 2 [Lib.itoa y.1,y.2] _ HS.out HSum.out (by decide)).mono ?_;rintro e w2 ⟨rfl,x2⟩)
    first|exact⟨x2,rfl⟩|exact rfl
   simp only[pS_,pN_,sA_,s0_,s1_];rw[mWalk];refine And.intro (λw' hx hd=>?_) ?_
   ·have h7:=hd 7 (by simp);clear hd;generalize us 7=u7 at *;obtain rfl:u7=.string (str (writeT y)):=h7;refine web_of_list 28 rfl (by simp[Act.put]) rfl ?_;go_wp2_with fail;exact⟨(Ext.refl w').alloc _,_,rfl,Box.new _ _ _⟩
   simp only[pS_,pN_,sA_,s0_,s1_];rw[mWalk];intro w' hx hv;have h0:=hv 0 (by omega);have h8:=hv 8 (by omega);clear hv;generalize us 0=u0 at *;generalize us 6=u6 at *;generalize us 8=u8 at *;obtain rfl:u0=uL:=h0;obtain⟨g28,rfl,bg28⟩:=h8;have v6:=strs_ofBox (ss:=[writeT y]) bg28;have o5':=own_ext ok5 hx;have x5':=xk7.trans hx;have z5':=Nat.le_trans z7 hx.size;go_wp2_with (refine wp_app_strs G rfl _ _ rfl rfl rfl o5' v6 (by omega) z5' (by decide) ?_;intro u6 w6 o6 g6)
   have x6:Ext w0 w6:=x5'.grown g6 (λk e=>by rw[hG];exact own_low o5' e);go_roundw;case rel=>exact⟨k+1,by omega,by go_num,x6,by rw[HT1.out];exact o6⟩
   case measure=>simp[intOf];omega
  ·obtain rfl:k=l.length:=by omega
   rw[List.take_length]at ok;obtain⟨wA,hwA⟩:∃v:World,v=wr:=⟨_,rfl⟩
   subst hwA;have hsum:sumL (l.map writeT)<=1000000000:=by
    have:=sumL_few 1028 (l.map writeT) (λs hs=>by
     obtain⟨x,hx,rfl⟩:=List.mem_map.1 hs;exact writeT_len (HF.out x hx).1 (HF.out x hx).2)
    rw[List.length_map]at this;omega
   obtain⟨A3,c3,e3⟩:=own_asSl ok;subst e3;have s3:=Strs.own ok;have HM3:=lh_ hsum;have hb:=b0.ext xk;have q5:wA.cell? ⟨Gb,5,none⟩=some (.slice rA dpr.length rc):=hb.cell 5;generalize hG2:wA.heap.size=G2;go_upto_region 8 with(refine wp_make0 (c:=dpr.length) G2 rfl _ _ rfl rfl rfl (by omega) (Nat.le_of_eq hG2.symm) ?_;intro w2 o2 x2)
   rw[hG2]at o2;have q5':w2.cell? ⟨Gb,5,none⟩=some (.slice rA dpr.length rc):=(hb.ext x2).cell 5;clear q5 hsum ok HR HF;go_upto_region 9 with fail;go_loopw [6,38] (λu i wx=>∃k:Nat,k<=dpr.length/\i=.int .i64 k/\Ext wA wx/\wx.ownsRow G2 9 1 u k (strL ((dpr.take k).map procT))) (λ_ i _=>dpr.length-(intOf i).toNat);case atStart=>exact⟨0,by omega,rfl,x2,o2⟩
   case round =>
    clear x2 o2 q5';obtain⟨k,hk,rfl,xj,oj⟩:=hrel;obtain⟨uM,huM⟩:∃v:Value,v=u6:=⟨_,rfl⟩
    subst huM;by_cases hlt:k<dpr.length
    ·obtain⟨b2,o2,hA,hcell⟩:=HPr.out.2 (by omega);subst hA;have r1:=range_ext (pr_range hcell hlt) (xk.trans xj);clear hcell;have hki:(k:Int)<(dpr.length:Int):=by omega
     have HY:=lh_ (HF0.out.pr dpr[k] (List.getElem_mem _));have HT1:=lh_ (show(dpr.take (k+1)).map procT=(dpr.take k).map procT++[procT dpr[k]] by rw[List.take_succ_eq_append_getElem hlt,List.map_append];rfl);generalize dpr[k]=y at *;have z5:G2<=wr.heap.size:=by rw[← hG2];exact xj.size
     go_upto_region 11 with(first
      | (refine wp_ld_pr (.tmp 40) rfl rfl b2 (o2+k*96) y rfl r1 ?_)
      | (refine wp_st_pr (.tmp 8) (.tmp 41) rfl rfl wr.heap.size y _ 57 rfl rfl (Box.new _ _ _) rfl ?_;intro w3 b3 g3))
     have x3:Ext wr w3:=((Ext.refl wr).alloc _).grown g3 (λj e=>by cases e;exact Nat.le_refl _);have oj3:=own_ext oj x3;have xj3:=xj.trans x3;have z3:=Nat.le_trans z5 x3.size;have HPR:=lh_ (prow_any y w3 HY.out (HD.out.ext (xk.trans xj3)));have HLD:w3.rangeAt wr.heap.size 0 (prL y):=box_range b3 (λj v h=>by rw[Nat.zero_add,List.getElem?_toArray];exact h);clear r1 oj g3 x3 b3 HY;generalize wr.heap.size=gy at *;generalize procT y=T at *;go_wp2_with (refine wp_ld_pr (.tmp 8) rfl rfl gy 0 y rfl HLD ?_)
     refine HPR.out.mono ?_;rintro e w4 ⟨rfl,x4⟩;have ok4:=own_ext oj3 (x4.alloc (.cells #[.string (str T)] 9));have z4:=Nat.le_trans z3 (x4.alloc (.cells #[.string (str T)] 9)).size;have s4:Strs (w4.alloc (.cells #[.string (str T)] 9)) (some ⟨w4.heap.size,0,none⟩) 1 [T]:=strs_ofBox (ss:=[T]) (Box.new w4 9 #[.string (str T)]);go_wp2_with (refine wp_app_strs G2 rfl _ _ rfl rfl rfl ok4 s4 (by omega) z4 (by omega) ?_;intro u7 w7 o7 g7)
     have x7:Ext wA w7:=((xj3.trans x4).alloc _).grown g7 (λj e=>by rw[hG2];exact own_low oj3 e);go_roundw;case rel=>exact⟨k+1,by omega,by go_num,x7,by rw[HT1.out];exact o7⟩
     case measure=>simp[intOf];omega
    ·obtain rfl:k=dpr.length:=by omega
     rw[List.take_length]at oj;have hsum:sumL (dpr.map procT)<=1000000000:=by
      have:=sumL_few 1400 (dpr.map procT) (λs hs=>by
       obtain⟨x,hx,rfl⟩:=List.mem_map.1 hs;exact procT_len (HF0.out.pr x hx))
      rw[List.length_map]at this;omega
     obtain⟨A4,c4,e4⟩:=own_asSl oj;subst e4;have HS4:=lh_ (Strs.own oj);have HM4:=lh_ hsum;have HS3:=lh_ (s3.ext xj);have bC:=hb.ext xj;have xC:=xk.trans xj;have XW:=lh_ (x0.trans xC);have HF:=HF0;clear HF0 hsum oj s3 hb xj xk HPr hl hlr hlt hk;go_wp2_with fail;refine wp_region_known 43 [[],[0],[1],[],[3],[4],[],[6],[7],[],[9],[10],[],[12],[13],[],[15],[],[17],[18],[],[20],[],[22],[23],[],[25],[26],[],[28],[29],[30],[],[32],[33],[34],[],[36],[37],[],[39],[],[41],[2,5,8,11,14,16,19,21,24,27,31,35,38,40,42]] [(.pointer (some ⟨Gb,0,none⟩)),(.int .u64 (clock:Int)),(.string (str (putL clock 8))),(.pointer (some ⟨Gb,1,none⟩)),(.int .i64 ((quantum:Int))),(.string (str (Lib.itoa quantum))),(.pointer (some ⟨Gb,2,none⟩)),(.int .i64 ((cur:Int))),(.string (str (Lib.itoa cur))),(.pointer (some ⟨Gb,3,none⟩)),(.int .i64 ((left:Int))),(.string (str (Lib.itoa left))),(.pointer (some ⟨Gb,6,none⟩)),(.int .i64 ((next:Int))),(.string (str (Lib.itoa next))),(.pointer (some ⟨Gb,7,none⟩)),(.string (str (init))),(.pointer (some ⟨Gb,9,none⟩)),(.int .i64 ((newPipe:Int))),(.string (str (Lib.itoa newPipe))),(.pointer (some ⟨Gb,10,none⟩)),(.string (str (inn))),(.pointer (some ⟨Gb,11,none⟩)),(.bool fin),(.string (str (flagT fin))),(.pointer (some ⟨Gb,12,none⟩)),(.int .u64 (told:Int)),(.string (str (putL told 8))),(.pointer (some ⟨Gb,13,none⟩)),(.pointer (some ⟨Gb,15,none⟩)),(.int .i64 ((dleft:Int))),(.string (str (Lib.itoa dleft))),(.pointer (some ⟨Gb,13,none⟩)),(.pointer (some ⟨Gb,14,none⟩)),(.slice pA dpe.length pc),(.string (str (writesT dpe))),(.pointer (some ⟨Gb,16,none⟩)),(.slice dA ddi.length dc),(.string (str (writesT ddi))),(.slice A3 l.length c3),(.string (str (rowL (l.map writeT)))),(.slice A4 dpr.length c4),(.string (str (rowL (dpr.map procT))))] (by kernel_rfl) (by kernel_rfl) rfl ?_;simp only[List.take_succ_cons,List.take_zero,List.drop_succ_cons,List.drop_zero]
     iterate 2
      refine vW rfl (by simp[Act.put]) (λw' hx=>?_) ?_
      ·have c0:w'.cell? ⟨Gb,0,none⟩=some (.int .u64 clock):=(bC.ext hx).cell 0;go_wp2_with fail;exact Ext.refl _
      simp only[pS_,pN_,sA_,s0_,s1_]
     refine vW rfl (by simp[Act.put]) (λw' hx=>?_) ?_
     ·go_wp2_with (go_at_call 104;refine(put_8 clock _ HF.out.clock.1 HF.out.clock.2).mono ?_;rintro e w2 ⟨rfl,x2⟩)
     simp only[pS_,pN_,sA_,s0_,s1_]
     iterate 2
      refine vW rfl (by simp[Act.put]) (λw' hx=>?_) ?_
      ·have c0:w'.cell? ⟨Gb,1,none⟩=some (.int .i64 quantum):=(bC.ext hx).cell 1;go_wp2_with fail;exact Ext.refl _
      simp only[pS_,pN_,sA_,s0_,s1_]
     refine vW rfl (by simp[Act.put]) (λw' hx=>?_) ?_
     ·go_wp2_with (go_at_call 102;refine(idec_any quantum _ HF.out.quantum (HD.out.ext (xC.trans hx))).mono ?_;rintro e w2 ⟨rfl,x2⟩)
     simp only[pS_,pN_,sA_,s0_,s1_]
     iterate 2
      refine vW rfl (by simp[Act.put]) (λw' hx=>?_) ?_
      ·have c0:w'.cell? ⟨Gb,2,none⟩=some (.int .i64 cur):=(bC.ext hx).cell 2;go_wp2_with fail;exact Ext.refl _
      simp only[pS_,pN_,sA_,s0_,s1_]
     refine vW rfl (by simp[Act.put]) (λw' hx=>?_) ?_
     ·go_wp2_with (go_at_call 102;refine(idec_any cur _ HF.out.cur (HD.out.ext (xC.trans hx))).mono ?_;rintro e w2 ⟨rfl,x2⟩)
     simp only[pS_,pN_,sA_,s0_,s1_]
     iterate 2
      refine vW rfl (by simp[Act.put]) (λw' hx=>?_) ?_
      ·have c0:w'.cell? ⟨Gb,3,none⟩=some (.int .i64 left):=(bC.ext hx).cell 3;go_wp2_with fail;exact Ext.refl _
      simp only[pS_,pN_,sA_,s0_,s1_]
     refine vW rfl (by simp[Act.put]) (λw' hx=>?_) ?_
     ·go_wp2_with (go_at_call 102;refine(idec_any left _ HF.out.left (HD.out.ext (xC.trans hx))).mono ?_;rintro e w2 ⟨rfl,x2⟩)
     simp only[pS_,pN_,sA_,s0_,s1_]
     iterate 2
      refine vW rfl (by simp[Act.put]) (λw' hx=>?_) ?_
      ·have c0:w'.cell? ⟨Gb,6,none⟩=some (.int .i64 next):=(bC.ext hx).cell 6;go_wp2_with fail;exact Ext.refl _
      simp only[pS_,pN_,sA_,s0_,s1_]
     refine vW rfl (by simp[Act.put]) (λw' hx=>?_) ?_
     ·go_wp2_with (go_at_call 102;refine(idec_any next _ HF.out.next (HD.out.ext (xC.trans hx))).mono ?_;rintro e w2 ⟨rfl,x2⟩)
     simp only[pS_,pN_,sA_,s0_,s1_]
     iterate 4
      refine vW rfl (by simp[Act.put]) (λw' hx=>?_) ?_
      ·have c0:w'.cell? ⟨Gb,7,none⟩=some (.string (str init)):=(bC.ext hx).cell 7;have c1:w'.cell? ⟨Gb,9,none⟩=some (.int .i64 newPipe):=(bC.ext hx).cell 9;go_wp2_with fail;exact Ext.refl _
      simp only[pS_,pN_,sA_,s0_,s1_]
     refine vW rfl (by simp[Act.put]) (λw' hx=>?_) ?_
     ·go_wp2_with (go_at_call 102;refine(idec_any newPipe _ HF.out.newPipe (HD.out.ext (xC.trans hx))).mono ?_;rintro e w2 ⟨rfl,x2⟩)
     simp only[pS_,pN_,sA_,s0_,s1_]
     iterate 4
      refine vW rfl (by simp[Act.put]) (λw' hx=>?_) ?_
      ·have c0:w'.cell? ⟨Gb,10,none⟩=some (.string (str inn)):=(bC.ext hx).cell 10;have c1:w'.cell? ⟨Gb,11,none⟩=some (.bool fin):=(bC.ext hx).cell 11;go_wp2_with fail;exact Ext.refl _
      simp only[pS_,pN_,sA_,s0_,s1_]
     refine vW rfl (by simp[Act.put]) (λw' hx=>?_) ?_
     ·go_wp2_with (go_at_call 105;refine(iflag_any fin _).mono ?_;rintro e w2 ⟨rfl,x2⟩)
     simp only[pS_,pN_,sA_,s0_,s1_]
     iterate 2
      refine vW rfl (by simp[Act.put]) (λw' hx=>?_) ?_
      ·have c0:w'.cell? ⟨Gb,12,none⟩=some (.int .u64 told):=(bC.ext hx).cell 12;go_wp2_with fail;exact Ext.refl _
      simp only[pS_,pN_,sA_,s0_,s1_]
     refine vW rfl (by simp[Act.put]) (λw' hx=>?_) ?_
     ·go_wp2_with (go_at_call 104;refine(put_8 told _ HF.out.told.1 HF.out.told.2).mono ?_;rintro e w2 ⟨rfl,x2⟩)
     simp only[pS_,pN_,sA_,s0_,s1_]
     iterate 3
      refine vW rfl (by simp[Act.put]) (λw' hx=>?_) ?_
      ·have c0:w'.cell? ⟨Gb,15,none⟩=some (.int .i64 dleft):=(bC.ext hx).cell 15;go_wp2_with fail;exact Ext.refl _
      simp only[pS_,pN_,sA_,s0_,s1_]
     refine vW rfl (by simp[Act.put]) (λw' hx=>?_) ?_
     ·go_wp2_with (go_at_call 102;refine(idec_any dleft _ HF.out.dleft (HD.out.ext (xC.trans hx))).mono ?_;rintro e w2 ⟨rfl,x2⟩)
     simp only[pS_,pN_,sA_,s0_,s1_]
     iterate 3
      refine vW rfl (by simp[Act.put]) (λw' hx=>?_) ?_
      ·have c0:w'.cell? ⟨Gb,14,none⟩=some (.slice pA dpe.length pc):=(bC.ext hx).cell 14;go_wp2_with fail;exact Ext.refl _
      simp only[pS_,pN_,sA_,s0_,s1_]
     refine vW rfl (by simp[Act.put]) (λw' hx=>?_) ?_
     ·go_wp2_with (go_at_call 106;refine(wrows_any pA dpe.length pc dpe _ (HPe.out.ext (xC.trans hx)) HF.out.pe HF.out.pel (HD.out.ext (xC.trans hx))).mono ?_;rintro e w2 ⟨rfl,x2⟩)
     simp only[pS_,pN_,sA_,s0_,s1_]
     iterate 2
      refine vW rfl (by simp[Act.put]) (λw' hx=>?_) ?_
      ·have c0:w'.cell? ⟨Gb,16,none⟩=some (.slice dA ddi.length dc):=(bC.ext hx).cell 16;go_wp2_with fail;exact Ext.refl _
      simp only[pS_,pN_,sA_,s0_,s1_]
     refine vW rfl (by simp[Act.put]) (λw' hx=>?_) ?_
     ·go_wp2_with (go_at_call 106;refine(wrows_any dA ddi.length dc ddi _ (HDi.out.ext (xC.trans hx)) HF.out.di HF.out.dil (HD.out.ext (xC.trans hx))).mono ?_;rintro e w2 ⟨rfl,x2⟩)
     simp only[pS_,pN_,sA_,s0_,s1_];refine vW rfl (by simp[Act.put]) (λw' hx=>?_) ?_
     ·go_wp2_with fail;exact Ext.refl _
     simp only[pS_,pN_,sA_,s0_,s1_];refine vW rfl (by simp[Act.put]) (λw' hx=>?_) ?_
     ·go_wp2_with (go_at_call 101;refine(row_any A3 l.length c3 (l.map writeT) _ (HS3.out.ext hx) HM3.out (by have:=HF.out.pil;simp only at this;omega)).mono ?_;rintro e w2 ⟨rfl,x2⟩)
     simp only[pS_,pN_,sA_,s0_,s1_];refine vW rfl (by simp[Act.put]) (λw' hx=>?_) ?_
     ·go_wp2_with fail;exact Ext.refl _
     simp only[pS_,pN_,sA_,s0_,s1_];refine vW rfl (by simp[Act.put]) (λw' hx=>?_) ?_
     ·go_wp2_with (go_at_call 101;refine(row_any A4 dpr.length c4 (dpr.map procT) _ (HS4.out.ext hx) HM4.out (by have:=HF.out.prl;simp only at this;omega)).mono ?_;rintro e w2 ⟨rfl,x2⟩)
     simp only[pS_,pN_,sA_,s0_,s1_];rw[vWalk];intro wq hxq;refine row_step (n:=16) (T:=9) (cs:=#[.string (str [104,105,98,50]),.string (str (putL clock 8)),.string (str (Lib.itoa quantum)),.string (str (Lib.itoa cur)),.string (str (Lib.itoa left)),.string (str (Lib.itoa next)),.string (str (init)),.string (str (Lib.itoa newPipe)),.string (str (inn)),.string (str (flagT fin)),.string (str (putL told 8)),.string (str (Lib.itoa dleft)),.string (str (writesT dpe)),.string (str (writesT ddi)),.string (str (rowL (l.map writeT))),.string (str (rowL (dpr.map procT)))]) rfl (by simp[Act.put]) rfl ?_ (λg91 w' hxw bg91=>?_)
     ·go_wp2_with fail;exact⟨(Ext.refl wq).alloc _,_,rfl,Box.new _ _ _⟩
     simp only[pS_,pN_,sA_,s0_,s1_];have hx:=hxq.trans hxw;clear hxq hxw;have HS:=lh_ (strs_ofBox (ss:=[[104,105,98,50],putL clock 8,Lib.itoa quantum,Lib.itoa cur,Lib.itoa left,Lib.itoa next,init,Lib.itoa newPipe,inn,flagT fin,putL told 8,Lib.itoa dleft,writesT dpe,writesT ddi,rowL (l.map writeT),rowL (dpr.map procT)]) bg91);clear bg91;go_wp2_with (go_at_call 101;refine(row_any (some ⟨g91,0,none⟩) 16 16 [[104,105,98,50],putL clock 8,Lib.itoa quantum,Lib.itoa cur,Lib.itoa left,Lib.itoa next,init,Lib.itoa newPipe,inn,flagT fin,putL told 8,Lib.itoa dleft,writesT dpe,writesT ddi,rowL (l.map writeT),rowL (dpr.map procT)] _ HS.out HSum.out (by decide)).mono ?_;rintro e w2 ⟨rfl,x2⟩)
     go_ret;exact⟨rfl,(XW.out.trans hx).trans x2⟩
structure MacFit (m:Mac) (d:MacD):Prop where
 clock:0<=m.clock/\m.clock<18446744073709551616
 told:0<=m.told/\m.told<18446744073709551616
 dleft:N64 m.dleft
 cur:N64 m.cur
 pr:∀y∈d.pr,(∀i<16,0<=y.reg i/\y.reg i<4294967296)/\(0<=y.pc/\y.pc<4294967296)/\(0<=y.code/\y.code<4294967296)/\(0<=y.num/\y.num<18446744073709551616)
theorem i64_of {n b:Int}(h0:0<=n) (h1:n<=b) (hb:b<=9223372036854775807):N64 n:=⟨by omega,by omega⟩
theorem pipe_fit {m:Mac}{l:List WrT}(h:PipesK m l l.length) (hn:m.newPipe<=1000000000):∀y∈l,1<=y.1/\y.1<=1000000000/\y.2.length<=64:=by
 intro y hy;obtain⟨i,hi,rfl⟩:=List.getElem_of_mem hy;obtain⟨h1,h2,h3,_⟩:=h i hi hi;exact⟨h1,by omega,h3⟩
theorem lives_fit {m:Mac}{d:MacD}(h:ProcsK m d d.pr.length) (hn:m.next<=1000000000) {n:Int}(hl:LivesP d.pr n):1<=n/\n<=1000000000:=by
 obtain⟨y,hy,rfl,_⟩:=hl;obtain⟨i,hi,rfl⟩:=List.getElem_of_mem hy;have:=(h i hi hi).1.pid;omega
theorem proc_fit {m:Mac}{d:MacD}(h:RestOk m d) (hw:MacFit m d):∀y∈d.pr,PrFit y:=by
 intro y hy;have hf:=hw.pr y hy;obtain⟨i,hi,rfl⟩:=List.getElem_of_mem hy;have k:=(h.pr i hi hi).1;have hn:=h.nums.next.2;refine⟨?_,?_,?_,?_,hf.1,hf.2.1,hf.2.2.1,hf.2.2.2,?_,?_,?_,?_⟩
 ·have:=k.pid;exact i64_of (b:=1000000000) (by omega) (by omega) (by omega)
 ·rcases k.par with hl|⟨_,e⟩
  ·have:=lives_fit h.pr hn hl;exact i64_of (b:=1000000000) (by omega) (by omega) (by omega)
  ·rw[e];exact⟨by omega,by omega⟩
 ·have:=k.state;exact i64_of (b:=3) (by omega) (by omega) (by omega)
 ·have:=k.why;exact i64_of (b:=5) (by omega) (by omega) (by omega)
 ·intro j hj;have hp:=k.page j hj;have hr:=h.frn;rcases hp with⟨e1,e2,e3⟩|⟨e1,_,e3,e4,_⟩
  ·exact⟨by omega,by omega,λ_=>⟨e2,e3⟩⟩
  ·exact⟨e3,by omega,λe=>by rw[e1]at e;cases e⟩
 ·intro j hj;rcases(k.fd j hj).1 with⟨e,_,_⟩|⟨e,_⟩|⟨e,_,_⟩<;>omega
 ·intro j hj;rcases(k.fd j hj).1 with⟨_,e,_⟩|⟨_,e1,e2,_⟩|⟨_,_,y,hy,e⟩
  ·omega
  ·omega
  ·have:=pipe_fit h.pi h.nums.newPipe.2 y hy;omega
 ·intro j hj;rcases(k.fd j hj).1 with⟨_,_,e⟩|⟨_,_,_,e1,e2⟩|⟨_,e,_⟩<;>omega
theorem rest_fit {m:Mac}{d:MacD}(h:StateOk m d) (hw:MacFit m d) (hpr:d.pr.length=m.pr.n) (hpi:d.pi.length=m.pi.n) (hpe:d.pe.length<=1000):RestFit m d:=by
 have hr:=h.rest;obtain⟨hj,hd1,hd2,_⟩:=h.disk;have hd:=drvOk_of hj;have n1:=hr.nums.quantum;have n2:=hr.nums.left;have n3:=hr.nums.next;have n4:=hr.nums.newPipe;have hm:=hd.most;have hrn:=hr.prn;have hin:=hr.pin;refine⟨hw.clock,hw.told,i64_of (b:=1000) (by omega) n1.2 (by omega),hw.cur,?_,?_,?_,hw.dleft,?_,?_,?_,?_,?_,proc_fit hr hw,hpe,by omega,by omega,by omega⟩
 ·exact i64_of (b:=1000) n2.1 (by omega) (by omega)
 ·exact i64_of (b:=1000000000) (by omega) n3.2 (by omega)
 ·exact i64_of (b:=1000000000) (by omega) n4.2 (by omega)
 ·have:=hr.texts.2;omega
 ·have:=hr.texts.1;omega
 ·intro x hx;have:=hd.pend x hx;exact⟨i64_of (b:=256) this.1 (by omega) (by omega),by omega⟩
 ·intro x hx;obtain⟨i,hi,rfl⟩:=List.getElem_of_mem hx;obtain⟨k1,k2,k3,_⟩:=hd2 i hi;exact⟨i64_of (b:=256) k1 (by omega) (by omega),by omega⟩
 ·intro x hx;obtain⟨k1,k2,k3⟩:=pipe_fit hr.pi n4.2 x hx;exact⟨i64_of (b:=1000000000) (by omega) k2 (by omega),by omega⟩
def FieldsP (y:PrT):Prop:=(y.state=1\/y.state=2\/y.state=3)/\y.reg 0=0/\((y.state=2/\1<=y.why/\y.why<=5)\/(y.state≠2/\y.why=0/\y.num=0))/\(y.state=3\/y.code=0)
def ParP (d:MacD) (y:PrT):Prop:=LivesP d.pr y.parent\/(y.state≠3/\y.parent=0)
def PageW (m:Mac) (y:PrT) (j:Nat):Prop :=
 (y.pis j=false/\y.pwr j=false/\y.pfr j=0)\/(y.pis j=true/\y.state≠3/\0<=y.pfr j/\y.pfr j<(m.fr.n:Int))
def FdW (d:MacD) (y:PrT) (j:Nat):Prop:=FdP d.pi (y.fk j) (y.fn j) (y.fp j)/\(y.state=3->y.fk j=0)
structure ProcW (m:Mac) (d:MacD) (y:PrT):Prop where
 pid:1<=y.pid/\y.pid<m.next
 fields:FieldsP y
 par:ParP d y
 page:∀j<16,PageW m y j
 fd:∀j<8,FdW d y j
def pidB (l:List PrT) (k:Nat):Int:=if 0<k then (l.getD (k-1) default).pid else 0
def RowsW (m:Mac) (d:MacD) (k:Nat):Prop:=(∀i,i<k->i<d.pr.length->ProcW m d (d.pr.getD i default)/\pidB d.pr i<(d.pr.getD i default).pid)/\∀fr,usersK d.pr fr k<=1
theorem RowsW.zero (m:Mac) (d:MacD):RowsW m d 0:=⟨λ_ h=>absurd h (Nat.not_lt_zero _),λ_=>by rw[usersK];omega⟩
theorem RowsW.next {m:Mac}{d:MacD}{k:Nat}(h:RowsW m d k) (hp:ProcW m d (d.pr.getD k default)) (hl:pidB d.pr k<(d.pr.getD k default).pid) (hu:∀fr,usersK d.pr fr k+cntFr (d.pr.getD k default) fr 16<=1):RowsW m d (k+1):=by
 refine⟨λi hi hil=>?_,λfr=>by rw[usersK];exact hu fr⟩;by_cases e:i<k
 ·exact h.1 i e hil
 ·obtain rfl:i=k:=by omega
  exact⟨hp,hl⟩
theorem cnt_has {y:PrT}{j:Nat}(h:y.pis j=true):∀{n:Nat},j<n->1<=cntFr y (y.pfr j) n:=by
 intro n hn;have h1:cntFr y (y.pfr j) (j+1)<=cntFr y (y.pfr j) n:=cnt_mono _ _ hn;rw[cntFr,if_pos ⟨h,rfl⟩]at h1;omega
theorem users_has {l:List PrT}{k j:Nat}(hk:k<l.length) (hj:j<16) (h:(l.getD k default).pis j=true):1<=usersK l ((l.getD k default).pfr j) l.length:=by
 have h1:usersK l ((l.getD k default).pfr j) (k+1)<=usersK l ((l.getD k default).pfr j) l.length:=users_mono l _ hk;rw[usersK]at h1;have:=cnt_has h hj;omega
theorem RowsW.all {m:Mac}{d:MacD}(h:RowsW m d d.pr.length):ProcsK m d d.pr.length:=by
 intro i hi _;have e:d.pr.getD i default=d.pr[i]:=by rw[List.getD_eq_getElem?_getD,List.getElem?_eq_getElem hi];rfl
 obtain⟨hp,hl⟩:=h.1 i hi hi;refine⟨?_,λh0=>?_⟩
 ·rw[← e];refine⟨hp.pid,hp.fields.1,hp.fields.2.1,hp.par,hp.fields.2.2.1,hp.fields.2.2.2,λj hj=>?_,hp.fd⟩;rcases hp.page j hj with h1|⟨h1,h2,h3,h4⟩
  ·exact .inl h1
  ·refine .inr ⟨h1,h2,h3,h4,?_⟩;have a1:=h.2 ((d.pr.getD i default).pfr j);have a2:=users_has hi hj h1;omega
 ·rw[pidB,if_pos h0,e]at hl;rw[List.getD_eq_getElem?_getD,List.getElem?_eq_getElem (by omega)]at hl;exact hl
theorem ProcsK.at {m:Mac}{d:MacD}(h:ProcsK m d d.pr.length) {k:Nat}(hk:k<d.pr.length):ProcOk m d (d.pr.getD k default)/\pidB d.pr k<(d.pr.getD k default).pid:=by
 obtain⟨h1,h2⟩:=h k hk hk;have e:d.pr.getD k default=d.pr[k]:=by rw[List.getD_eq_getElem?_getD,List.getElem?_eq_getElem hk];rfl
 rw[e];refine⟨h1,?_⟩;unfold pidB;split
 ·rename_i h0;rw[List.getD_eq_getElem?_getD,List.getElem?_eq_getElem (by omega)];exact h2 h0
 ·have:=h1.pid.1;omega
theorem PageP.w {m:Mac}{d:MacD}{y:PrT}{j:Nat}(h:PageP m d y j):PageW m y j:=h.elim .inl λh=>.inr ⟨h.1,h.2.1,h.2.2.1,h.2.2.2.1⟩
theorem users_step {l:List PrT}{k j:Nat}(h:∀fr,usersK l fr k+cntFr (l.getD k default) fr j<=1) (hm:(l.getD k default).pis j=true->¬Met l k j ((l.getD k default).pfr j)):∀fr,usersK l fr k+cntFr (l.getD k default) fr (j+1)<=1:=by
 intro fr;rw[cntFr];split
 ·rename_i c;have h1:=hm c.1;rw[c.2]at h1;unfold Met at h1;omega
 ·exact h fr
def PagesW (m:Mac) (l:List PrT) (k j:Nat):Prop:=(∀i,i<j->PageW m (l.getD k default) i)/\∀fr,usersK l fr k+cntFr (l.getD k default) fr j<=1
theorem PagesW.zero {m:Mac}{d:MacD}{k:Nat}(h:RowsW m d k):PagesW m d.pr k 0:=⟨λ_ h=>absurd h (Nat.not_lt_zero _),λfr=>by rw[cntFr];exact h.2 fr⟩
theorem PagesW.next {m:Mac}{l:List PrT}{k j:Nat}(h:PagesW m l k j) (hp:PageW m (l.getD k default) j) (hm:(l.getD k default).pis j=true->¬Met l k j ((l.getD k default).pfr j)):PagesW m l k (j+1):=by
 refine⟨λi hi=>?_,users_step h.2 hm⟩;by_cases e:i<j
 ·exact h.1 i e
 ·obtain rfl:i=j:=by omega
  exact hp
def FdsW (d:MacD) (y:PrT) (j:Nat):Prop:=∀i,i<j->FdW d y i
theorem FdsW.next {d:MacD}{y:PrT}{j:Nat}(h:FdsW d y j) (hp:FdW d y j):FdsW d y (j+1):=by
 intro i hi;by_cases e:i<j
 ·exact h i e
 ·obtain rfl:i=j:=by omega
  exact hp
noncomputable def errB (p:Prop) (c:Int):Int:=@ite Int p (Classical.propDecidable p) 0 c
theorem errB_yes {p:Prop}(h:p) (c:Int):errB p c=0:=if_pos h
theorem errB_no {p:Prop}(h:¬p) (c:Int):errB p c=c:=if_neg h
theorem errB_zero {p:Prop}{c:Int}(hc:c≠0):errB p c=0↔p:=⟨λh=>by
 rcases Classical.em p with hp|hp
 ·exact hp
 ·rw[errB_no hp]at h;exact absurd h hc,λh=>errB_yes h c⟩
def orE (a b:Int):Int:=if a=0 then b else a
theorem orE_zero {a b:Int}:orE a b=0↔a=0/\b=0:=by unfold orE;split<;>simp_all
theorem orE_l {a:Int}(h:a≠0) (b:Int):orE a b=a:=if_neg h
theorem orE_r (b:Int):orE 0 b=b:=if_pos rfl
noncomputable def numE (m:Mac):Int:=errB (NumsOk m) 2
noncomputable def frE (m:Mac) (d:MacD):Int:=orE (errB (1<=m.fr.n/\m.fr.n<=64) 6) (errB (∀b∈d.fr,b.length=128) 3)
noncomputable def prE (m:Mac) (d:MacD):Int:=orE (errB (m.pr.n<=8) 6) (errB (ProcsK m d d.pr.length) 3)
noncomputable def piE (m:Mac) (d:MacD):Int:=orE (errB (m.pi.n<=64) 6) (errB (PipesK m d.pi d.pi.length) 3)
noncomputable def teE (m:Mac):Int:=errB (m.inn.length<=65536/\m.init.length<=128) 6
def DirtyK (n:Nat) (l:List WrT) (k:Nat):Prop:=∀(i:Nat) (h:i<l.length),i<k->0<=l[i].1/\l[i].1<(n:Int)/\l[i].2.length=128/\(0<i->(l[i-1]'(by omega)).1<l[i].1)
noncomputable def voE (d:MacD):Int:=orE (drvE d.bl d.pe) (orE (errB (33<d.bl.length) 3) (orE (errB (d.di.length<=32) 6) (orE (errB (DirtyK (d.bl.length-33) d.di d.di.length) 3) (errB (∃I,Good (viewP d.bl d.pe d.di) I) 3))))
noncomputable def chkE (m:Mac) (d:MacD):Int:=orE (numE m) (orE (frE m d) (orE (prE m d) (orE (piE m d) (orE (teE m) (voE d)))))
theorem voE_zero {d:MacD}:voE d=0↔DiskOk d:=by
 unfold voE DiskOk;simp only[orE_zero,errB_zero (show(3:Int)≠0 by omega),errB_zero (show(6:Int)≠0 by omega)];unfold jrnE;constructor
 ·rintro⟨h1,h2,h3,h4,h5⟩;exact⟨by rw[if_neg (by omega),if_neg (by omega)],h3,λi h=>h4 i h h,h5⟩
 ·rintro⟨h1,h3,h4,h5⟩;split at h1
  ·exact absurd h1 ‹_›
  ·split at h1
   ·cases h1
   ·exact⟨Decidable.of_not_not ‹_›,by omega,h3,λi h _=>h4 i h,h5⟩
theorem chkE_zero {m:Mac}{d:MacD}:chkE m d=0↔StateOk m d:=by
 unfold chkE numE frE prE piE teE;simp only[orE_zero,errB_zero (show(2:Int)≠0 by omega),errB_zero (show(3:Int)≠0 by omega),errB_zero (show(6:Int)≠0 by omega),voE_zero];constructor
 ·rintro⟨h1,⟨h2,h3⟩,⟨h4,h5⟩,⟨h6,h7⟩,h8,h9⟩;exact⟨⟨h1,h2,h3,h4,h5,h6,h7,h8⟩,h9⟩
 ·rintro⟨⟨h1,h2,h3,h4,h5,h6,h7,h8⟩,h9⟩;exact⟨h1,⟨h2,h3⟩,⟨h4,h5⟩,⟨h6,h7⟩,h8,h9⟩
def LivesR (l:List PrT) (pid:Int) (e:Ending):Prop:=∃b,e=.returned (.bool b)/\(b=true↔LivesP l pid)
def PipeR (l:List WrT) (id:Int) (e:Ending):Prop:=∃(y:WrT) (b:Bool),e=.returned (.tuple #[.agg #[.int .i64 y.1,.string (str y.2)],.bool b])/\(b=true↔∃z∈l,z.1=id)
def FdR (l:List WrT) (k n p:Int) (e:Ending):Prop:=∃b,e=.returned (.bool b)/\(b=true↔FdP l k n p)
def NoneK {α:Type} (f:α->Prop) (l:List α) (k:Nat):Prop:=∀(i:Nat) (h:i<l.length),i<k->¬f l[i]
theorem NoneK.zero {α:Type} {f:α->Prop}{l:List α}:NoneK f l 0:=λ_ _ h=>absurd h (Nat.not_lt_zero _)
theorem NoneK.next {α:Type} {f:α->Prop}{l:List α}{k:Nat}(h:NoneK f l k) (hk:k<l.length) (hn:¬f l[k]):NoneK f l (k+1):=λi hi hik=>by
 by_cases e:i<k
 ·exact h i hi e
 ·obtain rfl:i=k:=by omega
  exact hn
theorem NoneK.all {α:Type} {f:α->Prop}{l:List α}(h:NoneK f l l.length):¬∃y∈l,f y:=λ⟨y,hy,hf⟩=>by
 obtain⟨i,hi,rfl⟩:=List.getElem_of_mem hy;exact h i hi hi hf
theorem no_iff {p:Prop}(h:¬p):(false=true↔p):=⟨λe=>(by cases e),λe=>absurd e h⟩
theorem yes_iff {p:Prop}(h:p):(true=true↔p):=⟨λ_=>h,λ_=>rfl⟩
theorem lives_ok (m:Mac) (l:List PrT) (pid:Int) (w:World) (h:RowOf prL w m.pr.A m.pr.n l) (hpk:m.pr.n<=4000) :
  Calls prog 96 #[.agg m.cells,.int .i64 pid] w λe w'=>LivesR l pid e/\Ext w w':=by
 obtain⟨hp1,hp2⟩:=h;have xa:Ext w (w.alloc (.cells m.cells 38)):=(Ext.refl _).alloc _;have ba:=Box.new w 38 m.cells;have q5:(w.alloc (.cells m.cells 38)).cell? ⟨w.heap.size,5,none⟩=some (.slice m.pr.A m.pr.n m.pr.c):=ba.cell 5;go_enter func96,ntmps96;go_wp2_with fail;clear q5 ba;generalize w.alloc (.cells m.cells 38)=w1 at *;try rw[hp1]
 rw[hp1]at hpk;have HP1:=lh_ hp1;clear hp1;generalize m.pr.A=A at *;go_loopw [6,10] (λ_ i wx=>∃k:Nat,k<=l.length/\i=.int .i64 k/\Ext w wx/\NoneK (λy:PrT=>y.pid=pid/\(y.state=1\/y.state=2)) l k) (λ_ i _=>l.length-(intOf i).toNat);case atStart=>exact⟨0,by omega,rfl,xa,NoneK.zero⟩
 case round =>
  obtain⟨k,hk,rfl,xk,hnk⟩:=hrel;have HNK:=lh_ hnk;clear hnk;by_cases hlt:k<l.length
  ·obtain⟨b,o,rfl,hcell⟩:=hp2 (by rw[HP1.out];omega);have r1:=range_ext (pr_range hcell hlt) xk;clear hcell;have hki:(k:Int)<(l.length:Int):=by omega
   have HL:=lh_ (show l[k].pid=pid->(l[k].state=1\/l[k].state=2)->LivesP l pid fromλh1 h2=>⟨l[k],List.getElem_mem hlt,h1,h2⟩);have HNX:=lh_ (λh=>HNK.out.next hlt h);clear HNK;generalize l[k]=y at *
   go_upto_region 4 with(first
    | (refine wp_ld_pr (.tmp 12) rfl rfl b (o+k*96) y rfl r1 ?_)
    | (refine wp_st_pr (.tmp 6) (.tmp 13) rfl rfl wr.heap.size y _ 57 rfl rfl (Box.new _ _ _) rfl ?_;intro w2 b2 g2))
   have x2:Ext w w2:=(xk.alloc _).grown g2 (λj e=>by cases e;exact xk.size);have c0:w2.cell? ⟨wr.heap.size,0,none⟩=some (.int .i64 y.pid):=b2.cell 0;have c2:w2.cell? ⟨wr.heap.size,2,none⟩=some (.int .i64 y.state):=b2.cell 2;clear g2 r1 b2;rcases Bool.eq_false_or_eq_true (y.pid==pid) with d1|d1
   ·rcases Bool.eq_false_or_eq_true (y.state==1) with d2|d2
    ·have HD:=lh_ (HL.out (by simpa using d1) (.inl (by simpa using d2)));go_wp2_with fail;go_ret;exact⟨⟨true,rfl,yes_iff HD.out⟩,x2⟩
    ·rcases Bool.eq_false_or_eq_true (y.state==2) with d3|d3
     ·have HD:=lh_ (HL.out (by simpa using d1) (.inr (by simpa using d3)));go_wp2_with fail;go_ret;exact⟨⟨true,rfl,yes_iff HD.out⟩,x2⟩
     ·have HNN:=lh_ (HNX.out (λh=>by
       rcases h.2 with e|e
       ·rw[e]at d2;simp at d2
       ·rw[e]at d3;simp at d3))
      go_wp2_with fail;go_roundw;case rel=>exact⟨k+1,by omega,by go_num,x2,HNN.out⟩
      case measure=>simp[intOf];omega
   ·have HNN:=lh_ (HNX.out (λh=>by rw[h.1]at d1;simp at d1));go_wp2_with fail;go_roundw;case rel=>exact⟨k+1,by omega,by go_num,x2,HNN.out⟩
    case measure=>simp[intOf];omega
  ·obtain rfl:k=l.length:=by omega
   go_wp2_with fail;go_ret;exact⟨⟨false,rfl,no_iff (λh=>HNK.out.all h)⟩,xk⟩
theorem users_ok (m:Mac) (l:List PrT) (fr:Int) (w:World) (h:RowOf prL w m.pr.A m.pr.n l) (hn:m.pr.n<=4000) :
  Calls prog 81 #[.agg m.cells,.int .i64 fr] w λe w'=>e=.returned (.int .i64 (usersK l fr l.length))/\Ext w w':=by
 obtain⟨hp1,hp2⟩:=h;have xa:Ext w (w.alloc (.cells m.cells 38)):=(Ext.refl _).alloc _;have ba:=Box.new w 38 m.cells;have q5:(w.alloc (.cells m.cells 38)).cell? ⟨w.heap.size,5,none⟩=some (.slice m.pr.A m.pr.n m.pr.c):=ba.cell 5;go_enter func81,ntmps81;go_wp2_with fail;clear q5 ba;generalize w.alloc (.cells m.cells 38)=w1 at *;try rw[hp1]
 rw[hp1]at hn;have HP1:=lh_ hp1;clear hp1;generalize m.pr.A=A at *;go_loopw [5,13] (λt i wx=>∃(k:Nat),k<=l.length/\i=.int .i64 k/\t=.int .i64 (usersK l fr k)/\usersK l fr k<=16*k/\Ext w wx) (λ_ i _=>l.length-(intOf i).toNat);case atStart=>exact⟨0,by omega,rfl,rfl,by simp[usersK],xa⟩
 case round =>
  obtain⟨k,hk,rfl,rfl,hz,xk⟩:=hrel;by_cases hlt:k<l.length
  ·obtain⟨b,o,rfl,hcell⟩:=hp2 (by rw[HP1.out];omega);have r1:=range_ext (pr_range hcell hlt) xk;clear hcell;have hki:(k:Int)<(l.length:Int):=by omega
   have HU:=lh_ (show usersK l fr (k+1)=usersK l fr k+cntFr l[k] fr 16 by
    rw[usersK,List.getD_eq_getElem?_getD,List.getElem?_eq_getElem hlt];rfl)
   generalize l[k]=y at *;generalize usersK l fr k=z at *
   go_wp2_with (first
    | (refine wp_ld_pr (.tmp 15) rfl rfl b (o+k*96) y rfl r1 ?_)
    | (refine wp_st_pr (.tmp 7) (.tmp 16) rfl rfl wr.heap.size y _ 57 rfl rfl (Box.new _ _ _) rfl ?_;intro w2 b2 g2;have x2:Ext w w2:=(xk.alloc _).grown g2 (λj e=>by cases e;exact xk.size))
    | (refine wp_ld_space (.tmp 17) rfl rfl wr.heap.size 57 y rfl b2 ?_))
   go_loopw [5,19] (λt i wx=>∃(j:Nat),j<=16/\i=.int .i64 j/\t=.int .i64 ((z+cntFr y fr j:Nat):Int)/\cntFr y fr j<=j/\Ext w wx) (λ_ i _=>16-(intOf i).toNat);case atStart=>exact⟨0,by omega,rfl,rfl,by simp[cntFr],x2⟩
   case round =>
    clear r1 b2 g2 xk x2;obtain⟨j,hj,rfl,rfl,hz2,xj⟩:=hrel;by_cases hj2:j<16
    ·have hji:(j:Int)<16:=by omega
     have HC:=lh_ (show cntFr y fr (j+1)=cntFr y fr j+(if y.pis j=true/\y.pfr j=fr then 1 else 0) from rfl);generalize cntFr y fr j=c at *;cases e1:y.pis j with
     | false =>
      have HC2:=lh_ (HC.out.trans (by rw[e1,if_neg (λh=>by cases h.1)]))
      go_wp2_with (first
       | (refine wp_idx_pte (.tmp 18) (.tmp 19) rfl rfl y j rfl rfl hj2 ?_;rw[e1]))
      go_roundw;case rel=>exact⟨j+1,by omega,by go_num,by rw[HC2.out];rfl,by rw[HC2.out];omega,xj.alloc _⟩
      case measure=>simp[intOf];omega
     | true =>
      rcases Bool.eq_false_or_eq_true (y.pfr j==fr) with e2|e2
      ·have HC2:=lh_ (HC.out.trans (by rw[if_pos ⟨e1,by simpa using e2⟩]))
       go_wp2_with (first
        | (refine wp_idx_pte (.tmp 18) (.tmp 19) rfl rfl y j rfl rfl hj2 ?_;rw[e1]))
       go_roundw;case rel=>exact⟨j+1,by omega,by go_num,by rw[HC2.out];go_num,by rw[HC2.out];omega,xj.alloc _⟩
       case measure=>simp[intOf];omega
      ·have HC2:=lh_ (HC.out.trans (by rw[if_neg (λh=>by simp[h.2]at e2)]))
       go_wp2_with (first
        | (refine wp_idx_pte (.tmp 18) (.tmp 19) rfl rfl y j rfl rfl hj2 ?_;rw[e1]))
       go_roundw;case rel=>exact⟨j+1,by omega,by go_num,by rw[HC2.out];rfl,by rw[HC2.out];omega,xj.alloc _⟩
       case measure=>simp[intOf];omega
    ·have hjn:¬(j:Int)<16:=by omega
     have HJ:=lh_ (show j=16 by omega);go_wp2_with fail;go_roundw;case rel=>exact⟨k+1,by omega,by go_num,by rw[HU.out,← HJ.out],by rw[HU.out];have h1:=hz2;rw[HJ.out]at h1;omega,xj⟩
     case measure=>simp[intOf];omega
  ·obtain rfl:k=l.length:=by omega
   go_wp2_with fail;go_ret;exact⟨by rfl,xk⟩
theorem rpipe_ok (m:Mac) (l:List WrT) (id:Int) (w:World) (h:Wrs w m.pi.A m.pi.n l) (hpk:m.pi.n<=4000) :
  Calls prog 167 #[.agg m.cells,.int .i64 id] w λe w'=>PipeR l id e/\Ext w w':=by
 obtain⟨hp1,hp2⟩:=h;have xa:Ext w (w.alloc (.cells m.cells 38)):=(Ext.refl _).alloc _;have ba:=(Box.new w 38 m.cells).ext ((Ext.refl _).alloc (.cells #[.int .i64 0,.string ⟨#[]⟩] 95));have q8:((w.alloc (.cells m.cells 38)).alloc (.cells #[.int .i64 0,.string ⟨#[]⟩] 95)).cell? ⟨w.heap.size,8,none⟩=some (.slice m.pi.A m.pi.n m.pi.c):=ba.cell 8;have b4:Box ((w.alloc (.cells m.cells 38)).alloc (.cells #[.int .i64 0,.string ⟨#[]⟩] 95)) (w.heap.size+1) 95 #[.int .i64 0,.string ⟨#[]⟩]:=by have:=Box.new (w.alloc (.cells m.cells 38)) 95 #[.int .i64 0,.string ⟨#[]⟩];rw[World.size_alloc]at this;exact this
 have xa2:=xa.alloc (.cells #[.int .i64 0,.string ⟨#[]⟩] 95);go_enter func167,ntmps167;go_wp2_with fail;clear q8 ba xa;generalize ((w.alloc (.cells m.cells 38)).alloc (.cells #[.int .i64 0,.string ⟨#[]⟩] 95))=w1 at *;try rw[hp1]
 rw[hp1]at hpk;have HP1:=lh_ hp1;clear hp1;generalize m.pi.A=A at *;go_loopw [7,11] (λ_ i wx=>∃(k:Nat),k<=l.length/\i=.int .i64 k/\Ext w wx/\Box wx (w.heap.size+1) 95 #[.int .i64 0,.string ⟨#[]⟩]/\NoneK (λy:WrT=>y.1=id) l k) (λ_ i _=>l.length-(intOf i).toNat);case atStart=>exact⟨0,by omega,rfl,xa2,b4,NoneK.zero⟩
 case round =>
  obtain⟨k,hk,rfl,xk,bk,hnk⟩:=hrel;have HNK:=lh_ hnk;clear hnk;by_cases hlt:k<l.length
  ·obtain⟨b,o,rfl,hcell⟩:=hp2 (by rw[HP1.out];omega);have e1:=xk.keep (hcell k hlt).1;have e2:=xk.keep (hcell k hlt).2;clear hcell;have hki:(k:Int)<(l.length:Int):=by omega
   have HL:=lh_ (show l[k].1=id->∃z∈l,z.1=id fromλh1=>⟨l[k],List.getElem_mem hlt,h1⟩);have HNX:=lh_ (λh=>HNK.out.next hlt h);clear HNK;generalize l[k]=y at *;have bk2:=bk.ext ((Ext.refl wr).alloc (.cells #[.int .i64 y.1,.string (str y.2)] 95));rcases Bool.eq_false_or_eq_true (y.1==id) with d1|d1
   ·have HD:=lh_ (HL.out (by simpa using d1))
    go_wp2_with (first
     | (refine wp_st_pipe (.tmp 4) (.tmp 19) rfl rfl (w.heap.size+1) y.1 (str y.2) _ 95 rfl rfl bk2 rfl ?_;intro w2 b2 g2;have x2:Ext w w2:=(xk.alloc _).grown g2 (λj e=>by cases e;omega)))
    exact bodyPost_ret (v:=.tuple #[.agg #[.int .i64 y.1,.string (str y.2)],.bool true]) (results_cell2 Tryz.results167 _ _ _ _ _ _ _ rfl rfl b2 underlying95 rfl pipeSize) rfl ⟨⟨_,_,rfl,yes_iff HD.out⟩,x2⟩
   ·have HNN:=lh_ (HNX.out (λh=>by rw[h]at d1;simp at d1));go_wp2_with fail;go_roundw;case rel=>exact⟨k+1,by omega,by go_num,xk.alloc _,bk2,HNN.out⟩
    case measure=>simp[intOf];omega
  ·obtain rfl:k=l.length:=by omega
   go_wp2_with (first
    | (refine wp_st_pipe (.tmp 4) (.tmp 21) rfl rfl (w.heap.size+1) 0 ⟨#[]⟩ _ 95 rfl rfl bk rfl ?_;intro w2 b2 g2;have x2:Ext w w2:=xk.grown g2 (λj e=>by cases e;omega)))
   exact bodyPost_ret (v:=.tuple #[.agg #[.int .i64 0,.string ⟨#[]⟩],.bool false]) (results_cell2 Tryz.results167 _ _ _ _ _ _ _ rfl rfl b2 underlying95 rfl pipeSize) rfl ⟨⟨(0,[]),_,rfl,no_iff (λh=>HNK.out.all h)⟩,x2⟩
theorem fd_low {l:List WrT}{k n p:Int}(hk:k<=2) (hn:n≠0) (h:FdP l k n p):False:=by
 rcases h with⟨_,h,_⟩|⟨h,_⟩|⟨h,_⟩<;>omega
theorem fd_zero {l:List WrT}{k n p:Int}(hk:k=0\/k=1\/k=2) (hn:n=0):((p==0)=true↔FdP l k n p):=by
 constructor
 ·intro h;exact .inl ⟨hk,hn,by simpa using h⟩
 ·intro h;rcases h with⟨_,_,h⟩|⟨h,_⟩|⟨h,_⟩
  ·simpa using h
  ·omega
  ·omega
theorem fd_three {l:List WrT}{n p:Int}(h:FdP l 3 n p):1<=n/\n<=64/\0<=p/\p<=8960:=by
 rcases h with⟨h,_⟩|⟨_,h⟩|⟨h,_⟩
 ·omega
 ·exact h
 ·omega
theorem fd_pipe {l:List WrT}{k n p:Int}(hk:k=4\/k=5) (h:FdP l k n p):p=0/\∃z∈l,z.1=n:=by
 rcases h with⟨h,_⟩|⟨h,_⟩|⟨_,h⟩
 ·omega
 ·omega
 ·exact h
theorem fd_none {l:List WrT}{k n p:Int}(hk:¬(k=0\/k=1\/k=2\/k=3\/k=4\/k=5)) (h:FdP l k n p):False:=by
 rcases h with⟨h,_⟩|⟨h,_⟩|⟨h,_⟩<;>omega
theorem rfd_ok (m:Mac) (l:List WrT) (k n p:Int) (w:World) (h:Wrs w m.pi.A m.pi.n l) (hpk:m.pi.n<=4000) :
  Calls prog 97 #[.agg m.cells,.agg #[.int .i64 k,.int .i64 n,.int .i64 p]] w λe w'=>FdR l k n p e/\Ext w w':=by
 have xa:Ext w ((w.alloc (.cells m.cells 38)).alloc (.cells #[.int .i64 k,.int .i64 n,.int .i64 p] 54)):=((Ext.refl _).alloc _).alloc _;have ba:=(Box.new w 38 m.cells).ext ((Ext.refl _).alloc (.cells #[.int .i64 k,.int .i64 n,.int .i64 p] 54));have HP:=lh_ (λid w h=>rpipe_ok m l id w h hpk);have h2:=h.ext xa;have bf:=Box.new (w.alloc (.cells m.cells 38)) 54 #[.int .i64 k,.int .i64 n,.int .i64 p];rw[World.size_alloc]at bf;clear h;go_enter func97,ntmps97
 go_upto_region 2 with(first
  | (refine wp_ld_mac (.tmp 2) rfl rfl w.heap.size _ 38 rfl ba rfl ?_)
  | (go_at_call 167;refine(HP.out _ _ h2).mono ?_;rintro e w1 ⟨⟨y,b1,rfl,hb1⟩,x1⟩;have bf1:=(bf.ext x1).ext ((Ext.refl w1).alloc (.cells #[.int .i64 y.1,.string (str y.2)] 95));have f0:=bf1.cell 0;have f1:=bf1.cell 1;have f2:=bf1.cell 2;have xw:=(xa.trans x1).alloc (.cells #[.int .i64 y.1,.string (str y.2)] 95);have HB:=lh_ hb1;clear hb1))
 rcases(by omega:k=0\/k=1\/k=2\/k=3\/k=4\/k=5\/(k≠0/\k≠1/\k≠2/\k≠3/\k≠4/\k≠5)) with rfl|rfl|rfl|rfl|rfl|rfl|⟨h0,h1,h2,h3,h4,h5⟩
 ·rcases Bool.eq_false_or_eq_true (n==0) with d1|d1<;>go_wp2_with fail
  all_goals
   go_ret;exact⟨⟨_,rfl,by first|exact no_iff (λh=>fd_low (by omega) (by simpa using d1) h)|exact fd_zero (by omega) (by simpa using d1)⟩,xw⟩
 ·rcases Bool.eq_false_or_eq_true (n==0) with d1|d1<;>go_wp2_with fail
  all_goals
   go_ret;exact⟨⟨_,rfl,by first|exact no_iff (λh=>fd_low (by omega) (by simpa using d1) h)|exact fd_zero (by omega) (by simpa using d1)⟩,xw⟩
 ·rcases Bool.eq_false_or_eq_true (n==0) with d1|d1<;>go_wp2_with fail
  all_goals
   go_ret;exact⟨⟨_,rfl,by first|exact no_iff (λh=>fd_low (by omega) (by simpa using d1) h)|exact fd_zero (by omega) (by simpa using d1)⟩,xw⟩
 ·rcases Bool.eq_false_or_eq_true (decide (1<=n)) with d1|d1
  ·rcases Bool.eq_false_or_eq_true (decide (n<=64)) with d2|d2
   ·rcases Bool.eq_false_or_eq_true (decide (0<=p)) with d3|d3
    ·go_wp2_with fail;go_ret;exact⟨⟨_,rfl,λh=>.inr (.inl ⟨rfl,of_decide_eq_true d1,of_decide_eq_true d2,of_decide_eq_true d3,of_decide_eq_true h⟩),λh=>decide_eq_true (fd_three h).2.2.2⟩,xw⟩
    ·go_wp2_with fail;go_ret;exact⟨⟨false,rfl,no_iff (λh=>of_decide_eq_false d3 (fd_three h).2.2.1)⟩,xw⟩
   ·go_wp2_with fail;go_ret;exact⟨⟨false,rfl,no_iff (λh=>of_decide_eq_false d2 (fd_three h).2.1)⟩,xw⟩
  ·go_wp2_with fail;go_ret;exact⟨⟨false,rfl,no_iff (λh=>of_decide_eq_false d1 (fd_three h).1)⟩,xw⟩
 ·rcases Bool.eq_false_or_eq_true (p==0) with d1|d1
  ·go_wp2_with fail;go_ret;exact⟨⟨b1,rfl,λh=>.inr (.inr ⟨by omega,by simpa using d1,HB.out.1 h⟩),λh=>HB.out.2 (fd_pipe (by omega) h).2⟩,xw⟩
  ·go_wp2_with fail;go_ret;exact⟨⟨false,rfl,no_iff (λh=>by have:=(fd_pipe (by omega) h).1;rw[this]at d1;simp at d1)⟩,xw⟩
 ·rcases Bool.eq_false_or_eq_true (p==0) with d1|d1
  ·go_wp2_with fail;go_ret;exact⟨⟨b1,rfl,λh=>.inr (.inr ⟨by omega,by simpa using d1,HB.out.1 h⟩),λh=>HB.out.2 (fd_pipe (by omega) h).2⟩,xw⟩
  ·go_wp2_with fail;go_ret;exact⟨⟨false,rfl,no_iff (λh=>by have:=(fd_pipe (by omega) h).1;rw[this]at d1;simp at d1)⟩,xw⟩
 ·have e0:(k==0)=false:=by simpa using h0
  have e1:(k==1)=false:=by simpa using h1
  have e2:(k==2)=false:=by simpa using h2
  have e3:(k==3)=false:=by simpa using h3
  have e4:(k==4)=false:=by simpa using h4
  have e5:(k==5)=false:=by simpa using h5
  have H05:=lh_ (show¬(k=0\/k=1\/k=2\/k=3\/k=4\/k=5) by omega);clear h0 h1 h2 h3 h4 h5;go_wp2_with fail;go_ret;exact⟨⟨false,rfl,no_iff (λh=>fd_none H05.out h)⟩,xw⟩
def ProcR (m:Mac) (d:MacD) (y:PrT) (e:Ending):Prop:=∃b,e=.returned (.bool b)/\(b=true↔ProcOk m d y)
def BvP (v:Value) (p:Prop):Prop:=∃b,v=.bool b/\(b=false↔p)
theorem BvP.yes {p:Prop}(h:¬p):BvP (.bool true) p:=⟨true,rfl,λe=>(by cases e),λk=>absurd k h⟩
theorem BvP.of {b:Bool}{p:Prop}(h:b=false↔p):BvP (.bool b) p:=⟨b,rfl,h⟩
theorem BvP.no {p:Prop}(h:p):BvP (.bool false) p:=⟨false,rfl,λ_=>h,λ_=>rfl⟩
theorem eq0_iff {a:Int}:((a != 0)=false)↔a=0:=by simp
theorem rprocess_ok (m:Mac) (d:MacD) (y:PrT) (w:World) (h:MacIn w m d) (hrn:m.pr.n<=4000) (hpn:m.pi.n<=4000) :
  Calls prog 51 #[.agg m.cells,.agg (prL y).toArray] w λe w'=>ProcR m d y e/\Ext w w':=by
 have HL:=lh_ (λid w (h:MacIn w m d)=>lives_ok m d.pr id w h.pr hrn);have HU:=lh_ (λid w (h:MacIn w m d)=>users_ok m d.pr id w h.pr hrn);have HF:=lh_ (λk n p w (h:MacIn w m d)=>rfd_ok m d.pi k n p w h.pi.wrs hpn);go_enter func51,ntmps51;go_upto_region 1 with fail;have xa:Ext w ((w.alloc (.cells m.cells 38)).alloc (.cells (prL y).toArray 57)):=((Ext.refl _).alloc _).alloc _;have bm:=(Box.new w 38 m.cells).ext ((Ext.refl _).alloc (.cells (prL y).toArray 57));have bp:=Box.new (w.alloc (.cells m.cells 38)) 57 (prL y).toArray;rw[World.size_alloc]at bp;generalize (w.alloc (.cells m.cells 38)).alloc (.cells (prL y).toArray 57)=w1 at *;have h1:=h.ext xa;have cf:∀wx,Ext w1 wx->wx.cell? ⟨w.heap.size+1,0,none⟩=some (.int .i64 y.pid)/\wx.cell? ⟨w.heap.size+1,1,none⟩=some (.int .i64 y.parent)/\wx.cell? ⟨w.heap.size+1,2,none⟩=some (.int .i64 y.state)/\wx.cell? ⟨w.heap.size+1,3,none⟩=some (.int .u32 (y.reg 0))/\wx.cell? ⟨w.heap.size+1,93,none⟩=some (.int .u32 y.code)/\wx.cell? ⟨w.heap.size+1,94,none⟩=some (.int .i64 y.why)/\wx.cell? ⟨w.heap.size+1,95,none⟩=some (.int .u64 y.num)/\wx.cell? ⟨w.heap.size,6,none⟩=some (.int .i64 m.next)/\wx.cell? ⟨w.heap.size,4,none⟩=some (.slice m.fr.A m.fr.n m.fr.c):=λwx x => ⟨(bp.ext x).cell 0,(bp.ext x).cell 1,(bp.ext x).cell 2,(bp.ext x).cell 3,(bp.ext x).cell 93,(bp.ext x).cell 94,(bp.ext x).cell 95,(bm.ext x).cell 6,(bm.ext x).cell 4⟩
 have CF:=lh_ cf;clear cf;obtain⟨p0,p1,p2,p3,p93,p94,p95,m6,m4⟩:=CF.out _ (Ext.refl w1);go_upto_region 3 with fail;generalize hdead:(y.state==3)=dead at *;generalize hwaits:(y.state==2)=waits at *;have HDD:=lh_ (show(dead=true->y.state=3)/\(dead=false->y.state≠3) from⟨λh=>by rw[h]at hdead;simpa using hdead,λh=>by rw[h]at hdead;simpa using hdead⟩);have HWW:=lh_ (show(waits=true->y.state=2)/\(waits=false->y.state≠2) from⟨λh=>by rw[h]at hwaits;simpa using hwaits,λh=>by rw[h]at hwaits;simpa using hwaits⟩);clear hdead hwaits;go_cut [47] (λs wx=>BvP s ((1<=y.pid/\y.pid<m.next)/\(y.state=1\/y.state=2\/y.state=3)/\y.reg 0=0)/\w1=wx);case first =>
  as_aux_lemma =>
   have d1:=Bool.eq_false_or_eq_true (decide (y.pid<1));have d2:=Bool.eq_false_or_eq_true (decide (m.next<=y.pid));have d3:=Bool.eq_false_or_eq_true (y.state != 1);clear p1 p93 p94 p95 m4;rcases d1 with d1|d1
   ·have HX:=lh_ (of_decide_eq_true d1);clear d2 d3;go_wp2_with fail;go_meet;exact⟨BvP.yes (λh=>by have:=h.1;have:=HX.out;omega),rfl⟩
   ·rcases d2 with d2|d2
    ·have HX:=lh_ (of_decide_eq_true d2);clear d3;go_wp2_with fail;go_meet;exact⟨BvP.yes (λh=>by have:=h.1;have:=HX.out;omega),rfl⟩
    ·have HPid:=lh_ (show 1<=y.pid/\y.pid<m.next by have:=of_decide_eq_false d1;have:=of_decide_eq_false d2;omega);rcases d3 with d3|d3
     ·have HS1:=lh_ (show y.state≠1 by simpa using d3);cases waits
      ·cases dead
       ·go_wp2_with fail;go_meet;exact⟨BvP.yes (λh=>by
         rcases h.2.1 with e|e|e
         ·exact HS1.out e
         ·exact HWW.out.2 (by first|rfl|trivial) e
         ·exact HDD.out.2 (by first|rfl|trivial) e),rfl⟩
       ·go_wp2_with fail;go_meet;exact⟨BvP.of (eq0_iff.trans ⟨λh=>⟨HPid.out,.inr (.inr (HDD.out.1 (by first|rfl|trivial))),h⟩,λh=>h.2.2⟩),rfl⟩
      ·go_wp2_with fail;go_meet;exact⟨BvP.of (eq0_iff.trans ⟨λh=>⟨HPid.out,.inr (.inl (HWW.out.1 (by first|rfl|trivial))),h⟩,λh=>h.2.2⟩),rfl⟩
     ·have HS1:=lh_ (show y.state=1 by simpa using d3);go_wp2_with fail;go_meet;exact⟨BvP.of (eq0_iff.trans ⟨λh=>⟨HPid.out,.inl HS1.out,h⟩,λh=>h.2.2⟩),rfl⟩
 case rest =>
  obtain⟨⟨b47,rfl,hb47⟩,rfl⟩:=hcut;have HB47:=lh_ hb47;clear hb47;cases b47 with
  | true => go_wp2_with fail;go_ret;exact⟨⟨false,rfl,no_iff (λh=>by have:=HB47.out.2 ⟨h.pid,h.state,h.reg⟩;cases this)⟩,xa⟩
  | false =>
   go_upto_region 5 with fail;go_cut [60] (λs wx=>BvP s (LivesP d.pr y.parent\/(y.state≠3/\y.parent=0))/\Ext w1 wx);case first =>
    as_aux_lemma =>
     clear p0 p2 p3 p93 p94 p95 m6 m4
     go_wp2_with (first
      | (refine wp_ld_mac (.tmp 2) rfl rfl w.heap.size _ 38 rfl bm rfl ?_)
      | (go_at_call 96;refine(HL.out _ _ h1).mono ?_;rintro e w2 ⟨⟨b2,rfl,hb2⟩,x2⟩;have HB2:=lh_ hb2;clear hb2;have p1':=x2.keep p1;clear p1;rcases b2 with _|_<;>rcases dead with _|_))
     ·go_meet;exact⟨BvP.of (eq0_iff.trans ⟨λh=>.inr ⟨HDD.out.2 (by first|rfl|trivial),h⟩,λh=>h.elim (λh=>by have:=HB2.out.2 h;cases this) (λh=>h.2)⟩),x2⟩
     ·go_meet;exact⟨BvP.yes (λh=>h.elim (λh=>by have:=HB2.out.2 h;cases this) (λh=>h.1 (HDD.out.1 (by first|rfl|trivial)))),x2⟩
     ·go_meet;exact⟨BvP.no (.inl (HB2.out.1 (by first|rfl|trivial))),x2⟩
     ·go_meet;exact⟨BvP.no (.inl (HB2.out.1 (by first|rfl|trivial))),x2⟩
   case rest =>
    obtain⟨⟨b60,rfl,hb60⟩,x5⟩:=hcut;have HB60:=lh_ hb60;clear hb60;clear p0 p1 p2 p3 p93 p94 p95 m6 m4;obtain⟨p0,p1,p2,p3,p93,p94,p95,m6,m4⟩:=CF.out _ x5;cases b60 with
    | true => go_wp2_with fail;go_ret;exact⟨⟨false,rfl,no_iff (λh=>by have:=HB60.out.2 h.par;cases this)⟩,xa.trans x5⟩
    | false =>
     go_upto_region 7 with fail;go_cut [93] (λs wx=>BvP s (((y.state=2/\1<=y.why/\y.why<=5)\/(y.state≠2/\y.why=0/\y.num=0))/\(y.state=3\/y.code=0))/\wc=wx);case first =>
      as_aux_lemma =>
       have d1:=Bool.eq_false_or_eq_true (y.why != 0);have d2:=Bool.eq_false_or_eq_true (decide (y.why<0));have d3:=Bool.eq_false_or_eq_true (decide (5<y.why));have d4:=Bool.eq_false_or_eq_true (y.num != 0);clear p0 p1 p2 p3 m6 m4;cases waits
       ·rcases d1 with d1|d1
        ·have HX:=lh_ (show y.why≠0 by simpa using d1);clear d2 d3 d4;go_wp2_with fail;go_meet;exact⟨BvP.yes (λh=>h.1.elim (λh=>HWW.out.2 (by first|rfl|trivial) h.1) (λh=>HX.out h.2.1)),rfl⟩
        ·have HW0:=lh_ (show y.why=0 by simpa using d1);rcases d2 with d2|d2
         ·have HX:=lh_ (of_decide_eq_true d2);clear d3 d4;go_wp2_with fail;go_meet;exact⟨BvP.yes (λ_=>by have:=HW0.out;have:=HX.out;omega),rfl⟩
         ·rcases d3 with d3|d3
          ·have HX:=lh_ (of_decide_eq_true d3);clear d4;go_wp2_with fail;go_meet;exact⟨BvP.yes (λ_=>by have:=HW0.out;have:=HX.out;omega),rfl⟩
          ·rcases d4 with d4|d4
           ·have HX:=lh_ (show y.num≠0 by simpa using d4);go_wp2_with fail;go_meet;exact⟨BvP.yes (λh=>h.1.elim (λh=>HWW.out.2 (by first|rfl|trivial) h.1) (λh=>HX.out h.2.2)),rfl⟩
           ·have HN0:=lh_ (show y.num=0 by simpa using d4);cases dead
            ·go_wp2_with fail;go_meet;exact⟨BvP.of (eq0_iff.trans ⟨λh=>⟨.inr ⟨HWW.out.2 (by first|rfl|trivial),HW0.out,HN0.out⟩,.inr h⟩,λh=>h.2.elim (λe=>absurd e (HDD.out.2 (by first|rfl|trivial))) id⟩),rfl⟩
            ·go_wp2_with fail;go_meet;exact⟨BvP.no ⟨.inr ⟨HWW.out.2 (by first|rfl|trivial),HW0.out,HN0.out⟩,.inl (HDD.out.1 (by first|rfl|trivial))⟩,rfl⟩
       ·rcases d1 with d1|d1
        ·have HW0:=lh_ (show y.why≠0 by simpa using d1);rcases d2 with d2|d2
         ·have HX:=lh_ (of_decide_eq_true d2);clear d3 d4;go_wp2_with fail;go_meet;exact⟨BvP.yes (λh=>h.1.elim (λh=>by have:=HX.out;omega) (λh=>HW0.out h.2.1)),rfl⟩
         ·have HW1:=lh_ (of_decide_eq_false d2);rcases d3 with d3|d3
          ·have HX:=lh_ (of_decide_eq_true d3);clear d4;go_wp2_with fail;go_meet;exact⟨BvP.yes (λh=>h.1.elim (λh=>by have:=HX.out;omega) (λh=>HW0.out h.2.1)),rfl⟩
          ·have HW2:=lh_ (of_decide_eq_false d3);clear d4;have HWy:=lh_ (show 1<=y.why/\y.why<=5 by have:=HW0.out;have:=HW1.out;have:=HW2.out;omega);cases dead
           ·go_wp2_with fail;go_meet;exact⟨BvP.of (eq0_iff.trans ⟨λh=>⟨.inl ⟨HWW.out.1 (by first|rfl|trivial),HWy.out⟩,.inr h⟩,λh=>h.2.elim (λe=>absurd e (HDD.out.2 (by first|rfl|trivial))) id⟩),rfl⟩
           ·go_wp2_with fail;go_meet;exact⟨BvP.no ⟨.inl ⟨HWW.out.1 (by first|rfl|trivial),HWy.out⟩,.inl (HDD.out.1 (by first|rfl|trivial))⟩,rfl⟩
        ·have HX:=lh_ (show y.why=0 by simpa using d1);clear d2 d3 d4;go_wp2_with fail;go_meet;exact⟨BvP.yes (λh=>h.1.elim (λh=>by have:=HX.out;omega) (λh=>h.1 (HWW.out.1 (by first|rfl|trivial)))),rfl⟩
     case rest =>
      obtain⟨⟨b93,rfl,hb93⟩,rfl⟩:=hcut;have HB93:=lh_ hb93;clear hb93;cases b93 with
      | true => go_wp2_with fail;go_ret;exact⟨⟨false,rfl,no_iff (λh=>by have:=HB93.out.2 ⟨h.why,h.code⟩;cases this)⟩,xa.trans x5⟩
      | false =>
       clear p0 p1 p2 p3 p93 p94 p95 m6 m4;have bp5:=bp.ext x5;go_wp2_with (refine wp_ld_space (.tmp 94) rfl rfl (w.heap.size+1) 57 y rfl bp5 ?_)
       go_loopw [96] (λi wx=>∃j:Nat,j<=16/\i=.int .i64 j/\Ext w1 wx/\∀q<j,PageP m d y q) (λi _=>16-(intOf i).toNat);case atStart=>exact⟨0,by omega,rfl,x5,λq h=>by omega⟩
       case round =>
        clear x5 bp5;obtain⟨j,hj,rfl,xj,hpg⟩:=hrel;have HPG:=lh_ hpg;clear hpg;by_cases hj2:j<16
        ·have hji:(j:Int)<16:=by omega
         have HPN:=lh_ (show PageP m d y j->∀q<j+1,PageP m d y q fromλh q hq=>by
          by_cases e:q<j
          ·exact HPG.out q e
          ·obtain rfl:q=j:=by omega
           exact h)
         have HPM:=lh_ (show ProcOk m d y->PageP m d y j fromλh=>h.page j hj2);unfold PageP at HPN HPM;go_upto_region 12 with(refine wp_idx_pte (.tmp 95) (.tmp 96) rfl rfl y j rfl rfl hj2 ?_)
         clear HPG;generalize y.pis j=ia at *;generalize y.pwr j=iw at *;generalize y.pfr j=ifr at *;have bq:=Box.new wr 50 #[.bool ia,.bool iw,.int .i64 ifr];have xq:=xj.alloc (.cells #[.bool ia,.bool iw,.int .i64 ifr] 50);generalize wr.alloc (.cells #[.bool ia,.bool iw,.int .i64 ifr] 50)=wq at *;have q0:=bq.cell 0;have q1:=bq.cell 1;have q2:=bq.cell 2;go_cut [9] (λs wx=>(∃b,s=.bool b/\(b=true↔ia=false/\iw=false/\ifr=0))/\wq=wx);case first =>
          as_aux_lemma =>
           clear HPN HPM;cases ia<;>cases iw<;>go_wp2_with fail
           all_goals
            go_meet;exact⟨⟨_,rfl,by first|(simp;done)|(simp_all;done)|omega⟩,rfl⟩
         case rest =>
          obtain⟨⟨b9,rfl,hb9⟩,rfl⟩:=hcut;have HB9:=lh_ hb9;clear hb9;have m4:=(CF.out _ xq).2.2.2.2.2.2.2.2;have bmq:=bm.ext xq;have h2:=h1.ext xq;go_upto_region 13 with fail;go_cut [135] (λs wx=>BvP s ((ia=false/\iw=false/\ifr=0)\/(ia=true/\y.state≠3/\0<=ifr/\ifr<(m.fr.n:Int)/\usersK d.pr ifr d.pr.length=1))/\Ext wq wx);case first =>
           as_aux_lemma =>
            clear HPN HPM;have dA:=Bool.eq_false_or_eq_true (decide (ifr<0));have dB:=Bool.eq_false_or_eq_true (decide ((m.fr.n:Int)<=ifr));cases ia
            ·clear dA dB;cases b9
             ·go_wp2_with fail;go_meet;exact⟨BvP.yes (λh=>h.elim (λh=>by have:=HB9.out.2 h;cases this) (λh=>by cases h.1)),Ext.refl _⟩
             ·go_wp2_with fail;go_meet;exact⟨BvP.no (.inl (HB9.out.1 (by first|rfl|trivial))),Ext.refl _⟩
            ·cases dead
             ·rcases dA with dA|dA
              ·have HX:=lh_ (of_decide_eq_true dA);clear dB;go_wp2_with fail;go_meet;exact⟨BvP.yes (λh=>h.elim (λh=>by cases h.1) (λh=>by have:=HX.out;omega)),Ext.refl _⟩
              ·have HA:=lh_ (of_decide_eq_false dA);rcases dB with dB|dB
               ·have HX:=lh_ (of_decide_eq_true dB);go_wp2_with fail;go_meet;exact⟨BvP.yes (λh=>h.elim (λh=>by cases h.1) (λh=>by have:=HX.out;omega)),Ext.refl _⟩
               ·have HBb:=lh_ (of_decide_eq_false dB)
                go_wp2_with (first
                 | (refine wp_ld_mac_g (.tmp 2) rfl rfl w.heap.size m 38 rfl bmq ?_)
                 | (go_at_call 81;refine(HU.out _ _ h2).mono ?_;rintro e w2 ⟨rfl,x2⟩))
                go_meet;exact⟨BvP.of ⟨λh=>.inr ⟨by first|rfl|trivial,HDD.out.2 (by first|rfl|trivial),by have:=HA.out;omega,by have:=HBb.out;omega,by have h':((usersK d.pr ifr d.pr.length:Nat):Int)=1:=(by simpa using h);omega⟩,λh=>h.elim (λh=>by cases h.1) (λh=>by rw[h.2.2.2.2];rfl)⟩,x2⟩
             ·clear dA dB;go_wp2_with fail;go_meet;exact⟨BvP.yes (λh=>h.elim (λh=>by cases h.1) (λh=>h.2.1 (HDD.out.1 (by first|rfl|trivial)))),Ext.refl _⟩
          case rest =>
           obtain⟨⟨b135,rfl,hb135⟩,x9⟩:=hcut;have HB135:=lh_ hb135;clear hb135;cases b135 with
           | true => go_wp2_with fail;go_ret;exact⟨⟨false,rfl,no_iff (λh=>by have:=HB135.out.2 (HPM.out h);cases this)⟩,xa.trans (xq.trans x9)⟩
           | false =>
            go_wp2_with fail;go_roundw;case rel=>exact⟨j+1,by omega,by go_num,xq.trans x9,HPN.out (HB135.out.1 (by first|rfl|trivial))⟩
            case measure=>simp[intOf];omega
        ·have HJ16:=lh_ (show j=16 by omega);have hjn:¬(j:Int)<16:=by omega
         have bp5:=bp.ext xj;go_wp2_with (refine wp_ld_fds (.tmp 137) rfl rfl (w.heap.size+1) 57 y rfl bp5 ?_)
         go_loopw [139] (λi wx=>∃j:Nat,j<=8/\i=.int .i64 j/\Ext w1 wx/\∀q<j,FdP d.pi (y.fk q) (y.fn q) (y.fp q)/\(y.state=3->y.fk q=0)) (λi _=>8-(intOf i).toNat);case atStart=>exact⟨0,by omega,rfl,xj,λq h=>by omega⟩
         case round =>
          clear xj bp5 hjn;obtain⟨j2,hj,rfl,xj,hfd⟩:=hrel;have HFD:=lh_ hfd;clear hfd;by_cases hj2:j2<8
          ·have hji:(j2:Int)<8:=by omega
           have HFN:=lh_ (show(FdP d.pi (y.fk j2) (y.fn j2) (y.fp j2)/\(y.state=3->y.fk j2=0))->∀q<j2+1,FdP d.pi (y.fk q) (y.fn q) (y.fp q)/\(y.state=3->y.fk q=0) fromλh q hq=>by
            by_cases e:q<j2
            ·exact HFD.out q e
            ·obtain rfl:q=j2:=by omega
             exact h)
           have HFM:=lh_ (show ProcOk m d y->FdP d.pi (y.fk j2) (y.fn j2) (y.fp j2)/\(y.state=3->y.fk j2=0) fromλh=>h.fd j2 hj2);go_upto_region 19 with(refine wp_idx_fd (.tmp 138) (.tmp 139) rfl rfl y j2 rfl rfl hj2 ?_)
           clear HFD;obtain⟨ik,hik⟩:∃x,x=y.fk j2:=⟨_,rfl⟩
           obtain⟨ifn,hifn⟩:∃x,x=y.fn j2:=⟨_,rfl⟩
           obtain⟨ifp,hifp⟩:∃x,x=y.fp j2:=⟨_,rfl⟩
           have HFN2:=lh_ (λ(h:FdP d.pi ik ifn ifp/\(y.state=3->ik=0))=>HFN.out (by rw[← hik,← hifn,← hifp];exact h));have HFM2:=lh_ (λ(h:ProcOk m d y)=>show FdP d.pi ik ifn ifp/\(y.state=3->ik=0) by rw[hik,hifn,hifp];exact HFM.out h);clear HFN HFM;rw[← hik,← hifn,← hifp];clear hik hifn hifp;have bq:=Box.new wr 54 #[.int .i64 ik,.int .i64 ifn,.int .i64 ifp];have xq:=xj.alloc (.cells #[.int .i64 ik,.int .i64 ifn,.int .i64 ifp] 54);generalize wr.alloc (.cells #[.int .i64 ik,.int .i64 ifn,.int .i64 ifp] 54)=wq at *;have q0:wq.cell? ⟨wr.heap.size,0,none⟩=some (.int .i64 ik):=bq.cell 0;have q1:=bq.cell 1;have q2:=bq.cell 2;have bmq:=bm.ext xq;have h2:=h1.ext xq;go_cut [153] (λs wx=>BvP s (FdP d.pi ik ifn ifp/\(y.state=3->ik=0))/\Ext wq wx);case first =>
            as_aux_lemma =>
             clear HFN2 HFM2
             go_wp2_with (first
              | (refine wp_ld_mac (.tmp 2) rfl rfl w.heap.size _ 38 rfl bmq rfl ?_)
              | (go_at_call 97;refine(HF.out _ _ _ _ h2).mono ?_;rintro e w2 ⟨⟨b2,rfl,hb2⟩,x2⟩;have HB2:=lh_ hb2;clear hb2;have q0':=x2.keep q0;clear q0;rcases b2 with _|_<;>rcases dead with _|_))
             ·go_meet;exact⟨BvP.yes (λh=>by have:=HB2.out.2 h.1;cases this),x2⟩
             ·go_meet;exact⟨BvP.yes (λh=>by have:=HB2.out.2 h.1;cases this),x2⟩
             ·go_meet;exact⟨BvP.no ⟨HB2.out.1 (by first|rfl|trivial),λh3=>absurd h3 (HDD.out.2 (by first|rfl|trivial))⟩,x2⟩
             ·go_meet;exact⟨BvP.of (eq0_iff.trans ⟨λh=>⟨HB2.out.1 (by first|rfl|trivial),λ_=>h⟩,λh=>h.2 (HDD.out.1 (by first|rfl|trivial))⟩),x2⟩
           case rest =>
            obtain⟨⟨b153,rfl,hb153⟩,x9⟩:=hcut;have HB153:=lh_ hb153;clear hb153;cases b153 with
            | true => go_wp2_with fail;go_ret;exact⟨⟨false,rfl,no_iff (λh=>by have:=HB153.out.2 (HFM2.out h);cases this)⟩,xa.trans (xq.trans x9)⟩
            | false =>
             go_wp2_with fail;go_roundw;case rel=>exact⟨j2+1,by omega,by go_num,xq.trans x9,HFN2.out (HB153.out.1 (by first|rfl|trivial))⟩
             case measure=>simp[intOf];omega
          ·have hjn:¬(j2:Int)<8:=by omega
           have HJ8:=lh_ (show j2=8 by omega);go_wp2_with fail;go_ret;refine⟨⟨true,rfl,yes_iff ?_⟩,xa.trans xj⟩;obtain⟨a1,a2,a3⟩:=HB47.out.1 (by first|rfl|trivial);obtain⟨c1,c2⟩:=HB93.out.1 (by first|rfl|trivial);exact⟨a1,a2,a3,HB60.out.1 (by first|rfl|trivial),c1,c2,λq hq=>HPG.out q (by rw[HJ16.out];exact hq),λq hq=>HFD.out q (by rw[HJ8.out];exact hq)⟩
end Go.Proofs.YtfaplefkakpgcaaGreatDoor
