/- The document's files: data, good, two, Size, At. -/
import Derived.Test.YtfaplefkakpgcaaGreatDoorXf41
import Derived.Test.YtfaplefkakpgcaaGreatDoorXf23
import Derived.Test.YtfaplefkakpgcaaGreatDoorXf25
set_option linter.unusedVariables false
set_option linter.unusedSimpArgs false
set_option maxHeartbeats 32000000
set_option maxRecDepth 100000
namespace Go.Proofs.YtfaplefkakpgcaaGreatDoor
open Go.Proofs.Tryz
open Go.RowKit
theorem rdata_any (A:Option Addr) (n c:Nat) (v:List (List UInt8)) (I:Int) (w:World) (hv:Strs w A n v) (hg:Good v I) :
  Calls prog 148 #[.slice A n c] w λe w'=>e=.returned (.int .i64 (3+(I+1)/2))/\Ext w w':=by
 have HO:=lh_ (λw h=>rof_yes A n c v I w h hg);go_enter func148,ntmps148
 go_wp2_with (first
  | (go_at_call 99;refine(HO.out _ hv).mono ?_;rintro e w1 ⟨rfl,x1⟩;rw[geomV_eq])
  | (refine wp_st_geom (.tmp 3) (.tmp 8) rfl rfl w1.heap.size _ [0,0,0,0,0,0] 144 rfl rfl (Box.new _ _ _) rfl rfl ?_;intro w2 b2 g2;have x2:Ext w w2:=(x1.alloc _).grown g2 (λk e=>by cases e;exact x1.size);have c5:w2.cell? ⟨w1.heap.size,5,none⟩=some (.int .i64 (3+(I+1)/2)):=b2.cell 5))
 go_ret;exact⟨rfl,x2⟩
def goodP (v:List (List UInt8)) (I b:Int):Int:=if isB v I b then b else 0
theorem rgood_any (A:Option Addr) (n c:Nat) (v:List (List UInt8)) (I b:Int) (w:World) (hn:n=v.length) :
  Calls prog 203 #[.slice A n c,.int .i64 (3+(I+1)/2),.int .i64 b] w λe w'=>e=.returned (.int .i64 (goodP v I b))/\w=w':=by
 subst hn;unfold goodP isB;by_cases h1:b<3+(I+1)/2
 ·rw[decide_eq_false (by omega:¬3+(I+1)/2<=b)];generalize 3+(I+1)/2=d at *;go_enter func203,ntmps203;go_wp2_with fail;go_ret;exact⟨rfl,rfl⟩
 ·rw[decide_eq_true (by omega:3+(I+1)/2<=b)];generalize 3+(I+1)/2=d at *;by_cases h2:(v.length:Int)<=b
  ·rw[decide_eq_false (by omega:¬b<(v.length:Int))];go_enter func203,ntmps203;go_wp2_with fail;go_ret;exact⟨rfl,rfl⟩
  ·rw[decide_eq_true (by omega:b<(v.length:Int))];go_enter func203,ntmps203;go_wp2_with fail;go_ret;exact⟨rfl,rfl⟩
theorem rtwo19_any (s:List UInt8) (i:Nat) (w:World) (h:i+1<s.length) (h2:s.length<=1000) :
  Calls prog 204 #[.string (str s),.int .i64 i] w λe w'=>e=.returned (.int .i64 (fnum s i 2))/\Ext w w':=by
 have hz:=str_size;have H:=lh_ (fnum2 s i h);have t1:(i:Int)<(s.length:Int):=by omega
 have t2:(i:Int)+1<(s.length:Int):=by omega
 have t3:((i:Int)+1).toNat=i+1:=by omega
 have a0:(str s)[i]'(by rw[str_size];omega)=s[i]:=rfl;have a1:(str s)[i+1]'(by rw[str_size];omega)=s[i+1]:=rfl;have b0:=s[i].toNat_lt;have b1:=s[i+1].toNat_lt;generalize s[i]=p at *;generalize s[i+1]=q at *;have w0:IntKind.i64.wrap (p.toNat:Int)=p.toNat:=IntWalk.i64_in _ (by omega);have w1:IntKind.i64.wrap (q.toNat:Int)=q.toNat:=IntWalk.i64_in _ (by omega);go_enter func204,ntmps204;go_wp2_with fail;refine wp_region_later (by kernel_rfl) (by kernel_rfl) ?_;repeat (go_big_quiet_step (fail))
 refine wpQuiet_nil ?_;rintro w2 ⟨x,rfl⟩;go_wp2_with fail;go_ret;exact⟨by rw[H.out];rfl,x.ext⟩
theorem wp_box_ino {P:Program}{ops:Array Oper}{rest:List Oper}{o:Oper}{a:Act}{w:World}{Q:Exit->Act->World->Prop}(T:TypeId) (x:Operand) (hgd:o.guard=none) (ho:o.op=.box T x) (cs:Array Value) (hx:a.eval x=.agg cs)
  (hK:∀w',Box w' w.heap.size T cs->Ext w w'->w'.heap.size=w.heap.size+1->wpList P ops Q rest (a.put o.dst (.pointer (some ⟨w.heap.size,0,none⟩))) w'):wpList P ops Q (o::rest) a w:=by
 refine wpList_plain hgd λK hK'=>?_;have h:=hK (w.alloc (.cells cs T)) (Box.new _ _ _) ((Ext.refl w).alloc _) (World.size_alloc _ _);unfold Oper.wp execOp;simp only[ho,hx];have e:(Instr.box T (.agg cs)).run P w=.ok (.pointer (some ⟨w.heap.size,0,none⟩)) (w.alloc (.cells cs T)):=by simp[Instr.box,newVar,newRow,newObj,Value.cells];rfl
 simp only[Sem.run_bind,e,Result.andThen_ok];exact hK' _ _ h
theorem ino_cell {w:World}{g:Nat}{x:List Int}(h:Box w g 121 (intVals x)) (hx:x.length=12) {k:Nat}(hk:k<12):w.cell? ⟨g,k,none⟩=some (.int .i64 (x.getD k 0)):=by
 refine(h.cell k).trans ?_;simp[intVals,List.getD,hx,hk]
theorem rsize_any (x:List Int) (w:World) (hx:x.length=12) :
  Calls prog 149 #[.agg (intVals x)] w λe w'=>e=.returned (.int .i64 (sizeP x))/\Ext w w':=by
 have HX:=lh_ hx;unfold sizeP;have HC:=lh_ (λw g (h:Box w g 121 (intVals x))=>ino_cell h hx (k:=3) (by omega));generalize x.getD 3 0=sz at *;go_enter func149,ntmps149;by_cases h:(8960:Int)<sz
 ·rw[show min sz 8960=8960 by omega];go_wp2_with (refine wp_box_ino _ (.tmp 0) rfl rfl _ rfl ?_;intro w1 b1 x1 z1;have c3:=HC.out _ _ b1)
  go_ret;exact⟨rfl,x1⟩
 ·rw[show min sz 8960=sz by omega];go_wp2_with (refine wp_box_ino _ (.tmp 0) rfl rfl _ rfl ?_;intro w1 b1 x1 z1;have c3:=HC.out _ _ b1)
  go_ret;exact⟨rfl,x1⟩
def at19 (v:List (List UInt8)) (I:Int) (x:List Int) (k:Nat):Int:=goodP v I (numAt v I x k)
theorem rat_any (A:Option Addr) (n c:Nat) (v:List (List UInt8)) (I:Int) (x:List Int) (k:Nat) (w:World) (hv:Strs w A n v) (hg:Good v I) (hx:x.length=12) (hk:k<70) :
  Calls prog 150 #[.slice A n c,.int .i64 (3+(I+1)/2),.agg (intVals x),.int .i64 (k:Int)] w λe w'=>e=.returned (.int .i64 (at19 v I x k))/\Ext w w':=by
 have HX:=lh_ hx;have HG:=lh_ (λb w=>rgood_any A n c v I b w hv.1);have hpl:=plan_bd hg.plan;by_cases h6:k<6
 ·have HN:=lh_ (show at19 v I x k=goodP v I (x.getD (4+k) 0) by unfold at19 numAt;rw[if_pos h6]);rw[HN.out];have HC:=lh_ (λw g (h:Box w g 121 (intVals x))=>ino_cell h hx (k:=4+k) (by omega));generalize x.getD (4+k) 0=ind at *;have d6:decide ((k:Int)<6)=true:=decide_eq_true (by omega);have hki:(k:Int)<6:=by omega
  clear hpl hg hv HN hx;generalize 3+(I+1)/2=d at *;go_enter func150,ntmps150
  go_wp2_with (first
   | (refine wp_box_ino _ (.tmp 2) rfl rfl _ rfl ?_;intro w1 b1 x1 z1;have c3:=HC.out _ _ b1)
   | (go_at_call 203;refine(HG.out _ _).mono ?_;rintro e w2 ⟨rfl,rfl⟩))
  go_ret;exact⟨rfl,x1⟩
 ·have d6:decide ((k:Int)<6)=false:=decide_eq_false (by omega);have hki:¬(k:Int)<6:=by omega
  have HC:=lh_ (λw g (h:Box w g 121 (intVals x))=>ino_cell h hx (k:=10) (by omega));have HD:=lh_ (show at19 v I x k=goodP v I (if isB v I (x.getD 10 0) then fnum (v.getD (x.getD 10 0).toNat []) (2*(k-6)) 2 else 0) by unfold at19 numAt;rw[if_neg h6]);generalize x.getD 10 0=ind at *;cases hi:isB v I ind with
  | false =>
   have HN:=lh_ (show at19 v I x k=0 by
    rw[HD.out,hi];unfold goodP;have:isB v I 0=false:=by unfold isB;rw[decide_eq_false (by omega)];rfl
    simp[this])
   have h0:goodP v I ind=0:=by unfold goodP;rw[hi];rfl
   rw[HN.out];have HZ:=lh_ h0;clear hpl hg hv HN hi h0 HD;generalize 3+(I+1)/2=d at *;go_enter func150,ntmps150
   go_wp2_with (first
    | (refine wp_box_ino _ (.tmp 2) rfl rfl _ rfl ?_;intro w1 b1 x1 z1;have c3:=HC.out _ _ b1)
    | (go_at_call 203;refine(HG.out _ _).mono ?_;rintro e w2 ⟨rfl,rfl⟩;rw[HZ.out]))
   go_ret;exact⟨rfl,x1⟩
  | true =>
   obtain⟨hb1,hb2⟩:=isB_le hi;obtain⟨q,rfl⟩:∃q:Nat,ind=(q:Int):=⟨ind.toNat,by omega⟩
   obtain⟨rfl,hv2⟩:=hv;obtain⟨b,o,rfl,hcell⟩:=hv2 (by omega);have hql:q<v.length:=by omega
   have hbl:(v.getD q []).length=128:=getD_len hg hql;have hcq:w.cell? ⟨b,o+q,none⟩=some (.string (str (v.getD q []))):=cell_getD hcell hql;have HN:=lh_ (show at19 v I x k=goodP v I (fnum (v.getD q []) (2*(k-6)) 2) by
    rw[HD.out,hi,if_pos rfl,Int.toNat_natCast])
   have hz:goodP v I (q:Int)=(q:Int):=by unfold goodP;rw[hi];rfl
   have HZ:=lh_ hz;rw[HN.out];have hqi:(q:Int)<(v.length:Int):=by omega
   have hq0:((q:Int)==0)=false:=by simp;omega
   obtain⟨z,hkz⟩:∃z,k=z+6:=⟨k-6,by omega⟩
   subst hkz;have HT:=lh_ (λw=>show Calls prog 204 #[.string (str (v.getD q [])),.int .i64 (2*(z:Int))] w λe w'=>e=.returned (.int .i64 (fnum (v.getD q []) (2*(z+6-6)) 2))/\Ext w w' from by
    have:=rtwo19_any (v.getD q []) (2*z) w (by omega) (by omega);rw[show((2*z:Nat):Int)=2*(z:Int) by omega]at this;rw[show z+6-6=z by omega];exact this)
   have t1:IntKind.i64.wrap (((z+6:Nat):Int)-6)=(z:Int):=by rw[IntKind.wrap_i64];omega
   have t2:IntKind.i64.wrap (2*(z:Int))=2*(z:Int):=by rw[IntKind.wrap_i64];omega
   generalize fnum (v.getD q []) (2*(z+6-6)) 2=num at *;generalize v.getD q []=bl at *;clear hpl hg HN HD hi hz hb1 hb2 hv2 hcell;generalize 3+(I+1)/2=d at *;go_enter func150,ntmps150
   go_wp2_with (first
    | (refine wp_box_ino _ (.tmp 2) rfl rfl _ rfl ?_;intro w1 b1 x1 z1;have c3:=HC.out _ _ b1;have cq:=x1.keep hcq)
    | (go_at_call 203;refine(HG.out _ _).mono ?_;rintro e w2 ⟨rfl,rfl⟩;try rw[HZ.out])
    | (go_at_call 204;refine(HT.out _).mono ?_;rintro e w3 ⟨rfl,x3⟩))
   go_ret;exact⟨rfl,x1.trans x3⟩
theorem at19_hole {v:List (List UInt8)}{I:Int}{x:List Int}{k:Nat}(hg:Good v I) (h:atP v I x k= -1):at19 v I x k=0:=by
 have hp:=plan_bd hg.plan;unfold atP at h;unfold at19 goodP;split
 ·rename_i c;rw[if_pos c]at h;have:=isB_le c;omega
 ·rfl
theorem at19_has {v:List (List UInt8)}{I:Int}{x:List Int}{k:Nat}(h:atP v I x k≠-1):at19 v I x k=atP v I x k:=by
 unfold atP at h ⊢;unfold at19 goodP;split
 ·rfl
 ·rename_i c;rw[if_neg c]at h;exact absurd rfl h
theorem rowB (w:World) (c:UInt8):Box (w.alloc (.cells #[.int .u8 (c.toNat:Int)] 5)) w.heap.size 5 #[.int .u8 (c.toNat:Int)]:=Box.new _ _ _
theorem wp_app_byte {ops:Array Oper}{rest:List Oper}{o:Oper}{a:Act}{w:World}{Q:Exit->Act->World->Prop}{B g n:Nat}{u:Value}{l:List UInt8}{y:UInt8}(hgd:o.guard=none) (sl x:Operand)
  (ho:o.op=.call { callee:=.builtin .append,args:=#[sl,x],argTypes:=#[167,167] }) (hs:a.eval sl=u) (hx:a.eval x=.slice (some ⟨g,0,none⟩) 1 1)
  (h0:w.ownsRow B 5 1 u n (byteL l)) (hb:Box w g 5 #[.int .u8 (y.toNat:Int)]) (hn:n<=1000000) (hB:B<=w.heap.size)
  (hK:∀u' w',w'.ownsRow B 5 1 u' (n+1) (byteL (l++[y]))->w.grownBy w' u.ownBlock->wpList prog ops Q rest (a.put o.dst u') w'):wpList prog ops Q (o::rest) a w:=by
 refine wpList_plain hgd λK hK'=>?_;obtain⟨i,hi,hz,h1,h2⟩:=info_parts byteInfo;obtain⟨v',w',hr,ho2,hg,_,_⟩:=run_append_own_at (P:=prog) w B 167 o.type 5 i _ 1 1 underlying167 hi hz h1 h2 rfl (by decide) u n (byteL l) h0 ⟨g,0,none⟩ 1 1 [.int .u8 (y.toNat:Int)] rfl (λj u hj=>by
  have ha:(⟨g,0,none⟩:Addr).add j=⟨g,j,none⟩:=by unfold Addr.add;split<;>simp_all
  rw[ha,hb.cell j];simpa using hj) (λu hu=>by rcases(by simpa using hu:u=.int .u8 (y.toNat:Int)) with rfl;rfl) (by unfold maxLen;omega) (by omega) hB
 unfold Oper.wp execOp;simp only[ho,resolve,invoke,builtin,Sem.run_bind,Sem.run_pure,Result.andThen_ok,List.map_toArray,List.map_cons,List.map_nil,hs,hx,hr];exact hK' _ _ (hK v' w' (by rw[show byteL (l++[y])=byteL l++[.int .u8 (y.toNat:Int)] by simp[byteL]];exact ho2) hg)
theorem own_some {w:World}{base size n:Nat}{e:TypeId}{v:Value}{xs:List Value}(h:w.ownsRow base e size v n xs) (hn:0<n):∃g c,v=.slice (some ⟨g,0,none⟩) n c:=by
 rcases h.2 with⟨rfl,h0⟩|⟨g,cap,cur,rfl,_⟩
 ·omega
 ·exact⟨_,_,rfl⟩
theorem conv_some {w:World}{base n g cap:Nat}{l:List UInt8}(h:w.ownsRow base 5 1 (.slice (some ⟨g,0,none⟩) n cap) n (byteL l)):(convert 167 9 (.slice (some ⟨g,0,none⟩) n cap)).run prog w=.ok (.string (str l)) w:=by
 have hl:l.length=n:=by have:=h.1;simpa[byteL]using this
 subst hl;refine run_convert_bytes_back w 167 9 5 ⟨g,0,none⟩ cap l underlying167 underlying5 underlying9 (λj hj=>?_);have ha:(⟨g,0,none⟩:Addr).add j=⟨g,j,none⟩:=by unfold Addr.add;split<;>simp_all
 rw[ha,h.cellAt j (by simpa using hj)];simp[byteL,hj]
theorem rread_any (A:Option Addr) (n c:Nat) (v:List (List UInt8)) (I k off size:Int) (w:World) (hv:Strs w A n v) (hg:Good v I) (hk1:1<=k) (hk2:k<=I) (ho:off<=9223372036854775807) (hs:size<=9223372036854775807) :
  Calls prog 76 #[.slice A n c,.int .i64 k,.int .i64 off,.int .i64 size] w λe w'=>e=.returned (.tuple #[.string (str (readE v I k off size).1),.int .i64 (readE v I k off size).2])/\Ext w w':=by
 have HG:=lh_ (λw h=>riget_yes A n c v I k w h hg hk1 hk2);have HD:=lh_ (λw h=>rdata_any A n c v I w h hg);have HX:=lh_ (inoAt_len v k);have HV:=lh_ hv;by_cases hneg:off<0\/size<0
 ·have HP:=lh_ (show readE v I k off size=([],1) by unfold readE;rw[if_pos hneg]);rw[HP.out];generalize inoAt v k=x at *;clear hv hg HD HP;by_cases h1:off<0
  ·clear hneg;go_enter func76,ntmps76
   go_wp2_with (first
    | (go_at_call 74;refine(HG.out _ HV.out).mono ?_;rintro e w1 ⟨rfl,x1⟩)
    | (refine wp_st_ino (.tmp 10) (.tmp 20) rfl rfl w1.heap.size _ zero12 121 rfl rfl (Box.new _ _ _) HX.out rfl ?_;intro w2 b2 g2))
   go_ret2;exact⟨rfl,(x1.alloc _).grown g2 (λk e=>by cases e;exact x1.size)⟩
  ·have h2:size<0:=by omega
   clear hneg;go_enter func76,ntmps76
   go_wp2_with (first
    | (go_at_call 74;refine(HG.out _ HV.out).mono ?_;rintro e w1 ⟨rfl,x1⟩)
    | (refine wp_st_ino (.tmp 10) (.tmp 20) rfl rfl w1.heap.size _ zero12 121 rfl rfl (Box.new _ _ _) HX.out rfl ?_;intro w2 b2 g2))
   go_ret2;exact⟨rfl,(x1.alloc _).grown g2 (λk e=>by cases e;exact x1.size)⟩
 ·obtain⟨o,rfl⟩:∃o:Nat,off=(o:Int):=⟨off.toNat,by omega⟩
  obtain⟨z,rfl⟩:∃z:Nat,size=(z:Int):=⟨size.toNat,by omega⟩
  rw[readE_bytes hg];have HA:=lh_ (λj w h (hj:j<70)=>rat_any A n c v I (inoAt v k) j w h hg HX.out hj);have HS:=lh_ (λw=>rsize_any (inoAt v k) w HX.out);have HSz:=lh_ (show sizeP (inoAt v k)<=8960 by unfold sizeP;omega);have HHo:=lh_ (λ(j:Nat) (h:atP v I (inoAt v k) j= -1)=>at19_hole hg h);have HHa:=lh_ (λ(j:Nat) (h:atP v I (inoAt v k) j≠-1)=>at19_has h);have HIn:=lh_ (λ(j:Nat) (h:atP v I (inoAt v k) j≠-1)=>isB_le (atP_in h));have hpl:=plan_bd hg.plan;have HBl:=lh_ (λ(q:Nat) (h:q<v.length)=>getD_len hg h);have HBy:=lh_ (λ(i:Nat)=>show byteF v I (inoAt v k) i=if atP v I (inoAt v k) (i/128)= -1 then 0 else (v.getD (atP v I (inoAt v k) (i/128)).toNat []).getD (i%128) 0 from rfl);have HSu:=lh_ (λm=>fbytes_succ v I (inoAt v k) o m);have HL:=lh_ (λm=>fbytes_len v I (inoAt v k) o m);have H0:=lh_ (show fbytes v I (inoAt v k) o 0=[] from rfl);obtain⟨rfl,hv2⟩:=hv;obtain⟨b,oo,rfl,hcell⟩:=hv2 (by omega);have HC:=lh_ (λ(q:Nat) (h:q<v.length)=>cell_getD hcell h);generalize hx:inoAt v k=x at *;generalize sizeP x=sz at *;have hsz:=HSz.out;obtain⟨M,hM⟩:∃M,min z (sz-(o:Int)).toNat=M:=⟨_,rfl⟩
  rw[hM];have HM:=lh_ hM;have hneg1:¬(o:Int)<0:=by omega
  have hneg2:¬(z:Int)<0:=by omega
  clear hg hneg hv2 hcell hx hM;go_enter func76,ntmps76
  go_upto_region 6 with(first
   | (go_at_call 74;refine(HG.out _ HV.out).mono ?_;rintro e w1 ⟨rfl,x1⟩)
   | (refine wp_st_ino (.tmp 10) (.tmp 20) rfl rfl w1.heap.size _ zero12 121 rfl rfl (Box.new _ _ _) HX.out rfl ?_;intro w2 b2 g2))
  have x2:Ext w w2:=(x1.alloc _).grown g2 (λk e=>by cases e;exact x1.size);have own2:=own_of_box (base:=w.heap.size) (Box.new w2 5 #[]) (n:=0) rfl x2.size (by unfold maxLen;omega);have x3:=x2.alloc (.cells #[] 5);rw[show((#[]:Array Value).toList)=[] from rfl]at own2;have own2':=own2;have b3:=b2.ext ((Ext.refl w2).alloc (.cells #[] 5));clear x1 g2 HG b2;generalize w1.heap.size=g1 at *
  go_upto_region 9 with(first
   | (go_at_call 148;refine(HD.out _ (HV.out.ext x3)).mono ?_;rintro e w4 ⟨rfl,x4⟩))
  have x5:=x3.trans x4;have b5:=b3.ext x4;have own5:=own_ext own2' x4;clear x3 x4 b3 own2 own2' x2 HD;go_loopw [12,14] (λu t wx=>∃m:Nat,m<=M/\t=.int .i64 ((o+m:Nat):Int)/\Ext w wx/\Box wx g1 121 (intVals x)/\wx.ownsRow w.heap.size 5 1 u m (byteL (fbytes v I x o m))/\∃g5 c5,u=.slice (some ⟨g5,0,none⟩) m c5) (λ_ t _=>o+M-(intOf t).toNat);case atStart=>exact⟨0,by omega,rfl,x5,b5,by rw[H0.out];exact own5,_,_,rfl⟩
  case round =>
   obtain⟨m,hm,rfl,xm,bm,om,g5,c5,rfl⟩:=hrel;have hMM:=HM.out;clear x5 b5 own5;by_cases hlt:m<M
   ·have hi1:((o+m:Nat):Int)<sz:=by omega
    have hi2:(m:Int)<(z:Int):=by omega
    have HAt:=lh_ (HA.out ((o+m)/128));obtain⟨j,hj⟩:∃j,(o+m)/128=j:=⟨_,rfl⟩
    obtain⟨r,hr⟩:∃r,(o+m)%128=r:=⟨_,rfl⟩
    rw[hj]at HAt;have hj70:j<70:=by omega
    have HBm:=lh_ (HBy.out (o+m));rw[hj,hr]at HBm;have t1:((o:Int)+(m:Int))/128=(j:Int):=by omega
    have t2:((o:Int)+(m:Int))%128=(r:Int):=by omega
    have hwx:=xm.size;have nk:=own_ne om bm (by decide);by_cases hh:atP v I x j= -1
    ·have HZ:=HHo.out j hh;rw[HZ]at HAt;rw[if_pos hh]at HBm;have HN:=lh_ (show fbytes v I x o (m+1)=fbytes v I x o m++[0] by rw[HSu.out,HBm.out]);clear hh HZ HBm HA HHo HHa HIn HBl HC HBy hMM hj hr
     go_wp2_with (first
      | (refine wp_ld_ino (.tmp 10) rfl rfl g1 _ 121 rfl bm HX.out ?_)
      | (refine wp_ld_ino (.tmp 10) rfl rfl g1 _ 121 rfl (bm.ext x6) HX.out ?_)
      | (go_at_call 149;refine(HS.out _).mono ?_;rintro e w6 ⟨rfl,x6⟩)
      | (go_at_call 150;refine(HAt.out _ (HV.out.ext (xm.trans x6)) hj70).mono ?_;rintro e w7 ⟨rfl,x7⟩;have hs7:=(x6.trans x7).size)
      | (at_builtin;refine wp_app_byte (B:=w.heap.size) (y:=0) rfl _ _ rfl rfl rfl (own_ext om ((x6.trans x7).alloc _)) (rowB w7 0) (by omega) (by simp;omega) ?_;intro u8 w8 own8 g8))
     have x8:Ext w w8:=(((xm.trans x6).trans x7).alloc _).grown g8 (λj e=>own_low om e);have b8:=((bm.ext (x6.trans x7)).ext ((Ext.refl w7).alloc (.cells #[.int .u8 0] 5))).grown g8 nk;go_roundw;case rel=>exact⟨m+1,by omega,by go_num,x8,b8,by rw[HN.out];exact own8,own_some own8 (by omega)⟩
     case measure=>simp[intOf];omega
    ·have HZ:=HHa.out j hh;obtain⟨q1,q2⟩:=HIn.out j hh;rw[HZ]at HAt;rw[if_neg hh]at HBm;obtain⟨q,hq⟩:∃q:Nat,atP v I x j=(q:Int):=⟨(atP v I x j).toNat,by omega⟩
     rw[hq]at HAt HBm q1 q2;rw[Int.toNat_natCast]at HBm;have hbl:=HBl.out q (by omega);have hcq:=HC.out q (by omega);have hr8:r<128:=by omega
     generalize v.getD q []=bl at *;obtain⟨y,hy⟩:∃y,bl.getD r 0=y:=⟨_,rfl⟩
     have hrb:r<(str bl).size:=by rw[str_size,hbl];exact hr8
     have hyi:(str bl)[r]'hrb=y:=by rw[← hy,List.getD_eq_getElem?_getD,List.getElem?_eq_getElem (by omega)];rfl
     have hrl:(r:Int)<(bl.length:Int):=by omega
     have hsz8:(str bl).size=128:=by rw[str_size,hbl]
     have HN:=lh_ (show fbytes v I x o (m+1)=fbytes v I x o m++[y] by rw[HSu.out,HBm.out,hy]);have q0:(0:Int)<(q:Int):=by omega
     have hz:=str_size;clear hh HZ HBm HA HHo HHa HIn HBl HC HBy hMM hj hr hq hy
     go_wp2_with (first
      | (refine wp_ld_ino (.tmp 10) rfl rfl g1 _ 121 rfl bm HX.out ?_)
      | (refine wp_ld_ino (.tmp 10) rfl rfl g1 _ 121 rfl (bm.ext x6) HX.out ?_)
      | (go_at_call 149;refine(HS.out _).mono ?_;rintro e w6 ⟨rfl,x6⟩)
      | (go_at_call 150;refine(HAt.out _ (HV.out.ext (xm.trans x6)) hj70).mono ?_;rintro e w7 ⟨rfl,x7⟩;have hs7:=(x6.trans x7).size;have cq7:=((xm.trans x6).trans x7).keep hcq)
      | (at_builtin;refine wp_app_byte (B:=w.heap.size) (y:=y) rfl _ _ rfl rfl rfl (own_ext om ((x6.trans x7).alloc _)) (rowB w7 y) (by omega) (by simp;omega) ?_;intro u8 w8 own8 g8))
     have x8:Ext w w8:=(((xm.trans x6).trans x7).alloc _).grown g8 (λj e=>own_low om e);have b8:=((bm.ext (x6.trans x7)).ext ((Ext.refl w7).alloc (.cells #[.int .u8 (y.toNat:Int)] 5))).grown g8 nk;go_roundw;case rel=>exact⟨m+1,by omega,by go_num,x8,b8,by rw[HN.out];exact own8,own_some own8 (by omega)⟩
     case measure=>simp[intOf];omega
   ·have hM2:m=M:=by omega
    subst hM2;have hcs:sz<=(o:Int)+(m:Int)\/((o:Int)+(m:Int)<sz/\(z:Int)<=(m:Int)):=by omega
    clear hMM HA HHo HHa HIn HBl HC HBy HSu HM hlt;have HCv:=lh_ (λw' (h:Ext wr w')=>conv_some (own_ext om h));clear om;rcases hcs with h1|⟨h1,h2⟩
    ·go_wp2_with (first
      | (refine wp_ld_ino (.tmp 10) rfl rfl g1 _ 121 rfl bm HX.out ?_)
      | (go_at_call 149;refine(HS.out _).mono ?_;rintro e w6 ⟨rfl,x6⟩;have hcv:=HCv.out _ x6))
     go_ret2;exact⟨rfl,xm.trans x6⟩
    ·go_wp2_with (first
      | (refine wp_ld_ino (.tmp 10) rfl rfl g1 _ 121 rfl bm HX.out ?_)
      | (go_at_call 149;refine(HS.out _).mono ?_;rintro e w6 ⟨rfl,x6⟩;have hcv:=HCv.out _ x6))
     go_ret2;exact⟨rfl,xm.trans x6⟩
end Go.Proofs.YtfaplefkakpgcaaGreatDoor
namespace Go.Proofs.YtfaplefkakpgcaaGreatDoor
open Go.Proofs.Tryz
open Go.RowKit Go.WideShapes Go.ChangeShapes
section
variable {H:Type}{enc:TypeId × Value->H}{w:World}{base:Nat}{spare:Nat->Bool}{held:Bool}
theorem img_slice {o fuel:Nat}{cs:List Value}{x:DataW H × List MemPlace}(h:(leavesAt prog 6 24).contains (o,22)=true) (ht:DataW.trod enc prog w base spare held fuel 24 cs=some x) (hl:o<cs.length) :
  ∃fuel' v x',cs[o]? =some v/\DataW.trod enc prog w base spare held fuel' 22 [v]=some x':=by
 obtain⟨f',cs',x',h1,h2⟩:=leaf_trod 6 (List.contains_iff_mem.1 h) ht (List.getElem?_eq_getElem hl);obtain⟨v,rfl⟩:=one_slice underlying22 h1;exact⟨f',v,x',(List.getElem?_eq_getElem hl).trans h2.symm,h1⟩
theorem img_in {fuel:Nat}{cs:List Value}{x:DataW H × List MemPlace}(hl:cs.length=3) (h:DataW.trod enc prog w base spare held fuel 24 cs=some x) :
  ∃(fr bl:Sl) (FB BB:List (List UInt8)) (s:List UInt8),cs=[.slice fr.A fr.n fr.c,.slice bl.A bl.n bl.c,.string (str s)]/\fr.ok/\RowOf stL w fr.A fr.n FB/\bl.ok/\RowOf stL w bl.A bl.n BB/\s.length<=maxLen:=by
 obtain⟨_,v0,_,e0,h0⟩:=img_slice (o:=0) (by kernel_rfl) h (by omega);obtain⟨_,v1,_,e1,h1⟩:=img_slice (o:=1) (by kernel_rfl) h (by omega);obtain⟨s,e2,k2⟩:=leaf_string (n:=6) (o:=2) underlying9 (by kernel_rfl) h (by omega);obtain⟨s0,l0,rfl,o0,r0⟩:=strs_in h0;obtain⟨s1,l1,rfl,o1,r1⟩:=strs_in h1;match cs,hl with
 | [a,b,c],_ => have q0:a=_:=Option.some.inj e0;have q1:b=_:=Option.some.inj e1;have q2:c=_:=Option.some.inj e2;exact⟨s0,s1,l0,l1,_,by rw[q0,q1,q2],o0,r0,o1,r1,k2⟩
theorem string_in {fuel:Nat}{cs:List Value}{x:DataW H × List MemPlace}(hl:cs.length=1) (h:DataW.trod enc prog w base spare held fuel 9 cs=some x):∃s:List UInt8,cs=[.string (str s)]/\s.length<=maxLen:=by
 obtain⟨s,e,k⟩:=leaf_string (n:=6) (o:=0) underlying9 (by kernel_rfl) h (by omega);match cs,hl with
 | [a],_ => have q:a=_:=Option.some.inj e;exact⟨_,by rw[q],k⟩
end
end Go.Proofs.YtfaplefkakpgcaaGreatDoor
