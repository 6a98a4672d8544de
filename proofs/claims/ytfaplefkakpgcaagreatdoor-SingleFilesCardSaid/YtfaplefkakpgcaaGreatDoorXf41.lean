/- The document's directories: the entries of bytes. -/
import Derived.Test.YtfaplefkakpgcaaGreatDoorXf37
import Derived.Test.YtfaplefkakpgcaaGreatDoorXf40
import Derived.Test.YtfaplefkakpgcaaGreatDoorXf20
set_option linter.unusedVariables false
set_option linter.unusedSimpArgs false
set_option maxHeartbeats 32000000
set_option maxRecDepth 100000
namespace Go.Proofs.YtfaplefkakpgcaaGreatDoor
open Go.Proofs.Tryz
open Go.RowKit
theorem pieceE_ext (b:List UInt8) (k x y:Nat) (h:y<=32):(str b).extract (32*k+x) (32*k+y)=str (((pieceE b k).drop x).take (y-x)):=by
 rw[str_ext];unfold pieceE;rw[List.drop_take,List.take_take,List.drop_drop];congr 2;omega
theorem rof20_any (b:List UInt8) (w:World) (hb:b.length<=8960) :
  Calls prog 232 #[.string (str b)] w λe w'=>∃u,e=.returned (.tuple #[u,.bool (entriesP b).isSome])/\Ext w w'/\((entriesP b).isSome=true->OwnE w' w.heap.size u ((entriesP b).getD [])):=by
 have hz:=str_size;have own0:OwnE (w.alloc (.cells #[] 154)) w.heap.size (.slice (some ⟨w.heap.size,0,none⟩) 0 0) []:=World.ownsRow_lit w #[] 0 (Nat.le_refl _) (by unfold maxLen;omega) rfl;have x0:Ext w (w.alloc (.cells #[] 154)):=(Ext.refl w).alloc _;by_cases hm:b.length%32=0;case neg =>
  have HN:=lh_ (show entriesP b=none from by unfold entriesP;rw[if_neg hm]);have hmi:((b.length:Int)%32 != 0)=true:=by simp;omega
  clear own0;go_enter func232,ntmps232;go_wp2_with fail;go_ret2;rw[HN.out];exact⟨_,rfl,x0,λh=>(by cases h)⟩
 have hmi:((b.length:Int)%32 != 0)=false:=by simp;omega
 have HE:=lh_ (show entriesP b=entsP b (b.length/32) from by unfold entriesP;rw[if_pos hm]);have HNone:=lh_ (λk (h:entsP b k=none) (hk:k<=b.length/32)=>entsP_none h _ hk);obtain⟨N,hN⟩:∃N,b.length/32=N:=⟨_,rfl⟩
 have hbN:=lh_ (show b.length=32*N by omega);have hN280:N<=280:=by omega
 rw[hN]at HE HNone;go_enter func232,ntmps232;go_wp2_with fail;clear hm hN hmi;generalize w.alloc (.cells #[] 154)=w1 at *;go_loopw [4,5,6,7] (λv t _ _ wr=>∃(k:Nat) (l:List Ent),k<=N/\t=.int .i64 ((32*k:Nat):Int)/\Ext w wr/\entsP b k=some l/\OwnE wr w.heap.size v l) (λ_ t _ _ _=>32*N-(intOf t).toNat);case atStart=>exact⟨0,[],by omega,rfl,x0,rfl,own0⟩
 case round =>
  clear own0 x0;obtain⟨k,l,hk,rfl,hxr,hl,own⟩:=hrel;have hxs:=hxr.size;have hbl:=hbN.out;by_cases hlt:k<N
  ·have hpl:(pieceE b k).length=32:=by simp[pieceE];omega
   have HNo:=lh_ (λh=>HNone.out (k+1) (entsP_no hl h) (by omega));have HYes:=lh_ (λh1 h2=>entsP_yes hl h1 h2);have hll:=entsP_len hl;have HPE:=lh_ (λx y h=>pieceE_ext b k x y h);have hgd0:∀h:32*k+2<(str b).size,(str b)[32*k+2]'h=(pieceE b k).getD 2 0:=λh=>by unfold pieceE;rw[List.getD_eq_getElem?_getD,List.getElem?_take,if_pos (by omega),List.getElem?_drop,List.getElem?_eq_getElem (by rw[str_size]at h;exact h)];rfl
   clear hl;generalize pieceE b k=o at *;obtain⟨i0,hi0⟩:∃i0,32*k=i0:=⟨_,rfl⟩
   rw[hi0]at HPE hgd0 ⊢;have HI0:=lh_ hi0;have hi0l:i0+32<=b.length:=by omega
   have hi0i:(i0:Int)<(b.length:Int):=by omega
   clear hi0 hbl;have hlw:IntKind.i64.wrap ((o.getD 2 0).toNat:Int)=((o.getD 2 0).toNat:Int):=by have:=(o.getD 2 0).toNat_lt;rw[IntKind.wrap_i64];omega
   have hlw2:wrap64 ((o.getD 2 0).toNat:Int)=((o.getD 2 0).toNat:Int):=by have:=(o.getD 2 0).toNat_lt;unfold wrap64;omega
   have HOk:Hid (okE o=(decide ((o.getD 2 0).toNat<=24)&&decide (1<=(entOf o).2)&&decide ((entOf o).2<=64)&&mayD (entOf o).1&&decide (entP (entOf o)=o))):=rfl;have HEn:Hid (entOf o=((o.drop 4).take (o.getD 2 0).toNat,(numL (o.take 2):Int))):=rfl;have hl256:=(o.getD 2 0).toNat_lt;generalize o.getD 2 0=ch at *;obtain⟨long,hlong⟩:∃n,ch.toNat=n:=⟨_,rfl⟩
   rw[hlong]at hlw hlw2 hl256 HOk HEn;have hix:((i0:Int)+2).toNat=i0+2:=by omega
   have hib:(i0:Int)+2<(b.length:Int):=by omega
   go_upto_region 8 with fail;clear hlw hlw2 hix hib hgd0;by_cases c0:24<long
   ·have HN:=lh_ (HE.out.trans (HNo.out (.inl (by rw[HOk.out,show decide (long<=24)=false by simp;omega];simp))));have hx0:(24:Int)<(long:Int):=by omega
    go_wp2_with fail;go_ret2;rw[HN.out];exact⟨_,rfl,hxr,λh=>(by cases h)⟩
   have hx0:¬(24:Int)<(long:Int):=by omega
   have hx00:decide ((24:Int)<(long:Int))=false:=by simp;omega
   have hl1:=List.length_take (i:=long) (l:=o.drop 4);have hl2:(o.take 2).length=2:=by simp;omega
   have hn1:=numL_lt (o.take 2);rw[hl2]at hn1;have HG:=lh_ (show∀w,Calls prog 169 #[.string (str (o.take 2))] w λe w'=>e=.returned (.int .u64 ((numL (o.take 2):Nat):Int))/\w=w' fromλw=>by
    obtain⟨p,q,hpq⟩:∃p q,o.take 2=[p,q]:=by
     match hq:o.take 2,hl2 with
     | [p,q],_=>exact⟨p,q,rfl⟩
    rw[hpq];have:=rget2 p q w;rw[show((numL [p,q]:Nat):Int)=(p.toNat:Int)+256*q.toNat by simp only[numL];omega];exact this)
   have HX1:=lh_ (HPE.out 4 (4+long) (by omega));rw[show 4+long-4=long by omega]at HX1;have HX2:=lh_ (HPE.out 0 2 (by omega));have HX3:=lh_ (HPE.out 0 32 (by omega));rw[List.drop_zero,Nat.sub_zero,Nat.add_zero]at HX2;rw[List.drop_zero,Nat.sub_zero,List.take_of_length_le (by omega),Nat.add_zero]at HX3;have hnl:((o.drop 4).take long).length<=24:=by rw[hl1];omega
   have hi64:numL (o.take 2)<65536:=by simpa using hn1
   clear hl1 hn1 HPE;generalize numL (o.take 2)=ino at *;generalize (o.drop 4).take long=name at *;generalize o.take 2=o2 at *;rw[HEn.out]at HNo HYes HOk;simp only at HOk;obtain⟨i2,hi2⟩:∃i2,i0+2=i2:=⟨_,rfl⟩
   obtain⟨i4,hi4⟩:∃i4,i0+4=i4:=⟨_,rfl⟩
   obtain⟨i5,hi5⟩:∃i5,i0+(4+long)=i5:=⟨_,rfl⟩
   obtain⟨i6,hi6⟩:∃i6,i0+32=i6:=⟨_,rfl⟩
   rw[hi2]at HX2;rw[hi4,hi5]at HX1;rw[hi6]at HX3;have wi2:IntKind.i64.wrap ((i0:Int)+2)=(i2:Int):=by rw[IntKind.wrap_i64];omega
   have wi4:IntKind.i64.wrap ((i0:Int)+4)=(i4:Int):=by rw[IntKind.wrap_i64];omega
   have wi5:IntKind.i64.wrap ((i4:Int)+(long:Int))=(i5:Int):=by rw[IntKind.wrap_i64];omega
   have wi6:IntKind.i64.wrap ((i0:Int)+32)=(i6:Int):=by rw[IntKind.wrap_i64];omega
   have hi02:(i0:Int)<=(i2:Int)/\(i2:Int)<=(b.length:Int):=by omega
   have hi45:(i4:Int)<=(i5:Int)/\(i5:Int)<=(b.length:Int):=by omega
   have hi60:(i0:Int)<=(i6:Int)/\(i6:Int)<=(b.length:Int):=by omega
   have hi24:(i0:Int)<=(i4:Int):=by omega
   have hi50:True:=trivial;have hin0:(0:Int)<=(ino:Int):=Int.natCast_nonneg _;have HL1:=lh_ (show ino<1->decide ((ino:Int)<1)=true/\decide (1<=(ino:Int))=false fromλh=>⟨decide_eq_true (by omega),decide_eq_false (by omega)⟩);have HL2:=lh_ (show¬ino<1->decide ((ino:Int)<1)=false/\decide (1<=(ino:Int))=true fromλh=>⟨decide_eq_false (by omega),decide_eq_true (by omega)⟩);have HL3:=lh_ (show 64<ino->decide ((64:Int)<(ino:Int))=true/\decide ((ino:Int)<=64)=false fromλh=>⟨decide_eq_true (by omega),decide_eq_false (by omega)⟩);have HL4:=lh_ (show¬64<ino->decide ((64:Int)<(ino:Int))=false/\decide ((ino:Int)<=64)=true fromλh=>⟨decide_eq_false (by omega),decide_eq_true (by omega)⟩);have HL5:=lh_ (show decide (long<=24)=true from decide_eq_true (by omega));have hnl9:name.length<=1000000000:=by omega
   have hin1:(ino:Int)<65536:=by omega
   have wb:IntKind.i64.wrap (ino:Int)=(ino:Int):=by rw[IntKind.wrap_i64];omega
   have wb2:wrap64 (ino:Int)=(ino:Int):=by unfold wrap64;omega
   clear hl2;go_upto_region 10 with fail;clear hi2 hi4 hi5 hi6;have hi2:True:=trivial;have hi4:True:=trivial;have hi5:True:=trivial;have hi6:True:=trivial;refine wp_region_web' 17 [[],[],[],[2],[0,1,3],[4],[5],[],[],[8],[],[10],[],[11,12],[7,9,13],[6,14],[]] (listV [isV (.string (str (b))),isV (.int .i64 ((i0:Int))),isV (.int .i64 ((i0:Int))),isV (.int .i64 ((i2:Int))),isV (.string (str (o2))),isV (.int .u64 (ino:Int)),isV (.int .i64 ((ino:Int))),isV (.string (str (b))),isV (.int .i64 ((i0:Int))),isV (.int .i64 ((i4:Int))),isV (.int .i64 ((i0:Int))),isV (.int .i64 ((i4:Int))),isV (.int .i64 ((long:Int))),isV (.int .i64 ((i5:Int))),isV (.string (str (name))),isV (.agg #[.string (str name),.int .i64 (ino:Int)]),newV wr.heap.size 154 #[.string ⟨#[]⟩,.int .i64 0]]) (by kernel_rfl) (by kernel_rfl) (listV_ext (λp hp=>by simp only[List.mem_cons,List.not_mem_nil,or_false]at hp;rcases hp with rfl|rfl|rfl|rfl|rfl|rfl|rfl|rfl|rfl|rfl|rfl|rfl|rfl|rfl|rfl|rfl|rfl<;>first|exact lasts_is _|exact lasts_new _ _ _)) (λus=>?_);simp only[List.take_succ_cons,List.take_zero,List.drop_succ_cons,List.drop_zero];rw[mWalk];refine And.intro (λw' hx hd=>?_) ?_
   ·clear hd;refine web_of_list 28 rfl (by simp) rfl ?_;go_wp2_with fail;exact⟨Ext.refl _,rfl⟩
   simp only[pS_,pN_,sA_,s0_,s1_];rw[mWalk];refine And.intro (λw' hx hd=>?_) ?_
   ·clear hd;refine web_of_list 29 rfl (by simp[Act.put]) rfl ?_;go_wp2_with fail;exact⟨Ext.refl _,rfl⟩
   simp only[pS_,pN_,sA_,s0_,s1_];rw[mWalk];refine And.intro (λw' hx hd=>?_) ?_
   ·clear hd;refine web_of_list 30 rfl (by simp[Act.put]) rfl ?_;go_wp2_with fail;exact⟨Ext.refl _,rfl⟩
   simp only[pS_,pN_,sA_,s0_,s1_];rw[mWalk];refine And.intro (λw' hx hd=>?_) ?_
   ·have h2:=hd 2 (by simp);clear hd;generalize us 2=u2 at *;obtain rfl:u2=.int .i64 (i0:Int):=h2;refine web_of_list 31 rfl (by simp[Act.put]) rfl ?_;go_wp2_with fail;exact⟨Ext.refl _,rfl⟩
   simp only[pS_,pN_,sA_,s0_,s1_];rw[mWalk];refine And.intro (λw' hx hd=>?_) ?_
   ·have h0:=hd 0 (by simp);have h1:=hd 1 (by simp);have h3:=hd 3 (by simp);clear hd;generalize us 0=u0 at *;generalize us 1=u1 at *;generalize us 3=u3 at *;obtain rfl:u0=.string (str (b)):=h0;obtain rfl:u1=.int .i64 (i0:Int):=h1;obtain rfl:u3=.int .i64 (i2:Int):=h3;have hx2:=HX2.out;refine web_of_list 32 rfl (by simp[Act.put]) rfl ?_;go_wp2_with fail;exact⟨Ext.refl _,rfl⟩
   simp only[pS_,pN_,sA_,s0_,s1_];rw[mWalk];refine And.intro (λw' hx hd=>?_) ?_
   ·have h4:=hd 4 (by simp);clear hd;generalize us 4=u4 at *;obtain rfl:u4=.string (str (o2)):=h4;refine web_of_list 33 rfl (by simp[Act.put]) rfl ?_;go_wp2_with (go_at_call 169;refine(HG.out _).mono ?_;rintro e w2 ⟨rfl,rfl⟩)
    exact⟨Ext.refl _,rfl⟩
   simp only[pS_,pN_,sA_,s0_,s1_];rw[mWalk];refine And.intro (λw' hx hd=>?_) ?_
   ·have h5:=hd 5 (by simp);clear hd;generalize us 5=u5 at *;obtain rfl:u5=.int .u64 (ino:Int):=h5;refine web_of_list 34 rfl (by simp[Act.put]) rfl ?_;go_wp2_with fail;exact⟨Ext.refl _,rfl⟩
   simp only[pS_,pN_,sA_,s0_,s1_];rw[mWalk];refine And.intro (λw' hx hd=>?_) ?_
   ·clear hd;refine web_of_list 35 rfl (by simp[Act.put]) rfl ?_;go_wp2_with fail;exact⟨Ext.refl _,rfl⟩
   simp only[pS_,pN_,sA_,s0_,s1_];rw[mWalk];refine And.intro (λw' hx hd=>?_) ?_
   ·clear hd;refine web_of_list 36 rfl (by simp[Act.put]) rfl ?_;go_wp2_with fail;exact⟨Ext.refl _,rfl⟩
   simp only[pS_,pN_,sA_,s0_,s1_];rw[mWalk];refine And.intro (λw' hx hd=>?_) ?_
   ·have h8:=hd 8 (by simp);clear hd;generalize us 8=u8 at *;obtain rfl:u8=.int .i64 (i0:Int):=h8;refine web_of_list 37 rfl (by simp[Act.put]) rfl ?_;go_wp2_with fail;exact⟨Ext.refl _,rfl⟩
   simp only[pS_,pN_,sA_,s0_,s1_];rw[mWalk];refine And.intro (λw' hx hd=>?_) ?_
   ·clear hd;refine web_of_list 38 rfl (by simp[Act.put]) rfl ?_;go_wp2_with fail;exact⟨Ext.refl _,rfl⟩
   simp only[pS_,pN_,sA_,s0_,s1_];rw[mWalk];refine And.intro (λw' hx hd=>?_) ?_
   ·have h10:=hd 10 (by simp);clear hd;generalize us 10=u10 at *;obtain rfl:u10=.int .i64 (i0:Int):=h10;refine web_of_list 39 rfl (by simp[Act.put]) rfl ?_;go_wp2_with fail;exact⟨Ext.refl _,rfl⟩
   simp only[pS_,pN_,sA_,s0_,s1_];rw[mWalk];refine And.intro (λw' hx hd=>?_) ?_
   ·clear hd;refine web_of_list 40 rfl (by simp[Act.put]) rfl ?_;go_wp2_with fail;exact⟨Ext.refl _,rfl⟩
   simp only[pS_,pN_,sA_,s0_,s1_];rw[mWalk];refine And.intro (λw' hx hd=>?_) ?_
   ·have h11:=hd 11 (by simp);have h12:=hd 12 (by simp);clear hd;generalize us 11=u11 at *;generalize us 12=u12 at *;obtain rfl:u11=.int .i64 (i4:Int):=h11;obtain rfl:u12=.int .i64 (long:Int):=h12;refine web_of_list 41 rfl (by simp[Act.put]) rfl ?_;go_wp2_with fail;exact⟨Ext.refl _,rfl⟩
   simp only[pS_,pN_,sA_,s0_,s1_];rw[mWalk];refine And.intro (λw' hx hd=>?_) ?_
   ·have h7:=hd 7 (by simp);have h9:=hd 9 (by simp);have h13:=hd 13 (by simp);clear hd;generalize us 7=u7 at *;generalize us 9=u9 at *;generalize us 13=u13 at *;obtain rfl:u7=.string (str (b)):=h7;obtain rfl:u9=.int .i64 (i4:Int):=h9;obtain rfl:u13=.int .i64 (i5:Int):=h13;have hx1:=HX1.out;refine web_of_list 42 rfl (by simp[Act.put]) rfl ?_;go_wp2_with fail;exact⟨Ext.refl _,rfl⟩
   simp only[pS_,pN_,sA_,s0_,s1_];rw[mWalk];refine And.intro (λw' hx hd=>?_) ?_
   ·have h6:=hd 6 (by simp);have h14:=hd 14 (by simp);clear hd;generalize us 6=u6 at *;generalize us 14=u14 at *;obtain rfl:u6=.int .i64 (ino:Int):=h6;obtain rfl:u14=.string (str (name)):=h14;refine web_of_list 43 rfl (by simp[Act.put]) rfl ?_;go_wp2_with fail;exact⟨Ext.refl _,rfl⟩
   simp only[pS_,pN_,sA_,s0_,s1_];rw[mWalk];refine And.intro (λw' hx hd=>?_) ?_
   ·clear hd;refine web_of_list 7 rfl (by simp[Act.put]) rfl ?_;go_wp2_with fail;exact⟨(Ext.refl w').alloc _,_,rfl,hx.size,Box.new _ _ _⟩
   simp only[pS_,pN_,sA_,s0_,s1_];rw[mWalk];intro w' hx hv;have h15:=hv 15 (by omega);have h16:=hv 16 (by omega);clear hv;generalize us 15=u15 at *;generalize us 16=u16 at *;obtain rfl:u15=.agg #[.string (str name),.int .i64 (ino:Int)]:=h15;obtain⟨g,rfl,hg,bg⟩:=h16;have HW:=lh_ hx;clear hx;go_upto_region 11 with(refine wp_st_ent (.tmp 7) (.tmp 43) rfl rfl g (str name) (ino:Int) _ 154 rfl rfl bg rfl ?_;intro W2 bx g2)
   simp only[Act.put];have xr:Ext wr W2:=HW.out.grown g2 (λj e=>by cases e;exact hg);have hx:=hxr;clear bg wi2 wi4 wi5 hx0 hx00 hi50 hi2 hi4 hi5 hg HG;have HB:=lh_ bx;have k0:∀y:Later W2,y.now.cell? ⟨g,0,none⟩=some (.string (str name)):=λy=>y.ext.keep (bx.cell 0);have k1:∀y:Later W2,y.now.cell? ⟨g,1,none⟩=some (.int .i64 (ino:Int)):=λy=>y.ext.keep (bx.cell 1);clear bx;have HM:=lh_ (λw=>rmay20_any name w hnl9);have HEt2:=lh_ (λw=>show Calls prog 242 #[.agg #[.string (str name),.int .i64 (ino:Int)]] w λe w'=>e=.returned (.string (str (entP (name,(ino:Int)))))/\Ext w w' from rone_any (name,(ino:Int)) w hnl hin0 hin1);cases c3:mayD name with
   | false =>
    have HN:=lh_ (HE.out.trans (HNo.out (.inl (by rw[HOk.out,c3];simp))));rw[c3]at HM;clear c3;refine wp_region_later (by kernel_rfl) (by kernel_rfl) ?_;repeat (go_big_quiet_step ((first|(with_reducible exact later_of_same (HM.out _))|(with_reducible exact later_of (HEt2.out _)))))
    refine wpQuiet_nil ?_;rintro w3 ⟨y,rfl⟩;go_wp2_with fail;go_ret2;rw[HN.out];exact⟨_,rfl,(hx.trans xr).trans y.ext,λh=>(by cases h)⟩
   | true =>
   rw[c3]at HM;by_cases c1:ino<1
   ·have HN:=lh_ (HE.out.trans (HNo.out (.inl (by rw[HOk.out,(HL1.out c1).2];simp))));have hx1:=(HL1.out c1).1;clear c3;refine wp_region_later (by kernel_rfl) (by kernel_rfl) ?_;repeat (go_big_quiet_step ((first|(with_reducible exact later_of_same (HM.out _))|(with_reducible exact later_of (HEt2.out _)))))
    refine wpQuiet_nil ?_;rintro w3 ⟨y,rfl⟩;go_wp2_with fail;go_ret2;rw[HN.out];exact⟨_,rfl,(hx.trans xr).trans y.ext,λh=>(by cases h)⟩
   have hx1:=(HL2.out c1).1;by_cases c2:64<ino
   ·have HN:=lh_ (HE.out.trans (HNo.out (.inl (by rw[HOk.out,(HL3.out c2).2];simp))));have hx2:=(HL3.out c2).1;clear c3;refine wp_region_later (by kernel_rfl) (by kernel_rfl) ?_;repeat (go_big_quiet_step ((first|(with_reducible exact later_of_same (HM.out _))|(with_reducible exact later_of (HEt2.out _)))))
    refine wpQuiet_nil ?_;rintro w3 ⟨y,rfl⟩;go_wp2_with fail;go_ret2;rw[HN.out];exact⟨_,rfl,(hx.trans xr).trans y.ext,λh=>(by cases h)⟩
   have hx2:=(HL4.out c2).1;by_cases c4:entP (name,(ino:Int))=o;case neg =>
    have HN:=lh_ (HE.out.trans (HNo.out (.inl (by rw[HOk.out,show decide (entP (name,(ino:Int))=o)=false by simpa using c4];simp))));have d4:((str (entP (name,(ino:Int)))).toList==(str o).toList)=false:=by rw[str_toList,str_toList];simpa using c4
    have d5:¬(str (entP (name,(ino:Int)))).toList=(str o).toList:=by rw[str_toList,str_toList];exact c4
    have d6:((str (entP (name,(ino:Int)))).toList != (str o).toList)=true:=by rw[str_toList,str_toList];simpa using c4
    have hx3:=HX3.out;clear c3 c4;generalize entP (name,(ino:Int))=eo at *;refine wp_region_later (by kernel_rfl) (by kernel_rfl) ?_;repeat (go_big_quiet_step ((first|(with_reducible exact later_of_same (HM.out _))|(with_reducible exact later_of (HEt2.out _)))))
    refine wpQuiet_nil ?_;rintro w3 ⟨y,rfl⟩;go_wp2_with fail;go_ret2;rw[HN.out];exact⟨_,rfl,(hx.trans xr).trans y.ext,λh=>(by cases h)⟩
   have hok:okE o=true:=by rw[HOk.out,c3,HL5.out,(HL2.out c1).2,(HL4.out c2).2,decide_eq_true c4];rfl
   have HYes2:=lh_ (HYes.out hok);have d4:((str (entP (name,(ino:Int)))).toList==(str o).toList)=true:=by rw[c4];simp
   have d5:(str (entP (name,(ino:Int)))).toList=(str o).toList:=by rw[c4]
   have d6:((str (entP (name,(ino:Int)))).toList != (str o).toList)=false:=by rw[c4];simp
   have hx3:=HX3.out;clear c3 HYes hok;have HC4:=lh_ c4;clear c4;generalize entP (name,(ino:Int))=eo at *;refine wp_region_later (by kernel_rfl) (by kernel_rfl) ?_;repeat (go_big_quiet_step ((first|(with_reducible exact later_of_same (HM.out _))|(with_reducible exact later_of (HEt2.out _)))))
   refine wpQuiet_nil ?_;rintro w3 ⟨y,rfl⟩;clear k0 k1;have xr4:=xr.trans y.ext;have bx4:=HB.out.ext y.ext;generalize y.now=w4 at *;go_upto_region 13 with fail;clear HB xr HM HEt2 d4 d5 d6 HC4 HOk HEn hx3 hi6 hi60 HX3 wi6 hi64 hin0 hin1 HL1 HL2 HL3 HL4 HL5 hnl hnl9 c1 c2 c0 hl256 wb wb2 hpl;have own4:=OwnE.ext own xr4;obtain⟨A4,cap4,rfl,at4⟩:=own4.form;rw[hll]at at4 ⊢;go_cut [83] (λs wx=>s=.bool (!(lessE l (name,(ino:Int))))/\Ext w4 wx);case first =>
    have k0:∀y:Later w4,y.now.cell? ⟨g,0,none⟩=some (.string (str name)):=λy=>y.ext.keep (bx4.cell 0);clear HYes2 HNo HNone HE HX1 HX2 own own4 bx4 xr4 hi02 hi24 hi45;cases k with
    | zero =>
     obtain rfl:=List.eq_nil_of_length_eq_zero hll;have HV:=lh_ (show lessE [] (name,(ino:Int))=true from rfl);refine wp_region_later (by kernel_rfl) (by kernel_rfl) ?_;repeat (go_big_quiet_step (fail))
     refine wpQuiet_nil ?_;rintro w5 ⟨y,rfl⟩;go_wp2_with fail;go_meet;exact⟨by rw[HV.out];rfl,y.ext⟩
    | succ q =>
     obtain⟨bb,oo,rfl,hcell⟩:=at4.2 (by omega);have hq:=(hcell q (by omega)).1;have HV:=lh_ (lessE_last (name,(ino:Int)) hll);simp only at HV;clear hcell at4;have k1:∀y:Later w4,y.now.cell? ⟨bb,oo+q*2,none⟩=some (.string (str (l[q]'(by omega)).1)):=λy=>y.ext.keep hq;clear hq;generalize (l[q]'(by omega)).1=last at *;have t1:IntKind.i64.wrap (((q+1:Nat):Int)-1)=(q:Int):=by rw[IntKind.wrap_i64];omega
     have t2:decide ((0:Int)<((q+1:Nat):Int))=true:=decide_eq_true (by omega);have t3:(q:Int)<((q+1:Nat):Int):=by omega
     cases hl:ltB last name with
     | false =>
      have HV2:=lh_ (HV.out.trans hl);have hl':Op.bytesLess (str last).toList (str name).toList=false:=by rw[str_toList,str_toList];exact hl
      clear hl HV;refine wp_region_later (by kernel_rfl) (by kernel_rfl) ?_;repeat (go_big_quiet_step (fail))
      refine wpQuiet_nil ?_;rintro w5 ⟨y,rfl⟩;go_wp2_with fail;go_meet;exact⟨by rw[HV2.out];rfl,y.ext⟩
     | true =>
      have HV2:=lh_ (HV.out.trans hl);have hl':Op.bytesLess (str last).toList (str name).toList=true:=by rw[str_toList,str_toList];exact hl
      clear hl HV;refine wp_region_later (by kernel_rfl) (by kernel_rfl) ?_;repeat (go_big_quiet_step (fail))
      refine wpQuiet_nil ?_;rintro w5 ⟨y,rfl⟩;go_wp2_with fail;go_meet;exact⟨by rw[HV2.out];rfl,y.ext⟩
   case rest =>
    obtain⟨rfl,hxc⟩:=hcut;cases hv:lessE l (name,(ino:Int)) with
    | false => have HN:=lh_ (HE.out.trans (HNo.out (.inr hv)));clear hv HYes2 HNo HNone HE;go_wp2_with fail;go_ret2;rw[HN.out];exact⟨_,rfl,hx.trans (xr4.trans hxc),λh=>(by cases h)⟩
    | true =>
     have HN:=lh_ (HYes2.out hv);have bx5:=bx4.ext hxc;have own5:=OwnE.ext own4 hxc;have xr5:=xr4.trans hxc;clear hv HYes2 HNo HNone HE own own4 at4 bx4 xr4 hxc HX1 HX2 hlong hi02 hi24 hi45;unfold OwnE at own5;rw[hll]at own5
     go_wp2_with (first
      | (refine wp_ld_ent (.tmp 7) rfl rfl g _ 154 rfl bx5 rfl ?_)
      | (refine wp_app_ent (y:=(name,(ino:Int))) rfl (.tmp 85) (.tmp 87) rfl rfl rfl (own_ext own5 ((Ext.refl wc).alloc _)) (Box.new _ _ _) (by omega) (by simp;have:=xr5.size;omega) ?_;intro u' w6 own6 hg6))
     have hlo:=lh_ (show∀j,(Value.slice A4 k cap4).ownBlock=some j->w.heap.size<=j fromλj e=>own_low own5 e);have x6:Ext w w6:=((hx.trans xr5).alloc _).grown hg6 (λj e=>hlo.out j e);go_roundw;case rel=>exact⟨k+1,l++[(name,(ino:Int))],by omega,by have:=HI0.out;go_num,x6,HN.out,OwnE.snoc own6 hll.symm⟩
     case measure=>have:=HI0.out;simp[intOf];omega
  ·obtain rfl:k=N:=by omega
   have HN:=lh_ (HE.out.trans hl);have hnl:¬((32*k:Nat):Int)<(b.length:Int):=by omega
   clear hl HE HNone hbl;go_wp2_with fail;go_ret2;rw[HN.out];exact⟨_,rfl,hxr,λ_=>own⟩
end Go.Proofs.YtfaplefkakpgcaaGreatDoor
namespace Go.Proofs.YtfaplefkakpgcaaGreatDoor
open Go.RowKit Go.Shelf
theorem wrap64_small {z:Int}(h0: -9223372036854775808<=z) (h1:z<9223372036854775808):wrap64 z=z:=by
 unfold wrap64;omega
def byteF (v:List (List UInt8)) (I:Int) (x:List Int) (i:Nat):UInt8:=if atP v I x (i/128)= -1 then 0 else (v.getD (atP v I x (i/128)).toNat []).getD (i%128) 0
def fbytes (v:List (List UInt8)) (I:Int) (x:List Int) (off m:Nat):List UInt8:=(List.range' off m).map (byteF v I x)
theorem fbytes_succ (v:List (List UInt8)) (I:Int) (x:List Int) (off m:Nat):fbytes v I x off (m+1)=fbytes v I x off m++[byteF v I x (off+m)]:=by
 unfold fbytes;rw[← List.range'_append_1];simp
theorem fbytes_len (v:List (List UInt8)) (I:Int) (x:List Int) (off m:Nat):(fbytes v I x off m).length=m:=by simp[fbytes]
theorem fbytes_get (v:List (List UInt8)) (I:Int) (x:List Int) (off m j:Nat) (h:j<(fbytes v I x off m).length):(fbytes v I x off m)[j]=byteF v I x (off+j):=by
 simp[fbytes]
theorem atP_in {v:List (List UInt8)}{I:Int}{x:List Int}{k:Nat}(h:atP v I x k≠-1):isB v I (atP v I x k)=true:=by
 unfold atP at h ⊢;split
 ·rename_i c;exact c
 ·rename_i c;rw[if_neg c]at h;exact absurd rfl h
theorem from_nat {off K:Nat}(ho:off<=8960) (hK:K<70):fromP off K=((max off (128*K)-128*K:Nat):Int):=by
 unfold fromP;rw[wrap64_small (z:=(K:Int)*128) (by omega) (by omega),wrap64_small (by omega) (by omega)];omega
theorem to_int {e K:Nat}(he:e<=8960) (hK:K<70):toP e K=min ((e:Int)-128*(K:Int)) 128:=by
 unfold toP;rw[wrap64_small (z:=(K:Int)*128) (by omega) (by omega),wrap64_small (by omega) (by omega)];omega
theorem piece_bytes {F:FileT}(hg:Good F.v F.I) {off e K:Nat}(ho:off<=8960) (he:e<=8960) (hK:K<70) :
  pieceP F off e K=fbytes F.v F.I F.x (max off (128*K)) (min e (128*(K+1))-max off (128*K)):=by
 unfold pieceP;rw[from_nat ho hK,to_int he hK];by_cases h:min ((e:Int)-128*(K:Int)) 128<=((max off (128*K)-128*K:Nat):Int)
 ·rw[if_pos h,show min e (128*(K+1))-max off (128*K)=0 by omega];rfl
 ·rw[if_neg h];have hm:(min ((e:Int)-128*(K:Int)) 128-((max off (128*K)-128*K:Nat):Int)).toNat=min e (128*(K+1))-max off (128*K):=by omega
  rw[hm];by_cases hh:atP F.v F.I F.x K= -1
  ·rw[if_pos hh];refine List.ext_getElem (by rw[zs_len,fbytes_len]) λj h1 h2=>?_;rw[zs_len]at h1;rw[fbytes_get];unfold byteF;rw[show(max off (128*K)+j)/128=K by omega,if_pos hh];simp[zs]
  ·rw[if_neg hh];obtain⟨b1,b2⟩:=isB_le (atP_in hh);have hp:=plan_bd hg.plan;have hbl:(F.v.getD (atP F.v F.I F.x K).toNat []).length=128:=getD_len hg (by omega);refine List.ext_getElem (by rw[fbytes_len,List.length_take,List.length_drop,hbl];omega) λj h1 h2=>?_;rw[fbytes_len]at h2;rw[List.getElem_take,List.getElem_drop];rw[fbytes_get];unfold byteF;rw[show(max off (128*K)+j)/128=K by omega,if_neg hh];have hix:(((max off (128*K)-128*K:Nat):Int)).toNat+j=(max off (128*K)+j)%128:=by omega
   simp only[hix];rw[List.getD_eq_getElem?_getD (l:=F.v.getD (atP F.v F.I F.x K).toNat []),List.getElem?_eq_getElem (by rw[hbl];omega)];rfl
theorem pieces_bytes {F:FileT}(hg:Good F.v F.I) {off e:Nat}(ho:off<=8960) (he:e<=8960) (K:Nat) (hK:K<=70) :
  (List.range K).flatMap (pieceP F off e)=fbytes F.v F.I F.x off (min e (128*K)-off):=by
 induction K with
 | zero=>rw[show min e (128*0)-off=0 by omega];rfl
 | succ K ih =>
  rw[List.range_succ,List.flatMap_append,ih (by omega),List.flatMap_cons,List.flatMap_nil,List.append_nil,piece_bytes hg ho he (by omega)];unfold fbytes;rw[← List.map_append];congr 1;by_cases h1:128*K<=off
  ·rw[show min e (128*K)-off=0 by omega,show max off (128*K)=off by omega];rfl
  ·by_cases h2:e<=128*K
   ·rw[show min e (128*(K+1))-max off (128*K)=0 by omega,show min e (128*K)-off=min e (128*(K+1))-off by omega];simp
   ·have e1:min e (128*K)-off=128*K-off:=by omega
    have e2:max off (128*K)=off+(128*K-off):=by omega
    rw[e1,e2,List.range'_append_1];congr 1;omega
theorem readP_bytes {F:FileT}(hg:Good F.v F.I) {off size:Nat}(h:(off:Int)<sizeP F.x):readP F off size=fbytes F.v F.I F.x off (min size (sizeP F.x-(off:Int)).toNat):=by
 have hs:sizeP F.x<=8960:=by unfold sizeP;omega
 unfold readP;obtain⟨e,he⟩:∃e:Nat,endP F off size=(e:Int):=⟨(endP F off size).toNat,by unfold endP;split<;>omega⟩
 have he2:(e:Int)=if (size:Int)<sizeP F.x-(off:Int) then (off:Int)+size else sizeP F.x:=by rw[← he];rfl
 have he3:e<=8960:=by split at he2<;>omega
 rw[he,pieces_bytes hg (by omega) he3 _ (by omega)];congr 1;unfold blocksP;split at he2<;>omega
theorem readE_bytes {v:List (List UInt8)}{I k:Int}(hg:Good v I) {off size:Nat}:readE v I k off size=(fbytes v I (inoAt v k) off (min size (sizeP (inoAt v k)-(off:Int)).toNat),0):=by
 unfold readE;rw[if_neg (by omega)];by_cases h:sizeP (fileOf v I k).x<=(off:Int)
 ·rw[if_pos h];have:sizeP (inoAt v k)<=(off:Int):=h;rw[show min size (sizeP (inoAt v k)-(off:Int)).toNat=0 by omega];rfl
 ·rw[if_neg h,Int.toNat_natCast,Int.toNat_natCast,readP_bytes (F:=fileOf v I k) hg (by omega)];rfl
end Go.Proofs.YtfaplefkakpgcaaGreatDoor
namespace Go.Proofs.YtfaplefkakpgcaaGreatDoor
open Go.Proofs.Tryz
open Go.RowKit
theorem greatX_any (F B:Option Addr) (fc bc:Nat) (fr bl:List (List UInt8)) (s:List UInt8) (hs:s.length<=9223372036854775807) (w:World) (hF:Strs w F fr.length fr) (hB:Strs w B bl.length bl) (hfn:fr.length<=9223372036854775807) (hbn:bl.length<=9223372036854775807) :
  Calls prog 9 #[.agg #[.slice F fr.length fc,.slice B bl.length bc,.string (str s)]] w λe w'=>(∃n:Int,e=.returned (.int .i64 n)/\(n<=0->fr.length<=20/\bl.length<=80/\s.length<=4000))/\Ext w w':=by
 have hz:=str_size;have x0:=(Ext.refl w).alloc (.cells #[.slice F fr.length fc,.slice B bl.length bc,.string (str s)] 24);have bx:=Box.new w 24 #[.slice F fr.length fc,.slice B bl.length bc,.string (str s)];have HF:=lh_ (hF.ext x0);have HB:=lh_ (hB.ext x0);clear hF hB;go_enter func9,ntmps9;go_upto_region 1 with fail;generalize w.alloc (.cells #[.slice F fr.length fc,.slice B bl.length bc,.string (str s)] 24)=w0 at x0 bx HF HB ⊢;have HBX:=lh_ bx;generalize w.heap.size=G at *;have q0:w0.cell? ⟨G,0,none⟩=some (.slice F fr.length fc):=bx.cell 0;have q1:w0.cell? ⟨G,1,none⟩=some (.slice B bl.length bc):=bx.cell 1;have q2:w0.cell? ⟨G,2,none⟩=some (.string (str s)):=bx.cell 2;clear bx;by_cases c1:(20:Int)<fr.length
 ·go_wp2_with fail;go_ret;exact⟨⟨1,rfl,λh=>by omega⟩,x0⟩
 ·by_cases c2:(80:Int)<bl.length
  ·go_wp2_with fail;go_ret;exact⟨⟨1,rfl,λh=>by omega⟩,x0⟩
  ·by_cases c5:(4000:Int)<s.length
   ·go_wp2_with fail;go_ret;exact⟨⟨1,rfl,λh=>by omega⟩,x0⟩
   go_upto_region 4 with fail;have HC12:=lh_ (show fr.length<=20/\bl.length<=80/\s.length<=4000 by omega);clear c1 c2 c5;go_loop [3,24] (λ_ i=>∃k:Nat,k<=fr.length/\i=.int .i64 k) (λ_ i=>fr.length-(intOf i).toNat);case atStart=>exact⟨0,by omega,rfl⟩
   case round =>
    obtain⟨k,hk,rfl⟩:=hrel;by_cases hlt:k<fr.length
    ·obtain⟨b,o,hA,hcell⟩:=HF.out.2 (by omega);subst hA;have hck:=hcell k hlt;have hki:(k:Int)<(fr.length:Int):=by omega
     clear hcell;generalize fr[k]=t at *;by_cases c3:(200:Int)<t.length
     ·go_wp2_with fail;go_ret;exact⟨⟨1,rfl,λh=>by omega⟩,x0⟩
     ·go_wp2_with fail;go_round;case rel=>exact⟨k+1,by omega,by go_num⟩
      case measure=>simp[intOf];omega
    ·have hkn:¬(k:Int)<(fr.length:Int):=by omega
     go_upto_region 10 with fail;go_loop [4,38] (λ_ i=>∃k:Nat,k<=bl.length/\i=.int .i64 k) (λ_ i=>bl.length-(intOf i).toNat);case atStart=>exact⟨0,by omega,rfl⟩
     case round =>
      obtain⟨k2,hk2,rfl⟩:=hrel;by_cases hlt2:k2<bl.length
      ·obtain⟨b,o,hA,hcell⟩:=HB.out.2 (by omega);subst hA;have hck:=hcell k2 hlt2;have hki:(k2:Int)<(bl.length:Int):=by omega
       clear hcell;generalize bl[k2]=t at *;by_cases c3:(200:Int)<t.length
       ·go_wp2_with fail;go_ret;exact⟨⟨1,rfl,λh=>by omega⟩,x0⟩
       ·go_wp2_with fail;go_round;case rel=>exact⟨k2+1,by omega,by go_num⟩
        case measure=>simp[intOf];omega
      ·have hkn2:¬(k2:Int)<(bl.length:Int):=by omega
       go_wp2_with fail;go_ret;exact⟨⟨0,rfl,λ_=>HC12.out⟩,x0⟩
end Go.Proofs.YtfaplefkakpgcaaGreatDoor
