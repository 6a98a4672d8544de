/- The document's directories: May, one. -/
import Derived.Test.YtfaplefkakpgcaaGreatDoorXf33
import Derived.Test.YtfaplefkakpgcaaGreatDoorXf10
set_option linter.unusedVariables false
set_option linter.unusedSimpArgs false
set_option maxHeartbeats 32000000
set_option maxRecDepth 100000
namespace Go.Proofs.YtfaplefkakpgcaaGreatDoor
open Go.Proofs.Tryz
open Go.RowKit
theorem rput1 (n:Int) (w:World) (h0:0<=n) (h1:n<=255) :
  Calls prog 85 #[.int .u64 n,.int .i64 1] w λe w'=>e=.returned (.string (str [b8 n]))/\Ext w w':=by
 have hz:=str_size;have hap:=str_app;have hk:(⟨#[]⟩:ByteArray)=str []:=rfl;have u1:n%256=n:=by omega
 have k1:=conv_one w n w.heap.size rfl;go_enter func85,ntmps85;go_wp2_with fail;refine wp_loop_rounds 2 ?_;rw[rounds_succ];go_wp2_with fail;rw[rounds_succ];go_wp2_with fail;go_ret;exact⟨rfl,(Ext.refl _).alloc _⟩
theorem rmay20_any (s:List UInt8) (w:World) (hs:s.length<=1000000000) :
  Calls prog 200 #[.string (str s)] w λe w'=>e=.returned (.bool (mayD s))/\w=w':=by
 have hz:=str_size;by_cases h0:s=[]
 ·subst h0;go_enter func200,ntmps200;go_wp2_with fail;go_ret;exact⟨rfl,rfl⟩
 have hpos:0<s.length:=List.length_pos_iff.2 h0;by_cases h1:24<s.length
 ·have HM:=lh_ (show mayD s=false by unfold mayD;rw[show decide (s.length<=24)=false by simp;omega];simp);have q1:decide ((s.length:Int)<1)=false:=by simp;omega
  have q2:decide ((24:Int)<(s.length:Int))=true:=by simp;omega
  go_enter func200,ntmps200;go_wp2_with fail;go_ret;rw[HM.out];exact⟨rfl,rfl⟩
 have q1:decide ((s.length:Int)<1)=false:=by simp;omega
 have q2:decide ((24:Int)<(s.length:Int))=false:=by simp;omega
 by_cases h2:s=[46]
 ·subst h2;have d2:(str [46]).toList=[46]:=str_toList _;go_enter func200,ntmps200;go_wp2_with fail;go_ret;exact⟨rfl,rfl⟩
 by_cases h3:s=[46,46]
 ·subst h3;have d2:(str [46,46]).toList=[46,46]:=str_toList _;go_enter func200,ntmps200;go_wp2_with fail;go_ret;exact⟨rfl,rfl⟩
 have d2:((str s).toList==[46])=false:=by rw[str_toList];simpa using h2
 have d3:((str s).toList==[46,46])=false:=by rw[str_toList];simpa using h3
 have d4:¬(str s).toList=[46]:=by rw[str_toList];exact h2
 have d5:¬(str s).toList=[46,46]:=by rw[str_toList];exact h3
 have HYes:=lh_ (show s.all okD=true->mayD s=true fromλh=>by unfold mayD;simp only[h,Bool.and_true,Bool.and_eq_true,decide_eq_true_eq];exact⟨⟨⟨h0,by omega⟩,h2⟩,h3⟩);clear h2 h3;go_enter func200,ntmps200;go_wp2_with fail;clear d2 d3 d4 d5 q1 q2;go_loop [3,4] (λi _=>∃k:Nat,k<=s.length/\i=.int .i64 k/\∀(j:Nat) (h:j<s.length),j<k->okD s[j]=true) (λi _=>s.length-(intOf i).toNat);case atStart=>exact⟨0,by omega,rfl,λj _ h=>by omega⟩
 case round =>
  obtain⟨k,hk,rfl,hok⟩:=hrel;have HO:=lh_ hok;clear hok;by_cases hlt:k<s.length
  ·have hki:(k:Int)<(s.length:Int):=by omega
   have hkb:k<(str s).size:=by rw[str_size];exact hlt
   have hck:(str s)[k]'hkb=s[k]:=rfl;have HB:=lh_ (@mayD_bad s k hlt);have HN:=lh_ (show okD s[k]=true->∀(j:Nat) (h:j<s.length),j<k+1->okD s[j]=true fromλh j hj hlt2=>by
    by_cases e:j<k
    ·exact HO.out j hj e
    ·obtain rfl:j=k:=by omega
     exact h)
   have hcb:=s[k].toNat_lt;have HE:Hid (okD s[k]=decide (97<=s[k].toNat/\s[k].toNat<=122\/65<=s[k].toNat/\s[k].toNat<=90\/48<=s[k].toNat/\s[k].toNat<=57\/s[k].toNat=45\/s[k].toNat=95\/s[k].toNat=46)):=rfl;generalize s[k]=ch at *;rcases(by omega:(97<=ch.toNat/\ch.toNat<=122)\/(65<=ch.toNat/\ch.toNat<=90)\/(48<=ch.toNat/\ch.toNat<=57)\/(ch.toNat=45)\/(ch.toNat=95)\/(ch.toNat=46)\/(123<=ch.toNat)\/(91<=ch.toNat/\ch.toNat<=96/\ch.toNat≠95)\/(58<=ch.toNat/\ch.toNat<=64)\/(ch.toNat<=47/\ch.toNat≠46/\ch.toNat≠45)) with hc|hc|hc|hc|hc|hc|hc|hc|hc|hc
   iterate 6
    ·have hyes:okD ch=true:=by rw[HE.out];simp;omega
     have e45:((ch.toNat:Int) != 45)= !decide (ch.toNat=45):=by rw[Bool.eq_iff_iff];simp;omega
     have e95:((ch.toNat:Int) != 95)= !decide (ch.toNat=95):=by rw[Bool.eq_iff_iff];simp;omega
     have e46:((ch.toNat:Int) != 46)= !decide (ch.toNat=46):=by rw[Bool.eq_iff_iff];simp;omega
     have q97:decide ((97:Int)<=(ch.toNat:Int))=decide (97<=ch.toNat):=by simp;omega
     have q122:decide ((ch.toNat:Int)<=122)=decide (ch.toNat<=122):=by simp;omega
     have q65:decide ((65:Int)<=(ch.toNat:Int))=decide (65<=ch.toNat):=by simp;omega
     have q90:decide ((ch.toNat:Int)<=90)=decide (ch.toNat<=90):=by simp;omega
     have q48:decide ((48:Int)<=(ch.toNat:Int))=decide (48<=ch.toNat):=by simp;omega
     have q57:decide ((ch.toNat:Int)<=57)=decide (ch.toNat<=57):=by simp;omega
     clear HE;go_wp2_with fail;go_round;case rel=>exact⟨k+1,by omega,by go_num,HN.out hyes⟩
     case measure=>simp[intOf];omega
   ·have hno:okD ch=false:=by rw[HE.out];simp;omega
    have e46:((ch.toNat:Int) != 46)=true:=by simp;omega
    have e95:((ch.toNat:Int) != 95)=true:=by simp;omega
    have e45:((ch.toNat:Int) != 45)=true:=by simp;omega
    have q97:decide ((97:Int)<=(ch.toNat:Int))=true:=by simp;omega
    have q122:decide ((ch.toNat:Int)<=122)=false:=by simp;omega
    have q65:decide ((65:Int)<=(ch.toNat:Int))=true:=by simp;omega
    have q90:decide ((ch.toNat:Int)<=90)=false:=by simp;omega
    have q48:decide ((48:Int)<=(ch.toNat:Int))=true:=by simp;omega
    have q57:decide ((ch.toNat:Int)<=57)=false:=by simp;omega
    clear HE hc;go_wp2_with fail;go_ret;rw[HB.out hno];exact⟨rfl,rfl⟩
   ·have hno:okD ch=false:=by rw[HE.out];simp;omega
    have e46:((ch.toNat:Int) != 46)=true:=by simp;omega
    have e95:((ch.toNat:Int) != 95)=true:=by simp;omega
    have e45:((ch.toNat:Int) != 45)=true:=by simp;omega
    have q97:decide ((97:Int)<=(ch.toNat:Int))=false:=by simp;omega
    have q122:decide ((ch.toNat:Int)<=122)=true:=by simp;omega
    have q65:decide ((65:Int)<=(ch.toNat:Int))=true:=by simp;omega
    have q90:decide ((ch.toNat:Int)<=90)=false:=by simp;omega
    have q48:decide ((48:Int)<=(ch.toNat:Int))=true:=by simp;omega
    have q57:decide ((ch.toNat:Int)<=57)=false:=by simp;omega
    clear HE hc;go_wp2_with fail;go_ret;rw[HB.out hno];exact⟨rfl,rfl⟩
   ·have hno:okD ch=false:=by rw[HE.out];simp;omega
    have e46:((ch.toNat:Int) != 46)=true:=by simp;omega
    have e95:((ch.toNat:Int) != 95)=true:=by simp;omega
    have e45:((ch.toNat:Int) != 45)=true:=by simp;omega
    have q97:decide ((97:Int)<=(ch.toNat:Int))=false:=by simp;omega
    have q122:decide ((ch.toNat:Int)<=122)=true:=by simp;omega
    have q65:decide ((65:Int)<=(ch.toNat:Int))=false:=by simp;omega
    have q90:decide ((ch.toNat:Int)<=90)=true:=by simp;omega
    have q48:decide ((48:Int)<=(ch.toNat:Int))=true:=by simp;omega
    have q57:decide ((ch.toNat:Int)<=57)=false:=by simp;omega
    clear HE hc;go_wp2_with fail;go_ret;rw[HB.out hno];exact⟨rfl,rfl⟩
   ·have hno:okD ch=false:=by rw[HE.out];simp;omega
    have e46:((ch.toNat:Int) != 46)=true:=by simp;omega
    have e95:((ch.toNat:Int) != 95)=true:=by simp;omega
    have e45:((ch.toNat:Int) != 45)=true:=by simp;omega
    have q97:decide ((97:Int)<=(ch.toNat:Int))=false:=by simp;omega
    have q122:decide ((ch.toNat:Int)<=122)=true:=by simp;omega
    have q65:decide ((65:Int)<=(ch.toNat:Int))=false:=by simp;omega
    have q90:decide ((ch.toNat:Int)<=90)=true:=by simp;omega
    have q48:decide ((48:Int)<=(ch.toNat:Int))=false:=by simp;omega
    have q57:decide ((ch.toNat:Int)<=57)=true:=by simp;omega
    clear HE hc;go_wp2_with fail;go_ret;rw[HB.out hno];exact⟨rfl,rfl⟩
  ·obtain rfl:k=s.length:=by omega
   have HT:=lh_ (HYes.out (by rw[List.all_eq_true];intro c hc;obtain⟨j,hj,rfl⟩:=List.getElem_of_mem hc;exact HO.out j hj hj));go_wp2_with fail;go_ret;rw[HT.out];exact⟨rfl,rfl⟩
theorem fill_zs {hd:List UInt8}{m:Nat}(hm:hd.length+m<=32):fillP hd 32=(hd++zs m)++zs (32-(hd.length+m)):=by
 unfold fillP;rw[List.append_assoc];congr 1;unfold zs;rw[List.replicate_append_replicate];congr 1;omega
theorem rone_any (x:Ent) (w:World) (h1:x.1.length<=24) (h2:0<=x.2) (h3:x.2<65536) :
  Calls prog 242 #[.agg #[.string (str x.1),.int .i64 x.2]] w λe w'=>e=.returned (.string (str (entP x)))/\Ext w w':=by
 have hz:=str_size;have hap:=str_app;obtain⟨name,ino⟩:=x;simp only at h1 h2 h3;obtain⟨hd,hhd⟩:∃hd:List UInt8,hd=b8 (ino%256)::b8 (ino/256)::b8 name.length::0::name:=⟨_,rfl⟩
 have hL:hd.length=4+name.length:=by rw[hhd];simp;omega
 have HE:=lh_ (show entP (name,ino)=fillP hd 32 from by
  unfold entP;rw[show two2 ino++[b8 name.length]++[0]++name=hd from by rw[hhd];rfl])
 have HF:=lh_ (λm (hm:hd.length+m<=32)=>fill_zs hm);have b1:=Box.new w 154 #[.string (str name),.int .i64 ino];have x1:Ext w (w.alloc (.cells #[.string (str name),.int .i64 ino] 154)):=(Ext.refl w).alloc _;have u1:IntKind.u64.wrap ino=ino:=by rw[IntKind.wrap_u64];omega
 have u2:IntKind.u64.wrap (name.length:Int)=name.length:=by rw[IntKind.wrap_u64];omega
 have HP2:=lh_ (λw=>rput2 ino w h2 (by omega));have HP1:=lh_ (λw=>rput1 (name.length:Int) w (by omega) (by omega));have c0:∀y:Later (w.alloc (.cells #[.string (str name),.int .i64 ino] 154)),y.now.cell? ⟨w.heap.size,0,none⟩=some (.string (str name)):=λy=>y.ext.keep (b1.cell 0);have c1:∀y:Later (w.alloc (.cells #[.string (str name),.int .i64 ino] 154)),y.now.cell? ⟨w.heap.size,1,none⟩=some (.int .i64 ino):=λy=>y.ext.keep (b1.cell 1);have hk:(⟨#[0]⟩:ByteArray)=str [0]:=rfl;have hZ:=lh_ (λm=>show zs m++[0]=zs (m+1) by unfold zs;rw[List.replicate_succ']);go_enter func242,ntmps242;go_upto_region 1 with fail;refine wp_region_later (by kernel_rfl) (by kernel_rfl) ?_;repeat (go_big_quiet_step ((first|(with_reducible exact later_of (HP2.out _))|(with_reducible exact later_of (HP1.out _)))))
 refine wpQuiet_nil ?_;rintro w2 ⟨y,rfl⟩;have hg2:=x1.trans y.ext;clear c0 c1 b1;generalize y.now=w2 at *;rw[← hhd];clear hhd;go_wp2_with fail;go_loop [3] (λs=>∃m:Nat,hd.length+m<=32/\s=.string (str (hd++zs m))) (λs=>32-(match s with|.string b=>b.size|_=>0));case atStart=>exact⟨0,by omega,by simp[zs]⟩
 case round =>
  obtain⟨m,hm,rfl⟩:=hrel;have HL:=lh_ (show(hd++zs m).length=hd.length+m by rw[List.length_append,zs_len]);have HH:=lh_ (HF.out m hm);have HN:Hid (hd++zs m++[0]=hd++zs (m+1)):=by rw[List.append_assoc];exact congrArg _ (hZ.out m)
  generalize hd++zs m=b at *;by_cases hlt:hd.length+m<32
  ·have hi:(b.length:Int)<32:=by have:=HL.out;omega
   go_wp2_with fail;go_round;case rel=>exact⟨m+1,by omega,by rw[← HN.out]⟩
   case measure => simp only[str_size,List.length_append,List.length_cons,List.length_nil];omega
  ·have hi:¬(b.length:Int)<32:=by have:=HL.out;omega
   have hEq:entP (name,ino)=b:=by rw[HE.out,HH.out,show 32-(hd.length+m)=0 by omega];simp[zs]
   have hEE:=lh_ hEq;clear hEq;go_wp2_with fail;go_ret;exact⟨by rw[hEE.out];rfl,hg2⟩
end Go.Proofs.YtfaplefkakpgcaaGreatDoor
