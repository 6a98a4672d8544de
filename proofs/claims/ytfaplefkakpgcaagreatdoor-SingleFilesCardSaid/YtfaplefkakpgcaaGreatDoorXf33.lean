/- A directory's bytes and names: plain. -/
import Derived.Test.YtfaplefkakpgcaaGreatDoorXf16
import Derived.Test.YtfaplefkakpgcaaGreatDoorXf22
set_option linter.unusedVariables false
set_option linter.unusedSimpArgs false
set_option maxHeartbeats 32000000
set_option maxRecDepth 100000
namespace Go.Proofs.YtfaplefkakpgcaaGreatDoor
def okD (c:UInt8):Bool:=decide (97<=c.toNat/\c.toNat<=122\/65<=c.toNat/\c.toNat<=90\/48<=c.toNat/\c.toNat<=57\/c.toNat=45\/c.toNat=95\/c.toNat=46)
def mayD (s:List UInt8):Bool:=decide (s≠[])&&decide (s.length<=24)&&decide (s≠[46])&&decide (s≠[46,46])&&s.all okD
theorem mayD_bad {s:List UInt8}{k:Nat}(hk:k<s.length) (h:okD s[k]=false):mayD s=false:=by
 unfold mayD;rw[show s.all okD=false from List.all_eq_false.2 ⟨s[k],List.getElem_mem hk,by rw[h];simp⟩];simp
theorem mayD_len {s:List UInt8}(h:mayD s=true):1<=s.length/\s.length<=24:=by
 unfold mayD at h;simp only[Bool.and_eq_true,decide_eq_true_eq]at h;exact⟨Nat.pos_of_ne_zero λe=>h.1.1.1.1 (List.eq_nil_of_length_eq_zero e),h.1.1.1.2⟩
abbrev Ent:=List UInt8 × Int
def entP (x:Ent):List UInt8:=fillP (two2 x.2++[b8 x.1.length]++[0]++x.1) 32
def entOf (o:List UInt8):Ent:=((o.drop 4).take (o.getD 2 0).toNat,(numL (o.take 2):Int))
def okE (o:List UInt8):Bool:=decide ((o.getD 2 0).toNat<=24)&&decide (1<=(entOf o).2)&&decide ((entOf o).2<=64)&&mayD (entOf o).1&&decide (entP (entOf o)=o)
def lessE (l:List Ent) (x:Ent):Bool:=match l.getLast? with
 | none=>true
 | some y=>ltB y.1 x.1
def pieceE (b:List UInt8) (k:Nat):List UInt8:=(b.drop (32*k)).take 32
def entsP (b:List UInt8):Nat->Option (List Ent)
 | 0=>some []
 | k+1=>match entsP b k with
  | none=>none
  | some l=>if okE (pieceE b k)&&lessE l (entOf (pieceE b k)) then some (l++[entOf (pieceE b k)]) else none
def entriesP (b:List UInt8):Option (List Ent):=if b.length%32=0 then entsP b (b.length/32) else none
theorem entsP_yes {b:List UInt8}{k:Nat}{l:List Ent}(h:entsP b k=some l) (h1:okE (pieceE b k)=true) (h2:lessE l (entOf (pieceE b k))=true):entsP b (k+1)=some (l++[entOf (pieceE b k)]):=by
 simp only[entsP,h,h1,h2,Bool.and_self,if_true]
theorem entsP_no {b:List UInt8}{k:Nat}{l:List Ent}(h:entsP b k=some l) (h1:okE (pieceE b k)=false\/lessE l (entOf (pieceE b k))=false):entsP b (k+1)=none:=by
 simp only[entsP,h];rcases h1 with h1|h1<;>simp[h1]
theorem entsP_none {b:List UInt8}{k:Nat}(h:entsP b k=none):∀m,k<=m->entsP b m=none:=by
 intro m hm;induction m with
 | zero=>obtain rfl:k=0:=(by omega);exact h
 | succ m ih =>
  by_cases e:k=m+1
  ·subst e;exact h
  ·simp only[entsP,ih (by omega)]
theorem entsP_len {b:List UInt8}:∀{k:Nat}{l:List Ent},entsP b k=some l->l.length=k
 | 0,l,h=>by cases h;rfl
 | k+1,l,h=>by
  simp only[entsP]at h;cases h1:entsP b k with
  | none=>rw[h1]at h;cases h
  | some l1 =>
   rw[h1]at h;simp only at h;split at h
   ·cases h;rw[List.length_append,entsP_len h1];rfl
   ·cases h
def EntsOk (l:List Ent):Prop:=(∀x∈l,mayD x.1=true/\1<=x.2/\x.2<=64)/\l.Pairwise λa b=>ltB a.1 b.1=true
theorem entsP_ok {b:List UInt8}:∀{k:Nat}{l:List Ent},entsP b k=some l->EntsOk l
 | 0,l,h=>by cases h;exact⟨λx hx=>absurd hx List.not_mem_nil,List.Pairwise.nil⟩
 | k+1,l,h=>by
  simp only[entsP]at h;cases h1:entsP b k with
  | none=>rw[h1]at h;cases h
  | some l1 =>
   rw[h1]at h;simp only at h;split at h
   ·rename_i hc;cases h;have ih:=entsP_ok h1;simp only[Bool.and_eq_true]at hc;have ho:=hc.1;unfold okE at ho;simp only[Bool.and_eq_true,decide_eq_true_eq]at ho;refine⟨λx hx=>?_,?_⟩
    ·rcases List.mem_append.1 hx with hx|hx
     ·exact ih.1 x hx
     ·obtain rfl:=List.mem_singleton.1 hx;exact⟨ho.1.2,ho.1.1.1.2,ho.1.1.2⟩
    ·refine List.pairwise_append.2 ⟨ih.2,List.pairwise_singleton _ _,λa ha c hcc=>?_⟩;obtain rfl:=List.mem_singleton.1 hcc;have hl:=hc.2;unfold lessE at hl;cases hq:l1.getLast? with
     | none=>rw[List.getLast?_eq_none_iff]at hq;subst hq;exact absurd ha List.not_mem_nil
     | some y =>
      rw[hq]at hl;simp only at hl;obtain⟨ys,rfl⟩:=List.getLast?_eq_some_iff.1 hq;rcases List.mem_append.1 ha with ha|ha
      ·exact ltB_trans _ _ _ ((List.pairwise_append.1 ih.2).2.2 a ha y List.mem_cons_self) hl
      ·obtain rfl:=List.mem_singleton.1 ha;exact hl
   ·cases h
theorem entriesP_ok {b:List UInt8}{l:List Ent}(h:entriesP b=some l):EntsOk l/\32*l.length=b.length:=by
 unfold entriesP at h;split at h
 ·exact⟨entsP_ok h,by rw[entsP_len h];omega⟩
 ·cases h
def posE (l:List Ent) (name:List UInt8):Nat:=(l.takeWhile λx=>ltB x.1 name).length
def hasE (l:List Ent) (name:List UInt8):Bool:=decide (posE l name<l.length)&&decide ((l.getD (posE l name) ([],0)).1=name)
theorem posE_le (l:List Ent) (name:List UInt8):posE l name<=l.length:=by
 unfold posE;have:=congrArg List.length (List.takeWhile_append_dropWhile (p:=λx:Ent=>ltB x.1 name) (l:=l));rw[List.length_append]at this;omega
theorem posE_lt {l:List Ent}{name:List UInt8}{j:Nat}(hj:j<posE l name) (hl:j<l.length):ltB l[j].1 name=true:=by
 unfold posE at hj;have h1:(l.takeWhile λx=>ltB x.1 name)[j]=l[j]:=List.IsPrefix.getElem (List.takeWhile_prefix _) hj;have h2:=List.all_takeWhile (p:=λx:Ent=>ltB x.1 name) (l:=l);rw[List.all_eq_true]at h2;rw[← h1];exact h2 _ (List.getElem_mem hj)
theorem posE_ge {l:List Ent}(hl:l.Pairwise λa b=>ltB a.1 b.1=true) {name:List UInt8}{j:Nat}(hj:posE l name<=j) (h:j<l.length):ltB l[j].1 name=false:=by
 induction l generalizing j with
 | nil=>simp at h
 | cons x l ih =>
  rw[List.pairwise_cons]at hl;unfold posE at hj;rw[List.takeWhile_cons]at hj;by_cases hx:ltB x.1 name=true
  ·rw[if_pos hx]at hj;simp only[List.length_cons]at hj;obtain⟨i,rfl⟩:∃i,j=i+1:=⟨j-1,by omega⟩
   simp only[List.getElem_cons_succ];exact ih hl.2 (by unfold posE;omega) (by simpa using h)
  ·rw[Bool.not_eq_true]at hx;cases j with
   | zero=>exact hx
   | succ i =>
    have hil:i<l.length:=by simpa using h
    simp only[List.getElem_cons_succ];have:=hl.1 l[i] (List.getElem_mem hil);cases hc:ltB l[i].1 name with
    | false=>rfl
    | true=>rw[ltB_trans _ _ _ this hc]at hx;cases hx
end Go.Proofs.YtfaplefkakpgcaaGreatDoor
namespace Go.Proofs.YtfaplefkakpgcaaGreatDoor
open Go.Proofs.Tryz
open Go.RowKit
theorem dentry_any (x:Ent) (w:World) (h1:x.1.length<=24) (h2:0<=x.2) (h3:x.2<65536) :
  Calls prog 212 #[.agg #[.string (str x.1),.int .i64 x.2]] w λe w'=>e=.returned (.string (str (entP x)))/\Ext w w':=by
 have hz:=str_size;have hap:=str_app;obtain⟨name,ino⟩:=x;simp only at h1 h2 h3;obtain⟨hd,hhd⟩:∃hd:List UInt8,hd=b8 (ino%256)::b8 (ino/256)::b8 name.length::0::name:=⟨_,rfl⟩
 have hL:hd.length=4+name.length:=by rw[hhd];simp;omega
 have HE:=lh_ (show entP (name,ino)=hd++zs (28-name.length) from by
  unfold entP fillP;rw[show two2 ino++[b8 name.length]++[0]++name=hd from by rw[hhd];rfl,hL];congr 2;omega)
 have b1:=Box.new w 154 #[.string (str name),.int .i64 ino];have x1:Ext w (w.alloc (.cells #[.string (str name),.int .i64 ino] 154)):=(Ext.refl w).alloc _;have u1:IntKind.u64.wrap ino=ino:=by rw[IntKind.wrap_u64];omega
 have u2:IntKind.u64.wrap (name.length:Int)=name.length:=by rw[IntKind.wrap_u64];omega
 have HP2:=lh_ (λw=>put2 ino w h2 (by omega));have HP1:=lh_ (λw=>put1 (name.length:Int) w (by omega) (by omega));have c0:∀y:Later (w.alloc (.cells #[.string (str name),.int .i64 ino] 154)),y.now.cell? ⟨w.heap.size,0,none⟩=some (.string (str name)):=λy=>y.ext.keep (b1.cell 0);have c1:∀y:Later (w.alloc (.cells #[.string (str name),.int .i64 ino] 154)),y.now.cell? ⟨w.heap.size,1,none⟩=some (.int .i64 ino):=λy=>y.ext.keep (b1.cell 1);have hk:(⟨#[0]⟩:ByteArray)=str [0]:=rfl;go_enter func212,ntmps212;go_upto_region 1 with fail;refine wp_region_later (by kernel_rfl) (by kernel_rfl) ?_;repeat (go_big_quiet_step ((first|(with_reducible exact later_of (HP2.out _))|(with_reducible exact later_of (HP1.out _)))))
 refine wpQuiet_nil ?_;rintro w2 ⟨y,rfl⟩;have hg2:=x1.trans y.ext;clear c0 c1 b1;generalize y.now=w2 at *;rw[← hhd];clear hhd;have hi:(32:Int)-(hd.length:Int)=((28-name.length:Nat):Int):=by omega
 have hi2:(32:Int)-(4+(name.length:Int))=((28-name.length:Nat):Int):=by omega
 have HR:=lh_ (λw=>repeat_any (28-name.length) w (by omega));go_wp2_with (go_at_call 119;refine(HR.out _).mono ?_;rintro e w3 ⟨rfl,x3⟩)
 go_ret;exact⟨by rw[HE.out];rfl,hg2.trans x3⟩
theorem dmay_any (s:List UInt8) (w:World) (hs:s.length<=1000000000) :
  Calls prog 110 #[.string (str s)] w λe w'=>e=.returned (.bool (mayD s))/\Ext w w':=by
 have hz:=str_size;have HT:=lh_ (λt=>str_toList t);by_cases h0:s=[]
 ·subst h0;have d1:(str []).toList=[]:=str_toList [];go_enter func110,ntmps110;go_wp2_with fail;go_ret;exact⟨rfl,Ext.refl _⟩
 have d1:(str s).toList.isEmpty=false:=by rw[str_toList];cases s with
  | nil=>exact absurd rfl h0
  | cons a l=>rfl
 by_cases h1:24<s.length
 ·have HM:=lh_ (show mayD s=false by unfold mayD;rw[show decide (s.length<=24)=false by simp;omega];simp);go_enter func110,ntmps110;go_wp2_with fail;go_ret;rw[HM.out];exact⟨rfl,Ext.refl _⟩
 by_cases h2:s=[46]
 ·subst h2;have d2:(str [46]).toList=[46]:=str_toList _;go_enter func110,ntmps110;go_wp2_with fail;go_ret;exact⟨rfl,Ext.refl _⟩
 by_cases h3:s=[46,46]
 ·subst h3;have d2:(str [46,46]).toList=[46,46]:=str_toList _;go_enter func110,ntmps110;go_wp2_with fail;go_ret;exact⟨rfl,Ext.refl _⟩
 have d2:((str s).toList==[46])=false:=by rw[str_toList];simpa using h2
 have d3:((str s).toList==[46,46])=false:=by rw[str_toList];simpa using h3
 have d4:¬(str s).toList=[46]:=by rw[str_toList];exact h2
 have d5:¬(str s).toList=[46,46]:=by rw[str_toList];exact h3
 have HYes:=lh_ (show s.all okD=true->mayD s=true fromλh=>by unfold mayD;simp only[h,Bool.and_true,Bool.and_eq_true,decide_eq_true_eq];exact⟨⟨⟨h0,by omega⟩,h2⟩,h3⟩);clear h2 h3;go_enter func110,ntmps110;go_wp2_with (refine wp_conv_bytes (.tmp 20) rfl rfl rfl ?_;intro cap w1 hc1 x1;have HC:=lh_ hc1;clear hc1)
 clear d1 d2 d3 d4 d5;go_loop [4,23,27,46] (λ_ i _ _=>∃k:Nat,k<=s.length/\i=.int .i64 k/\∀(j:Nat) (h:j<s.length),j<k->okD s[j]=true) (λ_ i _ _=>s.length-(intOf i).toNat);case atStart=>exact⟨0,by omega,rfl,λj _ h=>by omega⟩
 case round =>
  obtain⟨k,hk,rfl,hok⟩:=hrel;have HO:=lh_ hok;clear hok;by_cases hlt:k<s.length
  ·have hck:=HC.out k hlt;have HB:=lh_ (@mayD_bad s k hlt);have HN:=lh_ (show okD s[k]=true->∀(j:Nat) (h:j<s.length),j<k+1->okD s[j]=true fromλh j hj hlt2=>by
    by_cases e:j<k
    ·exact HO.out j hj e
    ·obtain rfl:j=k:=by omega
     exact h)
   have hcb:=s[k].toNat_lt;have HE:Hid (okD s[k]=decide (97<=s[k].toNat/\s[k].toNat<=122\/65<=s[k].toNat/\s[k].toNat<=90\/48<=s[k].toNat/\s[k].toNat<=57\/s[k].toNat=45\/s[k].toNat=95\/s[k].toNat=46)):=rfl;generalize s[k]=ch at *;rcases(by omega:(97<=ch.toNat/\ch.toNat<=122)\/(65<=ch.toNat/\ch.toNat<=90)\/(48<=ch.toNat/\ch.toNat<=57)\/(ch.toNat=45)\/(ch.toNat=95)\/(ch.toNat=46)\/(123<=ch.toNat)\/(91<=ch.toNat/\ch.toNat<=96/\ch.toNat≠95)\/(58<=ch.toNat/\ch.toNat<=64)\/(ch.toNat<=47/\ch.toNat≠46/\ch.toNat≠45)) with hc|hc|hc|hc|hc|hc|hc|hc|hc|hc
   iterate 6
    ·have hyes:okD ch=true:=by rw[HE.out];simp;omega
     have e45:((ch.toNat:Int)==45)=decide (ch.toNat=45):=by rw[Bool.eq_iff_iff];simp;omega
     have e95:((ch.toNat:Int)==95)=decide (ch.toNat=95):=by rw[Bool.eq_iff_iff];simp;omega
     have e46:((ch.toNat:Int)==46)=decide (ch.toNat=46):=by rw[Bool.eq_iff_iff];simp;omega
     have q97:decide ((97:Int)<=(ch.toNat:Int))=decide (97<=ch.toNat):=by simp;omega
     have q122:decide ((ch.toNat:Int)<=122)=decide (ch.toNat<=122):=by simp;omega
     have q65:decide ((65:Int)<=(ch.toNat:Int))=decide (65<=ch.toNat):=by simp;omega
     have q90:decide ((ch.toNat:Int)<=90)=decide (ch.toNat<=90):=by simp;omega
     have q48:decide ((48:Int)<=(ch.toNat:Int))=decide (48<=ch.toNat):=by simp;omega
     have q57:decide ((ch.toNat:Int)<=57)=decide (ch.toNat<=57):=by simp;omega
     clear HE;go_wp2_with fail;go_round;case rel=>exact⟨k+1,by omega,by go_num,HN.out hyes⟩
     case measure=>simp[intOf];omega
   all_goals
    have hno:okD ch=false:=by rw[HE.out];simp;omega
    have e46:((ch.toNat:Int)==46)=false:=by simp;omega
    have e95:((ch.toNat:Int)==95)=false:=by simp;omega
    have e45:((ch.toNat:Int)==45)=false:=by simp;omega
    clear HE;go_wp2_with fail;go_ret;rw[HB.out hno];exact⟨rfl,x1⟩
  ·obtain rfl:k=s.length:=by omega
   have HT:=lh_ (HYes.out (by rw[List.all_eq_true];intro c hc;obtain⟨j,hj,rfl⟩:=List.getElem_of_mem hc;exact HO.out j hj hj));go_wp2_with fail;go_ret;rw[HT.out];exact⟨rfl,x1⟩
end Go.Proofs.YtfaplefkakpgcaaGreatDoor
