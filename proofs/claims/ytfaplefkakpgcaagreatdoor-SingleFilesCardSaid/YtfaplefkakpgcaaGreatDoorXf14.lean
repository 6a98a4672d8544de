/- The document's Int of any text. -/
import Derived.Test.YtfaplefkakpgcaaGreatDoorXf12
import Derived.Test.YtfaplefkakpgcaaGreatDoorXf13
import Derived.Test.YtfaplefkakpgcaaGreatDoorXf10
import Derived.Test.YtfaplefkakpgcaaGreatDoorXf8
import Derived.Test.YtfaplefkakpgcaaGreatDoorXf2
import Derived.Test.YtfaplefkakpgcaaGreatDoorXf7
import Derived.Test.YtfaplefkakpgcaaGreatDoorXf6
set_option linter.unusedVariables false
set_option linter.unusedSimpArgs false
set_option maxHeartbeats 32000000
set_option maxRecDepth 100000
namespace Go.Proofs.YtfaplefkakpgcaaGreatDoor
open Go.Proofs.Tryz
open Go.RowKit
def valS (σ:Int) (l:List UInt8):Int:=l.foldl (λa c=>a*10+σ*((c.toNat:Int)-48)) 0
def isNeg (s:List UInt8):Bool:=s.head?==some 45
def sgn (s:List UInt8):Int:=if isNeg s then -1 else 1
def preS (s:List UInt8) (k:Nat):List UInt8:=if isNeg s then (s.take k).drop 1 else s.take k
theorem valS_snoc (σ:Int) (l:List UInt8) (c:UInt8):valS σ (l++[c])=valS σ l*10+σ*((c.toNat:Int)-48):=by
 unfold valS;rw[List.foldl_append];rfl
theorem valS_digits (σ:Int) (u:Nat):valS σ (Lib.decDigits u)=σ*u:=by
 induction u using Nat.strongRecOn with
 | ind u ih =>
  by_cases h:u<10
  ·rw[Lib.decDigits_one h,show[UInt8.ofNat (48+u)]=[]++[UInt8.ofNat (48+u)] from rfl,valS_snoc,dig_toNat h];show(0:Int)*10+_=_;rw[show(((48+u:Nat):Int)-48)=(u:Int) by omega,Int.zero_mul,Int.zero_add]
  ·rw[digits_step (by omega),valS_snoc,ih (u/10) (by omega),dig_toNat (Nat.mod_lt _ (by omega)),show(((48+u%10:Nat):Int)-48)=((u%10:Nat):Int) by omega,Int.mul_assoc,← Int.mul_add];congr 1;omega
theorem neg_not (u:Nat):isNeg (Lib.decDigits u)=false:=by
 unfold isNeg;have h:=@digits_le u;cases e:Lib.decDigits u with
 | nil=>rfl
 | cons c r =>
  have:=h c (by rw[e];exact List.mem_cons_self);have:c≠45:=λe2=>by rw[e2]at this;exact absurd this.1 (by decide)
  simpa using this
theorem itoa_val (v:Int):valS (sgn (Lib.itoa v)) (preS (Lib.itoa v) (Lib.itoa v).length)=v/\∀c∈preS (Lib.itoa v) (Lib.itoa v).length,48<=c.toNat/\c.toNat<=57:=by
 unfold sgn preS;rw[List.take_length];unfold Lib.itoa;split
 ·rename_i h;have e:isNeg (45::Lib.decDigits v.natAbs)=true:=rfl;rw[e,if_pos rfl,if_pos rfl,List.drop_one,List.tail_cons,valS_digits];exact⟨by omega,digits_le⟩
 ·rename_i h;rw[neg_not,if_neg (by decide),if_neg (by decide),valS_digits];exact⟨by omega,digits_le⟩
theorem itoa_ne (v:Int):Lib.itoa v≠[]:=by
 unfold Lib.itoa;split
 ·exact List.cons_ne_nil _ _
 ·exact digits_ne _
theorem intP_some {s:List UInt8}{v:Int}(h:intP s=some v):N64 v/\Lib.itoa v=s:=by
 unfold intP at h;split at h
 ·rename_i n hp;split at h
  ·rename_i e;injection h with h;subst h;exact⟨parse_fits hp,e⟩
  ·cases h
 ·cases h
theorem intP_no {s:List UInt8}(h:∀v,N64 v->Lib.itoa v≠s):intP s=none:=by
 cases e:intP s with
 | none=>rfl
 | some v=>exact absurd (intP_some e).2 (h v (intP_some e).1)
theorem preS_next {s:List UInt8}{k:Nat}(hk:k<s.length) (h:¬(k=0/\s[k]=45)):preS s (k+1)=preS s k++[s[k]]:=by
 unfold preS;have ht:s.take (k+1)=s.take k++[s[k]]:=List.take_succ_eq_append_getElem hk;split
 ·rename_i hn;have hk0:0<k:=by
   rcases Nat.eq_zero_or_pos k with e|e
   ·subst e;exfalso;refine h ⟨rfl,?_⟩;unfold isNeg at hn;cases s with
    | nil=>exact absurd hk (by simp)
    | cons c r=>simpa using hn
   ·exact e
  rw[ht,List.drop_append_of_le_length (by rw[List.length_take];omega)]
 ·exact ht
theorem preS_part {s:List UInt8}:∀k,k<=s.length->∀c∈preS s k,c∈preS s s.length:=by
 intro k hk c hc;unfold preS at hc ⊢;rw[List.take_length];split at hc
 ·rw[if_pos (by assumption)];rw[List.drop_take]at hc;exact List.mem_of_mem_take hc
 ·rw[if_neg (by assumption)];exact List.mem_of_mem_take hc
theorem wrap_step (V d:Int):wrap64 (wrap64 (wrap64 V*10)+d)=wrap64 (V*10+d):=by unfold wrap64;omega
theorem wrap_low (V d:Int):wrap64 (wrap64 (wrap64 V*10)-d)=wrap64 (V*10 + -1*d):=by unfold wrap64;omega
theorem wrap64_n64 (V:Int):N64 (wrap64 V):=by unfold N64 wrap64;omega
theorem wrap64_id {v:Int}(h:N64 v):wrap64 v=v:=by unfold N64 at h;unfold wrap64;omega
theorem rint_any (s:List UInt8) (w:World) (hs:s.length<=1000000000) :
  Calls prog 196 #[.string (str s)] w λe w'=>e=intR s/\Ext w w':=by
 have hz:=str_size s;by_cases hl:s.length=0\/20<s.length
 ·have HR:=lh_ (show intR s=.returned (.tuple #[.int .i64 0,.bool false]) by
   have h:intP s=none:=intP_no (λv hv e=>by
    have h1:=itoa_len hv.1 hv.2;have h2:=List.length_pos_iff.2 (itoa_ne v);rw[e]at h1 h2;omega)
   unfold intR;rw[h];rfl)
  rcases hl with hl|hl
  ·have h0:((s.length:Int)==0)=true:=by rw[hl];rfl
   go_enter func196,ntmps196;go_wp2_with fail;go_ret2;exact⟨HR.out.symm,Ext.refl _⟩
  ·have h0:((s.length:Int)==0)=false:=by rw[beq_eq_false_iff_ne];omega
   have h1:(20:Int)<(s.length:Int):=by omega
   go_enter func196,ntmps196;go_wp2_with fail;go_ret2;exact⟨HR.out.symm,Ext.refl _⟩
 have h0:((s.length:Int)==0)=false:=by rw[beq_eq_false_iff_ne];omega
 have h1:¬(20:Int)<(s.length:Int):=by omega
 have hpos:0<s.length:=by omega
 have h20:s.length<=20:=by omega
 clear hl;obtain⟨hd,hhd⟩:∃hd,hd=s[0]:=⟨_,rfl⟩
 have hneg:isNeg s=(hd==45):=by
  subst hhd;unfold isNeg;cases s with
  | nil=>exact absurd hpos (by simp)
  | cons c r=>simp
 have hp0:0<(str s).size:=by rw[hz];exact hpos
 have hat0:(str s)[0]'hp0=hd:=hhd.symm;have HNEG:=lh_ hneg;have HHD:=lh_ hhd;clear hneg hhd;go_enter func196,ntmps196;go_wp2_with fail;go_loopw [4,5] (λt i wx=>∃k:Nat,k<=s.length/\i=.int .i64 k/\t=.int .i64 (wrap64 (valS (sgn s) (preS s k)))/\wx=w/\Hid (∀c∈preS s k,48<=c.toNat/\c.toNat<=57)) (λ_ i _=>s.length-(intOf i).toNat);case atStart=>exact⟨0,by omega,rfl,by unfold preS;rw[List.take_zero];simp[valS,wrap64],rfl,lh_ (by unfold preS;rw[List.take_zero];simp)⟩
 case round =>
  obtain⟨k,hk,rfl,rfl,rfl,HC⟩:=hrel;by_cases hlt:k<s.length
  ·have hki:(k:Int)<(s.length:Int):=by omega
   have hpk:k<(str s).size:=by rw[hz];exact hlt
   have hat:(str s)[k]'hpk=s[k]:=rfl;have HNX:=lh_ (λh=>preS_next (s:=s) hlt h);have HPT:=lh_ (λh=>preS_part (s:=s) (k+1) h);have HS0:=lh_ (show k=0->s[k]=hd fromλh=>by subst h;exact HHD.out.symm);have hc256:=s[k].toNat_lt;generalize s[k]=c at *;have HBAD:=lh_ (show¬(48<=c.toNat/\c.toNat<=57)->¬(k=0/\c=45)->intR s=.returned (.tuple #[.int .i64 0,.bool false]) fromλh h2=>by
    have h:intP s=none:=intP_no (λv hv e=>by
     have h3:=(itoa_val v).2 c;rw[e]at h3;exact h (h3 (HPT.out (by omega) c (by rw[HNX.out h2];simp))))
    unfold intR;rw[h];rfl)
   by_cases h45:c.toNat=45
   ·have e45:((c.toNat:Int)==45)=true:=by rw[h45];rfl
    have hc45:c=45:=by apply UInt8.toNat_inj.1;exact h45
    by_cases hk0:k=0
    ·have ek:((k:Int)==0)=true:=by rw[hk0];rfl
     have HV:=lh_ (show preS s (k+1)=[]/\preS s k=[] by
      have hn:isNeg s=true:=by rw[HNEG.out,← HS0.out hk0,hc45];rfl
      unfold preS;rw[hn,if_pos rfl,if_pos rfl,hk0];exact⟨by simp,by simp⟩)
     have HBt:=HNX.out;clear h45 hc45 hk0 HBt;go_wp2_with fail;go_roundw;case rel=>exact⟨k+1,by omega,by go_num,by rw[HV.out.1,HV.out.2],(by first|rfl|trivial),lh_ (by rw[HV.out.1];simp)⟩
     case measure=>simp[intOf];omega
    ·have ek:((k:Int)==0)=false:=by simp;omega
     have HB:=lh_ (HBAD.out (by omega) (λh=>hk0 h.1));have c48:(c.toNat:Int)<48:=by omega
     clear h45 hc45 hk0;go_wp2_with fail;go_ret2;exact⟨HB.out.symm,Ext.refl _⟩
   ·have e45:((c.toNat:Int)==45)=false:=by simp;omega
    have hc45:c≠45:=λe=>h45 (by rw[e];rfl);by_cases h48:c.toNat<48
    ·have HB:=lh_ (HBAD.out (by omega) (λh=>hc45 h.2));have c48:(c.toNat:Int)<48:=by omega
     clear h45 hc45 h48;go_wp2_with fail;go_ret2;exact⟨HB.out.symm,Ext.refl _⟩
    by_cases h57:57<c.toNat
    ·have HB:=lh_ (HBAD.out (by omega) (λh=>hc45 h.2));have c48:¬(c.toNat:Int)<48:=by omega
     have c57:(57:Int)<(c.toNat:Int):=by omega
     clear h45 hc45 h48 h57;go_wp2_with fail;go_ret2;exact⟨HB.out.symm,Ext.refl _⟩
    have c48:¬(c.toNat:Int)<48:=by omega
    have c57:¬(57:Int)<(c.toNat:Int):=by omega
    have HN:=lh_ (HNX.out (λh=>hc45 h.2));have HC2:=lh_ (show∀x∈preS s (k+1),48<=x.toNat/\x.toNat<=57 fromλx hx=>by
     rw[HN.out]at hx;rcases List.mem_append.1 hx with h|h
     ·exact HC.out x h
     ·rw[List.mem_singleton.1 h];omega)
    have hw8:IntKind.u8.wrap ((c.toNat:Int)-48)=(c.toNat:Int)-48:=by rw[IntKind.wrap_u8'];omega
    have HVS:=lh_ (valS_snoc (sgn s) (preS s k) c);clear h45 hc45 h48 h57;by_cases hh:hd.toNat=45
    ·have e0:((hd.toNat:Int)==45)=true:=by rw[hh];rfl
     have HSG:=lh_ (show sgn s= -1 by
      unfold sgn;rw[HNEG.out,show hd=45 from UInt8.toNat_inj.1 hh];rfl)
     clear hh;rw[HSG.out]at HVS;have HW:=lh_ (wrap_low (valS (-1) (preS s k)) ((c.toNat:Int)-48));rw[HSG.out];go_wp2_with fail;go_roundw;case rel=>exact⟨k+1,by omega,by go_num,by rw[HN.out,HVS.out,← HW.out],(by first|rfl|trivial),HC2⟩
     case measure=>simp[intOf];omega
    ·have e0:((hd.toNat:Int)==45)=false:=by simp;omega
     have HSG:=lh_ (show sgn s=1 by
      unfold sgn;rw[HNEG.out,if_neg];simp
      exactλe=>hh (by rw[e];rfl))
     clear hh;rw[HSG.out]at HVS;have HW:=lh_ (wrap_step (valS 1 (preS s k)) ((c.toNat:Int)-48));rw[HSG.out];go_wp2_with fail;go_roundw;case rel=>exact⟨k+1,by omega,by go_num,by rw[HN.out,HVS.out,Int.one_mul,← HW.out],(by first|rfl|trivial),HC2⟩
     case measure=>simp[intOf];omega
  ·obtain rfl:k=s.length:=by omega
   have hki:¬(s.length:Int)<(s.length:Int):=by omega
   obtain⟨n,hn⟩:∃n,n=wrap64 (valS (sgn s) (preS s s.length)):=⟨_,rfl⟩
   rw[← hn];have hn64:N64 n:=by rw[hn];exact wrap64_n64 _
   have HD:=lh_ (λw=>rdec_any n w hn64);have hll:=itoa_len hn64.1 hn64.2;by_cases he:Lib.itoa n=s
   ·have HR:=lh_ (show intR s=.returned (.tuple #[.int .i64 n,.bool true]) by
     have h:intP s=some n:=by rw[← he];exact intP_itoa hn64
     unfold intR;rw[h];rfl)
    have hq:((str (Lib.itoa n)).toList==(str s).toList)=true:=by rw[str_toList,str_toList];simpa using he
    clear he hn hn64 hll;go_wp2_with (go_at_call 157;refine(HD.out _).mono ?_;rintro e w2 ⟨rfl,x2⟩)
    go_ret2;exact⟨HR.out.symm,x2⟩
   ·have HR:=lh_ (show intR s=.returned (.tuple #[.int .i64 0,.bool false]) by
     have h:intP s=none:=intP_no (λv hv e=>he (by
      have h3:=(itoa_val v).1;rw[e]at h3;rw[hn,h3,wrap64_id hv,e]))
     unfold intR;rw[h];rfl)
    have hq:((str (Lib.itoa n)).toList==(str s).toList)=false:=by rw[str_toList,str_toList];simpa using he
    clear he hn hn64 hll;go_wp2_with (go_at_call 157;refine(HD.out _).mono ?_;rintro e w2 ⟨rfl,x2⟩)
    go_ret2;exact⟨HR.out.symm,x2⟩
theorem lengthF_go (b:List UInt8) (k n U:Nat) (h:k<b.length) (hU:U=128^k):lengthF (b.drop k) k n=if k=3/\128<=b[k].toNat then (0,0,3) else if 128<=b[k].toNat then lengthF (b.drop (k+1)) (k+1) (n+b[k].toNat%128*U) else if b[k].toNat=0/\0<k then (0,0,3) else (n+b[k].toNat*U,k+1,0):=by
 subst hU;exact lengthF_at b k n h
theorem textsP_bad {r:List UInt8}(hr:r≠[]) {x y:Nat}{c:Int}(e:lengthP r=(x,y,c)) (hc:c≠0) (d:List (List UInt8)):joinP d (textsP r)=([],c):=by
 have h:textsP r=([],c):=by rw[textsP_step r hr,e];exact if_pos hc
 rw[h];exact joinP_err hc
theorem rtexts_any (b:List UInt8) (w:World) (hb:b.length<=1000000000) :
  Calls prog 195 #[.string (str b)] w λe w'=>∃u,e=.returned (.tuple #[u,.int .i64 (textsP b).2])/\Ext w w'/\w'.ownsRow w.heap.size 9 1 u (textsP b).1.length (strL (textsP b).1):=by
 have hz:=str_size b;obtain⟨i0,hi,hz0,hz1,hz2⟩:=info_parts strInfo;have o0:(w.alloc (.cells #[] 9)).ownsRow w.heap.size 9 1 (.slice (some ⟨w.heap.size,0,none⟩) 0 0) 0 (strL []):=World.ownsRow_lit w #[] 0 (Nat.le_refl _) (by decide) rfl;go_enter func195,ntmps195;go_wp2_with fail;go_loopw [4,5,6,7,8,9] (λu i _ _ _ _ wr=>∃(d:List (List UInt8)) (p:Nat),p<=b.length/\i=.int .i64 p/\Ext w wr/\wr.ownsRow w.heap.size 9 1 u d.length (strL d)/\d.length<=p/\Hid (joinP d (textsP (b.drop p))=textsP b)) (λ_ i _ _ _ _ _=>b.length-(intOf i).toNat);case atStart=>exact⟨[],0,by omega,rfl,(Ext.refl _).alloc _,o0,by simp,lh_ (joinP_nil b)⟩
 case round =>
  clear o0;obtain⟨d,p,hp,rfl,hx,hown,hdl,HJ⟩:=hrel;have hxs:=hx.size;by_cases hlt:p<b.length
  ·have hlt':(p:Int)<(b.length:Int):=by omega
   obtain⟨r,hr⟩:∃r,r=b.drop p:=⟨_,rfl⟩
   have hrl:r.length=b.length-p:=by rw[hr,List.length_drop]
   have hat:∀k (h:p+k<b.length) (h2:k<r.length) (h3:p+k<(str b).size),(str b)[p+k]'h3=r[k]'h2:=λk h h2 h3=>by subst hr;rw[List.getElem_drop];rfl
   rw[← hr]at HJ;have HR:=lh_ hr;have HAT:=lh_ hat;have HRL:=lh_ hrl;have hrn:r≠[]:=λe=>by rw[e]at hrl;simp at hrl;omega
   have HRN:=lh_ hrn;clear hr hat hrn hrl;go_wp2_with fail;go_loop [5,6,7,8,9] (λa t u kk _=>∃k n U:Nat,k<=3/\p+k<=b.length/\n<U/\Hid (U=128^k)/\U<=2097152/\a=.int .i64 ((p+k:Nat):Int)/\t=.int .i64 n/\u=.int .i64 U/\kk=.int .i64 k/\Hid (lengthF (r.drop k) k n=lengthP r)) (λa _ _ _ _=>b.length-(intOf a).toNat);case atStart=>exact⟨0,0,1,by omega,by omega,by omega,lh_ rfl,by omega,rfl,rfl,rfl,rfl,lh_ rfl⟩
   case round =>
    obtain⟨k,n,U,hk3,hpk,hnU,HU,hU2,rfl,rfl,rfl,rfl,HF⟩:=hrel;by_cases hq:p+k<b.length
    ·have hrk:k<r.length:=by rw[HRL.out];omega
     have hq1:(((p+k:Nat):Int)==(b.length:Int))=false:=by simp;omega
     have hpz:p+k<(str b).size:=by rw[hz];exact hq
     have hch:=HAT.out k hq hrk hpz;have HF2:=lh_ ((lengthF_go r k n U hrk HU.out).symm.trans HF.out);have hc256:=r[k].toNat_lt;clear HF;generalize r[k]=ch at *;have hm:ch.toNat%128*U<=127*U:=Nat.mul_le_mul_right _ (by omega);generalize hP:ch.toNat%128*U=P at *;have HP:=lh_ hP;have hP2:((ch.toNat:Int)%128)*(U:Int)=(P:Int):=by rw[← hP];push_cast;rfl
     clear hP;have hU0:0<U:=by omega
     by_cases h128:128<=ch.toNat
     ·have c1:¬(ch.toNat:Int)<128:=by omega
      by_cases hk:k=3
      ·have HL:=lh_ (show textsP b=([],3) by
        have e:=HF2.out;rw[if_pos ⟨hk,h128⟩]at e;rw[← HJ.out];exact textsP_bad HRN.out e.symm (by decide) d)
       subst hk;clear HF2 HP;go_wp2_with fail;go_ret2;rw[HL.out];exact⟨_,rfl,hx,World.ownsRow_nil _ _ _ _⟩
      ·have hk':¬(k:Int)=3:=by omega
       have HF3:=lh_ (show lengthF (r.drop (k+1)) (k+1) (n+P)=lengthP r by
        have e:=HF2.out;rw[if_neg (λh=>hk h.1),if_pos h128]at e;exact e)
       have HU3:=lh_ (show U*128=128^(k+1) by rw[HU.out,Nat.pow_succ]);have HUb:=lh_ (show U*128<=2097152 by
        have:=HU.out;rcases(by omega:k=0\/k=1\/k=2) with rfl|rfl|rfl<;>omega)
       clear HF2 HP;go_wp2_with fail;go_round;case rel=>exact⟨k+1,n+P,U*128,by omega,by omega,by omega,HU3,HUb.out,by go_num,by go_num,by go_num,by go_num,HF3⟩
       case measure=>simp[intOf];omega
     ·have c1:(ch.toNat:Int)<128:=by omega
      by_cases h0:ch.toNat=0/\0<k
      ·have HL:=lh_ (show textsP b=([],3) by
        have e:=HF2.out;rw[if_neg (λh=>h128 h.2),if_neg h128,if_pos h0]at e;rw[← HJ.out];exact textsP_bad HRN.out e.symm (by decide) d)
       obtain⟨h01,h02⟩:=h0;rw[h01]at c1;have h02':(0:Int)<(k:Int):=by omega
       clear HF2 HP;go_wp2_with fail;go_ret2;rw[HL.out];exact⟨_,rfl,hx,World.ownsRow_nil _ _ _ _⟩
      ·have HN:=lh_ (show lengthP r=(n+P,k+1,0) by
        have e:=HF2.out;rw[if_neg (λh=>h128 h.2),if_neg h128,if_neg h0]at e;have e2:=HP.out;rw[Nat.mod_eq_of_lt (by omega)]at e2;rw[← e,e2])
       have hcz:((ch.toNat:Int)==0)=false\/(((ch.toNat:Int)==0)=true/\¬(0:Int)<(k:Int)):=by
        by_cases e:ch.toNat=0
        ·exact .inr ⟨by rw[e];rfl,by omega⟩
        ·exact .inl (by simpa using e)
       clear HF2 HP h0;have HU8:=lh_ (show n+P<=300000000 by omega);rcases hcz with hcz|⟨hcz,hck⟩<;>go_upto_region 19 with fail
       all_goals
        clear hcz hm hP2 hU0 hU2 hnU hq1 hch hpz c1 h128 hc256;obtain⟨A,hA⟩:∃A:Nat,A=p+k+1:=⟨_,rfl⟩
        obtain⟨M,hM⟩:∃M:Nat,M=n+P:=⟨_,rfl⟩
        rw[show(p:Int)+(k:Int)+1=(A:Int) by omega,show(n:Int)+(P:Int)=(M:Int) by omega];have hAb:A<=b.length:=by omega
        have hAp:p<A:=by omega
        have hMb:M<=300000000:=by rw[hM];exact HU8.out
        have HD:=lh_ (show r.drop (k+1)=b.drop A by rw[HR.out,List.drop_drop,hA];congr 1);rw[← hM]at HN;clear hA hM;by_cases hs:b.length-A<M
        ·have HL:=lh_ (show textsP b=([],4) by
          have h:textsP r=([],4):=by rw[textsP_step r HRN.out,HN.out,if_neg (by simp)];exact if_pos (by show(List.drop (k+1) r).length<M;rw[HD.out,List.length_drop];exact hs)
          rw[← HJ.out,h];exact joinP_err (by decide))
         have hs':(b.length:Int)-(A:Int)<(M:Int):=by omega
         go_wp2_with fail;go_ret2;rw[HL.out];exact⟨_,rfl,hx,World.ownsRow_nil _ _ _ _⟩
        ·have hs':¬(b.length:Int)-(A:Int)<(M:Int):=by omega
         have HJ2:=lh_ (show joinP (d++[(b.drop A).take M]) (textsP (b.drop (A+M)))=textsP b by
          have h:=textsP_join d r HRN.out (by rw[HN.out]) (by rw[HN.out];show¬(List.drop (k+1) r).length<M;rw[HD.out,List.length_drop];exact hs);rw[HN.out]at h;rw[← HJ.out,h,show List.drop (k+1,(0:Int)).1 r=b.drop A from HD.out,List.drop_drop])
         have hse:=str_ext b;have hAM:A+M<=b.length:=by omega
         have hAM2:A+M-A=M:=by omega
         go_wp2_with (at_builtin;refine wpList_append_own _ rfl _ _ 22 rfl w.heap.size 9 i0 (.string ⟨#[]⟩) 1 16 underlying22 hi hz0 hz1 hz2 rfl (by decide) _ _ _ rfl (hown.alloc _) ⟨wr.heap.size,0,none⟩ 1 1 [.string (str (List.take M (List.drop A b)))] rfl rfl (new_cells _ _ _ _ rfl) (all_one rfl) (by unfold maxLen;omega) (by omega) (by simp;omega) ?_)
         intro v' w1 own1 hg1 _;have hlo:=@own_low wr w.heap.size 1 _ _ u4 _ hown;have x1:Ext w w1:=(hx.alloc _).grown hg1 (λk e=>hlo e);have own2:w1.ownsRow w.heap.size 9 1 v' (d++[List.take M (List.drop A b)]).length (strL (d++[List.take M (List.drop A b)])):=by rw[show strL (d++[List.take M (List.drop A b)])=strL d++[.string (str (List.take M (List.drop A b)))] by simp[strL],List.length_append];exact own1
         clear own1 hg1 hlo;go_wp2_with fail;go_roundw;case rel=>exact⟨_,A+M,hAM,by go_num,x1,own2,by simp only[List.length_append,List.length_cons,List.length_nil];omega,HJ2⟩
         case measure=>simp[intOf];omega
    ·have HL:=lh_ (show textsP b=([],4) by
      have e:lengthP r=(0,0,4):=by rw[← HF.out,List.drop_of_length_le (by rw[HRL.out];omega)];rfl
      rw[← HJ.out];exact textsP_bad HRN.out e (by decide) d)
     have hq1:(((p+k:Nat):Int)==(b.length:Int))=true:=by simp;omega
     go_wp2_with fail;go_ret2;rw[HL.out];exact⟨_,rfl,hx,World.ownsRow_nil _ _ _ _⟩
  ·obtain rfl:p=b.length:=by omega
   have hlt':¬(b.length:Int)<(b.length:Int):=by omega
   have HL:=lh_ (show textsP b=(d,0) by
    rw[← HJ.out,List.drop_length,textsP_nil,joinP_ok rfl,List.append_nil])
   go_wp2_with fail;go_ret2;rw[HL.out];exact⟨_,rfl,hx,hown⟩
theorem numL_drop_lt (s:List UInt8) (k:Nat) (h:s.length<=8) (hk:0<k) (hks:k<=s.length):numL (s.drop k)<72057594037927936:=by
 have h1:=numL_lt (s.drop k);have h2:256^(s.drop k).length<=256^7:=Nat.pow_le_pow_right (by decide) (by rw[List.length_drop];omega);have h3:(256:Nat)^7=72057594037927936:=by decide
 omega
theorem rget_any (s:List UInt8) (w:World) (h:s.length<=8) :
  Calls prog 169 #[.string (str s)] w λe w'=>e=.returned (.int .u64 (numL s:Int))/\w=w':=by
 have hz:=str_size s;go_enter func169,ntmps169;go_wp2_with fail;go_loopw [3,4] (λt i wx=>∃k:Nat,k<=s.length/\i=.int .i64 ((k:Int)-1)/\t=.int .u64 (numL (s.drop k):Int)/\wx=w) (λ_ i _=>(intOf i+1).toNat);case atStart=>exact⟨s.length,Nat.le_refl _,by go_num,by rw[List.drop_length];rfl,rfl⟩
 case round =>
  obtain⟨k,hk,rfl,rfl,rfl⟩:=hrel;by_cases h0:0<k
  ·obtain⟨j,rfl⟩:∃j,k=j+1:=⟨k-1,by omega⟩
   have hj:j<s.length:=by omega
   have e1:((j+1:Nat):Int)-1=(j:Int):=by omega
   have hpj:j<(str s).size:=by rw[hz];exact hj
   have hat:(str s)[j]'hpj=s[j]:=rfl;have HD:=lh_ (show numL (s.drop j)=(s[j]).toNat+256*numL (s.drop (j+1)) by rw[List.drop_eq_getElem_cons hj];rfl);have hb:=numL_drop_lt s (j+1) h (by omega) hk;have hc:=s[j].toNat_lt;generalize numL (s.drop (j+1))=m at *;generalize s[j]=c at *;rw[e1];have hj8:(j:Int)<8:=by omega
   have hj0:(0:Int)<=(j:Int):=by omega
   go_wp2_with fail;go_roundw;case rel=>exact⟨j,by omega,by go_num,by first|(rw[HD.out];done)|(rw[HD.out];go_num),by first|rfl|trivial⟩
   case measure=>simp[intOf]<;>omega
  ·obtain rfl:k=0:=by omega
   go_wp2_with fail;go_ret;exact⟨by first|rfl|(rw[List.drop_zero]),by first|rfl|trivial⟩
theorem putL_snoc (z:Nat):∀n:Nat,putL (n:Int) (z+1)=putL (n:Int) z++[b8 ((n/256^z%256:Nat):Int)]:=by
 induction z with
 | zero=>intro n;simp[putL]
 | succ z ih =>
  intro n;have e:(n:Int)/256=((n/256:Nat):Int):=by omega
  rw[putL,e,ih (n/256),putL,e,Nat.pow_succ,Nat.mul_comm,Nat.div_div_eq_div_mul];rfl
theorem rput_any (n z:Nat) (w:World) (hn:n<18446744073709551616) (hz8:z<=8) :
  Calls prog 85 #[.int .u64 n,.int .i64 z] w λe w'=>e=.returned (.string (str (putL n z)))/\Ext w w':=by
 have hz:=str_size;have hap:=str_app;go_enter func85,ntmps85;go_wp2_with fail;go_loopw [0,5,6] (λt u i wx=>∃k m:Nat,k<=z/\i=.int .i64 k/\u=.string (str (putL n k))/\t=.int .u64 m/\Hid (m=n/256^k)/\m<18446744073709551616/\Ext w wx) (λ_ _ i _=>z-(intOf i).toNat);case atStart=>exact⟨0,n,by omega,rfl,rfl,rfl,lh_ (by simp),hn,Ext.refl _⟩
 case round =>
  obtain⟨k,m,hk,rfl,rfl,rfl,HM,hm,xk⟩:=hrel;have HPL:=lh_ (putL_len (n:Int) k);by_cases hlt:k<z
  ·have hki:(k:Int)<(z:Int):=by omega
   have hk8:(k:Int)<8:=by omega
   have hc:=conv_one wr ((m:Int)%256) wr.heap.size rfl;have HS:=lh_ (show putL (n:Int) (k+1)=putL (n:Int) k++[b8 ((m:Int)%256)] by rw[putL_snoc,HM.out];rfl);have HM2:=lh_ (show m/256=n/256^(k+1) by rw[HM.out,Nat.pow_succ,Nat.div_div_eq_div_mul]);have hpl:=HPL.out;generalize putL (n:Int) k=P at *;go_wp2_with fail;go_roundw;case rel=>exact⟨k+1,m/256,by omega,by go_num,by rw[HS.out],by go_num,HM2,by omega,xk.alloc _⟩
   case measure=>simp[intOf];omega
  ·obtain rfl:k=z:=by omega
   have hki:¬(k:Int)<(k:Int):=by omega
   obtain⟨P,hP⟩:∃P,P=putL (n:Int) k:=⟨_,rfl⟩
   rw[← hP];go_wp2_with fail;go_ret;exact⟨rfl,xk⟩
theorem rplan_no (B I:Int) (w:World) (h:planB B I=false) :
  Calls prog 168 #[.int .i64 B,.int .i64 I] w λe w'=>(∃n:Int,(n=2\/n=10)/\e=.returned (.tuple #[noGeom,.int .i64 n]))/\Ext w w':=by
 have hp:B<16\/(16<=B/\223<B)\/(16<=B/\B<=223/\I<4)\/(16<=B/\B<=223/\4<=I/\64<I)\/(16<=B/\B<=223/\4<=I/\I<=64/\B<=3+(I+1)/2):=by
  have:¬(16<=B/\B<=223/\4<=I/\I<=64/\3+(I+1)/2<B):=by simpa[planB]using h
  omega
 clear h;rcases hp with hp|hp|hp|hp|hp
 case' inr.inr.inr.inr =>
  have d1:decide (B<16)=false:=by simp;omega
  have d2:decide (223<B)=false:=by simp;omega
  have d3:decide (I<4)=false:=by simp;omega
  have d4:decide (64<I)=false:=by simp;omega
  go_enter func168,ntmps168;go_wp2_with fail;exact bodyPost_ret (v:=.tuple #[noGeom,.int .i64 10]) (by simp[results,Tryz.results168,go_sem,noGeom]) rfl ⟨⟨10,by omega,rfl⟩,((Ext.refl _).alloc _).alloc _⟩
 case' inl => have d1:decide (B<16)=true:=by simp;omega
 case' inr.inl =>
  have d1:decide (B<16)=false:=by simp;omega
  have d2:decide (223<B)=true:=by simp;omega
 case' inr.inr.inl =>
  have d1:decide (B<16)=false:=by simp;omega
  have d2:decide (223<B)=false:=by simp;omega
  have d3:decide (I<4)=true:=by simp;omega
 case' inr.inr.inr.inl =>
  have d1:decide (B<16)=false:=by simp;omega
  have d2:decide (223<B)=false:=by simp;omega
  have d3:decide (I<4)=false:=by simp;omega
  have d4:decide (64<I)=true:=by simp;omega
 all_goals
  go_enter func168,ntmps168;go_wp2_with fail;exact bodyPost_ret (v:=.tuple #[noGeom,.int .i64 2]) (by simp[results,Tryz.results168,go_sem,noGeom]) rfl ⟨⟨2,by omega,rfl⟩,(Ext.refl _).alloc _⟩
def OfR (v:List (List UInt8)) (e:Ending):Prop:=(∃I,Good v I/\e=.returned (.tuple #[geomV v.length I,.int .i64 0]))\/e=.returned (.tuple #[noGeom,.int .i64 3])
theorem rget2_at' (p q:UInt8) (B:Int) (w:World) (h:(p.toNat:Int)+256*q.toNat=B) :
  Calls prog 169 #[.string (str [p,q])] w λe w'=>e=.returned (.int .u64 B)/\w=w':=by
 subst h;exact rget2 p q w
theorem rof_any (A:Option Addr) (n c:Nat) (v:List (List UInt8)) (w:World) (hv:Strs w A n v) (hnk:n<=9223372036854775807) :
  Calls prog 99 #[.slice A n c] w λe w'=>OfR v e/\Ext w w':=by
 obtain⟨rfl,hv2⟩:=hv;have hz:=str_size;have r0:Box (w.alloc (.cells #[.int .i64 0,.int .i64 0,.int .i64 0,.int .i64 0,.int .i64 0,.int .i64 0] 144)) w.heap.size 144 (intVals [0,0,0,0,0,0]):=Box.new _ _ _;have x0:Ext w (w.alloc (.cells #[.int .i64 0,.int .i64 0,.int .i64 0,.int .i64 0,.int .i64 0,.int .i64 0] 144)):=(Ext.refl _).alloc _;by_cases h3:v.length<3
 ·go_enter func99,ntmps99;go_wp2_with (refine wp_st_geom (.tmp 2) (.tmp 12) rfl rfl w.heap.size [0,0,0,0,0,0] [0,0,0,0,0,0] 144 rfl rfl r0 rfl rfl ?_;intro w6 b6 g6)
  have xF:=(x0).grown g6 (λk e=>by cases e;exact Nat.le_refl _);exact bodyPost_ret (v:=.tuple #[noGeom,.int .i64 3]) (results_cell2 Tryz.results99 _ _ _ _ _ _ _ rfl rfl b6 underlying144 rfl geomSize) rfl ⟨.inr rfl,xF⟩
 obtain⟨b,o,rfl,hcell⟩:=hv2 (by omega);go_enter func99,ntmps99;go_wp2_with fail;generalize w.alloc (.cells #[.int .i64 0,.int .i64 0,.int .i64 0,.int .i64 0,.int .i64 0,.int .i64 0] 144)=w1 at *;have x1:=x0;have r1:=r0;clear x0 r0 hv2;go_loop [5,15] (λ_ i=>∃k:Nat,k<=v.length/\i=.int .i64 k/\∀(j:Nat) (h:j<v.length),j<k->v[j].length=128) (λ_ i=>v.length-(intOf i).toNat);case atStart=>exact⟨0,by omega,rfl,λj h hk=>by omega⟩
 case round =>
  obtain⟨k,hk,rfl,hal⟩:=hrel;have HAL:=lh_ hal;clear hal;by_cases hlt2:k<v.length
  ·have hck:w1.cell? ⟨b,o+k,none⟩=some (.string (str v[k])):=x1.keep (hcell k hlt2);by_cases hl:v[k].length=128
   ·have HN:=lh_ (show∀(j:Nat) (h:j<v.length),j<k+1->v[j].length=128 fromλj h hj=>by
     by_cases e:j<k
     ·exact HAL.out j h e
     ·obtain rfl:j=k:=by omega
      exact hl)
    have hlk:((v[k].length:Int) != 128)=false:=by rw[hl];rfl
    clear hl hcell;generalize v[k]=s at *;go_wp2_with fail;go_round;case rel=>exact⟨k+1,by omega,by go_num,HN.out⟩
    case measure=>simp[intOf];omega
   ·have hlk:((v[k].length:Int) != 128)=true:=by simp;omega
    clear hl hcell;generalize v[k]=s at *;go_wp2_with (refine wp_st_geom (.tmp 2) (.tmp 22) rfl rfl w.heap.size [0,0,0,0,0,0] [0,0,0,0,0,0] 144 rfl rfl r1 rfl rfl ?_;intro w6 b6 g6)
    have xF:=(x1).grown g6 (λk e=>by cases e;exact Nat.le_refl _);exact bodyPost_ret (v:=.tuple #[noGeom,.int .i64 3]) (results_cell2 Tryz.results99 _ _ _ _ _ _ _ rfl rfl b6 underlying144 rfl geomSize) rfl ⟨.inr rfl,xF⟩
  ·obtain rfl:k=v.length:=by omega
   have HALL:=lh_ (λ(j:Nat) (h:j<v.length)=>HAL.out j h h);have c0:w1.cell? ⟨b,o,none⟩=some (.string (str (v.getD 0 []))):=by have:=x1.keep (hcell 0 (by omega));rw[List.getD_eq_getElem?_getD,List.getElem?_eq_getElem (by omega)];exact this
   have c2v:∀wx,Ext w wx->wx.cell? ⟨b,o+2,none⟩=some (.string (str (v.getD 2 []))):=λwx xx=>by have:=xx.keep (hcell 2 (by omega));rw[List.getD_eq_getElem?_getD,List.getElem?_eq_getElem (by omega)];exact this
   have C2:=lh_ c2v;have l0:(v.getD 0 []).length=128:=by rw[List.getD_eq_getElem?_getD,List.getElem?_eq_getElem (by omega)];exact HALL.out 0 (by omega)
   have l2:(v.getD 2 []).length=128:=by rw[List.getD_eq_getElem?_getD,List.getElem?_eq_getElem (by omega)];exact HALL.out 2 (by omega)
   clear c2v hcell HAL;obtain⟨p,q,hpq⟩:=len2 (l:=((v.getD 0 []).drop 6).take 2) (by rw[List.length_take,List.length_drop];omega);have e68:(str (v.getD 0 [])).extract 6 8=str [p,q]:=by rw[str_ext];exact congrArg str hpq
   have hpq':=lh_ hpq;clear hpq;have pb:=p.toNat_lt;have qb:=q.toNat_lt;obtain⟨I,hI⟩:∃I:Int,(p.toNat:Int)+256*q.toNat=I:=⟨_,rfl⟩
   have gI:=lh_ (λw=>rget2_at' p q I w hI);have hI0:0<=I:=by omega
   have hI1:I<=65535:=by omega
   clear hI pb qb;have zH:(str (v.getD 0 [])).size=128:=by rw[str_size,l0]
   have wI:IntKind.i64.wrap I=I:=by rw[IntKind.wrap_i64];omega
   have hn0:0<v.length:=by omega
   have hn1:(0:Int)<(v.length:Int):=by omega
   have hn2:(2:Int)<(v.length:Int):=by omega
   obtain⟨H,hH⟩:∃H,H=v.getD 0 []:=⟨_,rfl⟩
   rw[← hH]at c0 e68 zH l0;have HHH:=lh_ hH;clear hH hz;by_cases hp:planB v.length I=true
   ·have HP:=lh_ hp;have hpl:=plan_bd hp;clear hp;have HF:∀w,Hid (Calls prog 170 #[.agg #[.int .i64 v.length,.int .i64 I,.int .i64 1,.int .i64 2,.int .i64 3,.int .i64 (3+(I+1)/2)]] w λe w'=>e=.returned (.string (str (headL v.length I)))/\Ext w w'):=λw=>lh_ (rhead_any v.length I w HP.out);obtain⟨HD,hHD⟩:∃HD,HD=headL v.length I:=⟨_,rfl⟩
    rw[← hHD]at HF;have HHD:=lh_ hHD;clear hHD;by_cases hHe:H=HD
    ·have HHe:=lh_ hHe;subst hHe
     go_wp2_with (first
      | (go_at_call 169;refine(gI.out _).mono ?_;rintro e w' ⟨rfl,rfl⟩)
      | (go_at_call 168;refine(rplan_yes _ _ _ HP.out).mono ?_;rintro e wp ⟨rfl,xp⟩;unfold geomV))
     have bc:=Box.new wp 144 (intVals [(v.length:Int),I,1,2,3,3+(I+1)/2]);have xc:=(x1.trans xp).alloc (.cells (intVals [(v.length:Int),I,1,2,3,3+(I+1)/2]) 144);have rc:=(r1.ext xp).ext ((Ext.refl wp).alloc (.cells (intVals [(v.length:Int),I,1,2,3,3+(I+1)/2]) 144));have cc:=(xp.alloc (.cells (intVals [(v.length:Int),I,1,2,3,3+(I+1)/2]) 144)).keep c0;change Box (wp.alloc (.cells #[.int .i64 v.length,.int .i64 I,.int .i64 1,.int .i64 2,.int .i64 3,.int .i64 (3+(I+1)/2)] 144)) _ _ _ at bc;change Ext w (wp.alloc (.cells #[.int .i64 v.length,.int .i64 I,.int .i64 1,.int .i64 2,.int .i64 3,.int .i64 (3+(I+1)/2)] 144)) at xc;change Box (wp.alloc (.cells #[.int .i64 v.length,.int .i64 I,.int .i64 1,.int .i64 2,.int .i64 3,.int .i64 (3+(I+1)/2)] 144)) _ _ _ at rc;change (wp.alloc (.cells #[.int .i64 v.length,.int .i64 I,.int .i64 1,.int .i64 2,.int .i64 3,.int .i64 (3+(I+1)/2)] 144)).cell? _=_ at cc;generalize wp.alloc (.cells #[.int .i64 v.length,.int .i64 I,.int .i64 1,.int .i64 2,.int .i64 3,.int .i64 (3+(I+1)/2)] 144)=wc at bc xc rc cc ⊢;generalize wp.heap.size=g at bc ⊢;clear xp x1 r1 c0;have c0:∀x:Later wc,x.now.cell? ⟨b,o,none⟩=some (.string (str H)):=λx=>x.ext.keep cc;have q0:∀x:Later wc,x.now.cell? ⟨g,0,none⟩=some (.int .i64 v.length):=λx=>(bc.ext x.ext).cell 0;have q1:∀x:Later wc,x.now.cell? ⟨g,1,none⟩=some (.int .i64 I):=λx=>(bc.ext x.ext).cell 1;have q2:∀x:Later wc,x.now.cell? ⟨g,2,none⟩=some (.int .i64 1):=λx=>(bc.ext x.ext).cell 2;have q3:∀x:Later wc,x.now.cell? ⟨g,3,none⟩=some (.int .i64 2):=λx=>(bc.ext x.ext).cell 3;have q4:∀x:Later wc,x.now.cell? ⟨g,4,none⟩=some (.int .i64 3):=λx=>(bc.ext x.ext).cell 4;have q5:∀x:Later wc,x.now.cell? ⟨g,5,none⟩=some (.int .i64 (3+(I+1)/2)):=λx=>(bc.ext x.ext).cell 5;refine wp_region_later (by kernel_rfl) (by kernel_rfl) ?_;repeat (go_big_quiet_step ((exact later_of ((HF _).out))))
     refine wpQuiet_nil ?_;rintro w5 ⟨x5,rfl⟩;have xw5:=xc.trans x5.ext;have e2:=C2.out _ xw5;have d0:=q0 x5;have d5:=q5 x5;have b5:=bc.ext x5.ext;have r5:=rc.ext x5.ext;clear q0 q1 q2 q3 q4 q5 c0 cc HF C2 bc rc xc;go_wp2_with fail;go_loop [8] (λt=>∃m:Nat,m<=1024/\t=.int .i64 m/\∀i:Nat,i<m->((i:Int)<3+(I+1)/2->bitB (v.getD 2 []) i=true)/\(v.length<=i->bitB (v.getD 2 []) i=false)) (λt=>1024-(intOf t).toNat);case atStart=>exact⟨0,by omega,rfl,λi hi=>by omega⟩
     case round =>
      obtain⟨m,hm,rfl,hbits⟩:=hrel;have HBI:=lh_ hbits;clear hbits;have HB:=lh_ (λ(hm2:m<1024) w=>rbit_any m (v.getD 2 []) w l2 hm2);by_cases hm2:m<1024
      ·have HST:=lh_ (show(((m:Int)<3+(I+1)/2->bitB (v.getD 2 []) m=true)/\(v.length<=m->bitB (v.getD 2 []) m=false))->∀i:Nat,i<m+1->((i:Int)<3+(I+1)/2->bitB (v.getD 2 []) i=true)/\(v.length<=i->bitB (v.getD 2 []) i=false) fromλh i hi=>by
        by_cases e:i<m
        ·exact HBI.out i e
        ·obtain rfl:i=m:=by omega
         exact h)
       clear HBI;obtain⟨bt,hbt⟩:∃bt,bitB (v.getD 2 []) m=bt:=⟨_,rfl⟩
       rw[hbt]at HST;have HBT:=lh_ hbt;clear hbt;by_cases m1:(m:Int)<3+(I+1)/2
       ·have m3':¬(v.length:Int)<=m:=by omega
        have m3'':decide ((v.length:Int)<=m)=false:=by simpa using m3'
        cases bt with
        | true =>
         go_wp2_with (go_at_call 171;refine(HB.out hm2 _).mono ?_;rintro e w' ⟨rfl,rfl⟩;rw[HBT.out])
         go_round;case rel=>exact⟨m+1,by omega,by go_num,HST.out ⟨λ_=>by simp,λh=>by omega⟩⟩
         case measure=>simp[intOf];omega
        | false =>
         go_wp2_with (first
          | (go_at_call 171;refine(HB.out hm2 _).mono ?_;rintro e w' ⟨rfl,rfl⟩;rw[HBT.out])
          | (refine wp_st_geom (.tmp 2) (.tmp 76) rfl rfl w.heap.size [0,0,0,0,0,0] [0,0,0,0,0,0] 144 rfl rfl r5 rfl rfl ?_;intro w6 b6 g6))
         have xF:=xw5.grown g6 (λk e=>by cases e;exact Nat.le_refl _);exact bodyPost_ret (v:=.tuple #[noGeom,.int .i64 3]) (results_cell2 Tryz.results99 _ _ _ _ _ _ _ rfl rfl b6 underlying144 rfl geomSize) rfl ⟨.inr rfl,xF⟩
       ·have m1':decide ((m:Int)<3+(I+1)/2)=false:=by simpa using m1
        by_cases m3:v.length<=m
        ·have m3':(v.length:Int)<=m:=by omega
         cases bt with
         | false =>
          go_wp2_with (go_at_call 171;refine(HB.out hm2 _).mono ?_;rintro e w' ⟨rfl,rfl⟩;rw[HBT.out])
          go_round;case rel=>exact⟨m+1,by omega,by go_num,HST.out ⟨λh=>by omega,λ_=>by simp⟩⟩
          case measure=>simp[intOf];omega
         | true =>
          go_wp2_with (first
           | (go_at_call 171;refine(HB.out hm2 _).mono ?_;rintro e w' ⟨rfl,rfl⟩;rw[HBT.out])
           | (refine wp_st_geom (.tmp 2) (.tmp 76) rfl rfl w.heap.size [0,0,0,0,0,0] [0,0,0,0,0,0] 144 rfl rfl r5 rfl rfl ?_;intro w6 b6 g6))
          have xF:=xw5.grown g6 (λk e=>by cases e;exact Nat.le_refl _);exact bodyPost_ret (v:=.tuple #[noGeom,.int .i64 3]) (results_cell2 Tryz.results99 _ _ _ _ _ _ _ rfl rfl b6 underlying144 rfl geomSize) rfl ⟨.inr rfl,xF⟩
        ·have m3':¬(v.length:Int)<=m:=by omega
         have m3'':decide ((v.length:Int)<=m)=false:=by simpa using m3'
         go_wp2_with (go_at_call 171;refine(HB.out hm2 _).mono ?_;rintro e w' ⟨rfl,rfl⟩)
         go_round;case rel=>exact⟨m+1,by omega,by go_num,HST.out ⟨λh=>by omega,λh=>by omega⟩⟩
         case measure=>simp[intOf];omega
      ·obtain rfl:m=1024:=by omega
       have HG:=lh_ (show Good v I from⟨HALL.out,HP.out,by rw[← HHH.out,← HHD.out],λi hi=>(HBI.out i (by omega)).1 hi,λi hi hl=>(HBI.out i hi).2 hl⟩)
       go_wp2_with (first
        | (refine wp_ld_geom (.tmp 6) rfl rfl g _ 144 rfl b5 rfl ?_)
        | (refine wp_st_geom (.tmp 2) (.tmp 77) rfl rfl w.heap.size _ [0,0,0,0,0,0] 144 rfl rfl r5 rfl rfl ?_;intro w6 b6 g6))
       have xF:=xw5.grown g6 (λk e=>by cases e;exact Nat.le_refl _);exact bodyPost_ret (v:=.tuple #[geomV v.length I,.int .i64 0]) (results_cell2 Tryz.results99 _ _ _ _ _ _ _ rfl rfl b6 underlying144 rfl geomSize) rfl ⟨.inl ⟨I,HG.out,rfl⟩,xF⟩
    ·have hne:((str H).toList==(str HD).toList)=false:=by rw[str_toList,str_toList];simpa using hHe
     have hne2:((str H).toList != (str HD).toList)=true:=by rw[bne,hne];rfl
     clear hHe
     go_wp2_with (first
      | (go_at_call 169;refine(gI.out _).mono ?_;rintro e w' ⟨rfl,rfl⟩)
      | (go_at_call 168;refine(rplan_yes _ _ _ HP.out).mono ?_;rintro e wp ⟨rfl,xp⟩;unfold geomV))
     have bc:=Box.new wp 144 (intVals [(v.length:Int),I,1,2,3,3+(I+1)/2]);have xc:=(x1.trans xp).alloc (.cells (intVals [(v.length:Int),I,1,2,3,3+(I+1)/2]) 144);have rc:=(r1.ext xp).ext ((Ext.refl wp).alloc (.cells (intVals [(v.length:Int),I,1,2,3,3+(I+1)/2]) 144));have cc:=(xp.alloc (.cells (intVals [(v.length:Int),I,1,2,3,3+(I+1)/2]) 144)).keep c0;change Box (wp.alloc (.cells #[.int .i64 v.length,.int .i64 I,.int .i64 1,.int .i64 2,.int .i64 3,.int .i64 (3+(I+1)/2)] 144)) _ _ _ at bc;change Ext w (wp.alloc (.cells #[.int .i64 v.length,.int .i64 I,.int .i64 1,.int .i64 2,.int .i64 3,.int .i64 (3+(I+1)/2)] 144)) at xc;change Box (wp.alloc (.cells #[.int .i64 v.length,.int .i64 I,.int .i64 1,.int .i64 2,.int .i64 3,.int .i64 (3+(I+1)/2)] 144)) _ _ _ at rc;change (wp.alloc (.cells #[.int .i64 v.length,.int .i64 I,.int .i64 1,.int .i64 2,.int .i64 3,.int .i64 (3+(I+1)/2)] 144)).cell? _=_ at cc;generalize wp.alloc (.cells #[.int .i64 v.length,.int .i64 I,.int .i64 1,.int .i64 2,.int .i64 3,.int .i64 (3+(I+1)/2)] 144)=wc at bc xc rc cc ⊢;generalize wp.heap.size=g at bc ⊢;clear xp x1 r1 c0;have c0:∀x:Later wc,x.now.cell? ⟨b,o,none⟩=some (.string (str H)):=λx=>x.ext.keep cc;have q0:∀x:Later wc,x.now.cell? ⟨g,0,none⟩=some (.int .i64 v.length):=λx=>(bc.ext x.ext).cell 0;have q1:∀x:Later wc,x.now.cell? ⟨g,1,none⟩=some (.int .i64 I):=λx=>(bc.ext x.ext).cell 1;have q2:∀x:Later wc,x.now.cell? ⟨g,2,none⟩=some (.int .i64 1):=λx=>(bc.ext x.ext).cell 2;have q3:∀x:Later wc,x.now.cell? ⟨g,3,none⟩=some (.int .i64 2):=λx=>(bc.ext x.ext).cell 3;have q4:∀x:Later wc,x.now.cell? ⟨g,4,none⟩=some (.int .i64 3):=λx=>(bc.ext x.ext).cell 4;have q5:∀x:Later wc,x.now.cell? ⟨g,5,none⟩=some (.int .i64 (3+(I+1)/2)):=λx=>(bc.ext x.ext).cell 5;refine wp_region_later (by kernel_rfl) (by kernel_rfl) ?_;repeat (go_big_quiet_step ((exact later_of ((HF _).out))))
     refine wpQuiet_nil ?_;rintro w5 ⟨x5,rfl⟩;have xw5:=xc.trans x5.ext;have e2:=C2.out _ xw5;have d0:=q0 x5;have d5:=q5 x5;have b5:=bc.ext x5.ext;have r5:=rc.ext x5.ext;clear q0 q1 q2 q3 q4 q5 c0 cc HF C2 bc rc xc;go_wp2_with (refine wp_st_geom (.tmp 2) (.tmp 46) rfl rfl w.heap.size [0,0,0,0,0,0] [0,0,0,0,0,0] 144 rfl rfl r5 rfl rfl ?_;intro w6 b6 g6)
     have xF:=(xw5).grown g6 (λk e=>by cases e;exact Nat.le_refl _);exact bodyPost_ret (v:=.tuple #[noGeom,.int .i64 3]) (results_cell2 Tryz.results99 _ _ _ _ _ _ _ rfl rfl b6 underlying144 rfl geomSize) rfl ⟨.inr rfl,xF⟩
   ·have HP:=lh_ (show planB v.length I=false by simpa using hp);clear hp
    go_wp2_with (first
     | (go_at_call 169;refine(gI.out _).mono ?_;rintro e w' ⟨rfl,rfl⟩)
     | (go_at_call 168;refine(rplan_no _ _ _ HP.out).mono ?_;rintro e wp ⟨⟨n,hn,rfl⟩,xp⟩;unfold noGeom))
    have hne:(n != 0)=true:=by rcases hn with rfl|rfl<;>rfl
    have hne2:(n==0)=false:=by rcases hn with rfl|rfl<;>rfl
    clear hn;have rc:=((r1.ext xp).ext ((Ext.refl wp).alloc (.cells (intVals [0,0,0,0,0,0]) 144)))
    have xc:=(x1.trans xp).alloc (.cells (intVals [0,0,0,0,0,0]) 144);change Box (wp.alloc (.cells #[.int .i64 0,.int .i64 0,.int .i64 0,.int .i64 0,.int .i64 0,.int .i64 0] 144)) _ _ _ at rc;change Ext w (wp.alloc (.cells #[.int .i64 0,.int .i64 0,.int .i64 0,.int .i64 0,.int .i64 0,.int .i64 0] 144)) at xc;generalize wp.alloc (.cells #[.int .i64 0,.int .i64 0,.int .i64 0,.int .i64 0,.int .i64 0,.int .i64 0] 144)=wc at *;go_quiet (fail);go_wp2_with (refine wp_st_geom (.tmp 2) (.tmp 46) rfl rfl w.heap.size [0,0,0,0,0,0] [0,0,0,0,0,0] 144 rfl rfl (rc.ext ((Ext.refl wc).drewN _)) rfl rfl ?_;intro w6 b6 g6)
    have xF:=(xc.drewN _).grown g6 (λk e=>by cases e;exact Nat.le_refl _);exact bodyPost_ret (v:=.tuple #[noGeom,.int .i64 3]) (results_cell2 Tryz.results99 _ _ _ _ _ _ _ rfl rfl b6 underlying144 rfl geomSize) rfl ⟨.inr rfl,xF⟩
def dataOf (I:Int):Int:=3+(I+1)/2
def takeI (v:List (List UInt8)) (I:Int):Option Nat:=(List.range v.length).find? λi=>decide (dataOf I<=(i:Int))&&!bitB (v.getD 2 []) i
def takenV (v:List (List UInt8)) (i:Nat):List (List UInt8):=(v.set 2 (flipL (v.getD 2 []) i)).set i (zs 128)
theorem bitB_test (m:List UInt8) (i:Nat):bitB m i=(m.getD (i/8) 0).toNat.testBit (i%8):=by
 unfold bitB;rw[Nat.testBit_eq_decide_div_mod_eq]
theorem flipL_len (m:List UInt8) (i:Nat):(flipL m i).length=m.length:=by simp[flipL]
theorem bit_flip (m:List UInt8) (i j:Nat) (hi:i/8<m.length):bitB (flipL m i) j=(bitB m j ^^ decide (i=j)):=by
 rw[bitB_test,bitB_test];unfold flipL;by_cases h:i/8=j/8
 ·have e:(m.set (i/8) (b8 (((m.getD (i/8) 0).toNat ^^^ 2^(i%8):Nat):Int))).getD (j/8) 0=b8 (((m.getD (i/8) 0).toNat ^^^ 2^(i%8):Nat):Int):=by
   rw[← h];simp[List.getD,hi]
  have h8:i%8<8:=Nat.mod_lt _ (by omega);have hx:(m.getD (i/8) 0).toNat ^^^ 2^(i%8)<2^8:=Nat.xor_lt_two_pow (m.getD (i/8) 0).toNat_lt (Nat.pow_lt_pow_right (by omega) h8);have hb:=b8_toNat (((m.getD (i/8) 0).toNat ^^^ 2^(i%8):Nat):Int) (by omega) (by omega);have hb':(b8 (((m.getD (i/8) 0).toNat ^^^ 2^(i%8):Nat):Int)).toNat=(m.getD (i/8) 0).toNat ^^^ 2^(i%8):=by exact_mod_cast hb
  rw[e,hb',Nat.testBit_xor,Nat.testBit_two_pow,← h];congr 1;by_cases e2:i=j
  ·subst e2;simp
  ·have:¬i%8=j%8:=by omega
   simp[e2,this]
 ·have e:(m.set (i/8) (b8 (((m.getD (i/8) 0).toNat ^^^ 2^(i%8):Nat):Int))).getD (j/8) 0=m.getD (j/8) 0:=by
   simp[List.getD,h]
  have e2:¬i=j:=by intro e2;subst e2;exact h rfl
  rw[e];simp[e2]
theorem getD_set_ne' (v:List (List UInt8)) {i j:Nat}(b:List UInt8) (h:i≠j):(v.set i b).getD j []=v.getD j []:=by simp[List.getD,h]
theorem getD_set_eq' (v:List (List UInt8)) {i:Nat}(b:List UInt8) (h:i<v.length):(v.set i b).getD i []=b:=by simp[List.getD,h]
theorem Good.set {v:List (List UInt8)}{I:Int}(h:Good v I) {i:Nat}{b:List UInt8}(h0:i≠0) (h2:i≠2) (hb:b.length=128):Good (v.set i b) I:=by
 refine⟨λj hj=>?_,by simpa using h.plan,?_,λj hj=>?_,λj hj hl=>?_⟩
 ·rw[List.getElem_set];split
  ·exact hb
  ·exact h.all j (by simpa using hj)
 ·rw[getD_set_ne' v b h0,h.head];simp
 ·rw[getD_set_ne' v b h2];exact h.low j hj
 ·rw[getD_set_ne' v b h2];exact h.high j hj (by simpa using hl)
theorem Good.flip {v:List (List UInt8)}{I:Int}(h:Good v I) {i:Nat}(h1:dataOf I<=(i:Int)) (h2:i<v.length):Good (v.set 2 (flipL (v.getD 2 []) i)) I:=by
 have hp:=plan_bd h.plan;have hl2:(v.getD 2 []).length=128:=getD_len h (by omega);unfold dataOf at h1;refine⟨λj hj=>?_,by simpa using h.plan,?_,λj hj=>?_,λj hj hl=>?_⟩
 ·rw[List.getElem_set];split
  ·rw[flipL_len,hl2]
  ·exact h.all j (by simpa using hj)
 ·rw[getD_set_ne' v _ (by decide),h.head];simp
 ·rw[getD_set_eq' v _ (by omega),bit_flip _ _ _ (by omega),h.low j hj];have:¬i=j:=by omega
  simp[this]
 ·rw[getD_set_eq' v _ (by omega),bit_flip _ _ _ (by omega),h.high j hj (by simpa using hl)];have:¬i=j:=by have hl':v.length<=j:=(by simpa using hl);omega
  simp[this]
theorem takeI_some {v:List (List UInt8)}{I:Int}{i:Nat}(h:takeI v I=some i):dataOf I<=(i:Int)/\i<v.length/\bitB (v.getD 2 []) i=false/\∀j:Nat,dataOf I<=(j:Int)->j<i->bitB (v.getD 2 []) j=true:=by
 unfold takeI at h;rw[List.find?_range_eq_some]at h;obtain⟨h1,h2,h3⟩:=h;simp only[Bool.and_eq_true,decide_eq_true_eq,Bool.not_eq_true']at h1;refine⟨h1.1,List.mem_range.1 h2,h1.2,λj hj hlt=>?_⟩;have:=h3 j hlt;simp only[Bool.not_and,Bool.not_not,Bool.or_eq_true,Bool.not_eq_true',decide_eq_false_iff_not]at this;rcases this with h|h
 ·exact absurd hj h
 ·exact h
theorem Good.taken {v:List (List UInt8)}{I:Int}(h:Good v I) {i:Nat}(ht:takeI v I=some i):Good (takenV v i) I:=by
 have hp:=plan_bd h.plan;obtain⟨h1,h2,_⟩:=takeI_some ht;unfold dataOf at h1;exact(h.flip (by unfold dataOf;exact h1) h2).set (by omega) (by omega) (zs_len 128)
theorem takenV_len (v:List (List UInt8)) (i:Nat):(takenV v i).length=v.length:=by simp[takenV]
theorem putAt_len (v:List (List UInt8)) (k:Int) (x:List Int):(putAt v k x).length=v.length:=by simp[putAt]
theorem Good.putAt {v:List (List UInt8)}{I k:Int}(h:Good v I) (h1:1<=k) (h2:k<=I) (x:List Int):Good (putAt v k x) I:=by
 have hp:=plan_bd h.plan;have hi:(3+(k-1)/2).toNat<v.length:=by omega
 refine h.set (by omega) (by omega) ?_;rw[overL_len,getD_len h hi];rw[inoB_len,getD_len h hi];omega
theorem fnum_lt (b:List UInt8) (o z:Nat):0<=fnum b o z/\fnum b o z<256^z:=by
 unfold fnum;have h1:=numL_lt ((b.drop o).take z);have h2:((b.drop o).take z).length<=z:=by simp[List.length_take];omega
 have h3:(256:Nat)^((b.drop o).take z).length<=256^z:=Nat.pow_le_pow_right (by omega) h2;refine⟨by omega,?_⟩;have h4:(numL ((b.drop o).take z))<256^z:=by omega
 rw[show(256:Int)^z=((256^z:Nat):Int) by rw[Int.natCast_pow];rfl];exact Int.ofNat_lt.2 h4
theorem fits_ino (b:List UInt8) (o:Nat):fitsB (inoL b o)=true:=by
 unfold fitsB;rw[List.all_eq_true];intro k _;refine decide_eq_true ?_;rcases k with⟨k,hk⟩
 rcases(by omega:k=0\/k=1\/k=2\/k=3\/k=4\/k=5\/k=6\/k=7\/k=8\/k=9\/k=10\/k=11) with rfl|rfl|rfl|rfl|rfl|rfl|rfl|rfl|rfl|rfl|rfl|rfl<;>exact fnum_lt _ _ _
theorem plan_all (B I:Int):∃a0 a1 a2 a3 a4 a5 n:Int,(∀w,Calls prog 163 #[.int .i64 B,.int .i64 I] w λe w'=>e=.returned (.tuple #[.agg #[.int .i64 a0,.int .i64 a1,.int .i64 a2,.int .i64 a3,.int .i64 a4,.int .i64 a5],.int .i64 n])/\Ext w w')/\
  ((n=0/\planB B I=true/\a0=B/\a1=I/\a2=1/\a3=2/\a4=3/\a5=3+(I+1)/2)\/((n=2\/n=10)/\planB B I=false)):=by
 cases h:planB B I with
 | true=>exact⟨B,I,1,2,3,_,0,λw=>plan_yes B I w h,.inl ⟨rfl,rfl,rfl,rfl,rfl,rfl,rfl,rfl⟩⟩
 | false =>
  have hp:B<16\/223<B\/(16<=B/\B<=223/\I<4)\/(16<=B/\B<=223/\64<I)\/(16<=B/\B<=223/\4<=I/\I<=64/\B<=3+(I+1)/2):=by
   have:¬(16<=B/\B<=223/\4<=I/\I<=64/\3+(I+1)/2<B):=by simpa[planB]using h
   omega
  clear h;rcases hp with hp|hp|hp|hp|hp
  case' inr.inr.inr.inr => refine⟨0,0,0,0,0,0,10,λw=>?_,.inr ⟨.inr rfl,rfl⟩⟩;go_enter func163,ntmps163;go_wp2_with fail;exact bodyPost_ret (v:=.tuple #[noGeom,.int .i64 10]) (by simp[results,Tryz.results163,go_sem,noGeom]) rfl ⟨rfl,(Ext.refl _).alloc _⟩
  all_goals
   refine⟨0,0,0,0,0,0,2,λw=>?_,.inr ⟨.inl rfl,rfl⟩⟩;go_enter func163,ntmps163;go_wp2_with fail;exact bodyPost_ret (v:=.tuple #[noGeom,.int .i64 2]) (by simp[results,Tryz.results163,go_sem,noGeom]) rfl ⟨rfl,(Ext.refl _).alloc _⟩
theorem gof_any (A:Option Addr) (n c:Nat) (v:List (List UInt8)) (w:World) (hv:Strs w A n v) (hnk:n<=9223372036854775807) :
  Calls prog 94 #[.slice A n c] w λe w'=>OfR v e/\Ext w w':=by
 obtain⟨rfl,hv2⟩:=hv;have hz:=str_size;have r0:Box (w.alloc (.cells #[.int .i64 0,.int .i64 0,.int .i64 0,.int .i64 0,.int .i64 0,.int .i64 0] 144)) w.heap.size 144 (intVals [0,0,0,0,0,0]):=Box.new _ _ _;have x0:Ext w (w.alloc (.cells #[.int .i64 0,.int .i64 0,.int .i64 0,.int .i64 0,.int .i64 0,.int .i64 0] 144)):=(Ext.refl _).alloc _;go_enter func94,ntmps94;go_wp2_with fail;generalize w.alloc (.cells #[.int .i64 0,.int .i64 0,.int .i64 0,.int .i64 0,.int .i64 0,.int .i64 0] 144)=w1 at *;have x1:=x0;have r1:=r0;clear x0 r0;go_loop [5,12] (λ_ i=>∃k:Nat,k<=v.length/\i=.int .i64 k/\∀(j:Nat) (h:j<v.length),j<k->v[j].length=128) (λ_ i=>v.length-(intOf i).toNat);case atStart=>exact⟨0,by omega,rfl,λj h hk=>by omega⟩
 case round =>
  obtain⟨k,hk,rfl,hal⟩:=hrel;have HAL:=lh_ hal;clear hal;by_cases hlt2:k<v.length
  ·obtain⟨b,o,rfl,hcell⟩:=hv2 (by omega);have hck:w1.cell? ⟨b,o+k,none⟩=some (.string (str v[k])):=x1.keep (hcell k hlt2);by_cases hl:v[k].length=128
   ·have HN:=lh_ (show∀(j:Nat) (h:j<v.length),j<k+1->v[j].length=128 fromλj h hj=>by
     by_cases e:j<k
     ·exact HAL.out j h e
     ·obtain rfl:j=k:=by omega
      exact hl)
    have hlk:((v[k].length:Int) != 128)=false:=by rw[hl];rfl
    clear hl hcell;generalize v[k]=s at *;go_wp2_with fail;go_round;case rel=>exact⟨k+1,by omega,by go_num,HN.out⟩
    case measure=>simp[intOf];omega
   ·have hlk:((v[k].length:Int) != 128)=true:=by simp;omega
    clear hl hcell;generalize v[k]=s at *;go_wp2_with (refine wp_st_geom (.tmp 2) (.tmp 19) rfl rfl w.heap.size [0,0,0,0,0,0] [0,0,0,0,0,0] 144 rfl rfl r1 rfl rfl ?_;intro w6 b6 g6)
    have xF:=(x1).grown g6 (λk e=>by cases e;exact Nat.le_refl _);exact bodyPost_ret (v:=.tuple #[noGeom,.int .i64 3]) (results_cell2 Tryz.results94 _ _ _ _ _ _ _ rfl rfl b6 underlying144 rfl geomSize) rfl ⟨.inr rfl,xF⟩
  ·obtain rfl:k=v.length:=by omega
   have HALL:=lh_ (λ(j:Nat) (h:j<v.length)=>HAL.out j h h);clear HAL;by_cases h16:v.length<16
   ·have d16:decide ((v.length:Int)<16)=true:=decide_eq_true (by omega);go_wp2_with (refine wp_st_geom (.tmp 2) (.tmp 24) rfl rfl w.heap.size [0,0,0,0,0,0] [0,0,0,0,0,0] 144 rfl rfl r1 rfl rfl ?_;intro w6 b6 g6)
    have xF:=(x1).grown g6 (λk e=>by cases e;exact Nat.le_refl _);exact bodyPost_ret (v:=.tuple #[noGeom,.int .i64 3]) (results_cell2 Tryz.results94 _ _ _ _ _ _ _ rfl rfl b6 underlying144 rfl geomSize) rfl ⟨.inr rfl,xF⟩
   ·have d16:decide ((v.length:Int)<16)=false:=decide_eq_false (by omega);obtain⟨b,o,rfl,hcell⟩:=hv2 (by omega);have c0:w1.cell? ⟨b,o,none⟩=some (.string (str (v.getD 0 []))):=by
     have:=x1.keep (hcell 0 (by omega));rw[List.getD_eq_getElem?_getD,List.getElem?_eq_getElem (by omega)];exact this
    have c0v:∀wx,Ext w wx->wx.cell? ⟨b,o,none⟩=some (.string (str (v.getD 0 []))):=λwx xx=>by have:=xx.keep (hcell 0 (by omega));rw[List.getD_eq_getElem?_getD,List.getElem?_eq_getElem (by omega)];exact this
    have c2v:∀wx,Ext w wx->wx.cell? ⟨b,o+2,none⟩=some (.string (str (v.getD 2 []))):=λwx xx=>by have:=xx.keep (hcell 2 (by omega));rw[List.getD_eq_getElem?_getD,List.getElem?_eq_getElem (by omega)];exact this
    have hb:b<w.heap.size:=World.block_lt_of_cell? w _ (hcell 0 (by omega));have C0:=lh_ c0v;have C2:=lh_ c2v;have l0:(v.getD 0 []).length=128:=by rw[List.getD_eq_getElem?_getD,List.getElem?_eq_getElem (by omega)];exact HALL.out 0 (by omega)
    have l2:(v.getD 2 []).length=128:=by rw[List.getD_eq_getElem?_getD,List.getElem?_eq_getElem (by omega)];exact HALL.out 2 (by omega)
    clear c0v c2v hcell hv2;obtain⟨p,q,hpq⟩:=len2 (l:=((v.getD 0 []).drop 4).take 2) (by rw[List.length_take,List.length_drop];omega);obtain⟨r,s,hrs⟩:=len2 (l:=((v.getD 0 []).drop 6).take 2) (by rw[List.length_take,List.length_drop];omega);have e46:(str (v.getD 0 [])).extract 4 6=str [p,q]:=by rw[str_ext];exact congrArg str hpq
    have e68:(str (v.getD 0 [])).extract 6 8=str [r,s]:=by rw[str_ext];exact congrArg str hrs
    clear hpq hrs;have pb:=p.toNat_lt;have qb:=q.toNat_lt;have rb:=r.toNat_lt;have sb:=s.toNat_lt;obtain⟨B,hB⟩:∃B:Int,(p.toNat:Int)+256*q.toNat=B:=⟨_,rfl⟩
    obtain⟨I,hI⟩:∃I:Int,(r.toNat:Int)+256*s.toNat=I:=⟨_,rfl⟩
    have GB:=lh_ (λw=>get2_at p q B w hB);have GI:=lh_ (λw=>get2_at r s I w hI);have wB:IntKind.i64.wrap B=B:=by rw[IntKind.wrap_i64];omega
    have wI:IntKind.i64.wrap I=I:=by rw[IntKind.wrap_i64];omega
    clear hB hI pb qb rb sb;have zH:(str (v.getD 0 [])).size=128:=by rw[str_size,l0]
    have hn0:0<v.length:=by omega
    have hn1:(0:Int)<(v.length:Int):=by omega
    obtain⟨a0,a1,a2,a3,a4,a5,pn,hPl,hpl⟩:=plan_all B I;have HPl:=lh_ hPl;have HPc:=lh_ hpl;clear hPl hpl;obtain⟨H,hH⟩:∃H,H=v.getD 0 []:=⟨_,rfl⟩
    rw[← hH]at c0 e46 e68 zH l0 C0;have HHH:=lh_ hH;clear hH hz;go_wp2_with fail;go_cut [6,7] (λs6 s7 wx=>∃g:Nat,s6=.pointer (some ⟨g,0,none⟩)/\s7=.int .i64 pn/\w1.heap.size<=g/\Ext w1 wx/\Box wx g 144 #[.int .i64 a0,.int .i64 a1,.int .i64 a2,.int .i64 a3,.int .i64 a4,.int .i64 a5]);case first =>
     have hb1:b<w1.heap.size:=Nat.lt_of_lt_of_le hb x1.size;have cA:(w1.alloc (.cells #[.int .i64 0,.int .i64 0,.int .i64 0,.int .i64 0,.int .i64 0,.int .i64 0] 144)).cell? ⟨b,o,none⟩=some (.string (str H)):=Ext.keep ((Ext.refl _).alloc _) c0;have bne:¬b=w1.heap.size:=by omega
     have bne':¬w1.heap.size=b:=by omega
     clear C0 C2 HALL r1
     go_region_held3 (λw'=>w'.cell? ⟨b,o,none⟩=some (.string (str H)))
      (first|(with_reducible exact c0)|(with_reducible exact cB)|(with_reducible exact cA)|(with_reducible exact Ext.keep ((Ext.refl _).alloc _) cB)|go_keep) (first
      | (go_at_call_of 164 (str [p,q]);refine(GB.out _).mono ?_;rintro e w' ⟨rfl,rfl⟩)
      | (go_at_call_of 164 (str [r,s]);refine(GI.out _).mono ?_;rintro e w' ⟨rfl,rfl⟩)
      | (go_at_call 163;(with_reducible refine(HPl.out (World.drew (World.alloc w1 _))).mono ?_);rintro e w' ⟨rfl,hgp⟩;have HX:=lh_ (((Ext.refl w1).alloc _).trans (Ext.undrew hgp));have cB:=Ext.keep hgp (show(World.drew (World.alloc w1 _)).cell? ⟨b,o,none⟩=some (.string (str H)) from Ext.keep ((Ext.refl _).alloc _) c0);have bx:=Box.ext (Box.new w1 144 #[.int .i64 0,.int .i64 0,.int .i64 0,.int .i64 0,.int .i64 0,.int .i64 0]) (Ext.undrew hgp);have y0:=bx.cell 0;have f0:=bx.frozen 0;have y1:=bx.cell 1;have f1:=bx.frozen 1;have y2:=bx.cell 2;have f2:=bx.frozen 2;have y3:=bx.cell 3;have f3:=bx.frozen 3;have y4:=bx.cell 4;have f4:=bx.frozen 4;have y5:=bx.cell 5;have f5:=bx.frozen 5;have BX:=lh_ bx;clear bx;simp only[List.getElem?_toArray,List.getElem?_cons_zero,List.getElem?_cons_succ]at y0 y1 y2 y3 y4 y5)
      | (go_at_call 163;refine(HPl.out _).mono ?_;rintro e w' ⟨rfl,hgp⟩;have HX:=lh_ (Ext.undrew hgp);have cB:=Ext.keep hgp (show(World.drew w1).cell? ⟨b,o,none⟩=some (.string (str H)) from c0)))
     ·go_wp2_with fail;go_meet;exact⟨w'.heap.size,rfl,rfl,HX.out.size,HX.out.alloc _,Box.new _ _ _⟩
     all_goals
      go_wp2_with fail;go_meet;refine⟨w1.heap.size,rfl,rfl,Nat.le_refl _,?_,?_⟩
      ·exact(((((HX.out.setCell (Nat.le_refl _) _).setCell (Nat.le_refl _) _).setCell (Nat.le_refl _) _).setCell (Nat.le_refl _) _).setCell (Nat.le_refl _) _).setCell (Nat.le_refl _) _
      ·exact((((((BX.out.set 0 _).set 1 _).set 2 _).set 3 _).set 4 _).set 5 _)
    case rest =>
     obtain⟨g,rfl,rfl,hg6,xc,bc⟩:=hcut;have xw:=x1.trans xc;have rc:=r1.ext xc;have c0':∀x:Later wc,x.now.cell? ⟨b,o,none⟩=some (.string (str H)):=λx=>C0.out _ (xw.trans x.ext);have q0:∀x:Later wc,x.now.cell? ⟨g,0,none⟩=some (.int .i64 a0):=λx=>(bc.ext x.ext).cell 0;have q1:∀x:Later wc,x.now.cell? ⟨g,1,none⟩=some (.int .i64 a1):=λx=>(bc.ext x.ext).cell 1;have q2:∀x:Later wc,x.now.cell? ⟨g,2,none⟩=some (.int .i64 a2):=λx=>(bc.ext x.ext).cell 2;have q3:∀x:Later wc,x.now.cell? ⟨g,3,none⟩=some (.int .i64 a3):=λx=>(bc.ext x.ext).cell 3;have q4:∀x:Later wc,x.now.cell? ⟨g,4,none⟩=some (.int .i64 a4):=λx=>(bc.ext x.ext).cell 4;have q5:∀x:Later wc,x.now.cell? ⟨g,5,none⟩=some (.int .i64 a5):=λx=>(bc.ext x.ext).cell 5;clear c0 e46 e68 wB wI d16 GB GI HPl hb;rcases HPc.out with⟨rfl,hp,e0,e1,rfl,rfl,rfl,e5⟩|⟨hpn,hp⟩
     ·have e0':=e0.symm;have e1':=e1.symm;clear e0 e1;subst e0' e1' e5;have HP:=lh_ hp;clear hp;by_cases hBl:B=(v.length:Int)
      ·subst hBl;have hpl2:=plan_bd HP.out;have HF:∀w,Hid (Calls prog 165 #[.agg #[.int .i64 v.length,.int .i64 I,.int .i64 1,.int .i64 2,.int .i64 3,.int .i64 (3+(I+1)/2)]] w λe w'=>e=.returned (.string (str (headL v.length I)))/\Ext w w'):=λw=>lh_ (first_any v.length I w HP.out);obtain⟨HD,hHD⟩:∃HD,HD=headL v.length I:=⟨_,rfl⟩
       rw[← hHD]at HF;have HHD:=lh_ hHD;clear hHD;by_cases hHe:H=HD
       ·have HHe:=lh_ hHe;subst hHe;go_wp2_with fail;refine wp_region_later (by kernel_rfl) (by kernel_rfl) ?_;repeat (go_big_quiet_step (exact later_of ((HF _).out)))
        refine wpQuiet_nil ?_;rintro w5 ⟨x5,rfl⟩;have xw5:=xw.trans x5.ext;have r5:=rc.ext x5.ext;have d0:=q0 x5;have d5:=q5 x5;have b5:=bc.ext x5.ext;have e2:=C2.out _ xw5;clear q0 q1 q2 q3 q4 q5 c0' HF C0 C2 bc rc xw r1 x1 xc;go_wp2_with fail;go_loop [59] (λt=>∃m:Nat,m<=1024/\t=.int .i64 m/\∀i:Nat,i<m->((i:Int)<3+(I+1)/2->bitB (v.getD 2 []) i=true)/\(v.length<=i->bitB (v.getD 2 []) i=false)) (λt=>1024-(intOf t).toNat);case atStart=>exact⟨0,by omega,rfl,λi hi=>by omega⟩
        case round =>
         obtain⟨m,hm,rfl,hbits⟩:=hrel;have HBI:=lh_ hbits;clear hbits;have HB:=lh_ (λ(hm2:m<1024) w (h:w.cell? ⟨b,o+2,none⟩=some (.string (str (v.getD 2 []))))=>bit_any b o v.length c m (v.getD 2 []) w (by omega) h l2 hm2);by_cases hm2:m<1024
         ·have HST:=lh_ (show(((m:Int)<3+(I+1)/2->bitB (v.getD 2 []) m=true)/\(v.length<=m->bitB (v.getD 2 []) m=false))->∀i:Nat,i<m+1->((i:Int)<3+(I+1)/2->bitB (v.getD 2 []) i=true)/\(v.length<=i->bitB (v.getD 2 []) i=false) fromλh i hi=>by
           by_cases e:i<m
           ·exact HBI.out i e
           ·obtain rfl:i=m:=by omega
            exact h)
          clear HBI;obtain⟨bt,hbt⟩:∃bt,bitB (v.getD 2 []) m=bt:=⟨_,rfl⟩
          rw[hbt]at HST;have HBT:=lh_ hbt;clear hbt;by_cases m1:(m:Int)<3+(I+1)/2
          ·have m3':¬(v.length:Int)<=m:=by omega
           have m3'':decide ((v.length:Int)<=m)=false:=by simpa using m3'
           cases bt with
           | true =>
            go_wp2_with (go_at_call 166;refine(HB.out hm2 _ e2).mono ?_;rintro e w' ⟨rfl,rfl⟩;rw[HBT.out])
            go_round;case rel=>exact⟨m+1,by omega,by go_num,HST.out ⟨λ_=>by simp,λh=>by omega⟩⟩
            case measure=>simp[intOf];omega
           | false =>
            go_wp2_with (first
             | (go_at_call 166;refine(HB.out hm2 _ e2).mono ?_;rintro e w' ⟨rfl,rfl⟩;rw[HBT.out])
             | (refine wp_st_geom (.tmp 2) (.tmp 82) rfl rfl w.heap.size [0,0,0,0,0,0] [0,0,0,0,0,0] 144 rfl rfl r5 rfl rfl ?_;intro w6 b6 g6))
            have xF:=xw5.grown g6 (λk e=>by cases e;exact Nat.le_refl _);exact bodyPost_ret (v:=.tuple #[noGeom,.int .i64 3]) (results_cell2 Tryz.results94 _ _ _ _ _ _ _ rfl rfl b6 underlying144 rfl geomSize) rfl ⟨.inr rfl,xF⟩
          ·have m1':decide ((m:Int)<3+(I+1)/2)=false:=by simpa using m1
           by_cases m3:v.length<=m
           ·have m3':(v.length:Int)<=m:=by omega
            cases bt with
            | false =>
             go_wp2_with (go_at_call 166;refine(HB.out hm2 _ e2).mono ?_;rintro e w' ⟨rfl,rfl⟩;rw[HBT.out])
             go_round;case rel=>exact⟨m+1,by omega,by go_num,HST.out ⟨λh=>by omega,λ_=>by simp⟩⟩
             case measure=>simp[intOf];omega
            | true =>
             go_wp2_with (first
              | (go_at_call 166;refine(HB.out hm2 _ e2).mono ?_;rintro e w' ⟨rfl,rfl⟩;rw[HBT.out])
              | (refine wp_st_geom (.tmp 2) (.tmp 82) rfl rfl w.heap.size [0,0,0,0,0,0] [0,0,0,0,0,0] 144 rfl rfl r5 rfl rfl ?_;intro w6 b6 g6))
             have xF:=xw5.grown g6 (λk e=>by cases e;exact Nat.le_refl _);exact bodyPost_ret (v:=.tuple #[noGeom,.int .i64 3]) (results_cell2 Tryz.results94 _ _ _ _ _ _ _ rfl rfl b6 underlying144 rfl geomSize) rfl ⟨.inr rfl,xF⟩
           ·have m3':¬(v.length:Int)<=m:=by omega
            have m3'':decide ((v.length:Int)<=m)=false:=by simpa using m3'
            go_wp2_with (go_at_call 166;refine(HB.out hm2 _ e2).mono ?_;rintro e w' ⟨rfl,rfl⟩)
            go_round;case rel=>exact⟨m+1,by omega,by go_num,HST.out ⟨λh=>by omega,λh=>by omega⟩⟩
            case measure=>simp[intOf];omega
         ·obtain rfl:m=1024:=by omega
          have HG:=lh_ (show Good v I from⟨HALL.out,HP.out,by rw[← HHH.out,← HHD.out],λi hi=>(HBI.out i (by omega)).1 hi,λi hi hl=>(HBI.out i hi).2 hl⟩);have b5':Box x5.now g 144 (intVals [(v.length:Int),I,1,2,3,3+(I+1)/2]):=b5;clear b5
          go_wp2_with (first
           | (refine wp_ld_geom (.tmp 6) rfl rfl g _ 144 rfl b5' rfl ?_)
           | (refine wp_st_geom (.tmp 2) (.tmp 84) rfl rfl w.heap.size [(v.length:Int),I,1,2,3,3+(I+1)/2] [0,0,0,0,0,0] 144 rfl rfl r5 rfl rfl ?_;intro w6 b6 g6))
          have xF:=xw5.grown g6 (λk e=>by cases e;exact Nat.le_refl _);exact bodyPost_ret (v:=.tuple #[geomV v.length I,.int .i64 0]) (results_cell2 Tryz.results94 _ _ _ _ _ _ _ rfl rfl b6 underlying144 rfl geomSize) rfl ⟨.inl ⟨I,HG.out,rfl⟩,xF⟩
       ·have hne:((str H).toList==(str HD).toList)=false:=by rw[str_toList,str_toList];simpa using hHe
        have hne2:((str H).toList != (str HD).toList)=true:=by rw[bne,hne];rfl
        clear hHe;go_wp2_with fail;refine wp_region_later (by kernel_rfl) (by kernel_rfl) ?_;repeat (go_big_quiet_step (exact later_of ((HF _).out)))
        refine wpQuiet_nil ?_;rintro w5 ⟨x5,rfl⟩;have xw5:=xw.trans x5.ext;have r5:=rc.ext x5.ext;go_wp2_with (refine wp_st_geom (.tmp 2) (.tmp 58) rfl rfl w.heap.size [0,0,0,0,0,0] [0,0,0,0,0,0] 144 rfl rfl r5 rfl rfl ?_;intro w6 b6 g6)
        have xF:=xw5.grown g6 (λk e=>by cases e;exact Nat.le_refl _);exact bodyPost_ret (v:=.tuple #[noGeom,.int .i64 3]) (results_cell2 Tryz.results94 _ _ _ _ _ _ _ rfl rfl b6 underlying144 rfl geomSize) rfl ⟨.inr rfl,xF⟩
      ·have hbn:(B != (v.length:Int))=true:=by simpa using hBl
       clear hBl;go_wp2_with fail;refine wp_region_later (by kernel_rfl) (by kernel_rfl) ?_;repeat (go_big_quiet_step (fail))
       refine wpQuiet_nil ?_;rintro w5 ⟨x5,rfl⟩;have xw5:=xw.trans x5.ext;have r5:=rc.ext x5.ext;go_wp2_with (refine wp_st_geom (.tmp 2) (.tmp 58) rfl rfl w.heap.size [0,0,0,0,0,0] [0,0,0,0,0,0] 144 rfl rfl r5 rfl rfl ?_;intro w6 b6 g6)
       have xF:=xw5.grown g6 (λk e=>by cases e;exact Nat.le_refl _);exact bodyPost_ret (v:=.tuple #[noGeom,.int .i64 3]) (results_cell2 Tryz.results94 _ _ _ _ _ _ _ rfl rfl b6 underlying144 rfl geomSize) rfl ⟨.inr rfl,xF⟩
     ·have hbn:(pn != 0)=true:=by rcases hpn with rfl|rfl<;>rfl
      clear hpn;go_wp2_with fail;refine wp_region_later (by kernel_rfl) (by kernel_rfl) ?_;repeat (go_big_quiet_step (fail))
      refine wpQuiet_nil ?_;rintro w5 ⟨x5,rfl⟩;have xw5:=xw.trans x5.ext;have r5:=rc.ext x5.ext;go_wp2_with (refine wp_st_geom (.tmp 2) (.tmp 58) rfl rfl w.heap.size [0,0,0,0,0,0] [0,0,0,0,0,0] 144 rfl rfl r5 rfl rfl ?_;intro w6 b6 g6)
      have xF:=xw5.grown g6 (λk e=>by cases e;exact Nat.le_refl _);exact bodyPost_ret (v:=.tuple #[noGeom,.int .i64 3]) (results_cell2 Tryz.results94 _ _ _ _ _ _ _ rfl rfl b6 underlying144 rfl geomSize) rfl ⟨.inr rfl,xF⟩
theorem part_eq {l l':List UInt8}{o o' z:Nat}(h:∀j,j<z->l[o+j]? =l'[o'+j]?):(l.drop o).take z=(l'.drop o').take z:=by
 apply List.ext_getElem?;intro j;rw[List.getElem?_take,List.getElem?_take,List.getElem?_drop,List.getElem?_drop];split
 ·exact h j ‹_›
 ·rfl
theorem overL_at {b s:List UInt8}{p:Nat}(h:p+s.length<=b.length) (j:Nat):(overL b p s)[j]? =if j<p then b[j]? else if j<p+s.length then s[j-p]? else b[j]? :=by
 unfold overL;have hp:(b.take p).length=p:=by simp;omega
 by_cases h1:j<p
 ·rw[if_pos h1,List.append_assoc,List.getElem?_append_left (by omega),List.getElem?_take,if_pos h1]
 ·rw[if_neg h1,List.append_assoc,List.getElem?_append_right (by omega),hp];by_cases h2:j<p+s.length
  ·rw[if_pos h2,List.getElem?_append_left (by omega)]
  ·rw[if_neg h2,List.getElem?_append_right (by omega),List.getElem?_drop,show p+s.length+(j-p-s.length)=j by omega]
theorem fnum_over_out {b s:List UInt8}{p:Nat}(h:p+s.length<=b.length) {o z:Nat}(hz:o+z<=p\/p+s.length<=o):fnum (overL b p s) o z=fnum b o z:=by
 unfold fnum;rw[part_eq (l':=b) (o':=o) (λj hj=>by
  rw[overL_at h];rcases hz with hz|hz
  ·rw[if_pos (by omega)]
  ·rw[if_neg (by omega),if_neg (by omega)])]
theorem inoL_over_ne {b s:List UInt8}{p q:Nat}(h:p+s.length<=b.length) (hs:s.length=24) (hq:q+24<=p\/p+24<=q):inoL (overL b p s) q=inoL b q:=by
 unfold inoL;have e:∀i z:Nat,i+z<=24->fnum (overL b p s) (q+i) z=fnum b (q+i) z:=λi z hz=>fnum_over_out h (by omega);rw[show fnum (overL b p s) q 1=fnum b q 1 from e 0 1 (by omega),e 2 2 (by omega),e 1 1 (by omega),e 4 4 (by omega),e 8 2 (by omega),e 10 2 (by omega),e 12 2 (by omega),e 14 2 (by omega),e 16 2 (by omega),e 18 2 (by omega),e 20 2 (by omega),e 22 2 (by omega)]
theorem inoAt_put_ne {v:List (List UInt8)}{I k j:Int}(hg:Good v I) (h1:1<=k) (h2:k<=I) (j1:1<=j) (hne:j≠k) (x:List Int):inoAt (putAt v k x) j=inoAt v j:=by
 have hp:=plan_bd hg.plan;have hi:(3+(k-1)/2).toNat<v.length:=by omega
 unfold inoAt putAt;by_cases e:(3+(k-1)/2).toNat=(3+(j-1)/2).toNat
 ·rw[← e,getD_set_eq' _ _ hi,inoL_over_ne (by rw[inoB_len,getD_len hg hi];omega) (inoB_len x) (by omega)]
 ·rw[getD_set_ne' _ _ e]
theorem inoAt_set (v:List (List UInt8)) {i:Nat}{k:Int}(b:List UInt8) (h:i≠(3+(k-1)/2).toNat):inoAt (v.set i b) k=inoAt v k:=by
 unfold inoAt;rw[getD_set_ne' _ _ h]
theorem known_bad (A:Option Addr) (n c:Nat) (v:List (List UInt8)) (k:Int) (w:World) (hv:Strs w A n v) (hn:n<=9223372036854775807) (hb:∀I,¬Good v I) :
  Calls prog 133 #[.slice A n c,.int .i64 k] w λe w'=>e=.returned (.tuple #[noGeom,.int .i64 3])/\Ext w w':=by
 have HO:=lh_ (λw h=>gof_any A n c v w h hn);go_enter func133,ntmps133;go_wp2_with fail;refine(HO.out _ (hv.ext ((Ext.refl _).alloc _))).mono ?_;rintro e w1 ⟨hor,x1⟩;obtain rfl:e=.returned (.tuple #[noGeom,.int .i64 3]):=by
  rcases hor with⟨I,hg,_⟩|h
  ·exact absurd hg (hb I)
  ·exact h
 rw[noGeom_eq];have x0:Ext w w1:=((Ext.refl w).alloc _).trans x1;have bR:Box w1 w.heap.size 144 (intVals [0,0,0,0,0,0]):=(Box.new w 144 _).ext x1;have hlt:=bR.lt;clear x1
 go_wp2_with (first
  | (refine wp_st_geom (.tmp 6) (.tmp 11) rfl rfl w1.heap.size [0,0,0,0,0,0] [0,0,0,0,0,0] 144 rfl rfl (Box.new _ _ _) rfl rfl ?_;intro w2 b2 g2)
  | (refine wp_st_geom (.tmp 4) (.tmp 15) rfl rfl w.heap.size [0,0,0,0,0,0] [0,0,0,0,0,0] 144 rfl rfl ((bR.ext ((Ext.refl _).alloc _)).grown g2 (by first|(simp;done)|(simp;omega))) rfl rfl ?_;intro w3 b3 g3))
 refine bodyPost_ret (results_cell2 rfl _ _ w.heap.size _ _ _ (.int .i64 3) rfl rfl b3 underlying144 rfl geomSize) rfl ⟨rfl,?_⟩;exact((x0.alloc _).grown g2 (λk e=>by cases e;exact x0.size)).grown g3 (λk e=>by cases e;exact Nat.le_refl _)
theorem iget_bad (A:Option Addr) (n c:Nat) (v:List (List UInt8)) (k:Int) (w:World) (hv:Strs w A n v) (hn:n<=9223372036854775807) (hb:∀I,¬Good v I) :
  Calls prog 69 #[.slice A n c,.int .i64 k] w λe w'=>e=.returned (.tuple #[.agg (intVals zero12),.int .i64 3])/\Ext w w':=by
 have HO:=lh_ (λw h=>known_bad A n c v k w h hn hb);go_enter func69,ntmps69;go_wp2_with fail;refine(HO.out _ (hv.ext ((Ext.refl _).alloc _))).mono ?_;rintro e w1 ⟨rfl,x1⟩;rw[noGeom_eq];have x0:Ext w w1:=((Ext.refl w).alloc _).trans x1;have bR:Box w1 w.heap.size 121 (intVals zero12):=(Box.new w 121 _).ext x1;have hlt:=bR.lt;clear x1
 go_wp2_with (first
  | (refine wp_st_geom (.tmp 6) (.tmp 12) rfl rfl w1.heap.size _ [0,0,0,0,0,0] 144 rfl rfl (Box.new _ _ _) rfl rfl ?_;intro w2 b2 g2;have x2:Ext w w2:=(x0.alloc _).grown g2 (λk e=>by cases e;exact x0.size))
  | (refine wp_st_ino (.tmp 4) (.tmp 16) rfl rfl w.heap.size zero12 zero12 121 rfl rfl ((bR.ext ((Ext.refl _).alloc _)).grown g2 (by first|(simp;done)|(simp;omega))) rfl rfl ?_;intro w4 b4 g4))
 refine bodyPost_ret (results_cell2 rfl _ _ w.heap.size _ _ _ (.int .i64 3) rfl rfl b4 underlying121 rfl inoSize) rfl ⟨rfl,?_⟩;exact x2.grown g4 (λk e=>by cases e;exact Nat.le_refl _)
def fileE (v:List (List UInt8)) (I k:Int):Int:=if k<1\/I<k then 2 else if (inoAt v k).getD 0 0≠1 then 11 else 0
theorem ffile_bad (A:Option Addr) (n c:Nat) (v:List (List UInt8)) (k:Int) (w:World) (hv:Strs w A n v) (hn:n<=9223372036854775807) (hb:∀I,¬Good v I) :
  Calls prog 59 #[.slice A n c,.int .i64 k] w λe w'=>e=.returned (.int .i64 3)/\Ext w w':=by
 have HG:=lh_ (λw h=>iget_bad A n c v k w h hn hb);go_enter func59,ntmps59
 go_wp2_with (first
  | (go_at_call 69;refine(HG.out _ hv).mono ?_;rintro e w1 ⟨rfl,x1⟩)
  | (refine wp_st_ino (.tmp 5) (.tmp 11) rfl rfl w1.heap.size _ zero12 121 rfl rfl (Box.new _ _ _) rfl rfl ?_;intro w2 b2 g2))
 go_ret;exact⟨rfl,(x1.alloc _).grown g2 (λk e=>by cases e;exact x1.size)⟩
theorem ffile_any (A:Option Addr) (n c:Nat) (v:List (List UInt8)) (I k:Int) (w:World) (hv:Strs w A n v) (hg:Good v I) :
  Calls prog 59 #[.slice A n c,.int .i64 k] w λe w'=>e=.returned (.int .i64 (fileE v I k))/\Ext w w':=by
 by_cases hk:k<1\/I<k
 ·have HG:=lh_ (λw h=>iget_no A n c v I k w h hg hk);rw[show fileE v I k=2 by unfold fileE;rw[if_pos hk]];go_enter func59,ntmps59
  go_wp2_with (first
   | (go_at_call 69;refine(HG.out _ hv).mono ?_;rintro e w1 ⟨rfl,x1⟩)
   | (refine wp_st_ino (.tmp 5) (.tmp 11) rfl rfl w1.heap.size _ zero12 121 rfl rfl (Box.new _ _ _) rfl rfl ?_;intro w2 b2 g2))
  go_ret;exact⟨rfl,(x1.alloc _).grown g2 (λk e=>by cases e;exact x1.size)⟩
 ·have HG:=lh_ (λw h=>iget_yes A n c v I k w h hg (by omega) (by omega));have HE:=lh_ (show fileE v I k=if (inoAt v k).getD 0 0≠1 then 11 else 0 by unfold fileE;rw[if_neg hk]);have hx:(intVals (inoAt v k))[0]? =some (.int .i64 ((inoAt v k).getD 0 0)):=rfl;have hl:=inoAt_len v k;generalize fileE v I k=r at *;generalize inoAt v k=x at *;generalize x.getD 0 0=kd at *;by_cases h1:kd=1
  ·subst h1;rw[if_neg (λh=>h rfl)]at HE;go_enter func59,ntmps59
   go_wp2_with (first
    | (go_at_call 69;refine(HG.out _ hv).mono ?_;rintro e w1 ⟨rfl,x1⟩)
    | (refine wp_st_ino (.tmp 5) (.tmp 11) rfl rfl w1.heap.size _ zero12 121 rfl rfl (Box.new _ _ _) hl rfl ?_;intro w2 b2 g2;have c2:=(b2.cell 0).trans hx))
   go_ret;rw[HE.out];exact⟨rfl,(x1.alloc _).grown g2 (λk e=>by cases e;exact x1.size)⟩
  ·have d1:(kd != 1)=true:=by simpa using h1
   rw[if_pos h1]at HE;go_enter func59,ntmps59
   go_wp2_with (first
    | (go_at_call 69;refine(HG.out _ hv).mono ?_;rintro e w1 ⟨rfl,x1⟩)
    | (refine wp_st_ino (.tmp 5) (.tmp 11) rfl rfl w1.heap.size _ zero12 121 rfl rfl (Box.new _ _ _) hl rfl ?_;intro w2 b2 g2;have c2:=(b2.cell 0).trans hx))
   go_ret;rw[HE.out];exact⟨rfl,(x1.alloc _).grown g2 (λk e=>by cases e;exact x1.size)⟩
end Go.Proofs.YtfaplefkakpgcaaGreatDoor
