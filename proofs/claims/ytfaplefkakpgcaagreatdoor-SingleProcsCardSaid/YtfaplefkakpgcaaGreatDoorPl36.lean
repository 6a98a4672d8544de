import Derived.Test.YtfaplefkakpgcaaGreatDoorPl13
import Derived.Test.YtfaplefkakpgcaaGreatDoorPl23
set_option linter.unusedVariables false
set_option linter.unusedSimpArgs false
set_option maxHeartbeats 32000000
set_option maxRecDepth 100000
namespace Go.Proofs.YtfaplefkakpgcaaGreatDoor
open Go.Proofs.Tryz
open Go.RowKit
theorem Lw {n:Int}(h0:0<=n) (h:n<10):Lib.itoa n=[b8 (48+n)]:=by
 unfold Lib.itoa;rw[QD (by omega),Lib.decDigits_one (by omega),show(48:Int)+n=((48+n.toNat:Nat):Int) by omega,ES]
theorem Lv {n:Int}(h:n<0):Lib.itoa n=45::Lib.itoa (-n):=by
 unfold Lib.itoa;rw[QN h,QD (by omega),show(-n).toNat=n.natAbs by omega]
theorem Pp {u:Nat}(h:10<=u):Lib.decDigits u=Lib.decDigits (u/10)++[UInt8.ofNat (48+u%10)]:=by
 rw[Lib.decDigits,dif_neg (by omega)]
theorem CU {n:Int}(h:10<=n):Lib.itoa n=Lib.itoa (n/10)++Lib.itoa (n%10):=by
 obtain⟨u,rfl⟩:∃u:Nat,n=u:=⟨n.toNat,by omega⟩
 rw[Lw (n:=(u:Int)%10) (by omega) (by omega)];unfold Lib.itoa;rw[QD (by omega),QD (by omega),show((u:Int)).toNat=u by omega,show((u:Int)/10).toNat=u/10 by omega,Pp (by omega),show(48:Int)+(u:Int)%10=((48+u%10:Nat):Int) by omega,ES]
theorem ju {n:Int}(h:n<=-10):Lib.itoa n=Lib.itoa (-(-n/10))++Lib.itoa (-n%10):=by
 rw[Lv (by omega),CU (by omega),Lv (n:=-(-n/10)) (by omega),show - -(-n/10)= -n/10 by omega];rfl
theorem Ta (n:Int) (w:World) (h0:0<=n) (h:n<10) :
  Calls prog 157 #[.int .i64 n] w λe w'=>e=.returned (.string (Qb (Lib.itoa n)))/\Ext w w':=by
 have hc:=V5 w (48+n) w.heap.size rfl;have hl:=Qa (Lw h0 h);have hw:IntKind.u8.wrap (48+n)=48+n:=by rw[zb];omega
 go_enter func157,ntmps157;go_wp2_with fail;go_ret;exact⟨by rw[hl.o];rfl,(Qg w).alloc _⟩
theorem lB (n:Int) (w:World) (h0:n<0) (h: -10<n) :
  Calls prog 157 #[.int .i64 n] w λe w'=>e=.returned (.string (Qb (Lib.itoa n)))/\Ext w w':=by
 have hl:=Qa (Lv h0);have HI:=Qa (λw=>Ta (-n) w (by omega) (by omega));have HL:=Qa (show(Lib.itoa (-n)).length<=20 from JG (by omega) (by omega));have h1:¬0<=n:=by omega
 go_enter func157,ntmps157;have hz:=Qh;have Lj:=JR [45];have Rm:=HL.o;go_wp2_with (go_at_call 157;with_reducible (refine(HI.o _).mono ?_);rintro e w2 ⟨rfl,x2⟩)
 go_ret;exact⟨by rw[hl.o];rfl,x2⟩
theorem eZ (n q r:Int) (w:World) (hn:Up n) (hb:10<=n\/n<=-10) (hq:q=if 0<=n then n/10 else -(-n/10)) (hr:r=if 0<=n then n%10 else -n%10)
  (HQD:Zm (∀w,Calls prog 157 #[.int .i64 q] w λe w'=>e=.returned (.string (Qb (Lib.itoa q)))/\Ext w w'))
  (vU:Zm (∀w,Calls prog 157 #[.int .i64 r] w λe w'=>e=.returned (.string (Qb (Lib.itoa r)))/\Ext w w')) :
  Calls prog 157 #[.int .i64 n] w λe w'=>e=.returned (.string (Qb (Lib.itoa n)))/\Ext w w':=by
 have hN:=hn;unfold Up at hN;have HI:=Qa (show Lib.itoa n=Lib.itoa q++Lib.itoa r by
  rcases hb with h|h
  ·rw[hq,hr,QN (by omega),QN (by omega)];exact CU h
  ·rw[hq,hr,QD (by omega),QD (by omega)];exact ju h)
 have HL:=Qa (show(Lib.itoa q).length<=20/\(Lib.itoa r).length<=20 by
  constructor
  ·refine JG ?_ ?_<;>(rw[hq];split<;>omega)
  ·refine JG ?_ ?_<;>(rw[hr];split<;>omega))
 have HQ:=Qa (show n.tdiv 10=q by
  rw[hq];split
  ·exact Wdu (by omega)
  ·have:=Int.neg_tdiv (-n) 10;rw[Int.neg_neg]at this;rw[this,Wdu (by omega)])
 have HR:=Qa (show n.tmod 10=if 0<=n then r else -r by
  rw[hr];split
  ·exact Wep (by omega)
  ·have:=Int.neg_tmod (-n) 10;rw[Int.neg_neg]at this;rw[this,Wep (by omega)])
 have HW:=Qa (show wrap64 q=q by unfold wrap64;rw[hq];split<;>omega);have HRB:=Qa (show 0<=r/\r<10 by rw[hr];split<;>omega);clear hq hr hn;rcases hb with h|h
 ·have h1:0<=n:=by omega
  have h2:¬n<10:=by omega
  have h3:¬n<0:=by omega
  have hr:n.tmod 10=r:=by rw[HR.o,QN h1]
  have SF:¬r<0:=by have:=HRB.o;omega
  go_enter func157,ntmps157;go_upto_region 8 with fail;have Lj:=JR;have hz:=Qh;have E7:=HL.o.1;have Rm:=HL.o.2;have hq:=HQ.o;have pD:wrap64 q=q:=HW.o
  go_wp2_with (first
   | (go_at_call 157;with_reducible (refine(HQD.o _).mono ?_);rintro e w2 ⟨rfl,x2⟩)
   | (go_at_call 157;with_reducible (refine(vU.o _).mono ?_);rintro e w3 ⟨rfl,x3⟩))
  go_ret;exact⟨by rw[HI.o];rfl,x2.trans x3⟩
 ·have h1:¬0<=n:=by omega
  have h3:n<0:=by omega
  have h4:¬ -10<n:=by omega
  have hr:n.tmod 10= -r:=by rw[HR.o,QD h1]
  have HR2:=HRB.o;go_enter func157,ntmps157;by_cases SF:r=0
  ·subst SF;go_upto_region 8 with fail;have Lj:=JR;have hz:=Qh;have E7:=HL.o.1;have Rm:=HL.o.2;have hq:=HQ.o;have pD:wrap64 q=q:=HW.o
   go_wp2_with (first
    | (go_at_call 157;with_reducible (refine(HQD.o _).mono ?_);rintro e w2 ⟨rfl,x2⟩)
    | (go_at_call 157;with_reducible (refine(vU.o _).mono ?_);rintro e w3 ⟨rfl,x3⟩))
   go_ret;exact⟨by rw[HI.o];rfl,x2.trans x3⟩
  ·have gH: -r<0:=by omega
   go_upto_region 8 with fail;have Lj:=JR;have hz:=Qh;have E7:=HL.o.1;have Rm:=HL.o.2;have hq:=HQ.o;have pD:wrap64 q=q:=HW.o
   go_wp2_with (first
    | (go_at_call 157;with_reducible (refine(HQD.o _).mono ?_);rintro e w2 ⟨rfl,x2⟩)
    | (go_at_call 157;with_reducible (refine(vU.o _).mono ?_);rintro e w3 ⟨rfl,x3⟩))
   go_ret;exact⟨by rw[HI.o];rfl,x2.trans x3⟩
theorem eY (f:Nat):∀(n:Int) (w:World),Up n->n.natAbs<=f->
  Calls prog 157 #[.int .i64 n] w λe w'=>e=.returned (.string (Qb (Lib.itoa n)))/\Ext w w':=by
 induction f with
 | zero=>intro n w _ hf;exact Ta n w (by omega) (by omega)
 | succ f ih =>
  intro n w hn hf;by_cases h:0<=n/\n<10
  ·exact Ta n w h.1 h.2
  by_cases h2:n<0/\-10<n
  ·exact lB n w h2.1 h2.2
  have hN:=hn;unfold Up at hN;refine eZ n _ _ w hn (by omega) rfl rfl (Qa (λw=>ih _ w ?_ ?_)) (Qa (λw=>ih _ w ?_ ?_))
  ·unfold Up;split<;>omega
  ·split<;>omega
  ·unfold Up;split<;>omega
  ·split<;>omega
theorem BH (n:Int) (w:World) (hn:Up n) :
  Calls prog 157 #[.int .i64 n] w λe w'=>e=.returned (.string (Qb (Lib.itoa n)))/\Ext w w':=eY _ n w hn (Q4 _)
def G0 (σ:Int) (l:List UInt8):Int:=l.foldl (λa c=>a*10+σ*((c.toNat:Int)-48)) 0
def TN (s:List UInt8):Bool:=s.head?==some 45
def qF (s:List UInt8):Int:=if TN s then -1 else 1
def KO (s:List UInt8) (k:Nat):List UInt8:=if TN s then (s.take k).drop 1 else s.take k
theorem Ph (σ:Int) (l:List UInt8) (c:UInt8):G0 σ (l++[c])=G0 σ l*10+σ*((c.toNat:Int)-48):=by
 unfold G0;rw[zW];rfl
theorem PO (σ:Int) (u:Nat):G0 σ (Lib.decDigits u)=σ*u:=by
 induction u using Nat.strongRecOn with
 | ind u ih =>
  by_cases h:u<10
  ·rw[Lib.decDigits_one h,show[UInt8.ofNat (48+u)]=[]++[UInt8.ofNat (48+u)] from rfl,Ph,VV h];show(0:Int)*10+_=_;rw[show(((48+u:Nat):Int)-48)=(u:Int) by omega,Int.zero_mul,Int.zero_add]
  ·rw[Pp (by omega),Ph,ih (u/10) (by omega),VV (Nat.mod_lt _ (by omega)),show(((48+u%10:Nat):Int)-48)=((u%10:Nat):Int) by omega,Int.mul_assoc,←Int.mul_add];congr 1;omega
theorem pS (u:Nat):TN (Lib.decDigits u)=false:=by
 unfold TN;have h:=@WV u;cases e:Lib.decDigits u with
 | nil=>rfl
 | cons c r =>
  have:=h c (by rw[e];exact Gq);have:c≠45:=λe2=>by rw[e2]at this;exact absurd this.1 (by decide)
  simpa using this
theorem CV (v:Int):G0 (qF (Lib.itoa v)) (KO (Lib.itoa v) (Lib.itoa v).length)=v/\∀c∈KO (Lib.itoa v) (Lib.itoa v).length,48<=c.toNat/\c.toNat<=57:=by
 unfold qF KO;rw[Ri];unfold Lib.itoa;split
 ·rename_i h;have e:TN (45::Lib.decDigits v.natAbs)=true:=rfl;rw[e,QN rfl,QN rfl,List.drop_one,List.tail_cons,PO];exact⟨by omega,WV⟩
 ·rename_i h;rw[pS,QD (by decide),QD (by decide),PO];exact⟨by omega,WV⟩
theorem pH (v:Int):Lib.itoa v≠[]:=by
 unfold Lib.itoa;split
 ·exact List.cons_ne_nil _ _
 ·exact WW _
theorem FQ {s:List UInt8}{v:Int}(h:QZ s=some v):Up v/\Lib.itoa v=s:=by
 unfold QZ at h;split at h
 ·rename_i n hp;split at h
  ·rename_i e;injection h with h;subst h;exact⟨N6 hp,e⟩
  ·cases h
 ·cases h
theorem De {s:List UInt8}(h:∀v,Up v->Lib.itoa v≠s):QZ s=none:=by
 cases e:QZ s with
 | none=>rfl
 | some v=>exact absurd (FQ e).2 (h v (FQ e).1)
theorem eI {s:List UInt8}{k:Nat}(hk:k<s.length) (h:¬(k=0/\s[k]=45)):KO s (k+1)=KO s k++[s[k]]:=by
 unfold KO;have ht:s.take (k+1)=s.take k++[s[k]]:=Gp hk;split
 ·rename_i hn;have CL:0<k:=by
   rcases Nat.eq_zero_or_pos k with e|e
   ·subst e;exfalso;refine h ⟨rfl,?_⟩;unfold TN at hn;cases s with
    | nil=>exact absurd hk (by simp)
    | cons c r=>simpa using hn
   ·exact e
  rw[ht,List.drop_append_of_le_length (by rw[MT];omega)]
 ·exact ht
theorem eJ {s:List UInt8}:∀k,k<=s.length->∀c∈KO s k,c∈KO s s.length:=by
 intro k hk c hc;unfold KO at hc ⊢;rw[Ri];split at hc
 ·rw[QN (by assumption)];rw[List.drop_take]at hc;exact List.mem_of_mem_take hc
 ·rw[QD (by assumption)];exact List.mem_of_mem_take hc
theorem fW (V d:Int):wrap64 (wrap64 (wrap64 V*10)+d)=wrap64 (V*10+d):=by unfold wrap64;omega
theorem l7 (V d:Int):wrap64 (wrap64 (wrap64 V*10)-d)=wrap64 (V*10 + -1*d):=by unfold wrap64;omega
theorem Ov (V:Int):Up (wrap64 V):=by unfold Up wrap64;omega
theorem fV {v:Int}(h:Up v):wrap64 v=v:=by unfold Up at h;unfold wrap64;omega
theorem lL (s:List UInt8) (w:World) (hs:s.length<=1000000000) :
  Calls prog 196 #[.string (Qb s)] w λe w'=>e=Kr s/\Ext w w':=by
 have hz:=Qh s;by_cases hl:s.length=0\/20<s.length
 ·have HR:=Qa (show Kr s=.returned (.tuple #[.int .i64 0,.bool false]) by
   have h:QZ s=none:=De (λv hv e=>by
    have h1:=JG hv.1 hv.2;have h2:=sx.2 (pH v);rw[e]at h1 h2;omega)
   unfold Kr;rw[h];rfl)
  rcases hl with hl|hl
  ·have h0:((s.length:Int)==0)=true:=by rw[hl];rfl
   go_enter func196,ntmps196;go_wp2_with fail;go_ret2;exact⟨HR.o.symm,Qg _⟩
  ·have h0:((s.length:Int)==0)=false:=by rw[Wes];omega
   have h1:(20:Int)<(s.length:Int):=by omega
   go_enter func196,ntmps196;go_wp2_with fail;go_ret2;exact⟨HR.o.symm,Qg _⟩
 have h0:((s.length:Int)==0)=false:=by rw[Wes];omega
 have h1:¬(20:Int)<(s.length:Int):=by omega
 have Lp:0<s.length:=by omega
 have h20:s.length<=20:=by omega
 clear hl;obtain⟨hd,K7⟩:∃hd,hd=s[0]:=⟨_,rfl⟩
 have SE:TN s=(hd==45):=by
  subst K7;unfold TN;cases s with
  | nil=>exact absurd Lp (by simp)
  | cons c r=>simp
 have wR:0<(Qb s).size:=by rw[hz];exact Lp
 have hat0:(Qb s)[0]'wR=hd:=K7.symm;have sO:=Qa SE;have nF:=Qa K7;clear SE K7;go_enter func196,ntmps196;go_wp2_with fail;go_loopw [4,5] (λt i wx=>∃k:Nat,k<=s.length/\i=.int .i64 k/\t=.int .i64 (wrap64 (G0 (qF s) (KO s k)))/\wx=w/\Zm (∀c∈KO s k,48<=c.toNat/\c.toNat<=57)) (λ_ i _=>s.length-(intOf i).toNat);case atStart=>exact⟨0,by omega,rfl,by unfold KO;rw[KI];simp[G0,wrap64],rfl,Qa (by unfold KO;rw[KI];simp)⟩
 case round =>
  obtain⟨k,hk,rfl,rfl,rfl,HC⟩:=hrel;by_cases Qn:k<s.length
  ·have Y6:(k:Int)<(s.length:Int):=by omega
   have mi:k<(Qb s).size:=by rw[hz];exact Qn
   have Az:(Qb s)[k]'mi=s[k]:=rfl;have D4:=Qa (λh=>eI (s:=s) Qn h);have yf:=Qa (λh=>eJ (s:=s) (k+1) h);have HS0:=Qa (show k=0->s[k]=hd fromλh=>by subst h;exact nF.o.symm);have rL:=s[k].toNat_lt;generalize s[k]=c at *;have rr:=Qa (show¬(48<=c.toNat/\c.toNat<=57)->¬(k=0/\c=45)->Kr s=.returned (.tuple #[.int .i64 0,.bool false]) fromλh h2=>by
    have h:QZ s=none:=De (λv hv e=>by
     have h3:=(CV v).2 c;rw[e]at h3;exact h (h3 (yf.o (by omega) c (by rw[D4.o h2];simp))))
    unfold Kr;rw[h];rfl)
   by_cases mc:c.toNat=45
   ·have rC:((c.toNat:Int)==45)=true:=by rw[mc];rfl
    have GN:c=45:=by apply Wfs.1;exact mc
    by_cases CL:k=0
    ·have ek:((k:Int)==0)=true:=by rw[CL];rfl
     have HV:=Qa (show KO s (k+1)=[]/\KO s k=[] by
      have hn:TN s=true:=by rw[sO.o,←HS0.o CL,GN];rfl
      unfold KO;rw[hn,QN rfl,QN rfl,CL];exact⟨by simp,by simp⟩)
     have HBt:=D4.o;clear mc GN CL HBt;go_wp2_with fail;go_roundw;case rel=>exact⟨k+1,by omega,by go_num,by rw[HV.o.1,HV.o.2],(by first|rfl|trivial),Qa (by rw[HV.o.1];simp)⟩
     case measure=>simp[intOf];omega
    ·have ek:((k:Int)==0)=false:=by simp;omega
     have HB:=Qa (rr.o (by omega) (λh=>CL h.1));have c48:(c.toNat:Int)<48:=by omega
     clear mc GN CL;go_wp2_with fail;go_ret2;exact⟨HB.o.symm,Qg _⟩
   ·have rC:((c.toNat:Int)==45)=false:=by simp;omega
    have GN:c≠45:=λe=>mc (by rw[e];rfl);by_cases FI:c.toNat<48
    ·have HB:=Qa (rr.o (by omega) (λh=>GN h.2));have c48:(c.toNat:Int)<48:=by omega
     clear mc GN FI;go_wp2_with fail;go_ret2;exact⟨HB.o.symm,Qg _⟩
    by_cases h57:57<c.toNat
    ·have HB:=Qa (rr.o (by omega) (λh=>GN h.2));have c48:¬(c.toNat:Int)<48:=by omega
     have c57:(57:Int)<(c.toNat:Int):=by omega
     clear mc GN FI h57;go_wp2_with fail;go_ret2;exact⟨HB.o.symm,Qg _⟩
    have c48:¬(c.toNat:Int)<48:=by omega
    have c57:¬(57:Int)<(c.toNat:Int):=by omega
    have HN:=Qa (D4.o (λh=>GN h.2));have Pj:=Qa (show∀x∈KO s (k+1),48<=x.toNat/\x.toNat<=57 fromλx hx=>by
     rw[HN.o]at hx;rcases iO.1 hx with h|h
     ·exact HC.o x h
     ·rw[bK.1 h];omega)
    have hw8:IntKind.u8.wrap ((c.toNat:Int)-48)=(c.toNat:Int)-48:=by rw[zb];omega
    have HVS:=Qa (Ph (qF s) (KO s k) c);clear mc GN FI h57;by_cases hh:hd.toNat=45
    ·have e0:((hd.toNat:Int)==45)=true:=by rw[hh];rfl
     have ym:=Qa (show qF s= -1 by
      unfold qF;rw[sO.o,show hd=45 from Wfs.1 hh];rfl)
     clear hh;rw[ym.o]at HVS;have HW:=Qa (l7 (G0 (-1) (KO s k)) ((c.toNat:Int)-48));rw[ym.o];go_wp2_with fail;go_roundw;case rel=>exact⟨k+1,by omega,by go_num,by rw[HN.o,HVS.o,←HW.o],(by first|rfl|trivial),Pj⟩
     case measure=>simp[intOf];omega
    ·have e0:((hd.toNat:Int)==45)=false:=by simp;omega
     have ym:=Qa (show qF s=1 by
      unfold qF;rw[sO.o,QD];simp
      exactλe=>hh (by rw[e];rfl))
     clear hh;rw[ym.o]at HVS;have HW:=Qa (fW (G0 1 (KO s k)) ((c.toNat:Int)-48));rw[ym.o];go_wp2_with fail;go_roundw;case rel=>exact⟨k+1,by omega,by go_num,by rw[HN.o,HVS.o,Int.one_mul,←HW.o],(by first|rfl|trivial),Pj⟩
     case measure=>simp[intOf];omega
  ·obtain rfl:k=s.length:=by omega
   have Y6:¬(s.length:Int)<(s.length:Int):=by omega
   obtain⟨n,hn⟩:∃n,n=wrap64 (G0 (qF s) (KO s s.length)):=⟨_,rfl⟩
   rw[←hn];have dF:Up n:=by rw[hn];exact Ov _
   have HD:=Qa (λw=>BH n w dF);have RJ:=JG dF.1 dF.2;by_cases he:Lib.itoa n=s
   ·have HR:=Qa (show Kr s=.returned (.tuple #[.int .i64 n,.bool true]) by
     have h:QZ s=some n:=by rw[←he];exact dO dF
     unfold Kr;rw[h];rfl)
    have hq:((Qb (Lib.itoa n)).toList==(Qb s).toList)=true:=by rw[Qe,Qe];simpa using he
    clear he hn dF RJ;go_wp2_with (go_at_call 157;refine(HD.o _).mono ?_;rintro e w2 ⟨rfl,x2⟩)
    go_ret2;exact⟨HR.o.symm,x2⟩
   ·have HR:=Qa (show Kr s=.returned (.tuple #[.int .i64 0,.bool false]) by
     have h:QZ s=none:=De (λv hv e=>he (by
      have h3:=(CV v).1;rw[e]at h3;rw[hn,h3,fV hv,e]))
     unfold Kr;rw[h];rfl)
    have hq:((Qb (Lib.itoa n)).toList==(Qb s).toList)=false:=by rw[Qe,Qe];simpa using he
    clear he hn dF RJ;go_wp2_with (go_at_call 157;refine(HD.o _).mono ?_;rintro e w2 ⟨rfl,x2⟩)
    go_ret2;exact⟨HR.o.symm,x2⟩
theorem SR (b:List UInt8) (k n U:Nat) (h:k<b.length) (hU:U=128^k):Zq (b.drop k) k n=if k=3/\128<=b[k].toNat then (0,0,3) else if 128<=b[k].toNat then Zq (b.drop (k+1)) (k+1) (n+b[k].toNat%128*U) else if b[k].toNat=0/\0<k then (0,0,3) else (n+b[k].toNat*U,k+1,0):=by
 subst hU;exact LB b k n h
theorem Th {r:List UInt8}(hr:r≠[]) {x y:Nat}{c:Int}(e:Qm r=(x,y,c)) (hc:c≠0) (d:List (List UInt8)):TO d (Qv r)=([],c):=by
 have h:Qv r=([],c):=by rw[Yf r hr,e];exact QN hc
 rw[h];exact XV hc
theorem IQ (b:List UInt8) (w:World) (hb:b.length<=1000000000) :
  Calls prog 195 #[.string (Qb b)] w λe w'=>∃u,e=.returned (.tuple #[u,.int .i64 (Qv b).2])/\Ext w w'/\w'.ownsRow w.heap.size 9 1 u (Qv b).1.length (Q5 (Qv b).1):=by
 have hz:=Qh b;obtain⟨i0,hi,hz0,AE,Da⟩:=AW MJ;have o0:(w.alloc (.cells #[] 9)).ownsRow w.heap.size 9 1 (.slice (some ⟨w.heap.size,0,none⟩) 0 0) 0 (Q5 []):=zU w #[] 0 (Q4 _) (by decide) rfl;go_enter func195,ntmps195;go_wp2_with fail;go_loopw [4,5,6,7,8,9] (λu i _ _ _ _ wr=>∃(d:List (List UInt8)) (p:Nat),p<=b.length/\i=.int .i64 p/\Ext w wr/\wr.ownsRow w.heap.size 9 1 u d.length (Q5 d)/\d.length<=p/\Zm (TO d (Qv (b.drop p))=Qv b)) (λ_ i _ _ _ _ _=>b.length-(intOf i).toNat);case atStart=>exact⟨[],0,by omega,rfl,(Qg _).alloc _,o0,by simp,Qa (FR b)⟩
 case round =>
  clear o0;obtain⟨d,p,hp,rfl,hx,Zb,AA,HJ⟩:=hrel;have uP:=hx.size;by_cases Qn:p<b.length
  ·have jc:(p:Int)<(b.length:Int):=by omega
   obtain⟨r,hr⟩:∃r,r=b.drop p:=⟨_,rfl⟩
   have jk:r.length=b.length-p:=by rw[hr,Nx]
   have Az:∀k (h:p+k<b.length) (h2:k<r.length) (h3:p+k<(Qb b).size),(Qb b)[p+k]'h3=r[k]'h2:=λk h h2 h3=>by subst hr;rw[List.getElem_drop];rfl
   rw[←hr]at HJ;have HR:=Qa hr;have HAT:=Qa Az;have HRL:=Qa jk;have Tm:r≠[]:=λe=>by rw[e]at jk;simp at jk;omega
   have Ym:=Qa Tm;clear hr Az Tm jk;go_wp2_with fail;go_loop [5,6,7,8,9] (λa t u kk _=>∃k n U:Nat,k<=3/\p+k<=b.length/\n<U/\Zm (U=128^k)/\U<=2097152/\a=.int .i64 ((p+k:Nat):Int)/\t=.int .i64 n/\u=.int .i64 U/\kk=.int .i64 k/\Zm (Zq (r.drop k) k n=Qm r)) (λa _ _ _ _=>b.length-(intOf a).toNat);case atStart=>exact⟨0,0,1,by omega,by omega,by omega,Qa rfl,by omega,rfl,rfl,rfl,rfl,Qa rfl⟩
   case round =>
    obtain⟨k,n,U,hk3,mi,hnU,HU,hU2,rfl,rfl,rfl,rfl,HF⟩:=hrel;by_cases hq:p+k<b.length
    ·have rS:k<r.length:=by rw[HRL.o];omega
     have wU:(((p+k:Nat):Int)==(b.length:Int))=false:=by simp;omega
     have hpz:p+k<(Qb b).size:=by rw[hz];exact hq
     have hch:=HAT.o k hq rS hpz;have Mj:=Qa ((SR r k n U rS HU.o).symm.trans HF.o);have rL:=r[k].toNat_lt;clear HF;generalize r[k]=ch at *;have hm:ch.toNat%128*U<=127*U:=Wfl _ (by omega);generalize hP:ch.toNat%128*U=P at *;have HP:=Qa hP;have wM:((ch.toNat:Int)%128)*(U:Int)=(P:Int):=by rw[←hP];push_cast;rfl
     clear hP;have hU0:0<U:=by omega
     by_cases h128:128<=ch.toNat
     ·have c1:¬(ch.toNat:Int)<128:=by omega
      by_cases hk:k=3
      ·have HL:=Qa (show Qv b=([],3) by
        have e:=Mj.o;rw[QN ⟨hk,h128⟩]at e;rw[←HJ.o];exact Th Ym.o e.symm (by decide) d)
       subst hk;clear Mj HP;go_wp2_with fail;go_ret2;rw[HL.o];exact⟨_,rfl,hx,EN _ _ _ _⟩
      ·have hk':¬(k:Int)=3:=by omega
       have my:=Qa (show Zq (r.drop (k+1)) (k+1) (n+P)=Qm r by
        have e:=Mj.o;rw[QD (λh=>hk h.1),QN h128]at e;exact e)
       have HU3:=Qa (show U*128=128^(k+1) by rw[HU.o,vv]);have HUb:=Qa (show U*128<=2097152 by
        have:=HU.o;rcases(by omega:k=0\/k=1\/k=2) with rfl|rfl|rfl<;>omega)
       clear Mj HP;go_wp2_with fail;go_round;case rel=>exact⟨k+1,n+P,U*128,by omega,by omega,by omega,HU3,HUb.o,by go_num,by go_num,by go_num,by go_num,my⟩
       case measure=>simp[intOf];omega
     ·have c1:(ch.toNat:Int)<128:=by omega
      by_cases h0:ch.toNat=0/\0<k
      ·have HL:=Qa (show Qv b=([],3) by
        have e:=Mj.o;rw[QD (λh=>h128 h.2),QD h128,QN h0]at e;rw[←HJ.o];exact Th Ym.o e.symm (by decide) d)
       obtain⟨h01,h02⟩:=h0;rw[h01]at c1;have h02':(0:Int)<(k:Int):=by omega
       clear Mj HP;go_wp2_with fail;go_ret2;rw[HL.o];exact⟨_,rfl,hx,EN _ _ _ _⟩
      ·have HN:=Qa (show Qm r=(n+P,k+1,0) by
        have e:=Mj.o;rw[QD (λh=>h128 h.2),QD h128,QD h0]at e;have e2:=HP.o;rw[Nat.mod_eq_of_lt (by omega)]at e2;rw[←e,e2])
       have hcz:((ch.toNat:Int)==0)=false\/(((ch.toNat:Int)==0)=true/\¬(0:Int)<(k:Int)):=by
        by_cases e:ch.toNat=0
        ·exact .inr ⟨by rw[e];rfl,by omega⟩
        ·exact .inl (by simpa using e)
       clear Mj HP h0;have HU8:=Qa (show n+P<=300000000 by omega);rcases hcz with hcz|⟨hcz,ND⟩<;>go_upto_region 19 with fail
       all_goals
        clear hcz hm wM hU0 hU2 hnU wU hch hpz c1 h128 rL;obtain⟨A,hA⟩:∃A:Nat,A=p+k+1:=⟨_,rfl⟩
        obtain⟨M,hM⟩:∃M:Nat,M=n+P:=⟨_,rfl⟩
        rw[show(p:Int)+(k:Int)+1=(A:Int) by omega,show(n:Int)+(P:Int)=(M:Int) by omega];have hAb:A<=b.length:=by omega
        have hAp:p<A:=by omega
        have hMb:M<=300000000:=by rw[hM];exact HU8.o
        have HD:=Qa (show r.drop (k+1)=b.drop A by rw[HR.o,nf,hA];congr 1);rw[←hM]at HN;clear hA hM;by_cases hs:b.length-A<M
        ·have HL:=Qa (show Qv b=([],4) by
          have h:Qv r=([],4):=by rw[Yf r Ym.o,HN.o,QD (by simp)];exact QN (by show(List.drop (k+1) r).length<M;rw[HD.o,Nx];exact hs)
          rw[←HJ.o,h];exact XV (by decide))
         have AC:(b.length:Int)-(A:Int)<(M:Int):=by omega
         go_wp2_with fail;go_ret2;rw[HL.o];exact⟨_,rfl,hx,EN _ _ _ _⟩
        ·have AC:¬(b.length:Int)-(A:Int)<(M:Int):=by omega
         have HJ2:=Qa (show TO (d++[(b.drop A).take M]) (Qv (b.drop (A+M)))=Qv b by
          have h:=PL d r Ym.o (by rw[HN.o]) (by rw[HN.o];show¬(List.drop (k+1) r).length<M;rw[HD.o,Nx];exact hs);rw[HN.o]at h;rw[←HJ.o,h,show List.drop (k+1,(0:Int)).1 r=b.drop A from HD.o,nf])
         have hse:=J6 b;have hAM:A+M<=b.length:=by omega
         have hAM2:A+M-A=M:=by omega
         go_wp2_with (at_builtin;refine wpList_append_own _ rfl _ _ 22 rfl w.heap.size 9 i0 (.string ⟨#[]⟩) 1 16 underlying22 hi hz0 AE Da rfl (by decide) _ _ _ rfl (Zb.alloc _) ⟨wr.heap.size,0,none⟩ 1 1 [.string (Qb (List.take M (List.drop A b)))] rfl rfl (RW _ _ _ _ rfl) (EQ rfl) (by unfold maxLen;omega) (by omega) (by simp;omega) ?_)
         intro v' w1 Z2 Wp _;have SC:=@QU wr w.heap.size 1 _ _ u4 _ Zb;have x1:Ext w w1:=(hx.alloc _).grown Wp (λk e=>SC e);have JP:w1.ownsRow w.heap.size 9 1 v' (d++[List.take M (List.drop A b)]).length (Q5 (d++[List.take M (List.drop A b)])):=by rw[show Q5 (d++[List.take M (List.drop A b)])=Q5 d++[.string (Qb (List.take M (List.drop A b)))] by simp[Q5],VL];exact Z2
         clear Z2 Wp SC;go_wp2_with fail;go_roundw;case rel=>exact⟨_,A+M,hAM,by go_num,x1,JP,by simp only[VL,XN,Mn];omega,HJ2⟩
         case measure=>simp[intOf];omega
    ·have HL:=Qa (show Qv b=([],4) by
      have e:Qm r=(0,0,4):=by rw[←HF.o,List.drop_of_length_le (by rw[HRL.o];omega)];rfl
      rw[←HJ.o];exact Th Ym.o e (by decide) d)
     have wU:(((p+k:Nat):Int)==(b.length:Int))=true:=by simp;omega
     go_wp2_with fail;go_ret2;rw[HL.o];exact⟨_,rfl,hx,EN _ _ _ _⟩
  ·obtain rfl:p=b.length:=by omega
   have jc:¬(b.length:Int)<(b.length:Int):=by omega
   have HL:=Qa (show Qv b=(d,0) by
    rw[←HJ.o,vr,UU,Wt rfl,iP])
   go_wp2_with fail;go_ret2;rw[HL.o];exact⟨_,rfl,hx,Zb⟩
theorem Dk (s:List UInt8) (k:Nat) (h:s.length<=8) (hk:0<k) (hks:k<=s.length):Z1 (s.drop k)<72057594037927936:=by
 have h1:=Nb (s.drop k);have h2:256^(s.drop k).length<=256^7:=sw (by decide) (by rw[Nx];omega);have h3:(256:Nat)^7=72057594037927936:=by decide
 omega
theorem BO (s:List UInt8) (w:World) (h:s.length<=8) :
  Calls prog 169 #[.string (Qb s)] w λe w'=>e=.returned (.int .u64 (Z1 s:Int))/\w=w':=by
 have hz:=Qh s;go_enter func169,ntmps169;go_wp2_with fail;go_loopw [3,4] (λt i wx=>∃k:Nat,k<=s.length/\i=.int .i64 ((k:Int)-1)/\t=.int .u64 (Z1 (s.drop k):Int)/\wx=w) (λ_ i _=>(intOf i+1).toNat);case atStart=>exact⟨s.length,Q4 _,by go_num,by rw[vr];rfl,rfl⟩
 case round =>
  obtain⟨k,hk,rfl,rfl,rfl⟩:=hrel;by_cases h0:0<k
  ·obtain⟨j,rfl⟩:∃j,k=j+1:=⟨k-1,by omega⟩
   have hj:j<s.length:=by omega
   have e1:((j+1:Nat):Int)-1=(j:Int):=by omega
   have hpj:j<(Qb s).size:=by rw[hz];exact hj
   have Az:(Qb s)[j]'hpj=s[j]:=rfl;have HD:=Qa (show Z1 (s.drop j)=(s[j]).toNat+256*Z1 (s.drop (j+1)) by rw[fj hj];rfl);have hb:=Dk s (j+1) h (by omega) hk;have hc:=s[j].toNat_lt;generalize Z1 (s.drop (j+1))=m at *;generalize s[j]=c at *;rw[e1];have hj8:(j:Int)<8:=by omega
   have hj0:(0:Int)<=(j:Int):=by omega
   go_wp2_with fail;go_roundw;case rel=>exact⟨j,by omega,by go_num,by first|(rw[HD.o];done)|(rw[HD.o];go_num),by first|rfl|trivial⟩
   case measure=>simp[intOf]<;>omega
  ·obtain rfl:k=0:=by omega
   go_wp2_with fail;go_ret;exact⟨by first|rfl|(rw[KJ]),by first|rfl|trivial⟩
theorem eR (z:Nat):∀n:Nat,Jh (n:Int) (z+1)=Jh (n:Int) z++[b8 ((n/256^z%256:Nat):Int)]:=by
 induction z with
 | zero=>intro n;simp[Jh]
 | succ z ih =>
  intro n;have e:(n:Int)/256=((n/256:Nat):Int):=by omega
  rw[Jh,e,ih (n/256),Jh,e,vv,Nat.mul_comm,Nat.div_div_eq_div_mul];rfl
theorem lU (n z:Nat) (w:World) (hn:n<18446744073709551616) (hz8:z<=8) :
  Calls prog 85 #[.int .u64 n,.int .i64 z] w λe w'=>e=.returned (.string (Qb (Jh n z)))/\Ext w w':=by
 have hz:=Qh;have Lj:=JR;go_enter func85,ntmps85;go_wp2_with fail;go_loopw [0,5,6] (λt u i wx=>∃k m:Nat,k<=z/\i=.int .i64 k/\u=.string (Qb (Jh n k))/\t=.int .u64 m/\Zm (m=n/256^k)/\m<18446744073709551616/\Ext w wx) (λ_ _ i _=>z-(intOf i).toNat);case atStart=>exact⟨0,n,by omega,rfl,rfl,rfl,Qa (by simp),hn,Qg _⟩
 case round =>
  obtain⟨k,m,hk,rfl,rfl,rfl,HM,hm,xk⟩:=hrel;have HPL:=Qa (Jo (n:Int) k);by_cases Qn:k<z
  ·have Y6:(k:Int)<(z:Int):=by omega
   have hk8:(k:Int)<8:=by omega
   have hc:=V5 wr ((m:Int)%256) wr.heap.size rfl;have HS:=Qa (show Jh (n:Int) (k+1)=Jh (n:Int) k++[b8 ((m:Int)%256)] by rw[eR,HM.o];rfl);have vO:=Qa (show m/256=n/256^(k+1) by rw[HM.o,vv,Nat.div_div_eq_div_mul]);have XS:=HPL.o;generalize Jh (n:Int) k=P at *;go_wp2_with fail;go_roundw;case rel=>exact⟨k+1,m/256,by omega,by go_num,by rw[HS.o],by go_num,vO,by omega,xk.alloc _⟩
   case measure=>simp[intOf];omega
  ·obtain rfl:k=z:=by omega
   have Y6:¬(k:Int)<(k:Int):=by omega
   obtain⟨P,hP⟩:∃P,P=Jh (n:Int) k:=⟨_,rfl⟩
   rw[←hP];go_wp2_with fail;go_ret;exact⟨rfl,xk⟩
theorem Qda (n:Int) (w:World) (h0:0<=n) (h1:n<=255) :
  Calls prog 85 #[.int .u64 n,.int .i64 1] w λe w'=>e=.returned (.string (Qb [b8 n]))/\Ext w w':=by
 have hz:=Qh;have Lj:=JR;have hk:(⟨#[]⟩:ByteArray)=Qb []:=rfl;have u1:n%256=n:=by omega
 have k1:=V5 w n w.heap.size rfl;go_enter func85,ntmps85;go_wp2_with fail;refine fm 2 ?_;rw[Vn];go_wp2_with fail;rw[Vn];go_wp2_with fail;go_ret;exact⟨rfl,(Qg _).alloc _⟩
theorem Te (s:List UInt8) (w:World) (hs:s.length<=1000000000) :
  Calls prog 200 #[.string (Qb s)] w λe w'=>e=.returned (.bool (Zt s))/\w=w':=by
 have hz:=Qh;by_cases h0:s=[]
 ·subst h0;go_enter func200,ntmps200;go_wp2_with fail;go_ret;exact⟨rfl,rfl⟩
 have Lp:0<s.length:=sx.2 h0;by_cases h1:24<s.length
 ·have HM:=Qa (show Zt s=false by unfold Zt;rw[show decide (s.length<=24)=false by simp;omega];simp);have q1:decide ((s.length:Int)<1)=false:=by simp;omega
  have q2:decide ((24:Int)<(s.length:Int))=true:=by simp;omega
  go_enter func200,ntmps200;go_wp2_with fail;go_ret;rw[HM.o];exact⟨rfl,rfl⟩
 have q1:decide ((s.length:Int)<1)=false:=by simp;omega
 have q2:decide ((24:Int)<(s.length:Int))=false:=by simp;omega
 by_cases h2:s=[46]
 ·subst h2;have d2:(Qb [46]).toList=[46]:=Qe _;go_enter func200,ntmps200;go_wp2_with fail;go_ret;exact⟨rfl,rfl⟩
 by_cases h3:s=[46,46]
 ·subst h3;have d2:(Qb [46,46]).toList=[46,46]:=Qe _;go_enter func200,ntmps200;go_wp2_with fail;go_ret;exact⟨rfl,rfl⟩
 have d2:((Qb s).toList==[46])=false:=by rw[Qe];simpa using h2
 have d3:((Qb s).toList==[46,46])=false:=by rw[Qe];simpa using h3
 have d4:¬(Qb s).toList=[46]:=by rw[Qe];exact h2
 have d5:¬(Qb s).toList=[46,46]:=by rw[Qe];exact h3
 have NQ:=Qa (show s.all FY=true->Zt s=true fromλh=>by unfold Zt;simp only[h,vp,Vg,MS];exact⟨⟨⟨h0,by omega⟩,h2⟩,h3⟩);clear h2 h3;go_enter func200,ntmps200;go_wp2_with fail;clear d2 d3 d4 d5 q1 q2;go_loop [3,4] (λi _=>∃k:Nat,k<=s.length/\i=.int .i64 k/\∀(j:Nat) (h:j<s.length),j<k->FY s[j]=true) (λi _=>s.length-(intOf i).toNat);case atStart=>exact⟨0,by omega,rfl,λj _ h=>by omega⟩
 case round =>
  obtain⟨k,hk,rfl,Yj⟩:=hrel;have HO:=Qa Yj;clear Yj;by_cases Qn:k<s.length
  ·have Y6:(k:Int)<(s.length:Int):=by omega
   have hkb:k<(Qb s).size:=by rw[Qh];exact Qn
   have ND:(Qb s)[k]'hkb=s[k]:=rfl;have HB:=Qa (@C6 s k Qn);have HN:=Qa (show FY s[k]=true->∀(j:Nat) (h:j<s.length),j<k+1->FY s[j]=true fromλh j hj Vq=>by
    by_cases e:j<k
    ·exact HO.o j hj e
    ·obtain rfl:j=k:=by omega
     exact h)
   have GO:=s[k].toNat_lt;have HE:Zm (FY s[k]=decide (97<=s[k].toNat/\s[k].toNat<=122\/65<=s[k].toNat/\s[k].toNat<=90\/48<=s[k].toNat/\s[k].toNat<=57\/s[k].toNat=45\/s[k].toNat=95\/s[k].toNat=46)):=rfl;generalize s[k]=ch at *;rcases(by omega:(97<=ch.toNat/\ch.toNat<=122)\/(65<=ch.toNat/\ch.toNat<=90)\/(48<=ch.toNat/\ch.toNat<=57)\/(ch.toNat=45)\/(ch.toNat=95)\/(ch.toNat=46)\/(123<=ch.toNat)\/(91<=ch.toNat/\ch.toNat<=96/\ch.toNat≠95)\/(58<=ch.toNat/\ch.toNat<=64)\/(ch.toNat<=47/\ch.toNat≠46/\ch.toNat≠45)) with hc|hc|hc|hc|hc|hc|hc|hc|hc|hc
   iterate 6
    ·have uQ:FY ch=true:=by rw[HE.o];simp;omega
     have rC:((ch.toNat:Int) != 45)= !decide (ch.toNat=45):=by rw[mW];simp;omega
     have wL:((ch.toNat:Int) != 95)= !decide (ch.toNat=95):=by rw[mW];simp;omega
     have mZ:((ch.toNat:Int) != 46)= !decide (ch.toNat=46):=by rw[mW];simp;omega
     have q97:decide ((97:Int)<=(ch.toNat:Int))=decide (97<=ch.toNat):=by simp;omega
     have kr:decide ((ch.toNat:Int)<=122)=decide (ch.toNat<=122):=by simp;omega
     have q65:decide ((65:Int)<=(ch.toNat:Int))=decide (65<=ch.toNat):=by simp;omega
     have q90:decide ((ch.toNat:Int)<=90)=decide (ch.toNat<=90):=by simp;omega
     have q48:decide ((48:Int)<=(ch.toNat:Int))=decide (48<=ch.toNat):=by simp;omega
     have q57:decide ((ch.toNat:Int)<=57)=decide (ch.toNat<=57):=by simp;omega
     clear HE;go_wp2_with fail;go_round;case rel=>exact⟨k+1,by omega,by go_num,HN.o uQ⟩
     case measure=>simp[intOf];omega
   ·have Xz:FY ch=false:=by rw[HE.o];simp;omega
    have mZ:((ch.toNat:Int) != 46)=true:=by simp;omega
    have wL:((ch.toNat:Int) != 95)=true:=by simp;omega
    have rC:((ch.toNat:Int) != 45)=true:=by simp;omega
    have q97:decide ((97:Int)<=(ch.toNat:Int))=true:=by simp;omega
    have kr:decide ((ch.toNat:Int)<=122)=false:=by simp;omega
    have q65:decide ((65:Int)<=(ch.toNat:Int))=true:=by simp;omega
    have q90:decide ((ch.toNat:Int)<=90)=false:=by simp;omega
    have q48:decide ((48:Int)<=(ch.toNat:Int))=true:=by simp;omega
    have q57:decide ((ch.toNat:Int)<=57)=false:=by simp;omega
    clear HE hc;go_wp2_with fail;go_ret;rw[HB.o Xz];exact⟨rfl,rfl⟩
   ·have Xz:FY ch=false:=by rw[HE.o];simp;omega
    have mZ:((ch.toNat:Int) != 46)=true:=by simp;omega
    have wL:((ch.toNat:Int) != 95)=true:=by simp;omega
    have rC:((ch.toNat:Int) != 45)=true:=by simp;omega
    have q97:decide ((97:Int)<=(ch.toNat:Int))=false:=by simp;omega
    have kr:decide ((ch.toNat:Int)<=122)=true:=by simp;omega
    have q65:decide ((65:Int)<=(ch.toNat:Int))=true:=by simp;omega
    have q90:decide ((ch.toNat:Int)<=90)=false:=by simp;omega
    have q48:decide ((48:Int)<=(ch.toNat:Int))=true:=by simp;omega
    have q57:decide ((ch.toNat:Int)<=57)=false:=by simp;omega
    clear HE hc;go_wp2_with fail;go_ret;rw[HB.o Xz];exact⟨rfl,rfl⟩
   ·have Xz:FY ch=false:=by rw[HE.o];simp;omega
    have mZ:((ch.toNat:Int) != 46)=true:=by simp;omega
    have wL:((ch.toNat:Int) != 95)=true:=by simp;omega
    have rC:((ch.toNat:Int) != 45)=true:=by simp;omega
    have q97:decide ((97:Int)<=(ch.toNat:Int))=false:=by simp;omega
    have kr:decide ((ch.toNat:Int)<=122)=true:=by simp;omega
    have q65:decide ((65:Int)<=(ch.toNat:Int))=false:=by simp;omega
    have q90:decide ((ch.toNat:Int)<=90)=true:=by simp;omega
    have q48:decide ((48:Int)<=(ch.toNat:Int))=true:=by simp;omega
    have q57:decide ((ch.toNat:Int)<=57)=false:=by simp;omega
    clear HE hc;go_wp2_with fail;go_ret;rw[HB.o Xz];exact⟨rfl,rfl⟩
   ·have Xz:FY ch=false:=by rw[HE.o];simp;omega
    have mZ:((ch.toNat:Int) != 46)=true:=by simp;omega
    have wL:((ch.toNat:Int) != 95)=true:=by simp;omega
    have rC:((ch.toNat:Int) != 45)=true:=by simp;omega
    have q97:decide ((97:Int)<=(ch.toNat:Int))=false:=by simp;omega
    have kr:decide ((ch.toNat:Int)<=122)=true:=by simp;omega
    have q65:decide ((65:Int)<=(ch.toNat:Int))=false:=by simp;omega
    have q90:decide ((ch.toNat:Int)<=90)=true:=by simp;omega
    have q48:decide ((48:Int)<=(ch.toNat:Int))=false:=by simp;omega
    have q57:decide ((ch.toNat:Int)<=57)=true:=by simp;omega
    clear HE hc;go_wp2_with fail;go_ret;rw[HB.o Xz];exact⟨rfl,rfl⟩
  ·obtain rfl:k=s.length:=by omega
   have HT:=Qa (NQ.o (by rw[Rj];intro c hc;obtain⟨j,hj,rfl⟩:=Fd hc;exact HO.o j hj hj));go_wp2_with fail;go_ret;rw[HT.o];exact⟨rfl,rfl⟩
theorem oV {hd:List UInt8}{m:Nat}(hm:hd.length+m<=32):CA hd 32=(hd++zs m)++zs (32-(hd.length+m)):=by
 unfold CA;rw[iR];congr 1;unfold zs;rw[List.replicate_append_replicate];congr 1;omega
theorem lQ (x:Ve) (w:World) (h1:x.1.length<=24) (h2:0<=x.2) (h3:x.2<65536) :
  Calls prog 242 #[.agg #[.string (Qb x.1),.int .i64 x.2]] w λe w'=>e=.returned (.string (Qb (Xn x)))/\Ext w w':=by
 have hz:=Qh;have Lj:=JR;obtain⟨name,ino⟩:=x;simp only at h1 h2 h3;obtain⟨hd,K7⟩:∃hd:List UInt8,hd=b8 (ino%256)::b8 (ino/256)::b8 name.length::0::name:=⟨_,rfl⟩
 have hL:hd.length=4+name.length:=by rw[K7];simp;omega
 have HE:=Qa (show Xn (name,ino)=CA hd 32 from by
  unfold Xn;rw[show vD ino++[b8 name.length]++[0]++name=hd from by rw[K7];rfl])
 have HF:=Qa (λm (hm:hd.length+m<=32)=>oV hm);have b1:=Qs w 154 #[.string (Qb name),.int .i64 ino];have x1:Ext w (w.alloc (.cells #[.string (Qb name),.int .i64 ino] 154)):=(Qg w).alloc _;have u1:IntKind.u64.wrap ino=ino:=by rw[EO];omega
 have u2:IntKind.u64.wrap (name.length:Int)=name.length:=by rw[EO];omega
 have Aq:=Qa (λw=>ra ino w h2 (by omega));have G9:=Qa (λw=>Qda (name.length:Int) w (by omega) (by omega));have c0:∀y:Qt (w.alloc (.cells #[.string (Qb name),.int .i64 ino] 154)),y.now.cell? ⟨w.heap.size,0,none⟩=some (.string (Qb name)):=λy=>y.ext.keep (b1.cell 0);have c1:∀y:Qt (w.alloc (.cells #[.string (Qb name),.int .i64 ino] 154)),y.now.cell? ⟨w.heap.size,1,none⟩=some (.int .i64 ino):=λy=>y.ext.keep (b1.cell 1);have hk:(⟨#[0]⟩:ByteArray)=Qb [0]:=rfl;have hZ:=Qa (λm=>show zs m++[0]=zs (m+1) by unfold zs;rw[List.replicate_succ']);go_enter func242,ntmps242;go_upto_region 1 with fail;refine Qk (by kernel_rfl) (by kernel_rfl) ?_;repeat (go_big_quiet_step ((first|(with_reducible exact JO (Aq.o _))|(with_reducible exact JO (G9.o _)))))
 refine VI ?_;rintro w2 ⟨y,rfl⟩;have Rl:=x1.trans y.ext;clear c0 c1 b1;generalize y.now=w2 at *;rw[←K7];clear K7;go_wp2_with fail;go_loop [3] (λs=>∃m:Nat,hd.length+m<=32/\s=.string (Qb (hd++zs m))) (λs=>32-(match s with|.string b=>b.size|_=>0));case atStart=>exact⟨0,by omega,by simp[zs]⟩
 case round =>
  obtain⟨m,hm,rfl⟩:=hrel;have HL:=Qa (show(hd++zs m).length=hd.length+m by rw[VL,UX]);have HH:=Qa (HF.o m hm);have HN:Zm (hd++zs m++[0]=hd++zs (m+1)):=by rw[iR];exact congrArg _ (hZ.o m)
  generalize hd++zs m=b at *;by_cases Qn:hd.length+m<32
  ·have hi:(b.length:Int)<32:=by have:=HL.o;omega
   go_wp2_with fail;go_round;case rel=>exact⟨m+1,by omega,by rw[←HN.o]⟩
   case measure => simp only[Qh,VL,XN,Mn];omega
  ·have hi:¬(b.length:Int)<32:=by have:=HL.o;omega
   have hEq:Xn (name,ino)=b:=by rw[HE.o,HH.o,show 32-(hd.length+m)=0 by omega];simp[zs]
   have hEE:=Qa hEq;clear hEq;go_wp2_with fail;go_ret;exact⟨by rw[hEE.o];rfl,Rl⟩
end Go.Proofs.YtfaplefkakpgcaaGreatDoor
