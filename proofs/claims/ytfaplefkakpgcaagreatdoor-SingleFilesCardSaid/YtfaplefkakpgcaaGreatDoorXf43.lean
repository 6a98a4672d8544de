/- The document's directories: List, find, Find. -/
import Derived.Test.YtfaplefkakpgcaaGreatDoorXf41
import Derived.Test.YtfaplefkakpgcaaGreatDoorXf42
import Derived.Test.YtfaplefkakpgcaaGreatDoorXf38
import Derived.Test.YtfaplefkakpgcaaGreatDoorXf34
set_option linter.unusedVariables false
set_option linter.unusedSimpArgs false
set_option maxHeartbeats 32000000
set_option maxRecDepth 100000
namespace Go.Proofs.YtfaplefkakpgcaaGreatDoor
open Go.Proofs.Tryz
open Go.RowKit
theorem riget_bad (A:Option Addr) (n c:Nat) (v:List (List UInt8)) (k:Int) (w:World) (hv:Strs w A n v) (hn:n<=9223372036854775807) (hb:∀I,¬Good v I) :
  Calls prog 74 #[.slice A n c,.int .i64 k] w λe w'=>e=.returned (.tuple #[.agg (intVals zero12),.int .i64 3])/\Ext w w':=by
 have HO:=lh_ (λw h=>(rof_any A n c v w h hn).mono (λe w' h=>show e=.returned (.tuple #[noGeom,.int .i64 3])/\Ext w w' from⟨by
  rcases h.1 with⟨I,hg,_⟩|h
  ·exact absurd hg (hb I)
  ·exact h,h.2⟩))
 go_enter func74,ntmps74;go_wp2_with fail;refine(HO.out _ (hv.ext ((Ext.refl _).alloc _))).mono ?_;rintro e w1 ⟨rfl,x1⟩;rw[noGeom_eq];have x0:Ext w w1:=((Ext.refl w).alloc _).trans x1;have bR:Box w1 w.heap.size 121 (intVals zero12):=(Box.new w 121 _).ext x1;have hlt:=bR.lt;clear x1
 go_wp2_with (first
  | (refine wp_st_geom (.tmp 6) (.tmp 12) rfl rfl w1.heap.size _ [0,0,0,0,0,0] 144 rfl rfl (Box.new _ _ _) rfl rfl ?_;intro w2 b2 g2;have x2:Ext w w2:=(x0.alloc _).grown g2 (λk e=>by cases e;exact x0.size))
  | (refine wp_st_ino (.tmp 4) (.tmp 16) rfl rfl w.heap.size zero12 zero12 121 rfl rfl ((bR.ext ((Ext.refl _).alloc _)).grown g2 (by first|(simp;done)|(simp;omega))) rfl rfl ?_;intro w4 b4 g4))
 refine bodyPost_ret (results_cell2 rfl _ _ w.heap.size _ _ _ (.int .i64 3) rfl rfl b4 underlying121 rfl inoSize) rfl ⟨rfl,?_⟩;exact x2.grown g4 (λk e=>by cases e;exact Nat.le_refl _)
theorem riget_out (A:Option Addr) (n c:Nat) (v:List (List UInt8)) (I k:Int) (w:World) (hv:Strs w A n v) (hg:Good v I) (hk:k<1\/I<k) :
  Calls prog 74 #[.slice A n c,.int .i64 k] w λe w'=>e=.returned (.tuple #[.agg (intVals zero12),.int .i64 2])/\Ext w w':=by
 have HO:=lh_ (λw h=>rof_yes A n c v I w h hg);have hd:decide (k<1)=true\/decide (k<1)=false/\decide (I<k)=true:=by simp;omega
 clear hk;rcases hd with d1|⟨d1,d2⟩
 all_goals
  go_enter func74,ntmps74;go_wp2_with fail;refine(HO.out _ (hv.ext ((Ext.refl _).alloc _))).mono ?_;rintro e w1 ⟨rfl,x1⟩;rw[geomV_eq];have x0:Ext w w1:=((Ext.refl w).alloc _).trans x1;have bR:Box w1 w.heap.size 121 (intVals zero12):=(Box.new w 121 _).ext x1;have hlt:=bR.lt;clear x1
  go_wp2_with (first
   | (refine wp_st_geom (.tmp 6) (.tmp 12) rfl rfl w1.heap.size _ [0,0,0,0,0,0] 144 rfl rfl (Box.new _ _ _) rfl rfl ?_;intro w2 b2 g2;have x2:Ext w w2:=(x0.alloc _).grown g2 (λk e=>by cases e;exact x0.size);have c1:w2.cell? ⟨w1.heap.size,1,none⟩=some (.int .i64 I):=b2.cell 1)
   | (refine wp_st_ino (.tmp 4) (.tmp 26) rfl rfl w.heap.size zero12 zero12 121 rfl rfl ((bR.ext ((Ext.refl _).alloc _)).grown g2 (by simp;omega)) rfl rfl ?_;intro w4 b4 g4))
  refine bodyPost_ret (results_cell2 rfl _ _ w.heap.size _ _ _ (.int .i64 2) rfl rfl b4 underlying121 rfl inoSize) rfl ⟨rfl,?_⟩;exact x2.grown g4 (λk e=>by cases e;exact Nat.le_refl _)
theorem size_nn (v:List (List UInt8)) (k:Int):0<=(inoAt v k).getD 3 0/\(inoAt v k).getD 3 0<4294967296:=by
 have:=fnum_lt (v.getD (3+(k-1)/2).toNat []) (((k-1)%2*64).toNat+4) 4;exact this
theorem read_all {v:List (List UInt8)}{I k:Int}(hg:Good v I):readE v I k 0 ((inoAt v k).getD 3 0)=(dataP v I k,0):=by
 obtain⟨h1,h2⟩:=size_nn v k;obtain⟨z,hz⟩:∃z:Nat,(inoAt v k).getD 3 0=(z:Int):=⟨((inoAt v k).getD 3 0).toNat,by omega⟩
 have hs:sizeP (inoAt v k)=min (z:Int) 8960:=by unfold sizeP;rw[hz]
 have e:=readE_bytes (k:=k) hg (off:=0) (size:=z);rw[hz,show(0:Int)=((0:Nat):Int) from rfl,e,hs];congr 1;by_cases h0:sizeP (fileOf v I k).x<=0
 ·rw[data_none h0];have:sizeP (inoAt v k)<=0:=h0;rw[hs]at this;rw[show min z (min (z:Int) 8960-((0:Nat):Int)).toNat=0 by omega];rfl
 ·have hp:=readP_bytes (F:=fileOf v I k) hg (off:=0) (size:=8960) (by simp only[Int.natCast_zero];omega);unfold dataP;rw[show readP (fileOf v I k) 0 8960=_ from hp,show sizeP (fileOf v I k).x=min (z:Int) 8960 from hs];show _=fbytes v I (inoAt v k) _ _;congr 1;omega
def listX (v:List (List UInt8)) (I:Option Int) (k:Int):List Ent × Int:=match I with
 | some I=>dlistP v I k
 | none=>([],3)
theorem rdlist_any (A:Option Addr) (n c:Nat) (v:List (List UInt8)) (I:Option Int) (k:Int) (w:World) (hv:Strs w A n v) (hn:n<=9223372036854775807) (hg:GoodX v I) :
  Calls prog 223 #[.slice A n c,.int .i64 k] w λe w'=>∃u,e=.returned (.tuple #[u,.int .i64 (listX v I k).2])/\Ext w w'/\((listX v I k).2=0->OwnE w' w.heap.size u (listX v I k).1):=by
 have x0:Ext w (w.alloc (.cells #[] 154)):=(Ext.refl w).alloc _;have HV:=lh_ (hv.ext x0);cases I with
 | none =>
  have HP:=lh_ (show listX v none k=([],3) from rfl);have HG:=lh_ (λw h=>riget_bad A n c v k w h hn hg);clear hv hg;go_enter func223,ntmps223
  go_wp2_with (first
   | (go_at_call 74;refine(HG.out _ HV.out).mono ?_;rintro e w1 ⟨rfl,x1⟩)
   | (refine wp_st_ino (.tmp 7) (.tmp 17) rfl rfl w1.heap.size _ zero12 121 rfl rfl (Box.new _ _ _) rfl rfl ?_;intro w2 b2 g2))
  go_ret2;rw[HP.out];exact⟨_,rfl,(x0.trans (x1.alloc _)).grown g2 (λk e=>by cases e;exact(x0.trans x1).size),λh=>absurd h (by decide)⟩
 | some I =>
 have hg':Good v I:=hg;by_cases h1:k<1\/I<k
 ·have HP:=lh_ (show listX v (some I) k=([],2) from by unfold listX dlistP;simp only;rw[if_pos h1]);have HG:=lh_ (λw h=>riget_out A n c v I k w h hg' h1);clear hv hg hg' h1;go_enter func223,ntmps223
  go_wp2_with (first
   | (go_at_call 74;refine(HG.out _ HV.out).mono ?_;rintro e w1 ⟨rfl,x1⟩)
   | (refine wp_st_ino (.tmp 7) (.tmp 17) rfl rfl w1.heap.size _ zero12 121 rfl rfl (Box.new _ _ _) rfl rfl ?_;intro w2 b2 g2))
  go_ret2;rw[HP.out];exact⟨_,rfl,(x0.trans (x1.alloc _)).grown g2 (λk e=>by cases e;exact(x0.trans x1).size),λh=>absurd h (by decide)⟩
 have hk1:1<=k:=by omega
 have hk2:k<=I:=by omega
 have HG:=lh_ (λw h=>riget_yes A n c v I k w h hg' hk1 hk2);have HX:=lh_ (inoAt_len v k);have HI:=lh_ (λw g (h:Box w g 121 (intVals (inoAt v k)))=>ino_cell h (inoAt_len v k) (k:=0) (by omega));have HJ:=lh_ (λw g (h:Box w g 121 (intVals (inoAt v k)))=>ino_cell h (inoAt_len v k) (k:=3) (by omega));have hnn:=size_nn v k;have HR:=lh_ (show∀w,Strs w A n v->Calls prog 76 #[.slice A n c,.int .i64 k,.int .i64 0,.int .i64 ((inoAt v k).getD 3 0)] w λe w'=>e=.returned (.tuple #[.string (str (dataP v I k)),.int .i64 0])/\Ext w w' fromλw h=>by
  have:=rread_any A n c v I k 0 ((inoAt v k).getD 3 0) w h hg' hk1 hk2 (by omega) (by omega);rw[read_all hg']at this;exact this)
 have HO:=lh_ (λw=>rof20_any (dataP v I k) w (data_len v I k));by_cases h2:(inoAt v k).getD 0 0≠2
 ·have HP:=lh_ (show listX v (some I) k=([],11) from by unfold listX dlistP;simp only;rw[if_neg h1,if_pos h2]);generalize (inoAt v k).getD 0 0=kd at *;generalize (inoAt v k).getD 3 0=sz at *;have d2:(kd != 2)=true:=by simpa using h2
  generalize inoAt v k=x at *;clear hv hg hg' h1 HR HO HJ;go_enter func223,ntmps223
  go_wp2_with (first
   | (go_at_call 74;refine(HG.out _ HV.out).mono ?_;rintro e w1 ⟨rfl,x1⟩)
   | (refine wp_st_ino (.tmp 7) (.tmp 17) rfl rfl w1.heap.size _ zero12 121 rfl rfl (Box.new _ _ _) HX.out rfl ?_;intro w2 b2 g2;have c0:=HI.out _ _ b2))
  go_ret2;rw[HP.out];exact⟨_,rfl,(x0.trans (x1.alloc _)).grown g2 (λk e=>by cases e;exact(x0.trans x1).size),λh=>absurd h (by decide)⟩
 have h2':(inoAt v k).getD 0 0=2:=by omega
 have HP:=lh_ (show listX v (some I) k=match entriesP (dataP v I k) with
  | none=>([],3)
  | some l=>(l,0) from by unfold listX dlistP;simp only;rw[if_neg h1,if_neg h2];rfl)
 rw[h2']at HI;generalize (inoAt v k).getD 3 0=sz at *;generalize inoAt v k=x at *;generalize dataP v I k=d at *;cases he:entriesP d with
 | none =>
  rw[he]at HP HO;clear hv hg hg' h1 h2 h2' he;go_enter func223,ntmps223
  go_wp2_with (first
   | (go_at_call 74;refine(HG.out _ HV.out).mono ?_;rintro e w1 ⟨rfl,x1⟩)
   | (refine wp_st_ino (.tmp 7) (.tmp 17) rfl rfl w1.heap.size _ zero12 121 rfl rfl (Box.new _ _ _) HX.out rfl ?_;intro w2 b2 g2;have c0:=HI.out _ _ b2;have c3:=HJ.out _ _ b2;have x2:Ext w w2:=(x0.trans (x1.alloc _)).grown g2 (λk e=>by cases e;exact(x0.trans x1).size);have hv2:=HV.out.ext ((x1.alloc _).grown g2 (λk e=>by cases e;exact x1.size)))
   | (go_at_call 76;refine(HR.out _ hv2).mono ?_;rintro e w3 ⟨rfl,x3⟩)
   | (go_at_call 232;refine(HO.out _).mono ?_;rintro e w4 ⟨u4,rfl,x4,o4⟩))
  go_ret2;rw[HP.out];exact⟨_,rfl,(x2.trans x3).trans x4,λh=>absurd h (by decide)⟩
 | some l =>
  rw[he]at HP HO;clear hv hg hg' h1 h2 h2' he;go_enter func223,ntmps223
  go_wp2_with (first
   | (go_at_call 74;refine(HG.out _ HV.out).mono ?_;rintro e w1 ⟨rfl,x1⟩)
   | (refine wp_st_ino (.tmp 7) (.tmp 17) rfl rfl w1.heap.size _ zero12 121 rfl rfl (Box.new _ _ _) HX.out rfl ?_;intro w2 b2 g2;have c0:=HI.out _ _ b2;have c3:=HJ.out _ _ b2;have x2:Ext w w2:=(x0.trans (x1.alloc _)).grown g2 (λk e=>by cases e;exact(x0.trans x1).size);have hv2:=HV.out.ext ((x1.alloc _).grown g2 (λk e=>by cases e;exact x1.size)))
   | (go_at_call 76;refine(HR.out _ hv2).mono ?_;rintro e w3 ⟨rfl,x3⟩)
   | (go_at_call 232;refine(HO.out _).mono ?_;rintro e w4 ⟨u4,rfl,x4,o4⟩;have o4':=lh_ (OwnE.base (o4 rfl) (x2.trans x3).size);clear o4))
  go_ret2;rw[HP.out];exact⟨_,rfl,(x2.trans x3).trans x4,λ_=>o4'.out⟩
theorem hasE_mem {l:List Ent}(hl:EntsOk l) {name:List UInt8}:hasE l name=l.any λx=>decide (x.1=name):=by
 rw[Bool.eq_iff_iff];constructor
 ·intro h;unfold hasE at h;simp only[Bool.and_eq_true,decide_eq_true_eq]at h;rw[List.getD_eq_getElem?_getD,List.getElem?_eq_getElem h.1]at h;rw[List.any_eq_true];exact⟨_,List.getElem_mem h.1,decide_eq_true h.2⟩
 ·intro h;rw[List.any_eq_true]at h;obtain⟨x,hx,e⟩:=h;have e:=of_decide_eq_true e;obtain⟨j,hj,rfl⟩:=List.getElem_of_mem hx;have h1:posE l name=j:=by
   rcases Nat.lt_trichotomy (posE l name) j with h|h|h
   ·have hp:posE l name<l.length:=by omega
    have h2:=List.pairwise_iff_getElem.1 hl.2 _ _ hp hj h;have h3:=posE_ge hl.2 (Nat.le_refl (posE l name)) hp;rw[e]at h2;rw[h2]at h3;cases h3
   ·exact h
   ·have:=posE_lt h hj;rw[e,ltB_irrefl]at this;cases this
  unfold hasE;rw[h1,List.getD_eq_getElem?_getD,List.getElem?_eq_getElem hj];simp[hj,e]
def findN (l:List Ent) (name:List UInt8):Int:=if hasE l name=true then (l.getD (posE l name) ([],0)).2 else 0
theorem rfind20_any (A:Option Addr) (n c:Nat) (l:List Ent) (name:List UInt8) (w:World) (h:Ents w A n l) (hn:n<=1000000) (hl:EntsOk l) :
  Calls prog 224 #[.slice A n c,.string (str name)] w λe w'=>e=.returned (.int .i64 (findN l name))/\w=w':=by
 obtain⟨rfl,h2⟩:=h;have HNo:=lh_ (show(∀(j:Nat) (h:j<l.length),l[j].1≠name)->findN l name=0 fromλh=>by
  unfold findN;rw[hasE_mem hl,if_neg];rw[List.any_eq_true];rintro⟨x,hx,e⟩;obtain⟨j,hj,rfl⟩:=List.getElem_of_mem hx;exact h j hj (of_decide_eq_true e))
 have HYes:=lh_ (show∀(k:Nat) (hk:k<l.length),(∀(j:Nat) (h:j<l.length),j<k->l[j].1≠name)->l[k].1=name->findN l name=l[k].2 fromλk hk h0 h1=>by
  have hh:hasE l name=true:=by rw[hasE_mem hl,List.any_eq_true];exact⟨_,List.getElem_mem hk,decide_eq_true h1⟩
  unfold findN;rw[if_pos hh];unfold hasE at hh;simp only[Bool.and_eq_true,decide_eq_true_eq]at hh;rw[List.getD_eq_getElem?_getD,List.getElem?_eq_getElem hh.1]at hh ⊢;simp only[Option.getD_some]at hh ⊢;have:posE l name=k:=by
   rcases Nat.lt_trichotomy (posE l name) k with h|h|h
   ·exact absurd hh.2 (h0 _ hh.1 h)
   ·exact h
   ·have:=posE_lt h hk;rw[h1,ltB_irrefl]at this;cases this
  subst this;rfl)
 have hls:(l.length:Int)<=1000000:=by omega
 clear hl;go_enter func224,ntmps224;go_wp2_with fail;go_loop [5,8] (λ_ t=>∃k:Nat,k<=l.length/\t=.int .i64 k/\∀(j:Nat) (h:j<l.length),j<k->l[j].1≠name) (λ_ t=>l.length-(intOf t).toNat);case atStart=>exact⟨0,by omega,rfl,λj _ h=>by omega⟩
 case round =>
  obtain⟨k,hk,rfl,hno⟩:=hrel;have HO:=lh_ hno;clear hno;by_cases hlt:k<l.length
  ·obtain⟨b,o,rfl,hcell⟩:=h2 (by omega);obtain⟨c0,c1⟩:=hcell k hlt;have HY:=lh_ (HYes.out k hlt HO.out);have hki:(k:Int)<(l.length:Int):=by omega
   have HN:=lh_ (show l[k].1≠name->∀(j:Nat) (h:j<l.length),j<k+1->l[j].1≠name fromλh j hj hlt2=>by
    by_cases e:j<k
    ·exact HO.out j hj e
    ·obtain rfl:j=k:=by omega
     exact h)
   clear hcell;generalize l[k]=y at *;by_cases hy:y.1=name
   ·have d1:(str y.1).toList=(str name).toList:=by rw[hy]
    have d2:((str y.1).toList==(str name).toList)=true:=by rw[hy];simp
    have HE:=lh_ (HY.out hy);clear hy HY HN HYes HNo HO;go_wp2_with fail;go_ret;rw[HE.out];exact⟨rfl,rfl⟩
   ·have d1:¬(str y.1).toList=(str name).toList:=by rw[str_toList,str_toList];exact hy
    have d2:((str y.1).toList==(str name).toList)=false:=by rw[str_toList,str_toList];simpa using hy
    have HE:=lh_ (HN.out hy);clear hy HY HN HYes HNo HO;go_wp2_with fail;go_round;case rel=>exact⟨k+1,by omega,by go_num,HE.out⟩
    case measure=>simp[intOf];omega
  ·obtain rfl:k=l.length:=by omega
   have HE:=lh_ (HNo.out (λj h=>HO.out j h h));go_wp2_with fail;go_ret;rw[HE.out];exact⟨rfl,rfl⟩
theorem seg_cut23:∀(q:List UInt8) (m:Nat),m<=q.length->(∀j,j<m->q[j]? ≠some 47)->(q[m]? =some 47\/m=q.length)->segP q=q.take m/\restP q=q.drop m
 | [],m,h,_,_=>by
  obtain rfl:m=0:=by simpa using h
  exact⟨rfl,rfl⟩
 | c::q,0,_,_,h=>by
  have hc:c=47:=by
   rcases h with h|h
   ·simpa using h
   ·simp at h
  subst hc;simp[segP,restP]
 | c::q,m+1,hm,hn,h=>by
  have hc:c≠47:=by have:=hn 0 (by omega);simpa using this
  have ih:=seg_cut23 q m (by simpa using hm) (λj hj=>by have:=hn (j+1) (by omega);simpa using this) (by simpa using h);have h1:(c != 47)=true:=by simpa using hc
  unfold segP restP at *;rw[List.takeWhile_cons,List.dropWhile_cons,if_pos h1,if_pos h1,ih.1,ih.2];exact⟨rfl,rfl⟩
def NamesAt (p:List UInt8) (i f:Nat) (ps:List (List UInt8)):Prop :=
 (1<=f/\i<=p.length/\f<=i/\(∀j,f<=j->j<i->p[j]? ≠some 47)/\ps++partsP (47::p.drop f)=partsP p)\/(i=p.length+1/\ps=partsP p)
theorem namesAt_start {q:List UInt8}:NamesAt (47::q) 1 1 []:=.inl ⟨by omega,by simp,by omega,λj h1 h2=>by omega,rfl⟩
theorem namesAt_cut {p:List UInt8}{i f:Nat}{ps:List (List UInt8)}(h:NamesAt p i f ps) (hi:i<=p.length) (hs:p[i]? =some 47\/i=p.length):f<=i/\NamesAt p (i+1) (i+1) (ps++[(p.drop f).take (i-f)]):=by
 rcases h with⟨h1,h2,h3,h4,h5⟩|⟨h1,_⟩
 ·refine⟨h3,?_⟩;obtain⟨s1,s2⟩:=seg_cut23 (p.drop f) (i-f) (by simp;omega) (λj hj=>by rw[List.getElem?_drop];exact h4 (f+j) (by omega) (by omega)) (by
   rw[List.getElem?_drop,show f+(i-f)=i by omega,List.length_drop];rcases hs with h|h
   ·exact .inl h
   ·exact .inr (by omega))
  rw[partsP_cons,s1,s2,List.drop_drop,show f+(i-f)=i by omega]at h5;by_cases hl:i=p.length
  ·refine .inr ⟨by omega,?_⟩;rw[← h5,hl,List.drop_length,partsP_nil]
  ·have hi2:i<p.length:=by omega
   have h47:p[i]=47:=by
    rcases hs with h|h
    ·rw[List.getElem?_eq_getElem hi2]at h;exact Option.some.inj h
    ·omega
   refine .inl ⟨by omega,by omega,by omega,λj h1 h2=>by omega,?_⟩;rw[List.drop_eq_getElem_cons hi2,h47]at h5;rw[← h5,List.append_assoc];rfl
 ·omega
theorem namesAt_on {p:List UInt8}{i f:Nat}{ps:List (List UInt8)}(h:NamesAt p i f ps) (hi:i<p.length) (hs:p[i]≠47):NamesAt p (i+1) f ps:=by
 rcases h with⟨h1,h2,h3,h4,h5⟩|⟨h1,_⟩
 ·refine .inl ⟨h1,by omega,by omega,λj j1 j2=>?_,h5⟩;by_cases e:j=i
  ·subst e;rw[List.getElem?_eq_getElem hi];simpa using hs
  ·exact h4 j j1 (by omega)
 ·omega
theorem namesAt_len {p:List UInt8}{i f:Nat}{ps:List (List UInt8)}(h:NamesAt p i f ps):ps.length<=p.length:=by
 have:=(partsP_len p.length p (Nat.le_refl _)).1;rcases h with⟨_,_,_,_,h⟩|⟨_,h⟩
 ·have:=congrArg List.length h;rw[List.length_append]at this;omega
 ·rw[h];exact this
theorem namesAt_end {p:List UInt8}{i f:Nat}{ps:List (List UInt8)}(h:NamesAt p i f ps) (hi:p.length<i):ps=partsP p:=by
 rcases h with⟨_,h,_⟩|⟨_,h⟩
 ·omega
 ·exact h
def namesOk (p:List UInt8):Bool:=decide (p.head? =some 47)&&((pathP p).all mayD&&decide ((pathP p).length<=8))
theorem parts_25:∀(n:Nat) (q:List UInt8),q.length<=n->(∀x∈partsP (47::q),x.length<=24)->(47::q).length<=25*(partsP (47::q)).length
 | n,q,hn,h=>by
  rw[partsP_cons]at h ⊢;have h1:=h _ List.mem_cons_self;have hs:=seg_len q;rcases restP_head q with e|⟨r,e⟩
  ·rw[e]at hs ⊢;rw[partsP_nil];simp at hs ⊢;omega
  ·rw[e]at hs h ⊢;simp only[List.length_cons]at hs;cases n with
   | zero=>omega
   | succ n => have ih:=parts_25 n r (by omega) (λx hx=>h x (List.mem_cons_of_mem _ hx));simp only[List.length_cons]at ih ⊢;omega
theorem namesOk_may (p:List UInt8):namesOk p=mayP p:=by
 unfold namesOk mayP;cases hp:decide (p.head? =some 47) with
 | false=>rfl
 | true =>
  cases ha:(pathP p).all mayD&&decide ((pathP p).length<=8) with
  | false=>simp
  | true =>
   rw[Bool.and_eq_true,decide_eq_true_eq]at ha;have h1:=of_decide_eq_true hp;have:p.length<=200:=by
    cases p with
    | nil=>simp
    | cons c q =>
     obtain rfl:c=47:=by simpa using h1
     by_cases hq:(47::q:List UInt8)=[47]
     ·rw[hq];decide
     ·unfold pathP at ha;rw[if_neg hq]at ha;have:=parts_25 q.length q (Nat.le_refl _) (λx hx=>(mayD_len (List.all_eq_true.1 ha.1 x hx)).2);omega
   simp[this]
theorem rnames_any (p:List UInt8) (w:World) (hp:p.length<=100000) :
  Calls prog 145 #[.string (str p)] w λe w'=>∃u,e=.returned (.tuple #[u,.bool (mayP p)])/\Ext w w'/\(mayP p=true->w'.ownsRow w.heap.size 9 1 u (pathP p).length (strL (pathP p))):=by
 rw[← namesOk_may];have hz:=str_size;have own0:=World.ownsRow_lit (base:=w.heap.size) (e:=9) (size:=1) w #[] 0 (Nat.le_refl _) (by unfold maxLen;omega) rfl;have x0:Ext w (w.alloc (.cells #[] 9)):=(Ext.refl w).alloc _;by_cases h1:p=[47]
 ·have HN:=lh_ (show namesOk p=true by rw[h1];rfl);have HP:=lh_ (show pathP p=[] by rw[h1];rfl);have d1:(str p).toList=[47]:=by rw[str_toList];exact h1
  have d2:((str p).toList==[47])=true:=by rw[d1];rfl
  have OW:=lh_ own0;clear h1 own0;go_enter func145,ntmps145;go_wp2_with fail;go_ret2;rw[HN.out,HP.out];exact⟨_,rfl,x0,λ_=>OW.out⟩
 have d1:¬(str p).toList=[47]:=by rw[str_toList];exact h1
 have d2:((str p).toList==[47])=false:=by rw[str_toList];simpa using h1
 have HP:=lh_ (show pathP p=partsP p by unfold pathP;rw[if_neg h1]);by_cases h2:p.head? =some 47;case neg =>
  have HN:=lh_ (show namesOk p=false by unfold namesOk;rw[decide_eq_false h2];rfl);clear own0;cases p with
  | nil => have d3:(str []).toList=[]:=str_toList [];go_enter func145,ntmps145;go_wp2_with fail;go_ret2;rw[HN.out];exact⟨_,rfl,x0,λh=>(by cases h)⟩
  | cons c q =>
   have d3:¬(str (c::q)).toList=[]:=by rw[str_toList];simp
   have d4:((str (c::q)).toList==[])=false:=by rw[str_toList];rfl
   have d5:(str (c::q)).toList.isEmpty=false:=by rw[str_toList];rfl
   have hb0:0<(str (c::q)).size:=by rw[str_size];simp
   have hc0:(str (c::q))[0]'hb0=c:=rfl;have hc:c≠47:=by simpa using h2
   have hci:((c.toNat:Int) != 47)=true:=by have:c.toNat≠47:=λe=>hc (UInt8.toNat_inj.1 e);simp;omega
   have hl0:(0:Int)<((c::q).length:Int):=by simp only[List.length_cons];omega
   generalize hpq:c::q=p at *;clear h1 h2 hpq;go_enter func145,ntmps145;go_wp2_with fail;go_ret2;rw[HN.out];exact⟨_,rfl,x0,λh=>(by cases h)⟩
 obtain⟨q,hpq⟩:∃q,p=47::q:=by
  cases p with
  | nil=>simp at h2
  | cons c q=>exact⟨q,by simpa using h2⟩
 have HSt:=lh_ (show NamesAt p 1 1 [] by rw[hpq];exact namesAt_start);have HOk:=lh_ (show namesOk p=((partsP p).all mayD&&decide ((partsP p).length<=8)) by unfold namesOk;rw[HP.out,decide_eq_true h2];rfl);have d3:¬(str p).toList=[]:=by rw[str_toList,hpq];simp
 have d4:((str p).toList==[])=false:=by rw[str_toList,hpq];rfl
 have d5:(str p).toList.isEmpty=false:=by rw[str_toList,hpq];rfl
 have hb0:0<(str p).size:=by rw[str_size,hpq];simp
 have hc0:(str p)[0]'hb0=47:=by subst hpq;rfl
 have hl0:(0:Int)<(p.length:Int):=by rw[str_size]at hb0;omega
 clear h1 h2 hpq;go_enter func145,ntmps145;go_upto_region 8 with fail;clear d1 d2 d3 d4 d5 hc0 hb0;generalize w.alloc (.cells #[] 9)=w1 at *;go_loopw [4,5,6] (λu ft it wx=>∃(i f:Nat) (ps:List (List UInt8)),ft=.int .i64 f/\it=.int .i64 i/\NamesAt p i f ps/\i<=p.length+1/\f<=p.length+1/\Ext w wx/\wx.ownsRow w.heap.size 9 1 u ps.length (strL ps)) (λ_ _ it _=>p.length+1-(intOf it).toNat);case atStart=>exact⟨1,1,[],rfl,rfl,HSt.out,by omega,by omega,x0,own0⟩
 case round =>
  clear own0 x0 HSt;obtain⟨i,f,ps,rfl,rfl,hat,hi1,hf1,xr,own⟩:=hrel;have HA:=lh_ hat;have hpl:=namesAt_len hat;clear hat;have hxs:=xr.size;by_cases hle:i<=p.length
  ·have hii:(i:Int)<=(p.length:Int):=by omega
   have HCut:=lh_ (λhs=>namesAt_cut HA.out hle hs);have hlow:=lh_ (show∀u,wr.ownsRow w.heap.size 9 1 u ps.length (strL ps)->∀j,u.ownBlock=some j->w.heap.size<=j fromλu h j e=>own_low h e);by_cases hl:i=p.length
   ·obtain⟨hfi,HC⟩:=HCut.out (.inr hl);have HN:=lh_ HC;have hx1:(str p).extract f i=str ((p.drop f).take (i-f)):=str_ext _ _ _;have hil:((i:Int)==(p.length:Int))=true:=by simp;omega
    have hfi2:(f:Int)<=(i:Int):=by omega
    clear HC HCut hl;generalize (p.drop f).take (i-f)=s at *
    go_wp2_with (first
     | (at_builtin;refine wp_app_strs w.heap.size rfl _ _ rfl rfl rfl (own_ext own ((Ext.refl wr).alloc _)) (strs_new1 wr s) (by omega) (by simp;omega) (by omega) ?_;intro u4 w4 own4 g4))
    have x4:Ext w w4:=(xr.alloc _).grown g4 (λj e=>hlow.out _ own j e);go_roundw;case rel=>exact⟨i+1,i+1,ps++[s],by go_num,by go_num,HN.out,by omega,by omega,x4,by rw[List.length_append];exact own4⟩
    case measure=>simp[intOf];omega
   ·have hlt:i<p.length:=by omega
    have hil:((i:Int)==(p.length:Int))=false:=by simp;omega
    have hili:(i:Int)<(p.length:Int):=by omega
    have hb:i<(str p).size:=by rw[str_size];exact hlt
    have hci:(str p)[i]'hb=p[i]:=rfl;have HS:=lh_ (λh:p[i]=47=>HCut.out (.inl ((List.getElem?_eq_getElem hlt).trans (congrArg some h))));have HO:=lh_ (λh:p[i]≠47=>namesAt_on HA.out hlt h);have hcb:=p[i].toNat_lt;generalize p[i]=c at *;clear HCut hl;by_cases hc:c=47
    ·obtain⟨hfi,HC⟩:=HS.out hc;have HN:=lh_ HC;have hx1:(str p).extract f i=str ((p.drop f).take (i-f)):=str_ext _ _ _;have hfi2:(f:Int)<=(i:Int):=by omega
     have hc47:((c.toNat:Int)==47)=true:=by rw[hc];rfl
     clear HC HS HO hc;generalize (p.drop f).take (i-f)=s at *
     go_wp2_with (first
      | (at_builtin;refine wp_app_strs w.heap.size rfl _ _ rfl rfl rfl (own_ext own ((Ext.refl wr).alloc _)) (strs_new1 wr s) (by omega) (by simp;omega) (by omega) ?_;intro u4 w4 own4 g4))
     have x4:Ext w w4:=(xr.alloc _).grown g4 (λj e=>hlow.out _ own j e);go_roundw;case rel=>exact⟨i+1,i+1,ps++[s],by go_num,by go_num,HN.out,by omega,by omega,x4,by rw[List.length_append];exact own4⟩
     case measure=>simp[intOf];omega
    ·have HN:=lh_ (HO.out hc);have hc47:((c.toNat:Int)==47)=false:=by
      have:c.toNat≠47:=λe=>hc (UInt8.toNat_inj.1 e);simp;omega
     clear HS HO hc;go_wp2_with fail;go_roundw;case rel=>exact⟨i+1,f,ps,rfl,by go_num,HN.out,by omega,by omega,xr,own⟩
     case measure=>simp[intOf];omega
  ·have hii:¬(i:Int)<=(p.length:Int):=by omega
   have hps:=namesAt_end HA.out (by omega);have HBd:=lh_ (show∀x∈ps,x.length<=p.length fromλx hx=>(partsP_len p.length p (Nat.le_refl _)).2 x (by rw[← hps];exact hx));rw[← hps]at HOk HP;clear HA hps;obtain⟨A4,c4,rfl⟩:∃A c,u4=.slice A ps.length c:=by
    rcases own.2 with⟨rfl,h0⟩|⟨g,cap,cur,rfl,_⟩
    ·exact⟨none,0,by rw[h0]⟩
    ·exact⟨_,_,rfl⟩
   have hst:=Strs.own own;have OW:=lh_ own;clear own;go_upto_region 14 with fail;go_loop [7] (λt=>∃k:Nat,k<=ps.length/\t=.int .i64 k/\∀(j:Nat) (h:j<ps.length),j<k->mayD ps[j]=true) (λt=>ps.length-(intOf t).toNat);case atStart=>exact⟨0,by omega,rfl,λj _ h=>by omega⟩
   case round =>
    obtain⟨k,hk,rfl,hok⟩:=hrel;have HO:=lh_ hok;clear hok;by_cases hlt:k<ps.length
    ·obtain⟨b,o,rfl,hcell⟩:=hst.2 (by omega);have hck:=hcell k hlt;have hki:(k:Int)<(ps.length:Int):=by omega
     have hbd:ps[k].length<=1000000000:=by have:=HBd.out ps[k] (List.getElem_mem hlt);omega
     have HM:=lh_ (λw=>rmay20_any ps[k] w hbd);have HNo:=lh_ (show mayD ps[k]=false->ps.all mayD=false fromλh=>List.all_eq_false.2 ⟨ps[k],List.getElem_mem hlt,by rw[h];decide⟩);have HN:=lh_ (show mayD ps[k]=true->∀(j:Nat) (h:j<ps.length),j<k+1->mayD ps[j]=true fromλh j hj hlt2=>by
      by_cases e:j<k
      ·exact HO.out j hj e
      ·obtain rfl:j=k:=by omega
       exact h)
     generalize ps[k]=s at *;cases hm:mayD s with
     | false =>
      rw[hm]at HM;have HF:=lh_ (HOk.out.trans (by rw[HNo.out hm,Bool.false_and]));clear hm HNo HN HO hcell hst;go_wp2_with (go_at_call 200;refine(HM.out _).mono ?_;rintro e w5 ⟨rfl,rfl⟩)
      go_ret2;rw[HF.out];exact⟨_,rfl,xr,λh=>(by cases h)⟩
     | true =>
      rw[hm]at HM;have HY:=lh_ (HN.out hm);clear hm HNo HN HO hcell;go_wp2_with (go_at_call 200;refine(HM.out _).mono ?_;rintro e w5 ⟨rfl,rfl⟩)
      go_round;case rel=>exact⟨k+1,by omega,by go_num,HY.out⟩
      case measure=>simp[intOf];omega
    ·obtain rfl:k=ps.length:=by omega
     have hall:ps.all mayD=true:=by rw[List.all_eq_true];intro c hc;obtain⟨j,hj,rfl⟩:=List.getElem_of_mem hc;exact HO.out j hj hj
     have HF:=lh_ (HOk.out.trans (by rw[hall,Bool.true_and]));have hd8:decide ((ps.length:Int)<=8)=decide (ps.length<=8):=by rw[Bool.eq_iff_iff];simp;omega
     clear hall HO hst;go_wp2_with fail;go_ret2;rw[HF.out,HP.out];exact⟨_,by rw[← hd8];rfl,xr,λ_=>OW.out⟩
def dfX (v:List (List UInt8)) (I:Option Int) (k:Int) (name:List UInt8):Int × Int:=match I with
 | some I=>dfindP v I k name
 | none=>badD k name
theorem findX_df (v:List (List UInt8)) (I:Option Int) (p:List UInt8):findX v I p=findD (dfX v I) p:=by
 cases I<;>rfl
theorem dfX_eq (v:List (List UInt8)) (I:Option Int) (k:Int) (name:List UInt8):dfX v I k name=if mayD name=false then (0,7) else if (listX v I k).2≠0 then (0,(listX v I k).2) else if findN (listX v I k).1 name=0 then (0,9) else (findN (listX v I k).1 name,0):=by
 cases I with
 | none =>
  unfold dfX badD listX;by_cases hm:mayD name=false
  ·rw[if_pos hm,if_pos hm]
  ·rw[if_neg hm,if_neg hm,if_pos (show(3:Int)≠0 by decide)]
 | some I =>
  unfold dfX dfindP listX;simp only;by_cases hm:mayD name=false
  ·rw[if_pos hm,if_pos hm]
  ·rw[if_neg hm,if_neg hm];by_cases he:(dlistP v I k).2≠0
   ·rw[if_pos he,if_pos he]
   ·rw[if_neg he,if_neg he];unfold findN;by_cases hh:hasE (dlistP v I k).1 name=true
    ·rw[if_pos hh,if_pos hh];have hh2:=hh;unfold hasE at hh2;simp only[Bool.and_eq_true,decide_eq_true_eq]at hh2;have:=(dlist_ents v I k).1 _ (List.getElem_mem hh2.1);rw[if_neg];rw[List.getD_eq_getElem?_getD,List.getElem?_eq_getElem hh2.1];simp only[Option.getD_some];omega
    ·rw[if_neg hh,if_neg hh,if_pos rfl]
theorem listX_ents (v:List (List UInt8)) (I:Option Int) (k:Int):EntsOk (listX v I k).1/\(listX v I k).1.length<=280:=by
 cases I with
 | none=>exact⟨⟨λx hx=>absurd hx List.not_mem_nil,List.Pairwise.nil⟩,by simp[listX]⟩
 | some I=>exact⟨dlist_ents v I k,dlist_len v I k⟩
theorem rdfind_any (A:Option Addr) (n c:Nat) (v:List (List UInt8)) (I:Option Int) (k:Int) (name:List UInt8) (w:World) (hv:Strs w A n v) (hn:n<=9223372036854775807) (hg:GoodX v I) (hnl:name.length<=1000000000) :
  Calls prog 201 #[.slice A n c,.int .i64 k,.string (str name)] w λe w'=>e=.returned (.tuple #[.int .i64 (dfX v I k name).1,.int .i64 (dfX v I k name).2])/\Ext w w':=by
 have HM:=lh_ (λw=>rmay20_any name w hnl);have HL:=lh_ (λw h=>rdlist_any A n c v I k w h hn hg);have HV:=lh_ hv;obtain⟨hle,hll⟩:=listX_ents v I k;have HP:=lh_ (dfX_eq v I k name);cases hm:mayD name with
 | false =>
  rw[hm,if_pos rfl]at HP;rw[hm]at HM;go_enter func201,ntmps201;go_wp2_with (go_at_call 200;refine(HM.out _).mono ?_;rintro e w1 ⟨rfl,rfl⟩)
  go_ret2;rw[HP.out];exact⟨rfl,Ext.refl _⟩
 | true =>
 rw[hm,if_neg (by simp)]at HP;rw[hm]at HM;by_cases he:(listX v I k).2=0;case neg =>
  rw[if_pos he]at HP;have de:((listX v I k).2 != 0)=true:=by simpa using he
  clear he hm hle hll hv;generalize listX v I k=R at *;go_enter func201,ntmps201
  go_wp2_with (first
   | (go_at_call 200;refine(HM.out _).mono ?_;rintro e w1 ⟨rfl,rfl⟩)
   | (go_at_call 223;refine(HL.out _ HV.out).mono ?_;rintro e w2 ⟨u,rfl,x2,own2⟩;clear own2))
  go_ret2;rw[HP.out];exact⟨rfl,x2⟩
 rw[if_neg (λh=>h he)]at HP;rw[he]at HL;clear he hm hv;generalize (listX v I k).1=l at *;have HF:=lh_ (λA c w h=>rfind20_any A l.length c l name w h (by omega) hle);clear hle;by_cases h0:findN l name=0
 ·rw[if_pos h0]at HP;rw[h0]at HF;clear h0;go_enter func201,ntmps201
  go_wp2_with (first
   | (go_at_call 200;refine(HM.out _).mono ?_;rintro e w1 ⟨rfl,rfl⟩)
   | (go_at_call 223;refine(HL.out _ HV.out).mono ?_;rintro e w2 ⟨u,rfl,x2,own2⟩;obtain⟨A2,cap2,rfl,st2⟩:=(own2 trivial).form;have HS:=lh_ st2;clear own2 st2)
   | (go_at_call 224;refine(HF.out A2 cap2 _ HS.out).mono ?_;rintro e w3 ⟨rfl,rfl⟩))
  go_ret2;rw[HP.out];exact⟨rfl,x2⟩
 ·rw[if_neg h0]at HP;have d0:(findN l name==0)=false:=by simpa using h0
  clear h0;generalize findN l name=z at *;go_enter func201,ntmps201
  go_wp2_with (first
   | (go_at_call 200;refine(HM.out _).mono ?_;rintro e w1 ⟨rfl,rfl⟩)
   | (go_at_call 223;refine(HL.out _ HV.out).mono ?_;rintro e w2 ⟨u,rfl,x2,own2⟩;obtain⟨A2,cap2,rfl,st2⟩:=(own2 trivial).form;have HS:=lh_ st2;clear own2 st2)
   | (go_at_call 224;refine(HF.out A2 cap2 _ HS.out).mono ?_;rintro e w3 ⟨rfl,rfl⟩))
  go_ret2;rw[HP.out];exact⟨rfl,x2⟩
theorem stepsD_take (dd:Int->List UInt8->Int × Int) (l:List (List UInt8)) (k:Nat) (hk:k<l.length) (m:Int) (h:stepsD dd 1 (l.take k)=(m,0)) :
  stepsD dd 1 (l.take (k+1))=if (dd m l[k]).2≠0 then (0,(dd m l[k]).2) else ((dd m l[k]).1,0):=by
 rw[List.take_succ_eq_append_getElem hk];exact stepsD_snoc dd _ 1 m l[k] h
theorem rwalk1_any (A B:Option Addr) (n c m d:Nat) (v:List (List UInt8)) (I:Option Int) (l:List (List UInt8)) (w:World) (hv:Strs w A n v) (hn:n<=9223372036854775807) (hg:GoodX v I) (hl:Strs w B m l) (hm:m<=1000000) (hnl:∀x∈l,x.length<=1000000000) :
  Calls prog 146 #[.slice A n c,.slice B m d] w λe w'=>e=.returned (.tuple #[.int .i64 (stepsD (dfX v I) 1 l).1,.int .i64 (stepsD (dfX v I) 1 l).2])/\Ext w w':=by
 have HD:=lh_ (λk (x:List UInt8) w h hx=>rdfind_any A n c v I k x w h hn hg hx);have HV:=lh_ hv;obtain⟨rfl,hl2⟩:=hl;have HT:=lh_ (stepsD_take (dfX v I) l);have HSt:=lh_ (λk (R:Int × Int) (h:stepsD (dfX v I) 1 (l.take k)=R) (h0:R.2≠0)=>stepsD_stop (dfX v I) (l.take k) (l.drop k) 1 R h h0);have HTD:=lh_ (λk=>List.take_append_drop k l);have hls:(l.length:Int)<=1000000:=by omega
 clear hg hv;generalize dfX v I=dd at *;go_enter func146,ntmps146;go_upto_region 3 with fail;go_loopw [6,7,8,9] (λa t _ _ wx=>∃(k:Nat) (z:Int),k<=l.length/\t=.int .i64 k/\a=.int .i64 z/\stepsD dd 1 (l.take k)=(z,0)/\Ext w wx) (λ_ t _ _ _=>l.length-(intOf t).toNat);case atStart=>exact⟨0,1,by omega,rfl,rfl,by simp[stepsD],Ext.refl _⟩
 case round =>
  obtain⟨k,z,hk,rfl,rfl,hst,xr⟩:=hrel;have HS:=lh_ hst;clear hst;by_cases hlt:k<l.length
  ·obtain⟨b,o,rfl,hcell⟩:=hl2 (by omega);have hck:=xr.keep (hcell k hlt);have hki:(k:Int)<(l.length:Int):=by omega
   have HN:=lh_ (HT.out k hlt z HS.out);have HDk:=lh_ (λw h=>HD.out z l[k] w h (hnl _ (List.getElem_mem hlt)));have HR:=lh_ (λR h h0=>HSt.out (k+1) R h h0);have HE:=lh_ (HTD.out (k+1));clear hcell;generalize l[k]=x at *;generalize dd z x=R at *;by_cases h0:R.2=0
   ·rw[h0,if_neg (λh=>h rfl)]at HN;rw[h0]at HDk;clear h0 HR HE;go_wp2_with (go_at_call 201;refine(HDk.out _ (HV.out.ext xr)).mono ?_;rintro e w2 ⟨rfl,x2⟩)
    go_roundw;case rel=>exact⟨k+1,R.1,by omega,by go_num,rfl,HN.out,xr.trans x2⟩
    case measure=>simp[intOf];omega
   ·rw[if_pos h0]at HN;have d0:(R.2 != 0)=true:=by simpa using h0
    have HF:=lh_ (show stepsD dd 1 l=(0,R.2) by
     have:=HR.out _ HN.out h0;rw[HE.out]at this;exact this)
    clear h0 HR HE HN;go_wp2_with (go_at_call 201;refine(HDk.out _ (HV.out.ext xr)).mono ?_;rintro e w2 ⟨rfl,x2⟩)
    go_ret2;rw[HF.out];exact⟨rfl,xr.trans x2⟩
  ·obtain rfl:k=l.length:=by omega
   have HF:=lh_ (show stepsD dd 1 l=(z,0) by have:=HS.out;rw[List.take_length]at this;exact this);clear HS;go_wp2_with fail;go_ret2;rw[HF.out];exact⟨rfl,xr⟩
theorem rfindp_any (A:Option Addr) (n c:Nat) (v:List (List UInt8)) (I:Option Int) (p:List UInt8) (w:World) (hv:Strs w A n v) (hn:n<=9223372036854775807) (hg:GoodX v I) (hp:p.length<=100000) :
  Calls prog 73 #[.slice A n c,.string (str p)] w λe w'=>e=.returned (.tuple #[.int .i64 (findX v I p).1,.int .i64 (findX v I p).2])/\Ext w w':=by
 have HN:=lh_ (λw=>rnames_any p w hp);have hpl:=pathP_len p;have HV:=lh_ hv;have HW:=lh_ (λB d w hv h=>rwalk1_any A B n c (pathP p).length d v I (pathP p) w hv hn hg h (by omega) (λx hx=>by have:=hpl.2 x hx;omega));rw[findX_df];unfold findD;cases hm:mayP p with
 | false =>
  rw[hm]at HN;rw[if_pos rfl];clear hpl;go_enter func73,ntmps73;go_wp2_with (go_at_call 145;refine(HN.out _).mono ?_;rintro e w1 ⟨u,rfl,x1,o1⟩;clear o1)
  go_ret2;exact⟨rfl,x1⟩
 | true =>
  rw[hm]at HN;rw[if_neg (by simp)];clear hpl;generalize pathP p=l at *;generalize stepsD (dfX v I) 1 l=R at *;go_enter func73,ntmps73
  go_wp2_with (first
   | (go_at_call 145;refine(HN.out _).mono ?_;rintro e w1 ⟨u,rfl,x1,o1⟩;obtain⟨A4,c4,rfl⟩:∃A c,u=.slice A l.length c:=(by
     rcases(o1 rfl).2 with⟨rfl,h0⟩|⟨g,cap,cur,rfl,_⟩
     ·exact⟨none,0,by rw[h0]⟩
     ·exact⟨_,_,rfl⟩);have HS:=lh_ (Strs.own (o1 rfl));clear o1)
   | (go_at_call 146;refine(HW.out A4 c4 _ (HV.out.ext x1) HS.out).mono ?_;rintro e w2 ⟨rfl,x2⟩))
  go_ret2;exact⟨rfl,x1.trans x2⟩
def rfileX (v:List (List UInt8)) (I:Option Int) (k:Int):Int:=match I with
 | some I=>fileE v I k
 | none=>3
theorem rfile_any (A:Option Addr) (n c:Nat) (v:List (List UInt8)) (I:Option Int) (k:Int) (w:World) (hv:Strs w A n v) (hn:n<=9223372036854775807) (hg:GoodX v I) :
  Calls prog 75 #[.slice A n c,.int .i64 k] w λe w'=>e=.returned (.int .i64 (rfileX v I k))/\Ext w w':=by
 have HV:=lh_ hv;cases I with
 | none =>
  have HG:=lh_ (λw h=>riget_bad A n c v k w h hn hg);unfold rfileX;clear hv hg;go_enter func75,ntmps75
  go_wp2_with (first
   | (go_at_call 74;refine(HG.out _ HV.out).mono ?_;rintro e w1 ⟨rfl,x1⟩)
   | (refine wp_st_ino (.tmp 5) (.tmp 11) rfl rfl w1.heap.size _ zero12 121 rfl rfl (Box.new _ _ _) rfl rfl ?_;intro w2 b2 g2))
  go_ret;exact⟨rfl,(x1.alloc _).grown g2 (λk e=>by cases e;exact x1.size)⟩
 | some I =>
  have hg':Good v I:=hg;unfold rfileX;simp only;by_cases h1:k<1\/I<k
  ·rw[show fileE v I k=2 by unfold fileE;rw[if_pos h1]];have HG:=lh_ (λw h=>riget_out A n c v I k w h hg' h1);clear hv hg hg' h1;go_enter func75,ntmps75
   go_wp2_with (first
    | (go_at_call 74;refine(HG.out _ HV.out).mono ?_;rintro e w1 ⟨rfl,x1⟩)
    | (refine wp_st_ino (.tmp 5) (.tmp 11) rfl rfl w1.heap.size _ zero12 121 rfl rfl (Box.new _ _ _) rfl rfl ?_;intro w2 b2 g2))
   go_ret;exact⟨rfl,(x1.alloc _).grown g2 (λk e=>by cases e;exact x1.size)⟩
  ·have HG:=lh_ (λw h=>riget_yes A n c v I k w h hg' (by omega) (by omega));have HX:=lh_ (inoAt_len v k);have HI:=lh_ (λw g (h:Box w g 121 (intVals (inoAt v k)))=>ino_cell h (inoAt_len v k) (k:=0) (by omega));rw[show fileE v I k=if (inoAt v k).getD 0 0≠1 then 11 else 0 by unfold fileE;rw[if_neg h1]];generalize (inoAt v k).getD 0 0=kd at *;generalize inoAt v k=x at *;clear hv hg hg' h1;by_cases h2:kd=1
   ·subst h2;rw[if_neg (λh=>h rfl)];go_enter func75,ntmps75
    go_wp2_with (first
     | (go_at_call 74;refine(HG.out _ HV.out).mono ?_;rintro e w1 ⟨rfl,x1⟩)
     | (refine wp_st_ino (.tmp 5) (.tmp 11) rfl rfl w1.heap.size _ zero12 121 rfl rfl (Box.new _ _ _) HX.out rfl ?_;intro w2 b2 g2;have c0:=HI.out _ _ b2))
    go_ret;exact⟨rfl,(x1.alloc _).grown g2 (λk e=>by cases e;exact x1.size)⟩
   ·rw[if_pos h2];have d2:(kd != 1)=true:=by simpa using h2
    clear h2;go_enter func75,ntmps75
    go_wp2_with (first
     | (go_at_call 74;refine(HG.out _ HV.out).mono ?_;rintro e w1 ⟨rfl,x1⟩)
     | (refine wp_st_ino (.tmp 5) (.tmp 11) rfl rfl w1.heap.size _ zero12 121 rfl rfl (Box.new _ _ _) HX.out rfl ?_;intro w2 b2 g2;have c0:=HI.out _ _ b2))
    go_ret;exact⟨rfl,(x1.alloc _).grown g2 (λk e=>by cases e;exact x1.size)⟩
theorem readX_eq (v:List (List UInt8)) (I:Option Int) (k off size:Int):readX v I k off size=if rfileX v I k≠0 then ([],rfileX v I k) else readE v (I.getD 0) k off size:=by
 cases I with
 | none=>rfl
 | some I=>rfl
theorem rreadX_any (A:Option Addr) (n c:Nat) (v:List (List UInt8)) (I:Option Int) (k off size:Int) (w:World) (hv:Strs w A n v) (hn:n<=9223372036854775807) (hg:GoodX v I) (ho:off<=9223372036854775807) (hs:size<=9223372036854775807) :
  Calls prog 32 #[.slice A n c,.int .i64 k,.int .i64 off,.int .i64 size] w λe w'=>e=.returned (.tuple #[.string (str (readX v I k off size).1),.int .i64 (readX v I k off size).2])/\Ext w w':=by
 have HV:=lh_ hv;have HF:=lh_ (λw h=>rfile_any A n c v I k w h hn hg);rw[readX_eq];by_cases h0:rfileX v I k=0
 ·rw[if_neg (λh=>h h0)];rw[h0]at HF;cases I with
  | none=>exact absurd (show(3:Int)=0 from h0) (by decide)
  | some I =>
   have hg':Good v I:=hg;obtain⟨k1,k2⟩:=file_in h0;have HR:=lh_ (λw h=>rread_any A n c v I k off size w h hg' k1 k2 ho hs);rw[show(some I).getD 0=I from rfl];clear hv hg hg' h0;generalize readE v I k off size=R at *;go_enter func32,ntmps32
   go_wp2_with (first
    | (go_at_call 75;refine(HF.out _ HV.out).mono ?_;rintro e w1 ⟨rfl,x1⟩)
    | (go_at_call 76;refine(HR.out _ (HV.out.ext x1)).mono ?_;rintro e w2 ⟨rfl,x2⟩))
   go_ret2;exact⟨rfl,x1.trans x2⟩
 ·rw[if_pos h0];have d0:(rfileX v I k != 0)=true:=by simpa using h0
  clear hv hg h0;generalize rfileX v I k=z at *;go_enter func32,ntmps32
  go_wp2_with (first
   | (go_at_call 75;refine(HF.out _ HV.out).mono ?_;rintro e w1 ⟨rfl,x1⟩))
  go_ret2;exact⟨rfl,x1⟩
end Go.Proofs.YtfaplefkakpgcaaGreatDoor
