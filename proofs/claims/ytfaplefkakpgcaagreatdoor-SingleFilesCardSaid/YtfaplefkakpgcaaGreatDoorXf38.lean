/- The walk of dir.search. -/
import Derived.Test.YtfaplefkakpgcaaGreatDoorXf37
import Derived.Test.YtfaplefkakpgcaaGreatDoorXf35
import Derived.Test.YtfaplefkakpgcaaGreatDoorXf34
import Derived.Test.YtfaplefkakpgcaaGreatDoorXf10
import Derived.Test.YtfaplefkakpgcaaGreatDoorXf20
import Derived.Test.YtfaplefkakpgcaaGreatDoorXf5
import Derived.Test.YtfaplefkakpgcaaGreatDoorXf36
import Derived.Test.YtfaplefkakpgcaaGreatDoorXf14
set_option linter.unusedVariables false
set_option linter.unusedSimpArgs false
set_option maxHeartbeats 32000000
set_option maxRecDepth 100000
namespace Go.Proofs.YtfaplefkakpgcaaGreatDoor
open Go.Proofs.Tryz
open Go.RowKit Go.Lib Go.Sort Go.Shelf
theorem countP_lt (n m:Nat) (h:m<=n):(List.range n).countP (λi=>decide (i<m))=m:=by
 induction n generalizing m with
 | zero=>simp;omega
 | succ n ih =>
  rw[List.range_succ,List.countP_append];by_cases e:m=n+1
  ·subst e;rw[List.countP_eq_length.2 (λa ha=>by rw[List.mem_range]at ha;simp;omega)];simp
  ·rw[ih m (by omega)];simp;omega
theorem posE_count {l:List Ent}(hl:l.Pairwise λa b=>ltB a.1 b.1=true) (name:List UInt8):(List.range l.length).countP (λi=>!(!ltB (l.getD i ([],0)).1 name))=posE l name:=by
 rw[← countP_lt l.length (posE l name) (posE_le l name)];refine List.countP_congr λi hi=>?_;rw[List.mem_range]at hi;rw[List.getD_eq_getElem?_getD,List.getElem?_eq_getElem hi];simp only[Option.getD_some,Bool.not_not,decide_eq_true_eq];by_cases h:i<posE l name
 ·exact⟨λ_=>h,λ_=>posE_lt h hi⟩
 ·refine⟨λh2=>?_,λh2=>absurd h2 h⟩;rw[posE_ge hl (by omega) hi]at h2;cases h2
theorem dclosure_any (ba bx b o c n:Nat) (y name:List UInt8) (i:Nat) (W:World) (hi:i<n)
  (ha:W.cell? ⟨ba,0,none⟩=some (.slice (some ⟨b,o,none⟩) n c)) (hx:W.cell? ⟨bx,0,none⟩=some (.string (str name))) (hc:W.cell? ⟨b,o+i*2,none⟩=some (.string (str y))) :
  Calls prog 180 (#[.int .i64 i]++#[.pointer (some ⟨ba,0,none⟩),.pointer (some ⟨bx,0,none⟩)]) W λe w'=>e=.returned (.bool (!ltB y name))/\∃q,w'=W.drewN q:=by
 have hiz:(i:Int)<(n:Int):=by omega
 have hl:Op.bytesLess (str y).toList (str name).toList=ltB y name:=by rw[str_toList,str_toList]
 generalize ltB y name=r at *;go_enter func180,ntmps180;go_wp2;go_region;all_goals go_wp2
 all_goals go_ret
 all_goals exact⟨by first|rfl|simp,1,rfl⟩
theorem grow_ext (w:World) (q:Nat) (os:Array Obj):Ext w (grow (w.drewN q) os):=below_grown_sl w.heap.size w q os (Nat.le_refl _)
theorem dsearch_any (A:Option Addr) (n c:Nat) (l:List Ent) (name:List UInt8) (w:World) (hs:Ents w A n l) (hn:n<=1000) (hl:l.Pairwise λa b=>ltB a.1 b.1=true) (hA:∀b o,A=some ⟨b,o,none⟩->0<n->b<w.heap.size) :
  Calls prog 114 #[.slice A n c,.string (str name)] w λe w'=>e=.returned (.tuple #[.int .i64 (posE l name:Int),.bool (hasE l name)])/\Ext w w':=by
 obtain⟨W0,hW0⟩:∃W0,W0=(w.alloc (.cells #[.slice A n c] 150)).alloc (.cells #[.string (str name)] 9):=⟨_,rfl⟩
 have x0:Ext w W0:=by rw[hW0];exact((Ext.refl w).alloc _).alloc _
 have hsize:W0.heap.size=w.heap.size+1+1:=by rw[hW0];simp
 have ca:W0.cell? ⟨w.heap.size,0,none⟩=some (.slice A n c):=by rw[hW0];exact cell_alloc_sl _ (cell_new_sl w _ _)
 have cx:W0.cell? ⟨w.heap.size+1,0,none⟩=some (.string (str name)):=by rw[hW0];have:=cell_new_sl (w.alloc (.cells #[.slice A n c] 150)) (.string (str name)) 9;rwa [World.size_alloc]at this
 have eg:∀args w,(callFunc 180 args).run prog w=.ok (.enter 180 args) w:=enters_of func180 (by kernel_rfl) rfl;have h0:=hs.ext x0;obtain rfl:=hs.1
 have hS:=Any.sort_Search Tryz.search 180 #[.pointer (some ⟨w.heap.size,0,none⟩),.pointer (some ⟨w.heap.size+1,0,none⟩)] l.length (λi=>!ltB (l.getD i ([],0)).1 name) W0 eg (by omega)
  (λm os i hi=>by
   obtain⟨b,o,rfl,hcell⟩:=h0.2 (by omega);have hb:=hA b o rfl (by omega);have hcc:=(hcell i hi).1;have hgd:l.getD i ([],0)=l[i]:=by rw[List.getD_eq_getElem?_getD,List.getElem?_eq_getElem hi];rfl
   simp only[hgd]
   exact(dclosure_any w.heap.size (w.heap.size+1) b o c l.length l[i].1 name i _ hi (cell_grown (by simp[hsize];omega) ca m os) (cell_grown (by simp[hsize]) cx m os) (cell_grown (by simp[hsize];omega) hcc m os)).mono
    λ_ _ ⟨he,q,hq⟩=>⟨he,q,#[],by rw[hq,grow_empty]⟩)
  (λa b hab hb h=>by
   have ha:a<l.length:=by omega
   simp only[List.getD_eq_getElem?_getD,List.getElem?_eq_getElem ha,List.getElem?_eq_getElem hb,Option.getD_some]at h ⊢;rw[Bool.not_eq_true']at h ⊢;by_cases e:posE l name<=a
   ·exact posE_ge hl (by omega) hb
   ·rw[posE_lt (by omega) ha]at h;cases h)
 rw[posE_count hl]at hS;change Calls prog 179 _ _ _ at hS;have hple:=posE_le l name;have HS:=lh_ hS;have HH:Hid (hasE l name=(decide (posE l name<l.length)&&decide ((l.getD (posE l name) ([],0)).1=name))):=rfl;have h1:=h0.2;clear hS hs hA eg hl;generalize posE l name=p at *;go_enter func114,ntmps114;go_upto_region 2 with(go_at_call 179;rw[← hW0];refine HS.out.mono ?_;rintro e w1 ⟨rfl,q,os,hw1⟩;have xg:Ext W0 w1:=(by rw[hw1];exact grow_ext W0 q os);clear hw1)
 have ka:∀y:Later w1,y.now.cell? ⟨w.heap.size,0,none⟩=some (.slice A l.length c):=λy=>(xg.trans y.ext).keep ca;have kx:∀y:Later w1,y.now.cell? ⟨w.heap.size+1,0,none⟩=some (.string (str name)):=λy=>(xg.trans y.ext).keep cx;have X1:=lh_ (x0.trans xg);clear ca cx HS h0 hW0 hsize;by_cases hp:p<l.length
 ·obtain⟨b,o,rfl,hcell⟩:=h1 (by omega);have hgd:l.getD p ([],0)=l[p]:=by rw[List.getD_eq_getElem?_getD,List.getElem?_eq_getElem hp];rfl
  have k2:∀y:Later w1,y.now.cell? ⟨b,o+p*2,none⟩=some (.string (str l[p].1)):=λy=>(xg.trans y.ext).keep (hcell p hp).1;have HV:=lh_ (show hasE l name=decide (l[p].1=name) by rw[HH.out,hgd,decide_eq_true hp];rfl);have hpi:(p:Int)<(l.length:Int):=by omega
  have hpd:decide ((p:Int)<(l.length:Int))=true:=decide_eq_true hpi;have hbq:((str l[p].1).toList==(str name).toList)=decide (l[p].1=name):=by rw[str_toList,str_toList,Bool.eq_iff_iff];simp
  clear hcell h1 xg hgd HH;generalize l[p].1=y at *;refine wp_region_later (by kernel_rfl) (by kernel_rfl) ?_;repeat (go_big_quiet_step (fail))
  refine wpQuiet_nil ?_;rintro w5 ⟨y,rfl⟩;go_wp2_with fail;go_ret2;exact⟨by rw[HV.out];rfl,X1.out.trans y.ext⟩
 ·have HV:=lh_ (show hasE l name=false by rw[HH.out,decide_eq_false hp];rfl);have hpd:decide ((p:Int)<(l.length:Int))=false:=decide_eq_false (by omega);clear h1 xg HH;refine wp_region_later (by kernel_rfl) (by kernel_rfl) ?_;repeat (go_big_quiet_step (fail))
  refine wpQuiet_nil ?_;rintro w5 ⟨y,rfl⟩;go_wp2_with fail;go_ret2;exact⟨by rw[HV.out];rfl,X1.out.trans y.ext⟩
end Go.Proofs.YtfaplefkakpgcaaGreatDoor
namespace Go.Proofs.YtfaplefkakpgcaaGreatDoor
open Go.Proofs.Tryz
open Go.RowKit
def dfindP (v:List (List UInt8)) (I k:Int) (name:List UInt8):Int × Int :=
 if mayD name=false then (0,7) else if (dlistP v I k).2≠0 then (0,(dlistP v I k).2)
 else if hasE (dlistP v I k).1 name=true then (((dlistP v I k).1.getD (posE (dlistP v I k).1 name) ([],0)).2,0) else (0,9)
theorem OwnE.old {w:World}{B:Nat}{u:Value}{l:List Ent}(h:OwnE w B u l):∀b o n c,u=.slice (some ⟨b,o,none⟩) n c->b<w.heap.size:=by
 rintro b o n c rfl;rcases h.2 with⟨e,_⟩|⟨g,cap,cur,e,_,hh,_⟩
 ·cases e
 ·injection e with e1 _ _;injection e1 with e1;injection e1 with e1 _ _;subst e1;exact(Array.getElem?_eq_some_iff.1 hh).1
theorem dfind_any (A:Option Addr) (n c:Nat) (v:List (List UInt8)) (I k:Int) (name:List UInt8) (w:World) (hv:Strs w A n v) (hg:Good v I) (hnl:name.length<=1000000000) :
  Calls prog 58 #[.slice A n c,.int .i64 k,.string (str name)] w λe w'=>e=.returned (.tuple #[.int .i64 (dfindP v I k name).1,.int .i64 (dfindP v I k name).2])/\Ext w w':=by
 have HM:=lh_ (λw=>dmay_any name w hnl);have HL:=lh_ (λw h=>dlist_any A n c v I k w h hg);have hll:=dlist_len v I k;have hle:=dlist_ents v I k;cases hm:mayD name with
 | false =>
  have HP:=lh_ (show dfindP v I k name=(0,7) from by unfold dfindP;rw[if_pos hm]);rw[hm]at HM;go_enter func58,ntmps58;go_wp2_with (go_at_call 110;refine(HM.out _).mono ?_;rintro e w1 ⟨rfl,x1⟩)
  go_ret2;rw[HP.out];exact⟨rfl,x1⟩
 | true =>
 by_cases he:(dlistP v I k).2=0;case neg =>
  have HP:=lh_ (show dfindP v I k name=(0,(dlistP v I k).2) from by unfold dfindP;rw[if_neg (by rw[hm];simp),if_pos he]);have de:((dlistP v I k).2 != 0)=true:=by simpa using he
  rw[hm]at HM;clear he hm hle;generalize dlistP v I k=R at *;go_enter func58,ntmps58
  go_wp2_with (first
   | (go_at_call 110;refine(HM.out _).mono ?_;rintro e w1 ⟨rfl,x1⟩)
   | (go_at_call 107;refine(HL.out _ (hv.ext x1)).mono ?_;rintro e w2 ⟨u,rfl,x2,own2⟩))
  go_ret2;rw[HP.out];exact⟨rfl,x1.trans x2⟩
 have HP0:=lh_ (show dfindP v I k name=if hasE (dlistP v I k).1 name=true then (((dlistP v I k).1.getD (posE (dlistP v I k).1 name) ([],0)).2,0) else (0,9) from by unfold dfindP;rw[if_neg (by rw[hm];simp),if_neg (by rw[he];simp)]);rw[he]at HL;generalize dfindP v I k name=D at *;clear he;generalize (dlistP v I k).1=l at *;have HSr:=lh_ (λA c w h hA=>dsearch_any A l.length c l name w h (by omega) hle.2 hA);rw[hm]at HM;have HH:Hid (hasE l name=true->posE l name<l.length):=λh=>by unfold hasE at h;simp only[Bool.and_eq_true,decide_eq_true_eq]at h;exact h.1
 clear hm hle;cases hh:hasE l name with
 | false =>
  rw[hh]at HP0 HSr;clear hh HH;generalize posE l name=p at *;go_enter func58,ntmps58
  go_wp2_with (first
   | (go_at_call 110;refine(HM.out _).mono ?_;rintro e w1 ⟨rfl,x1⟩)
   | (go_at_call 107;refine(HL.out _ (hv.ext x1)).mono ?_;rintro e w2 ⟨u,rfl,x2,own2⟩;obtain⟨A2,cap2,rfl,st2⟩:=own2.form;have hA2:=λb o (h:A2=some ⟨b,o,none⟩) (_:0<l.length)=>own2.old b o l.length cap2 (by rw[h]))
   | (go_at_call 114;refine(HSr.out A2 cap2 _ st2 hA2).mono ?_;rintro e w3 ⟨rfl,x3⟩))
  go_ret2;rw[HP0.out];exact⟨rfl,x1.trans (x2.trans x3)⟩
 | true =>
  have hp:=HH.out hh;rw[hh]at HP0 HSr;clear hh HH;generalize posE l name=p at *;have hgd:l.getD p ([],0)=l[p]:=by rw[List.getD_eq_getElem?_getD,List.getElem?_eq_getElem hp];rfl
  have hpi:(p:Int)<(l.length:Int):=by omega
  have HP1:=lh_ (show D=(l[p].2,0) from by rw[HP0.out,if_pos rfl,hgd]);clear HP0;have HLp:=lh_ hgd;have Hp:=lh_ hp;clear hgd;go_enter func58,ntmps58
  go_wp2_with (first
   | (go_at_call 110;refine(HM.out _).mono ?_;rintro e w1 ⟨rfl,x1⟩)
   | (go_at_call 107;refine(HL.out _ (hv.ext x1)).mono ?_;rintro e w2 ⟨u,rfl,x2,own2⟩;obtain⟨A2,cap2,rfl,st2⟩:=own2.form;have hA2:=λb o (h:A2=some ⟨b,o,none⟩) (_:0<l.length)=>own2.old b o l.length cap2 (by rw[h]);have st0:=st2;obtain⟨b2,o2,rfl,hc2⟩:=st0.2 (by omega))
   | (go_at_call 114;refine(HSr.out _ cap2 _ st2 hA2).mono ?_;rintro e w3 ⟨rfl,x3⟩;have hc3:=x3.keep (hc2 p Hp.out).2))
  go_ret2;rw[HP1.out];exact⟨rfl,x1.trans (x2.trans x3)⟩
def mayP (p:List UInt8):Bool:=decide (p.head? =some 47)&&decide (p.length<=200)&&((pathP p).all mayD&&decide ((pathP p).length<=8))
theorem mayP_head {p:List UInt8}(h:mayP p=true):∃q,p=47::q:=by
 unfold mayP at h;simp only[Bool.and_eq_true,decide_eq_true_eq]at h;cases p with
 | nil=>simp at h
 | cons c q=>exact⟨q,by have:=h.1.1;simp at this;rw[this]⟩
end Go.Proofs.YtfaplefkakpgcaaGreatDoor
namespace Go.Proofs.YtfaplefkakpgcaaGreatDoor
open Go.Proofs.Tryz
open Go.RowKit Go.Shelf
attribute [local go_sem] Oper.semAt_some
theorem take_all {l:List (List UInt8)}(k:Nat):(∀j,j<k->mayD (l.getD j [])=true)->l.length<=k->l.all mayD=true:=λh hk=>by
 rw[List.all_eq_true];intro x hx;obtain⟨j,hj,rfl⟩:=List.getElem_of_mem hx;have:=h j (by omega)
 rwa [List.getD_eq_getElem?_getD,List.getElem?_eq_getElem hj]at this
theorem path_name (p:List UInt8) (x:Nat):((pathP p).getD x []).length<=p.length:=by
 rw[List.getD_eq_getElem?_getD];cases h:(pathP p)[x]? with
 | none=>simp
 | some y=>exact(pathP_len p).2 y (List.mem_of_getElem? h)
theorem may_any (p:List UInt8) (w:World) (hp:p.length<=100000000) :
  Calls prog 56 #[.string (str p)] w λe w'=>e=.returned (.bool (mayP p))/\Ext w w':=by
 have hz:=str_size p;have HH:=lh_ (λw=>hasPrefix_any p w);have HN:=lh_ (λw=>names_any (str p) w);have HMD:=lh_ (λx w=>dmay_any ((pathP p).getD x []) w (by have:=path_name p x;omega));have hpl:=(pathP_len p).1;have x0:Ext w (w.alloc (.cells #[.bool false] 4)):=(Ext.refl w).alloc _;have b2:=Box.new w 4 #[.bool false];have z0:(w.alloc (.cells #[.bool false] 4)).heap.size=w.heap.size+1:=World.size_alloc _ _;by_cases h47:p.head? =some 47;case neg =>
  have d1:decide (p.head? =some 47)=false:=decide_eq_false h47;rw[show mayP p=false by unfold mayP;rw[d1];rfl];go_enter func56,ntmps56;go_wp2_with (go_at_call 109;refine(HH.out _).mono ?_;rintro e w1 ⟨rfl,rfl⟩)
  refine bodyPost_ret (v:=.bool false) ?_ rfl ⟨rfl,x0⟩;have hc:=b2.cell 0;simp[results,Tryz.results56,go_sem,hc]
 case pos =>
  have d1:decide (p.head? =some 47)=true:=decide_eq_true h47;by_cases hlen:200<p.length
  ·have hli:(200:Int)<(p.length:Int):=by omega
   rw[show mayP p=false by unfold mayP;rw[decide_eq_false (show¬p.length<=200 by omega)];simp];go_enter func56,ntmps56;go_wp2_with (go_at_call 109;refine(HH.out _).mono ?_;rintro e w1 ⟨rfl,rfl⟩)
   refine bodyPost_ret (v:=.bool false) ?_ rfl ⟨rfl,x0⟩;have hc:=b2.cell 0;simp[results,Tryz.results56,go_sem,hc]
  ·have hli:¬(200:Int)<(p.length:Int):=by omega
   have b3:=Box.new (w.alloc (.cells #[.bool false] 4)) 3 #[.int .i64 0];have b4:=Box.new ((w.alloc (.cells #[.bool false] 4)).alloc (.cells #[.int .i64 0] 3)) 9 #[.string (str p)];have b2':=(b2.ext ((Ext.refl _).alloc (.cells #[.int .i64 0] 3))).ext ((Ext.refl _).alloc (.cells #[.string (str p)] 9));have b3':=b3.ext ((Ext.refl _).alloc (.cells #[.string (str p)] 9));have X:=((x0.alloc (.cells #[.int .i64 0] 3)).alloc (.cells #[.string (str p)] 9))
   clear b2 b3;simp only[World.size_alloc]at b3' b4;refine(callsIn_wide (n:=6)).1 ?_;refine callsIn_of_wp_marks func56 rfl trivial ?_ rfl;simp only[ntmps56,List.size_toArray,List.length_cons,List.length_nil,Nat.reduceAdd,Nat.reduceSub,Array.replicate_succ,Array.replicate_zero,List.push_toArray,List.append_toArray,List.nil_append,List.cons_append];refine wpIn_wide.2 ?_;go_upto_region 4 with(go_at_call 109;refine(HH.out _).mono ?_;rintro e w1 ⟨rfl,rfl⟩)
   go_wp2_with (go_at_call 57;refine(HN.out _).mono ?_;rintro e w1 ⟨rfl,rfl⟩)
   refine(wpIn_wide (n:=6)).1 ?_;gi_wp2_with fail;generalize ((w.alloc (.cells #[.bool false] 4)).alloc (.cells #[.int .i64 0] 3)).alloc (.cells #[.string (str p)] 9)=w5 at *;have hNS:=names_stops 5 (by decide) (w.heap.size+1+1) p w5 b4 h47;have hMP:=lh_ (show mayP p=((pathP p).all mayD&&decide ((pathP p).length<=8)) by unfold mayP;rw[d1,decide_eq_true (show p.length<=200 by omega)];simp);have hAll:=lh_ (λh=>take_all (l:=pathP p) (pathP p).length h (Nat.le_refl _));have hNo:Hid (∀y,y<(pathP p).length->mayD ((pathP p).getD y [])=false->(pathP p).all mayD=false):=λy hy h=>by rw[List.getD_eq_getElem?_getD,List.getElem?_eq_getElem hy]at h;exact List.all_eq_false.2 ⟨_,List.getElem_mem hy,by simp only[Option.getD_some]at h;rw[h];simp⟩
   clear x0 z0 HN HH;have hN200:(pathP p).length<=200:=by omega
   have hlt5:w.heap.size+1+1<w5.heap.size:=b4.lt;unfold nenc at hNS;generalize (pathP p).all mayD=al at *;generalize hf:(λy=>(pathP p).getD y [])=f at *;have hf':∀y,(pathP p).getD y []=f y:=λy=>by rw[← hf]
   simp only[hf']at *;generalize (pathP p).length=N at *;clear hf hf';generalize hG:w.heap.size=G at *
   refine wpIn_rangeFunc_ownH rfl (by decide) (gf:=111) (lb:=#[.pointer (some ⟨G+1+1,0,none⟩)]) rfl trivial (enters_of func111 (by kernel_rfl) rfl)
    hNS KpB.trans KpB.book (Below.refl _ _) (λ_=>rfl)
    (λpre W=>Ext w W/\Box W G 4 #[.bool false]/\Box W (G+1) 3 #[.int .i64 (pre.length:Int)]/\(∀y∈pre,mayD (f y)=true)/\pre.length<=N)
    (λc pre W=>c=.ret/\Ext w W/\Box W G 4 #[.bool false]/\∃y∈pre,mayD (f y)=false)
    (OwnFrom.and (ext_own (by rw[hG];omega)) (OwnFrom.and (Own.from (box_own _ _ _) _) (OwnFrom.and (Own.from (box_own _ _ _) _) (ownFrom_pure _ _))))
    (λc=>OwnFrom.and (ownFrom_pure _ _) (OwnFrom.and (ext_own (by rw[hG];omega)) (OwnFrom.and (Own.from (box_own _ _ _) _) (ownFrom_pure _ _)))) ⟨X,b2',b3',by simp,Nat.zero_le _⟩
    (λx a' W=>a'={ tmps:=#[.string (str p),undef,.pointer (some ⟨G,0,none⟩),.pointer (some ⟨G+1,0,none⟩),.string (str (f x)),.string (str p),.bool true,.bool false,.bool false,.string (str p),.int .i64 (p.length:Int),.bool (decide ((200:Int)<(p.length:Int))),.bool (decide ((200:Int)<(p.length:Int))),.string (str p),.func (.func 111) #[] #[.pointer (some ⟨G+1+1,0,none⟩)],.string (str (f x)),undef,undef,undef,undef,undef,undef,undef],defers:=[] })
    (λx a' _ X Y row hs hg hr=>hs) ?assign ?body ?done ?stop
   case assign => rintro l pre x W K hi hK;gi_wp2;exact hK _ _ (keeps_ext (Ext.refl W)) (KpB.ext (Ext.refl W)) hi rfl
   case body =>
    rintro l pre x a' W hl0 ⟨r,hr⟩ ⟨i1,i2,i3,i4,i5⟩ rfl hltN;have HD:=lh_ (HMD.out x W);have hlen2:pre.length<=200:=by omega
    cases hm:mayD (f x) with
    | true =>
     rw[hm]at HD
     gi_wp2_with (first
      | (refine⟨trivial,?_⟩;gi_at_call 110;refine(CallsIn.inRound l (callsIn_wide.2 HD.out)).mono ?_;rintro e W2 ⟨rfl,x2⟩;have j3:=i3.ext x2;have c3:W2.cell? ⟨G+1,0,none⟩=some (.int .i64 (pre.length:Int)):=j3.cell 0;have c3f:=j3.frozen 0))
     refine⟨(keeps_ext x2).trans ((KeepsOthers.setCell _ _ _).from _),(KpB.ext x2).set ⟨G+1,0,none⟩ (by show G+1+1≠G+1;omega) (by show G+1+1≠G+1;omega) _,(i1.trans x2).setCell (p:=⟨G+1,0,none⟩) (by show w.heap.size<=G+1;omega) _,(i2.ext x2).far (p:=⟨G+1,0,none⟩) (by show G≠G+1;omega) _,?_,?_,by simp;omega⟩
     ·rw[show((pre++[x]).length:Int)=(pre.length:Int)+1 by simp];exact j3.set 0 _
     ·intro y hy;rcases List.mem_append.1 hy with h|h
      ·exact i4 y h
      ·rw[List.mem_singleton.1 h];exact hm
    | false =>
     rw[hm]at HD
     gi_wp2_with (first
      | (refine⟨trivial,?_⟩;gi_at_call 110;refine(CallsIn.inRound l (callsIn_wide.2 HD.out)).mono ?_;rintro e W2 ⟨rfl,x2⟩;have j2:=i2.ext x2;have c2:W2.cell? ⟨G,0,none⟩=some (.bool false):=j2.cell 0;have c2f:=j2.frozen 0))
     exact⟨(keeps_ext x2).trans ((KeepsOthers.setCell _ _ _).from _),rfl,(i1.trans x2).setCell (p:=⟨G,0,none⟩) (by show w.heap.size<=G;omega) _,j2.set 0 _,x,by simp,hm⟩
   case done =>
    rintro D ys W hD rfl ⟨i1,i2,i3,i4,i5⟩ hK;rw[List.length_range]at i3;have c3:W.cell? ⟨G+1,0,none⟩=some (.int .i64 (N:Int)):=i3.cell 0;have c2:W.cell? ⟨G,0,none⟩=some (.bool false):=i2.cell 0;have c2f:=i2.frozen 0;gi_wp2_with fail;have hle8:=lh_ (show decide ((N:Int)<=8)=decide (N<=8) from decide_eq_decide.2 (by omega));have hK':=(KeepsOthers.setCell W ⟨G,0,none⟩ (.bool (decide ((N:Int)<=8)))).same D _ hK rfl;have k2:=(i2.set 0 (.bool (decide ((N:Int)<=8)))).grown (grownBy_putObj' _ D (.deferred none)) (λe=>by injection e with e;omega);have hc5:=k2.cell 0;go_wp2_with fail;refine⟨by simp,.inl ⟨_,_,rfl,run_takeDeferred hK',?_⟩⟩;refine⟨.bool (decide ((N:Int)<=8)),?_,?_,(i1.setCell (p:=⟨G,0,none⟩) (by show w.heap.size<=G;omega) _).putObj (.deferred none) hK' (by omega)⟩
    ·simp at hc5;simp[results,Tryz.results56,go_sem,hc5]
    ·rw[hMP.out,hAll.out (λj hj=>i4 j (List.mem_range.2 hj)),hle8.out];rfl
   case stop =>
    rintro D c pre W hD ⟨k,hk,rfl⟩ ⟨rfl,h1,h2,y,hy,hm⟩ hK;gi_wp2;have k2:=h2.grown (grownBy_putObj' _ D (.deferred none)) (λe=>by injection e with e;omega);have hc5:=k2.cell 0;refine⟨by simp,.inl ⟨_,_,rfl,run_takeDeferred hK,?_⟩⟩;refine⟨.bool false,?_,?_,h1.putObj (.deferred none) hK (by omega)⟩
    ·simp at hc5;simp[results,Tryz.results56,go_sem,hc5]
    ·rw[hMP.out,hNo.out y (by have:=List.mem_range.1 hy;omega) hm];rfl
attribute [local go_sem] Oper.semAt_some
theorem box_ex {β γ:Type} (b:Nat) (t:TypeId) (g:γ->Array Value) (P:β->γ->Prop):Own (λ(s:β) W=>∃m,Box W b t (g m)/\P s m):=λs X Y row hs hg hr=>by
 obtain⟨m,hb,hm⟩:=hs;refine⟨m,Box.grown hb hg (λe=>?_),hm⟩;obtain⟨o,ho,hc⟩:=hr b e.symm;rw[show X.heap[b]? =_ from hb]at ho;cases ho;cases hc
theorem range_names (l:List (List UInt8)) (k:Nat) (h:k<=l.length):(List.range k).map (λy=>l.getD y [])=l.take k:=by
 apply List.ext_getElem
 ·simp;omega
 ·intro i h1 h2;simp only[List.getElem_map,List.getElem_range,List.getElem_take];rw[List.getD_eq_getElem?_getD,List.getElem?_eq_getElem (by simp at h1;omega)];rfl
attribute [local go_sem] Oper.semAt_some
def stepsD (D:Int->List UInt8->Int × Int):Int->List (List UInt8)->Int × Int
 | n,[]=>(n,0)
 | n,x::l=>if (D n x).2≠0 then (0,(D n x).2) else stepsD D (D n x).1 l
def findD (D:Int->List UInt8->Int × Int) (p:List UInt8):Int × Int:=if mayP p=false then (0,7) else stepsD D 1 (pathP p)
def badD (_:Int) (name:List UInt8):Int × Int:=if mayD name=false then (0,7) else (0,3)
theorem stepsD_snoc (dd:Int->List UInt8->Int × Int) (l:List (List UInt8)):∀(n m:Int) (x:List UInt8),stepsD dd n l=(m,0)->stepsD dd n (l++[x])=if (dd m x).2≠0 then (0,(dd m x).2) else ((dd m x).1,0):=by
 induction l with
 | nil =>
  intro n m x h;obtain rfl:n=m:=by injection h
  simp only[List.nil_append,stepsD]
 | cons y l ih =>
  intro n m x h;simp only[List.cons_append,stepsD]at h ⊢;by_cases h0:(dd n y).2≠0
  ·rw[if_pos h0]at h;injection h with h1 h2;exact absurd h2 h0
  ·rw[if_neg h0]at h ⊢;exact ih _ _ _ h
theorem stepsD_stop (dd:Int->List UInt8->Int × Int) (l b:List (List UInt8)):∀(n:Int) (R:Int × Int),stepsD dd n l=R->R.2≠0->stepsD dd n (l++b)=R:=by
 induction l with
 | nil => intro n R h hR;exact absurd (by rw[← h];rfl) hR
 | cons y l ih =>
  intro n R h hR;simp only[List.cons_append,stepsD]at h ⊢;by_cases h0:(dd n y).2≠0
  ·rw[if_pos h0]at h ⊢;exact h
  ·rw[if_neg h0]at h ⊢;exact ih _ _ h hR
theorem find_gen (dd:Int->List UInt8->Int × Int) (A:Option Addr) (n c:Nat) (v:List (List UInt8)) (p:List UInt8) (w:World) (hv:Strs w A n v) (hd:∀k x w,Strs w A n v->x.length<=1000000000->Calls prog 58 #[.slice A n c,.int .i64 k,.string (str x)] w λe w'=>e=.returned (.tuple #[.int .i64 (dd k x).1,.int .i64 (dd k x).2])/\Ext w w') (hp:p.length<=100000000) :
  Calls prog 23 #[.slice A n c,.string (str p)] w λe w'=>e=.returned (.tuple #[.int .i64 (findD dd p).1,.int .i64 (findD dd p).2])/\Ext w w':=by
 have HMy:=lh_ (λw=>may_any p w hp);have HN:=lh_ (λw=>names_any (str p) w);have HV:=lh_ hv;have HD:=lh_ (λk x w h=>hd k ((pathP p).getD x []) w h (by have:=path_name p x;omega));have hpl:=(pathP_len p).1;have b0:=Box.new w 22 #[.slice A n c];have b1:=Box.new (w.alloc (.cells #[.slice A n c] 22)) 3 #[.int .i64 0];have b2:=Box.new ((w.alloc (.cells #[.slice A n c] 22)).alloc (.cells #[.int .i64 0] 3)) 27 #[.int .i64 0];have b0':=(b0.ext ((Ext.refl _).alloc (.cells #[.int .i64 0] 3))).ext ((Ext.refl _).alloc (.cells #[.int .i64 0] 27));have b1':=b1.ext ((Ext.refl _).alloc (.cells #[.int .i64 0] 27));have X:=((((Ext.refl w).alloc (.cells #[.slice A n c] 22)).alloc (.cells #[.int .i64 0] 3)).alloc (.cells #[.int .i64 0] 27))
 clear b0 b1 hv hd;simp only[World.size_alloc]at b1' b2;cases hm:mayP p with
 | false =>
  rw[hm]at HMy;have HP:=lh_ (show findD dd p=(0,7) by unfold findD;rw[hm];rfl);go_enter func23,ntmps23;go_upto_region 1 with fail;generalize ((w.alloc (.cells #[.slice A n c] 22)).alloc (.cells #[.int .i64 0] 3)).alloc (.cells #[.int .i64 0] 27)=w3 at *;go_wp2_with (go_at_call 56;refine(HMy.out _).mono ?_;rintro e w4 ⟨rfl,x4⟩;have d1:=b1'.ext x4;have d2:=b2.ext x4;have e1:w4.cell? ⟨w.heap.size+1,0,none⟩=some (.int .i64 0):=d1.cell 0;have e2:w4.cell? ⟨w.heap.size+1+1,0,none⟩=some (.int .i64 0):=d2.cell 0;have f1:=d1.frozen 0;have f2:=d2.frozen 0)
  have k1:=(d1.set 0 (.int .i64 0)).far (p:=⟨w.heap.size+1+1,0,none⟩) (by show w.heap.size+1≠w.heap.size+1+1;omega) (.int .i64 7);have k2:=(d2.far (p:=⟨w.heap.size+1,0,none⟩) (by show w.heap.size+1+1≠w.heap.size+1;omega) (.int .i64 0)).set 0 (.int .i64 7);have hc1:=k1.cell 0;have hc2:=k2.cell 0;refine bodyPost_ret (v:=.tuple #[.int .i64 0,.int .i64 7]) ?_ rfl ⟨by rw[HP.out],((X.trans x4).setCell (p:=⟨w.heap.size+1,0,none⟩) (by show w.heap.size<=w.heap.size+1;omega) _).setCell (p:=⟨w.heap.size+1+1,0,none⟩) (by show w.heap.size<=w.heap.size+1+1;omega) _⟩;simp at hc1 hc2;simp[results,Tryz.results23,go_sem,hc1,hc2]
 | true =>
  rw[hm]at HMy;have h47:p.head? =some 47:=by obtain⟨q,rfl⟩:=mayP_head hm;rfl
  have HP:=lh_ (show findD dd p=stepsD dd 1 (pathP p) by unfold findD;rw[hm];rfl);refine(callsIn_wide (n:=6)).1 ?_;refine callsIn_of_wp_marks func23 rfl trivial ?_ rfl;simp only[ntmps23,List.size_toArray,List.length_cons,List.length_nil,Nat.reduceAdd,Nat.reduceSub,Array.replicate_succ,Array.replicate_zero,List.push_toArray,List.append_toArray,List.nil_append,List.cons_append];refine wpIn_wide.2 ?_;go_upto_region 1 with fail;generalize ((w.alloc (.cells #[.slice A n c] 22)).alloc (.cells #[.int .i64 0] 3)).alloc (.cells #[.int .i64 0] 27)=w3 at *;go_upto_region 3 with(go_at_call 56;refine(HMy.out _).mono ?_;rintro e w4 ⟨rfl,x4⟩)
  have d0:=b0'.ext x4;have d1:=b1'.ext x4;have d2:=b2.ext x4;have X4:=X.trans x4;have b3:=Box.new w4 3 #[.int .i64 1];have b4:=Box.new (w4.alloc (.cells #[.int .i64 1] 3)) 9 #[.string (str p)];have b3':=b3.ext ((Ext.refl _).alloc (.cells #[.string (str p)] 9));have x5:Ext w4 ((w4.alloc (.cells #[.int .i64 1] 3)).alloc (.cells #[.string (str p)] 9)):=((Ext.refl w4).alloc _).alloc _;have e0:=d0.ext x5;have e1:=d1.ext x5;have e2:=d2.ext x5;have X5:=X4.trans x5;have h24:=d2.lt;clear b0' b1' b2 d0 d1 d2 b3 X X4 x4 HMy;simp only[World.size_alloc]at b4;go_upto_region 4 with fail;go_wp2_with (go_at_call 57;refine(HN.out _).mono ?_;rintro e w1 ⟨rfl,rfl⟩)
  refine(wpIn_wide (n:=6)).1 ?_;gi_wp2_with fail;generalize hw5:(w4.alloc (.cells #[.int .i64 1] 3)).alloc (.cells #[.string (str p)] 9)=w5 at *;have hz5:w5.heap.size=w4.heap.size+1+1:=by rw[← hw5,World.size_alloc,World.size_alloc]
  clear hw5 x5 HN;have hNS:=names_stops 5 (by decide) (w4.heap.size+1) p w5 b4 h47;have hRN:=lh_ (range_names (pathP p));have hTk:=lh_ (λk=>List.take_append_drop k (pathP p));have hSt:=lh_ (λk (R:Int × Int) (h:stepsD dd 1 ((pathP p).take k)=R) (h0:R.2≠0)=>stepsD_stop dd ((pathP p).take k) ((pathP p).drop k) 1 R h h0);have hSn:=lh_ (λl m x=>stepsD_snoc dd l 1 m x);unfold nenc at hNS;generalize hf:(λy=>(pathP p).getD y [])=f at *;have hf':∀y,(pathP p).getD y []=f y:=λy=>by rw[← hf]
  simp only[hf']at *;generalize hLp:pathP p=L at *;clear hf hf' hLp;have hG4:w.heap.size+1+1<w4.heap.size:=h24;have hGG:w.heap.size<=w5.heap.size:=X5.size;generalize hG:w.heap.size=G at *;generalize w4.heap.size=E at *
  refine wpIn_rangeFunc_ownH rfl (by decide) (gf:=111) (lb:=#[.pointer (some ⟨E+1,0,none⟩)]) rfl trivial (enters_of func111 (by kernel_rfl) rfl)
   hNS KpB.trans KpB.book (Below.refl _ _) (λ_=>rfl)
   (λpre W=>Ext w W/\Box W G 22 #[.slice A n c]/\Box W (G+1) 3 #[.int .i64 0]/\Box W (G+1+1) 27 #[.int .i64 0]/\∃m,Box W E 3 #[.int .i64 m]/\stepsD dd 1 (pre.map f)=(m,0))
   (λcc pre W=>cc=.ret/\Ext w W/\Box W (G+1) 3 #[.int .i64 0]/\∃r,Box W (G+1+1) 27 #[.int .i64 r]/\r≠0/\stepsD dd 1 (pre.map f)=(0,r))
   (OwnFrom.and (ext_own (by rw[hG];omega)) (OwnFrom.and (Own.from (box_own _ _ _) _) (OwnFrom.and (Own.from (box_own _ _ _) _) (OwnFrom.and (Own.from (box_own _ _ _) _) (Own.from (box_ex _ _ (λm=>#[.int .i64 m]) (λ(pre:List Nat) (m:Int)=>stepsD dd 1 (pre.map f)=(m,0))) _)))))
   (λcc=>OwnFrom.and (ownFrom_pure _ _) (OwnFrom.and (ext_own (by rw[hG];omega)) (OwnFrom.and (Own.from (box_own _ _ _) _) (Own.from (box_ex _ _ (λr=>#[.int .i64 r]) (λ(pre:List Nat) (r:Int)=>r≠0/\stepsD dd 1 (pre.map f)=(0,r))) _)))) ⟨X5,e0,e1,e2,1,b3',rfl⟩
   (λx a' W=>a'={ tmps:=#[.slice A n c,.string (str p),.pointer (some ⟨G,0,none⟩),undef,.pointer (some ⟨G+1,0,none⟩),.pointer (some ⟨G+1+1,0,none⟩),.pointer (some ⟨E,0,none⟩),.string (str (f x)),undef,undef,.string (str p),.bool true,.bool false,.string (str p),.func (.func 111) #[] #[.pointer (some ⟨E+1,0,none⟩)],.string (str (f x)),undef,undef,undef,undef,undef,undef,undef,undef,undef,undef,undef,undef],defers:=[] })
   (λx a' _ X Y row hs hg hr=>hs) ?assign ?body ?done ?stop
  case assign => rintro l pre x W K hi hK;gi_wp2;exact hK _ _ (keeps_ext (Ext.refl W)) (KpB.ext (Ext.refl W)) hi rfl
  case body =>
   rintro l pre x a' W hl0 ⟨r,hr⟩ ⟨i1,i2,i3,i4,m,i5,hst⟩ rfl hltN;have HDx:=lh_ (HD.out m x W (HV.out.ext i1));have hsn:=lh_ (hSn.out (pre.map f) m (f x) hst);have c0:W.cell? ⟨G,0,none⟩=some (.slice A n c):=i2.cell 0;have c6:W.cell? ⟨E,0,none⟩=some (.int .i64 m):=i5.cell 0;generalize dd m (f x)=R at *;by_cases h0:R.2=0
   ·rw[if_neg (λh=>h h0)]at hsn;rw[h0]at HDx
    gi_wp2_with (first
     | (refine⟨trivial,?_⟩;gi_at_call 58;refine(CallsIn.inRound l (callsIn_wide.2 HDx.out)).mono ?_;rintro e W2 ⟨rfl,x2⟩;have j5:=i5.ext x2;have c5:W2.cell? ⟨E,0,none⟩=some (.int .i64 m):=j5.cell 0;have c5f:=j5.frozen 0))
    refine⟨(keeps_ext x2).trans ((KeepsOthers.setCell _ _ _).from _),(KpB.ext x2).set ⟨E,0,none⟩ (by show E+1≠E;omega) (by show E+1≠E;omega) _,(i1.trans x2).setCell (p:=⟨E,0,none⟩) (by show w.heap.size<=E;omega) _,(i2.ext x2).far (p:=⟨E,0,none⟩) (by show G≠E;omega) _,(i3.ext x2).far (p:=⟨E,0,none⟩) (by show G+1≠E;omega) _,(i4.ext x2).far (p:=⟨E,0,none⟩) (by show G+1+1≠E;omega) _,R.1,j5.set 0 _,?_⟩;rw[List.map_append];exact hsn.out
   ·have d0:(R.2 != 0)=true:=by simpa using h0
    rw[if_pos h0]at hsn
    gi_wp2_with (first
     | (refine⟨trivial,?_⟩;gi_at_call 58;refine(CallsIn.inRound l (callsIn_wide.2 HDx.out)).mono ?_;rintro e W2 ⟨rfl,x2⟩;have j3:=i3.ext x2;have j4:=i4.ext x2;have c3:W2.cell? ⟨G+1,0,none⟩=some (.int .i64 0):=j3.cell 0;have c3f:=j3.frozen 0;have c4:W2.cell? ⟨G+1+1,0,none⟩=some (.int .i64 0):=j4.cell 0;have c4f:=j4.frozen 0))
    refine⟨((keeps_ext x2).trans ((KeepsOthers.setCell _ _ _).from _)).trans ((KeepsOthers.setCell _ _ _).from _),rfl,((i1.trans x2).setCell (p:=⟨G+1,0,none⟩) (by show w.heap.size<=G+1;omega) _).setCell (p:=⟨G+1+1,0,none⟩) (by show w.heap.size<=G+1+1;omega) _,(j3.set 0 _).far (p:=⟨G+1+1,0,none⟩) (by show G+1≠G+1+1;omega) _,R.2,(j4.far (p:=⟨G+1,0,none⟩) (by show G+1+1≠G+1;omega) _).set 0 _,h0,?_⟩;rw[List.map_append];exact hsn.out
  case done =>
   rintro D ys W hD rfl ⟨i1,i2,i3,i4,m,i5,hst⟩ hK;have c5:W.cell? ⟨E,0,none⟩=some (.int .i64 m):=i5.cell 0;have c3:W.cell? ⟨G+1,0,none⟩=some (.int .i64 0):=i3.cell 0;have c3f:=i3.frozen 0;have c4:W.cell? ⟨G+1+1,0,none⟩=some (.int .i64 0):=i4.cell 0;have c4f:=i4.frozen 0;gi_wp2_with fail;go_wp2_with fail;have hK1:=(KeepsOthers.setCell W ⟨G+1,0,none⟩ (.int .i64 m)).same D _ hK rfl;have hK':=(KeepsOthers.setCell (W.setCell ⟨G+1,0,none⟩ (.int .i64 m)) ⟨G+1+1,0,none⟩ (.int .i64 0)).same D _ hK1 rfl;have k1:=((i3.set 0 (.int .i64 m)).far (p:=⟨G+1+1,0,none⟩) (by show G+1≠G+1+1;omega) (.int .i64 0)).grown (grownBy_putObj' _ D (.deferred none)) (λe=>by injection e with e;omega);have k2:=((i4.far (p:=⟨G+1,0,none⟩) (by show G+1+1≠G+1;omega) (.int .i64 m)).set 0 (.int .i64 0)).grown (grownBy_putObj' _ D (.deferred none)) (λe=>by injection e with e;omega);have hc1:=k1.cell 0;have hc2:=k2.cell 0;refine⟨by simp,.inl ⟨_,_,rfl,run_takeDeferred hK',?_⟩⟩;refine⟨.tuple #[.int .i64 m,.int .i64 0],?_,?_,((i1.setCell (p:=⟨G+1,0,none⟩) (by show w.heap.size<=G+1;omega) _).setCell (p:=⟨G+1+1,0,none⟩) (by show w.heap.size<=G+1+1;omega) _).putObj (.deferred none) hK' (by omega)⟩
   ·simp at hc1 hc2;simp[results,Tryz.results23,go_sem,hc1,hc2]
   ·rw[hRN.out _ (Nat.le_refl _),List.take_length]at hst;rw[HP.out,hst]
  case stop =>
   rintro D cc pre W hD ⟨k,hk,rfl⟩ ⟨rfl,h1,h2,r,h3,h4,h5⟩ hK;gi_wp2;have k1:=h2.grown (grownBy_putObj' _ D (.deferred none)) (λe=>by injection e with e;omega);have k2:=h3.grown (grownBy_putObj' _ D (.deferred none)) (λe=>by injection e with e;omega);have hc1:=k1.cell 0;have hc2:=k2.cell 0;refine⟨by simp,.inl ⟨_,_,rfl,run_takeDeferred hK,?_⟩⟩;refine⟨.tuple #[.int .i64 0,.int .i64 r],?_,?_,h1.putObj (.deferred none) hK (by omega)⟩
   ·simp at hc1 hc2;simp[results,Tryz.results23,go_sem,hc1,hc2]
   ·rw[hRN.out _ hk]at h5;have:=hSt.out k _ h5 h4;rw[hTk.out]at this;rw[HP.out,this]
end Go.Proofs.YtfaplefkakpgcaaGreatDoor
namespace Go.Proofs.YtfaplefkakpgcaaGreatDoor
open Go.RowKit
theorem file_in {v:List (List UInt8)}{I k:Int}(h:fileE v I k=0):1<=k/\k<=I:=by
 unfold fileE at h;split at h
 ·cases h
 ·omega
end Go.Proofs.YtfaplefkakpgcaaGreatDoor
namespace Go.Proofs.YtfaplefkakpgcaaGreatDoor
open Go.Proofs.Tryz
open Go.RowKit Go.Shelf
theorem dlist_none (A:Option Addr) (n c:Nat) (v:List (List UInt8)) (k:Int) (w:World) (hv:Strs w A n v) (hn:n<=9223372036854775807) (hb:∀I,¬Good v I) :
  Calls prog 107 #[.slice A n c,.int .i64 k] w λe w'=>e=.returned (.tuple #[.slice none 0 0,.int .i64 3])/\Ext w w':=by
 have HG:=lh_ (λw h=>iget_bad A n c v k w h hn hb);go_enter func107,ntmps107
 go_wp2_with (first
  | (go_at_call 69;refine(HG.out _ hv).mono ?_;rintro e w1 ⟨rfl,x1⟩)
  | (refine wp_st_ino (.tmp 6) (.tmp 15) rfl rfl w1.heap.size _ zero12 121 rfl rfl (Box.new _ _ _) rfl rfl ?_;intro w2 b2 g2))
 go_ret2;exact⟨rfl,(x1.alloc _).grown g2 (λk e=>by cases e;exact x1.size)⟩
theorem dfind_none (A:Option Addr) (n c:Nat) (v:List (List UInt8)) (k:Int) (name:List UInt8) (w:World) (hv:Strs w A n v) (hn:n<=9223372036854775807) (hb:∀I,¬Good v I) (hnl:name.length<=1000000000) :
  Calls prog 58 #[.slice A n c,.int .i64 k,.string (str name)] w λe w'=>e=.returned (.tuple #[.int .i64 (badD k name).1,.int .i64 (badD k name).2])/\Ext w w':=by
 have HM:=lh_ (λw=>dmay_any name w hnl);have HL:=lh_ (λw h=>dlist_none A n c v k w h hn hb);unfold badD;cases hm:mayD name with
 | false =>
  rw[hm]at HM;go_enter func58,ntmps58;go_wp2_with (go_at_call 110;refine(HM.out _).mono ?_;rintro e w1 ⟨rfl,x1⟩)
  go_ret2;exact⟨rfl,x1⟩
 | true =>
  rw[hm]at HM;go_enter func58,ntmps58
  go_wp2_with (first
   | (go_at_call 110;refine(HM.out _).mono ?_;rintro e w1 ⟨rfl,x1⟩)
   | (go_at_call 107;refine(HL.out _ (hv.ext x1)).mono ?_;rintro e w2 ⟨rfl,x2⟩))
  go_ret2;exact⟨rfl,x1.trans x2⟩
def findX (v:List (List UInt8)) (I:Option Int) (p:List UInt8):Int × Int:=match I with
 | some I=>findD (dfindP v I) p
 | none=>findD badD p
def GoodX (v:List (List UInt8)):Option Int->Prop
 | some I=>Good v I
 | none=>∀I,¬Good v I
theorem findX_any (A:Option Addr) (n c:Nat) (v:List (List UInt8)) (I:Option Int) (p:List UInt8) (w:World) (hv:Strs w A n v) (hn:n<=9223372036854775807) (hg:GoodX v I) (hp:p.length<=100000000) :
  Calls prog 23 #[.slice A n c,.string (str p)] w λe w'=>e=.returned (.tuple #[.int .i64 (findX v I p).1,.int .i64 (findX v I p).2])/\Ext w w':=by
 cases I with
 | some I=>exact find_gen (dfindP v I) A n c v p w hv (λk x w h hx=>dfind_any A n c v I k x w h hg hx) hp
 | none=>exact find_gen badD A n c v p w hv (λk x w h hx=>dfind_none A n c v k x w h hn hg hx) hp
def readX (v:List (List UInt8)) (I:Option Int) (k off size:Int):List UInt8 × Int:=match I with
 | some I=>if fileE v I k≠0 then ([],fileE v I k) else readE v I k off size
 | none=>([],3)
theorem readX_any (A:Option Addr) (n c:Nat) (v:List (List UInt8)) (I:Option Int) (k off size:Int) (w:World) (hv:Strs w A n v) (hn:n<=9223372036854775807) (hg:GoodX v I) (ho:off<=9223372036854775807) (hs:size<=9223372036854775807) :
  Calls prog 24 #[.slice A n c,.int .i64 k,.int .i64 off,.int .i64 size] w λe w'=>e=.returned (.tuple #[.string (str (readX v I k off size).1),.int .i64 (readX v I k off size).2])/\Ext w w':=by
 cases I with
 | none =>
  have HF:=lh_ (λw h=>ffile_bad A n c v k w h hn hg);unfold readX;go_enter func24,ntmps24
  go_wp2_with (first
   | (go_at_call 59;refine(HF.out _ hv).mono ?_;rintro e w1 ⟨rfl,x1⟩))
  go_ret2;exact⟨rfl,x1⟩
 | some I =>
 have HF:=lh_ (λw h=>ffile_any A n c v I k w h hg);by_cases h0:fileE v I k=0
 ·rw[h0]at HF;rw[show readX v (some I) k off size=readE v I k off size by unfold readX;simp only;rw[if_neg (λh=>h h0)]];obtain⟨k1,k2⟩:=file_in h0;have HR:=lh_ (λw h=>fread_any A n c v I k off size w h hg k1 k2 ho hs);generalize readE v I k off size=R at *;go_enter func24,ntmps24
  go_wp2_with (first
   | (go_at_call 59;refine(HF.out _ hv).mono ?_;rintro e w1 ⟨rfl,x1⟩)
   | (go_at_call 60;refine(HR.out _ (hv.ext x1)).mono ?_;rintro e w2 ⟨rfl,x2⟩))
  go_ret2;exact⟨rfl,x1.trans x2⟩
 ·rw[show readX v (some I) k off size=([],fileE v I k) by unfold readX;simp only;rw[if_pos h0]];generalize fileE v I k=z at *;have d0:(z != 0)=true:=by simpa using h0
  go_enter func24,ntmps24
  go_wp2_with (first
   | (go_at_call 59;refine(HF.out _ hv).mono ?_;rintro e w1 ⟨rfl,x1⟩))
  go_ret2;exact⟨rfl,x1⟩
end Go.Proofs.YtfaplefkakpgcaaGreatDoor
