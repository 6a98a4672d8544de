import Derived.Test.YtfaplefkakpgcaaGreatDoorQa35
import Derived.Test.YtfaplefkakpgcaaGreatDoorQa40
import Derived.Test.YtfaplefkakpgcaaGreatDoorQa36
set_option linter.unusedVariables false
set_option linter.unusedSimpArgs false
set_option maxHeartbeats 32000000
set_option maxRecDepth 100000
namespace Go.Proofs.YtfaplefkakpgcaaGreatDoor
open Go.Proofs.Tryz
open Go.RowKit
def ZZ (B:List UInt8) (i:Nat):Nat:=(W9 Zm B (i/4)).toNat/256^(i%4)%256
abbrev Ku (p:List UInt8):Ja:=⟨p,0,0,0,0,0,λ_=>0⟩
def Yi (v:List (List UInt8)) (I:Option Int) (p:List UInt8):Ja :=
 if (QT v I p).2≠0 then Ku p else
  let k:=(QT v I p).1
  let g:=(Wr v I k).1
  let b:Bool:=decide ((Wr v I k).2=0/\g.getD 0 0≠0)
  ⟨p,if b then g.getD 0 0 else 0,if b then g.getD 3 0 else 0,if b then g.getD 1 0 else 0,if b then g.getD 2 0 else 0,k,if (ZO v I k 0 8960).2=0 then ZZ (ZO v I k 0 8960).1 else λ_=>0⟩
theorem CE (p:List UInt8):prog.built 73 [(0,.string (Qb p))]=some (QB (Ku p)).toArray:=by kernel_rfl
theorem TT (x:Ja):(prog.info? 73).map (·.size)=some (QB x).toArray.size:=by rw[N1,Jt];exact Wn
theorem iT (x:Ja) {i:Nat}(h:i<38):i<(QB x).toArray.size:=by rw[N1,Jt];exact h
theorem It (x:Ja) (k:Int):(QB x).toArray.setIfInBounds 1 (.int .i64 k)=(QB { x with kind:=k }).toArray:=by simp[QB]
theorem Iu (x:Ja) (k:Int):(QB x).toArray.setIfInBounds 2 (.int .i64 k)=(QB { x with size:=k }).toArray:=by simp[QB]
theorem CZ (x:Ja) (k:Int):(QB x).toArray.setIfInBounds 3 (.int .i64 k)=(QB { x with links:=k }).toArray:=by simp[QB]
theorem C1 (x:Ja) (k:Int):(QB x).toArray.setIfInBounds 4 (.int .i64 k)=(QB { x with owner:=k }).toArray:=by simp[QB]
theorem cm (x:Ja) (k:Int):(QB x).toArray.setIfInBounds 5 (.int .i64 k)=(QB { x with ino:=k }).toArray:=by simp[QB]
abbrev ZY (f:Nat->Nat):List Value:=(List.range 32).map λi=>.int .u8 ((f i:Nat):Int)
theorem Lc (x:Ja) (f:Nat->Nat):N9 (QB x).toArray 6 (ZY f)=(QB { x with sum:=f }).toArray:=by kernel_rfl
theorem TN (f:Nat->Nat):∀v∈ZY f,v.oneCell'=true:=λv hv=>by
 obtain⟨i,_,rfl⟩:=Pq.1 hv;rfl
theorem YW (f:Nat->Nat):(ZY f).length=32:=by simp[ZY]
theorem Tg (B:List UInt8):cN Zm B=(ZY (ZZ B)).toArray:=rfl
theorem cj (x:Ja):(QB x).toArray.all (·.oneCell')=true:=all_oneCell_toArray (TS x)
section
variable {ops:Array Oper}{rest:List Oper}{o:Oper}{a:Act}{w:World}{Q:Exit->Act->World->Prop}
theorem Dr (x0:Operand) (p:List UInt8) (Q7:o.guard=none) (ho:o.op=.build 73 #[(0,x0)]) (h0:a.eval x0=.string (Qb p))
  (hK:wpList prog ops Q rest (a.put o.dst (.agg (QB (Ku p)).toArray)) w):wpList prog ops Q (o::rest) a w:=by
 refine wpList_buildTo Q7 _ _ ho _ rfl (QB (Ku p)).toArray ?_ hK;have e:((#[(0,x0)]:Array (Nat × Operand)).map λ(i,x)=>(i,a.eval x)).toList=[(0,.string (Qb p))]:=by simp only[fG,FN,Cy,h0]
 rw[e];exact CE p
theorem ZC (x y:Operand) (Q7:o.guard=none) (ho:o.op=.store 73 x y) (g:Nat) (p:Ja) (old:Array Value) (t:TypeId) (hx:a.eval x=.pointer (some ⟨g,0,none⟩)) (hy:a.eval y=.agg (QB p).toArray)
  (hb:Box w g t old) (hold:old.size=38) (hK:∀w',Box w' g t (QB p).toArray->w.grownBy w' (some g)->wpList prog ops Q rest (a.put o.dst undef) w'):wpList prog ops Q (o::rest) a w :=
 Yv _ x y Q7 ho g _ _ t hx hy hb (by rw[N1,Jt];exact Wn) (hold.trans (by rw[N1,Jt])) (cj p) hK
theorem Z4 (x:Operand) (Q7:o.guard=none) (ho:o.op=.load 73 x) (g:Nat) (p:Ja) (t:TypeId) (hx:a.eval x=.pointer (some ⟨g,0,none⟩)) (hb:Box w g t (QB p).toArray)
  (hK:wpList prog ops Q rest (a.put o.dst (.agg (QB p).toArray)) w):wpList prog ops Q (o::rest) a w :=
 XZ _ x Q7 ho g _ t _ hx hb underlying73 rfl (by rw[N1,Jt];exact Wn) hK
end
theorem Hj (A:Option Addr) (n c:Nat) (v:List (List UInt8)) (I:Option Int) (p:List UInt8) (w:World) (hv:Strs w A n v) (hn:n<=9223372036854775807) (hg:Wf v I) (hp:p.length<=100000000) (hT:Yg w)
  (hl:∀k,(ZO v I k 0 8960).1.length<=100000) :
  Calls prog 61 #[.slice A n c,.string (Qb p)] w λe w'=>e=.returned (.agg (QB (Yi v I p)).toArray)/\Ext w w':=by
 have HF:=Qa (λw h=>P5 A n c v I p w h hn hg hp);have HG:=Qa (λk w h=>(Tk A n c v I k w h hn hg).2);have jr:=Qa (λk=>(Tk A n c v I k w hv hn hg).1);have HR:=Qa (λk w h=>MC A n c v I k 0 8960 w h hn hg (by decide) (by decide));have HL:=Qa hl;have HV:=Qa hv;have bV:=Qa hT;clear hv hg hn hp hl hT;go_enter func61,ntmps61;go_upto_region 1 with fail;change Code.wp _ _ _ _ (w.alloc (.cells (QB (Ku [])).toArray 73));have x0:=(Qf w).alloc (.cells (QB (Ku [])).toArray 73);have br:=QA w 73 (QB (Ku [])).toArray;generalize w.alloc (.cells (QB (Ku [])).toArray 73)=w1 at *;generalize hG0:w.heap.size=G at *;have AR:=Qa hG0;clear hG0
 go_upto_region 2 with(first
  | (refine Dr (.tmp 11) p rfl rfl rfl ?_)
  | (refine ZC (.tmp 5) (.tmp 12) rfl rfl w1.heap.size (Ku p) _ _ rfl rfl (QA _ _ _) rfl ?_;intro w2 b2 g2))
 have y2:Ext w1 w2:=((Qf w1).alloc _).grown g2 (λj e=>by cases e;exact QW _);have hGF:G<w1.heap.size:=br.lt;replace br:=br.ext y2;have X2:=Qa (x0.trans y2);clear x0 y2 g2;generalize w1.heap.size=F at *;clear w1;go_upto_region 3 with(go_at_call 23;refine(HF.o _ (HV.o.ext X2.o)).mono ?_;rintro e w3 ⟨rfl,x3⟩)
 replace br:=br.ext x3;replace b2:=b2.ext x3;replace X2:=Qa (X2.o.trans x3);clear x3 HF;clear w2;by_cases hf:(QT v I p).2=0;case neg =>
  have HE:=Qa (show Yi v I p=Ku p from Qv hf);generalize (QT v I p).1=k at *;generalize (QT v I p).2=en at *;have Eg:(en != 0)=true:=by simpa using hf
  clear hf
  go_wp2_with (first
   | (refine Z4 (.tmp 5) rfl rfl F (Ku p) _ rfl b2 ?_)
   | (refine ZC (.tmp 4) (.tmp 21) rfl rfl G (Ku p) _ _ rfl rfl br rfl ?_;intro w9 b9 g9))
  exact ZD (QG rfl _ _ G _ _ _ rfl b9 underlying73 rfl (TT _)) rfl ⟨by rw[HE.o],X2.o.grown g9 (λj e=>by cases e;rw[←AR.o];exact QW _)⟩
 have HE:=Qa (show Yi v I p=⟨p,if decide ((Wr v I (QT v I p).1).2=0/\(Wr v I (QT v I p).1).1.getD 0 0≠0) then (Wr v I (QT v I p).1).1.getD 0 0 else 0,if decide ((Wr v I (QT v I p).1).2=0/\(Wr v I (QT v I p).1).1.getD 0 0≠0) then (Wr v I (QT v I p).1).1.getD 3 0 else 0,if decide ((Wr v I (QT v I p).1).2=0/\(Wr v I (QT v I p).1).1.getD 0 0≠0) then (Wr v I (QT v I p).1).1.getD 1 0 else 0,if decide ((Wr v I (QT v I p).1).2=0/\(Wr v I (QT v I p).1).1.getD 0 0≠0) then (Wr v I (QT v I p).1).1.getD 2 0 else 0,(QT v I p).1,if (ZO v I (QT v I p).1 0 8960).2=0 then ZZ (ZO v I (QT v I p).1 0 8960).1 else λ_=>0⟩ from Qr (λh=>h hf));rw[hf];clear hf;generalize (QT v I p).1=k at *;replace HG:=Qa (HG.o k);replace jr:=Qa (jr.o k);replace HR:=Qa (HR.o k);replace HL:=Qa (HL.o k);generalize Wr v I k=Y at *;obtain⟨x,e2⟩:=Y;generalize ZO v I k 0 8960=Z at *;obtain⟨bs,e3⟩:=Z;simp only at HG jr HR HL HE;go_upto_region 6 with(refine Z5 3 (.tmp 23) (.tmp 22) rfl rfl F 5 (.int .i64 k) _ (QB { Ku p with ino:=k }).toArray _ rfl rfl rfl KS b2 (iT _ (by decide)) (cm _ _) ?_;intro w4 b4 d4)
 have X4:=Qa (d4.past X2.o (by rw[AR.o];omega));have ur:=d4.box br (by omega);clear b2 br d4 X2 w3
 go_upto_region 7 with(first
  | (go_at_call 69;refine(HG.o _ (HV.o.ext X4.o)).mono ?_;rintro e w5 ⟨rfl,x5⟩)
  | (refine QR (.tmp 8) (.tmp 28) rfl rfl w5.heap.size x QE _ rfl rfl (QA _ _ _) jr.o rfl ?_;intro w6 b6 g6))
 have y6:Ext w5 w6:=((Qf w5).alloc _).grown g6 (λj e=>by cases e;exact QW _);have X6:=Qa (X4.o.trans (x5.trans y6));have b7:=b4.ext (x5.trans y6);have pu:=ur.ext (x5.trans y6);have hF8:F<w5.heap.size:=(b4.ext x5).lt;clear b4 ur X4 x5 y6 g6 HG w4;generalize w5.heap.size=g8 at *;clear w5;have nP:=jr.o;obtain⟨i0,i1,i2,i3,xr,rfl⟩:∃i0 i1 i2 i3 xr,x=i0::i1::i2::i3::xr:=by
  match x,nP with
  | i0::i1::i2::i3::xr,_=>exact⟨i0,i1,i2,i3,xr,rfl⟩
 clear nP jr;have c0:w6.cell? ⟨g8,0,none⟩=some (.int .i64 i0):=b6.cell 0;have c1:w6.cell? ⟨g8,1,none⟩=some (.int .i64 i1):=b6.cell 1;have c2:w6.cell? ⟨g8,2,none⟩=some (.int .i64 i2):=b6.cell 2;have c3:w6.cell? ⟨g8,3,none⟩=some (.int .i64 i3):=b6.cell 3;by_cases hb:e2=0/\i0≠0
 ·obtain⟨rfl,hi⟩:=hb;have hi0:(i0 != 0)=true:=by simpa using hi
  have q1:w6.cell? ⟨F,1,none⟩=some (.int .i64 0):=b7.cell 1;have z1:w6.frozen? ⟨F,1,none⟩=false:=b7.frozen 1;have q2:w6.cell? ⟨F,2,none⟩=some (.int .i64 0):=b7.cell 2;have z2:w6.frozen? ⟨F,2,none⟩=false:=b7.frozen 2;have q3:w6.cell? ⟨F,3,none⟩=some (.int .i64 0):=b7.cell 3;have z3:w6.frozen? ⟨F,3,none⟩=false:=b7.frozen 3;have q4:w6.cell? ⟨F,4,none⟩=some (.int .i64 0):=b7.cell 4;have z4:w6.frozen? ⟨F,4,none⟩=false:=b7.frozen 4;go_upto_region 8 with fail;go_region;have dS:=((((But.refl F w6).setCell 1 (.int .i64 i0)).setCell 2 (.int .i64 i3)).setCell 3 (.int .i64 i1)).setCell 4 (.int .i64 i2);have bS:=(((b7.set 1 (.int .i64 i0)).set 2 (.int .i64 i3)).set 3 (.int .i64 i1)).set 4 (.int .i64 i2);rw[It,Iu,CZ,C1]at bS;have cE:=dS.box pu (by omega);have um:=dS.past X6.o (by rw[AR.o];omega);generalize ((((w6.setCell ⟨F,1,none⟩ (.int .i64 i0)).setCell ⟨F,2,none⟩ (.int .i64 i3)).setCell ⟨F,3,none⟩ (.int .i64 i1)).setCell ⟨F,4,none⟩ (.int .i64 i2))=wT at *;replace bS:=bS.ext (Qf wT).drew;replace cE:=cE.ext (Qf wT).drew;have XS:=Qa (um.trans (Qf wT).drew);have FI:=Qa (show Yi v I p={ (⟨p,i0,i3,i1,i2,k,λ_=>0⟩:Ja) with sum:=if e3=0 then ZZ bs else λ_=>0 } by rw[HE.o,Ve ⟨rfl,hi⟩];rfl);have jx:=Qa (show(⟨p,i0,i3,i1,i2,k,λ_=>0⟩:Ja).sum=λ_=>0 from rfl);generalize wT.drew=wS at *;clear q1 q2 q3 q4 z1 z2 z3 z4 c0 c1 c2 c3 b6 b7 pu X6 dS um HE hi hi0 wT w6;obtain⟨fy,hfy⟩:∃fy:Ja,fy=⟨p,i0,i3,i1,i2,k,λ_=>0⟩:=⟨_,rfl⟩
  replace bS:Box wS F 73 (QB fy).toArray:=by rw[hfy];exact bS
  rw[←hfy]at FI jx;clear hfy;go_upto_region 10 with(go_at_call 24;refine(HR.o _ (HV.o.ext XS.o)).mono ?_;rintro e Dg ⟨rfl,Tc⟩)
  have DE:=Qa (XS.o.trans Tc);have CA:=bS.ext Tc;have TB:=cE.ext Tc;have L5:=Qa (bV.o.ext DE.o);clear bS cE XS Tc HR HV bV wS;by_cases h3:e3=0;case neg =>
   have px:(e3==0)=false:=by rw[ai];exact h3
   have Sv:=Qa (FI.o.trans (by rw[Qr h3,←jx.o]));clear h3 FI
   go_wp2_with (first
    | (refine Z4 (.tmp 5) rfl rfl F fy _ rfl CA ?_)
    | (refine ZC (.tmp 4) (.tmp 61) rfl rfl G fy _ _ rfl rfl TB rfl ?_;intro w9 b9 g9))
   exact ZD (QG rfl _ _ G _ _ _ rfl b9 underlying73 rfl (TT _)) rfl ⟨by rw[Sv.o],DE.o.grown g9 (λj e=>by cases e;rw[←AR.o];exact QW _)⟩
  subst h3;have Sv:=Qa (FI.o.trans (by rw[Qv rfl]:_={ fy with sum:=ZZ bs }));have SA:=Qa (λg w (h:Box w g 9 #[.string (Qb bs)]) hT=>(Tu (some ⟨g,0,none⟩) 1 1 [bs] w (JF (ss:=[bs]) h) (by have:=HL.o;simp;omega) (by decide) hT).mono (λe w' (k:e=_/\Ext w w')=>show e=.returned (.agg (ZY (ZZ bs)).toArray)/\Ext w w' from⟨by rw[k.1,show[bs].flatten=bs by simp,Tg],k.2⟩));clear FI HL;have xr:=(Qf Dg).alloc (.cells #[.string (Qb bs)] 9);have eu:=Qa (L5.o.ext xr);have fS:=QA Dg 9 #[.string (Qb bs)]
  go_upto_region 12 with(first
   | (go_at_call 26;refine(SA.o _ _ fS eu.o).mono ?_;rintro e aS ⟨rfl,FF⟩;have fR:=(CA.ext xr).ext FF;have Hh:=(TB.ext xr).ext FF)
   | (refine Y3 71 (.tmp 60) (.tmp 59) rfl rfl F 6 (ZY (ZZ bs)) _ (QB { fy with sum:=ZZ bs }).toArray _ rfl rfl (TN _) (by rw[YW];exact XO) fR (by rw[YW,N1,Jt];exact QW _) (Lc _ _) ?_;intro w12 M2 d12))
  have mY:=Qa (d12.past ((DE.o.trans xr).trans FF) (by rw[AR.o];omega));have Ib:=d12.box Hh (by omega);clear d12 fR Hh FF xr eu fS CA TB DE L5 SA aS
  go_wp2_with (first
   | (refine Z4 (.tmp 5) rfl rfl F { fy with sum:=ZZ bs } _ rfl M2 ?_)
   | (refine ZC (.tmp 4) (.tmp 61) rfl rfl G { fy with sum:=ZZ bs } _ _ rfl rfl Ib rfl ?_;intro w9 b9 g9))
  exact ZD (QG rfl _ _ G _ _ _ rfl b9 underlying73 rfl (TT _)) rfl ⟨by rw[Sv.o],mY.o.grown g9 (λj e=>by cases e;rw[←AR.o];exact QW _)⟩
 ·have FI:=Qa (show Yi v I p={ (⟨p,0,0,0,0,k,λ_=>0⟩:Ja) with sum:=if e3=0 then ZZ bs else λ_=>0 } by rw[HE.o,XI (show¬(e2=0/\(i0::i1::i2::i3::xr).getD 0 0≠0) from hb)];rfl);have jx:=Qa (show(⟨p,0,0,0,0,k,λ_=>0⟩:Ja).sum=λ_=>0 from rfl);obtain⟨fy,hfy⟩:∃fy:Ja,fy=⟨p,0,0,0,0,k,λ_=>0⟩:=⟨_,rfl⟩
  have bS:Box w6 F 73 (QB fy).toArray:=by rw[hfy];exact b7
  rw[←hfy]at FI jx;clear hfy;have cE:=pu;have XS:=X6;clear c1 c2 c3 b6 b7 pu X6 HE;generalize oD:w6=wS at *;clear oD;by_cases he:e2=0
  ·subst he;have hi:i0=0:=Decidable.byContradiction λh=>hb ⟨rfl,h⟩;subst hi;clear hb;go_upto_region 9 with fail;clear c0;go_upto_region 10 with(go_at_call 24;refine(HR.o _ (HV.o.ext XS.o)).mono ?_;rintro e Dg ⟨rfl,Tc⟩)
   have DE:=Qa (XS.o.trans Tc);have CA:=bS.ext Tc;have TB:=cE.ext Tc;have L5:=Qa (bV.o.ext DE.o);clear bS cE XS Tc HR HV bV wS;by_cases h3:e3=0;case neg =>
    have px:(e3==0)=false:=by rw[ai];exact h3
    have Sv:=Qa (FI.o.trans (by rw[Qr h3,←jx.o]));clear h3 FI
    go_wp2_with (first
     | (refine Z4 (.tmp 5) rfl rfl F fy _ rfl CA ?_)
     | (refine ZC (.tmp 4) (.tmp 61) rfl rfl G fy _ _ rfl rfl TB rfl ?_;intro w9 b9 g9))
    exact ZD (QG rfl _ _ G _ _ _ rfl b9 underlying73 rfl (TT _)) rfl ⟨by rw[Sv.o],DE.o.grown g9 (λj e=>by cases e;rw[←AR.o];exact QW _)⟩
   subst h3;have Sv:=Qa (FI.o.trans (by rw[Qv rfl]:_={ fy with sum:=ZZ bs }));have SA:=Qa (λg w (h:Box w g 9 #[.string (Qb bs)]) hT=>(Tu (some ⟨g,0,none⟩) 1 1 [bs] w (JF (ss:=[bs]) h) (by have:=HL.o;simp;omega) (by decide) hT).mono (λe w' (k:e=_/\Ext w w')=>show e=.returned (.agg (ZY (ZZ bs)).toArray)/\Ext w w' from⟨by rw[k.1,show[bs].flatten=bs by simp,Tg],k.2⟩));clear FI HL;have xr:=(Qf Dg).alloc (.cells #[.string (Qb bs)] 9);have eu:=Qa (L5.o.ext xr);have fS:=QA Dg 9 #[.string (Qb bs)]
   go_upto_region 12 with(first
    | (go_at_call 26;refine(SA.o _ _ fS eu.o).mono ?_;rintro e aS ⟨rfl,FF⟩;have fR:=(CA.ext xr).ext FF;have Hh:=(TB.ext xr).ext FF)
    | (refine Y3 71 (.tmp 60) (.tmp 59) rfl rfl F 6 (ZY (ZZ bs)) _ (QB { fy with sum:=ZZ bs }).toArray _ rfl rfl (TN _) (by rw[YW];exact XO) fR (by rw[YW,N1,Jt];exact QW _) (Lc _ _) ?_;intro w12 M2 d12))
   have mY:=Qa (d12.past ((DE.o.trans xr).trans FF) (by rw[AR.o];omega));have Ib:=d12.box Hh (by omega);clear d12 fR Hh FF xr eu fS CA TB DE L5 SA aS
   go_wp2_with (first
    | (refine Z4 (.tmp 5) rfl rfl F { fy with sum:=ZZ bs } _ rfl M2 ?_)
    | (refine ZC (.tmp 4) (.tmp 61) rfl rfl G { fy with sum:=ZZ bs } _ _ rfl rfl Ib rfl ?_;intro w9 b9 g9))
   exact ZD (QG rfl _ _ G _ _ _ rfl b9 underlying73 rfl (TT _)) rfl ⟨by rw[Sv.o],mY.o.grown g9 (λj e=>by cases e;rw[←AR.o];exact QW _)⟩
  ·have qF:(e2==0)=false:=by rw[ai];exact he
   clear hb he;go_upto_region 9 with fail;clear c0;go_upto_region 10 with(go_at_call 24;refine(HR.o _ (HV.o.ext XS.o)).mono ?_;rintro e Dg ⟨rfl,Tc⟩)
   have DE:=Qa (XS.o.trans Tc);have CA:=bS.ext Tc;have TB:=cE.ext Tc;have L5:=Qa (bV.o.ext DE.o);clear bS cE XS Tc HR HV bV wS;by_cases h3:e3=0;case neg =>
    have px:(e3==0)=false:=by rw[ai];exact h3
    have Sv:=Qa (FI.o.trans (by rw[Qr h3,←jx.o]));clear h3 FI
    go_wp2_with (first
     | (refine Z4 (.tmp 5) rfl rfl F fy _ rfl CA ?_)
     | (refine ZC (.tmp 4) (.tmp 61) rfl rfl G fy _ _ rfl rfl TB rfl ?_;intro w9 b9 g9))
    exact ZD (QG rfl _ _ G _ _ _ rfl b9 underlying73 rfl (TT _)) rfl ⟨by rw[Sv.o],DE.o.grown g9 (λj e=>by cases e;rw[←AR.o];exact QW _)⟩
   subst h3;have Sv:=Qa (FI.o.trans (by rw[Qv rfl]:_={ fy with sum:=ZZ bs }));have SA:=Qa (λg w (h:Box w g 9 #[.string (Qb bs)]) hT=>(Tu (some ⟨g,0,none⟩) 1 1 [bs] w (JF (ss:=[bs]) h) (by have:=HL.o;simp;omega) (by decide) hT).mono (λe w' (k:e=_/\Ext w w')=>show e=.returned (.agg (ZY (ZZ bs)).toArray)/\Ext w w' from⟨by rw[k.1,show[bs].flatten=bs by simp,Tg],k.2⟩));clear FI HL;have xr:=(Qf Dg).alloc (.cells #[.string (Qb bs)] 9);have eu:=Qa (L5.o.ext xr);have fS:=QA Dg 9 #[.string (Qb bs)]
   go_upto_region 12 with(first
    | (go_at_call 26;refine(SA.o _ _ fS eu.o).mono ?_;rintro e aS ⟨rfl,FF⟩;have fR:=(CA.ext xr).ext FF;have Hh:=(TB.ext xr).ext FF)
    | (refine Y3 71 (.tmp 60) (.tmp 59) rfl rfl F 6 (ZY (ZZ bs)) _ (QB { fy with sum:=ZZ bs }).toArray _ rfl rfl (TN _) (by rw[YW];exact XO) fR (by rw[YW,N1,Jt];exact QW _) (Lc _ _) ?_;intro w12 M2 d12))
   have mY:=Qa (d12.past ((DE.o.trans xr).trans FF) (by rw[AR.o];omega));have Ib:=d12.box Hh (by omega);clear d12 fR Hh FF xr eu fS CA TB DE L5 SA aS
   go_wp2_with (first
    | (refine Z4 (.tmp 5) rfl rfl F { fy with sum:=ZZ bs } _ rfl M2 ?_)
    | (refine ZC (.tmp 4) (.tmp 61) rfl rfl G { fy with sum:=ZZ bs } _ _ rfl rfl Ib rfl ?_;intro w9 b9 g9))
   exact ZD (QG rfl _ _ G _ _ _ rfl b9 underlying73 rfl (TT _)) rfl ⟨by rw[Sv.o],mY.o.grown g9 (λj e=>by cases e;rw[←AR.o];exact QW _)⟩
theorem DQ:(prog.info? 73).map (λi=>(i.zero,i.size,i.bytes))=some (some (.agg (QB (Ku [])).toArray),38,88):=by kernel_rfl
theorem Iw (y:Ja):Instr.fill (λi=>some (i*38,38)) ((Array.range (1*38)).map ((Value.agg (QB (Ku [])).toArray).cells[·%(Value.agg (QB (Ku [])).toArray).cells.size]!)) [(0,.agg (QB y).toArray)]=some (QB y).toArray:=by kernel_rfl
theorem LU {ops:Array Oper}{rest:List Oper}{o:Oper}{a:Act}{W:World}{Q:Exit->Act->World->Prop}(x:Operand) (Q7:o.guard=none) (ho:o.op=.buildSlice 67 1 #[(0,x)]) (y:Ja) (hx:a.eval x=.agg (QB y).toArray)
  (hK:wpList prog ops Q rest (a.put o.dst (.slice (some ⟨W.heap.size,0,none⟩) 1 1)) (W.alloc (.cells (QB y).toArray 73))):wpList prog ops Q (o::rest) a W:=by
 obtain⟨i,hi,hz,h1,h2⟩:=SQ DQ;refine wpList_buildSlice Q7 67 73 1 #[(0,x)] ho (QB y).toArray i _ underlying67 hi hz (by rw[h1];decide) (by rw[h1];decide) ?_ hK;rw[h1];have e:((#[(0,x)]:Array (Nat × Operand)).map λ(i,x)=>(i,a.eval x)).toList=[(0,.agg (QB y).toArray)]:=by simp[hx]
 rw[e];exact Iw y
theorem CK (fr bl:Sl) (s:List UInt8) (d:QL) (I:Option Int) (w:World) (hM:∀w',Ext w w'->Calls prog 27 #[.agg (So fr bl s)] w' λen w''=>∃z:Q1,en=.returned (.tuple #[.agg z.cells,.int .i64 0])/\Ext w' w''/\Jg w'' z d)
  (hv:(QH d.bl d.pe d.di).length<=9223372036854775807) (hg:Wf (QH d.bl d.pe d.di) I) (hT:Yg w) (hl:∀k,(ZO (QH d.bl d.pe d.di) I k 0 8960).1.length<=100000) (hp:∀p∈Kd (QH d.bl d.pe d.di) I,p.length<=100000000) (hwn:(Kd (QH d.bl d.pe d.di) I).length<=1000000) :
  Calls prog 25 #[.agg (So fr bl s)] w λe w'=>∃(A:Option Addr) (c:Nat) (l:List Ja),e=.returned (.tuple #[.slice A l.length c,.int .i64 0])/\l.Perm ((Kd (QH d.bl d.pe d.di) I).map (Yi (QH d.bl d.pe d.di) I))/\Q8 QB w' A l.length l/\Ext w w':=by
 have HM:=Qa hM;have HV:=Qa (λz w h=>Fa z d w h);have HW:=Qa (λA c w h=>aV A (QH d.bl d.pe d.di).length c (QH d.bl d.pe d.di) I w h hv hg);have HC:=Qa (λA c p w h hp hT=>Hj A (QH d.bl d.pe d.di).length c (QH d.bl d.pe d.di) I p w h hv hg hp hT hl);have HP:=Qa hp;have bV:=Qa hT;clear hM hv hg hT hl hp;generalize QH d.bl d.pe d.di=V at *;generalize hL:Kd V I=L at *;have x0:=(Qf w).alloc (.cells (So fr bl s) 24);have bi:=QA w 24 (So fr bl s);go_enter func25,ntmps25;go_upto_region 1 with fail;change Code.wp _ _ _ _ (w.alloc (.cells (So fr bl s) 24));generalize w.alloc (.cells (So fr bl s) 24)=w1 at *
 go_upto_region 2 with(first
  | (refine XZ _ (.tmp 1) rfl rfl w.heap.size (So fr bl s) 24 _ rfl bi underlying24 rfl oJ ?_)
  | (go_at_call 27;refine(HM.o _ x0).mono ?_;rintro en w3 ⟨z,rfl,x3,hi⟩)
  | (refine JD (.tmp 4) (.tmp 13) rfl rfl w3.heap.size z _ _ rfl rfl (QA _ _ _) rfl ?_;intro w4 b4 g4))
 have y4:Ext w3 w4:=((Qf w3).alloc _).grown g4 (λj e=>by cases e;exact QW _);have HZ:=Qa (hi.ext y4);have X4:=Qa (x0.trans (x3.trans y4));clear hi y4 g4 x3 x0 bi HM;generalize w3.heap.size=g at *;clear w3 w1
 go_upto_region 7 with(first
  | (refine QI (.tmp 4) rfl rfl g _ _ rfl b4 rfl ?_)
  | (go_at_call 18;refine(HV.o _ _ HZ.o).mono ?_;rintro e w5 ⟨A,c,rfl,x5,o5⟩)
  | (go_at_call 22;refine(HW.o A c _ (Cz o5)).mono ?_;rintro e w6 ⟨u,rfl,x6,o6⟩;obtain⟨A6,c6,rfl⟩:=KF o6))
 have X6:=Qa (X4.o.trans (x5.trans x6));have WP:=Qa ((Cz o5).ext x6);have uT:=Qa (Cz o6);have uW:=Qa (bV.o.ext X6.o);clear o5 o6 x5 x6 X4 HZ b4 HV HW bV hL;clear w5 w4;go_loopw [7,23] (λu i wx=>∃k:Nat,k<=L.length/\i=.int .i64 k/\Ext w6 wx/\wx.ownsRow w6.heap.size 73 38 u k (((L.take k).map (Yi V I)).flatMap QB)) (λ_ i _=>L.length-(intOf i).toNat);case atStart=>exact⟨0,AZ _,rfl,Qf _,⟨rfl,.inl ⟨rfl,rfl⟩⟩⟩
 case round =>
  obtain⟨k,hk,rfl,xk,ok⟩:=hrel;by_cases Qo:k<L.length
  ·have Vf:(k:Int)<(L.length:Int):=by omega
   obtain⟨b,o,rfl,Qd⟩:=uT.o.2 (by omega);have ck:=xk.keep (Qd k Qo);have HPk:=Qa (HP.o _ (FM Qo));have pU:=Qa (show((L.take (k+1)).map (Yi V I)).flatMap QB=((L.take k).map (Yi V I)).flatMap QB++QB (Yi V I L[k]) by rw[FL Qo,fM,AY];simp);clear Qd;generalize L[k]=p at *
   go_upto_region 10 with(first
    | (go_at_call 61;refine(HC.o A c p _ (WP.o.ext xk) HPk.o (uW.o.ext xk)).mono ?_;rintro e w7 ⟨rfl,x7⟩)
    | (refine LU (.tmp 30) rfl rfl (Yi V I p) rfl ?_;have x8:=x7.alloc (.cells (QB (Yi V I p)).toArray 73);have b8:=QA w7 73 (QB (Yi V I p)).toArray;have o8:=Qe ok x8)
    | (at_builtin;refine We (u:=u7) (QB (Yi V I p)) underlying67 DQ (by decide) ?_ (Jt _) (TS _) (by decide) ?_ (.tmp 27) (.tmp 31) ?_ ?_ ?_ o8 b8 (by omega) (xk.trans x8).size ?_;(· rfl);(· rfl);(· rfl);(· rfl);(· rfl);intro u9 w9 o9 g9))
   have x9:=(xk.trans x8).grown g9 (λj e=>Jc o8 e);go_wp2_with fail;go_roundw;case rel=>exact⟨k+1,Qo,by go_num,x9,by rw[pU.o];exact o9⟩
   case measure=>simp[intOf];omega
  ·have hke:k=L.length:=by omega
   rw[hke,L9]at ok;have fY:(L.map (Yi V I)).length=L.length:=by rw[Fo]
   have Vf:¬(k:Int)<(L.length:Int):=by omega
   have XK:=Qa (X6.o.trans xk);have oD:=X6.o.size;clear HC HP uW WP uT X6 xk Qo hk;obtain⟨fl,hflq⟩:∃fl,fl=L.map (Yi V I):=⟨_,rfl⟩
   rw[←hflq]at ok fY;have pI:=Qa hflq;clear hflq;by_cases h0:L.length=0
   ·rw[h0]at ok fY;obtain⟨A7,c7,rfl⟩:=KF ok;have tC:=bd fY;subst tC;clear ok;go_wp2_with (go_at_call 62;refine(Ta A7 c7 _).mono ?_;rintro e w9 ⟨rfl,rfl⟩)
    go_ret2;exact⟨A7,c7,[],rfl,by rw[←pI.o],⟨rfl,λh=>absurd h (by decide)⟩,XK.o⟩
   ·obtain⟨g7,c7,rfl,hg7⟩:=Gv ok (by omega);have HS7:=Qa (RX w wr w6.heap.size g7 L.length c7 fl ⟨ok,fY⟩ XK.o oD (by omega));clear ok;go_wp2_with (go_at_call 62;refine HS7.o.mono ?_;rintro e w9 ⟨rfl,l9,h9⟩)
    go_ret2;have sn:l9.length=L.length:=h9.row.2;refine⟨some ⟨g7,0,none⟩,c7,l9,by rw[sn];rfl,by rw[←pI.o];exact h9.perm,?_,h9.ext⟩;have hr:=Xh (s:=⟨some ⟨g7,0,none⟩,L.length,c7⟩) h9.row.1 (λx _=>Jt x) sn.symm rfl;rw[sn];exact hr
theorem E6 (v:List (List UInt8)) (I:Int) (p:List UInt8):((Z2 v (some I) p).2=0->(Yi v (some I) p).kind=1/\(Yi v (some I) p).sum=ZZ (Z2 v (some I) p).1)/\((Z2 v (some I) p).2≠0->(Yi v (some I) p).kind≠1):=by
 by_cases h:(QT v (some I) p).2=0
 ·have hk:(Yi v (some I) p).kind=if decide ((Wr v (some I) (QT v (some I) p).1).2=0/\(Wr v (some I) (QT v (some I) p).1).1.getD 0 0≠0) then (Wr v (some I) (QT v (some I) p).1).1.getD 0 0 else 0:=by unfold Yi;rw[Qr (λh2=>h2 h)]
  have hs:(Yi v (some I) p).sum=if (ZO v (some I) (QT v (some I) p).1 0 8960).2=0 then ZZ (ZO v (some I) (QT v (some I) p).1 0 8960).1 else λ_=>0:=by unfold Yi;rw[Qr (λh2=>h2 h)]
  rw[hk,hs];by_cases c:(Wr v (some I) (QT v (some I) p).1).2=0/\(Wr v (some I) (QT v (some I) p).1).1.getD 0 0=1
  ·have e:XR v (some I) p=((QT v (some I) p).1,0):=by unfold XR;rw[Qr (by rw[h];decide),Qv c]
   have e2:Z2 v (some I) p=ZO v (some I) (QT v (some I) p).1 0 8960:=by unfold Z2;rw[e];rfl
   have hr:(ZO v (some I) (QT v (some I) p).1 0 8960).2=0:=by
    generalize (QT v (some I) p).1=k at *;unfold Wr at c;simp only at c;split at c
    ·rename_i hr;unfold ZO;simp only;rw[Qr (by
      unfold XQ;rw[Qr (by omega),Qr (by rw[c.2];decide)];decide)]
     unfold NQ;rw[Qr (by decide)];split<;>rfl
    ·exact absurd c.1 (by decide)
   rw[e2];refine⟨λ_=>⟨?_,by rw[Qv hr]⟩,λh2=>absurd hr h2⟩;rw[Ve (⟨c.1,by rw[c.2];decide⟩:_/\_),c.2];rfl
  ·have e:XR v (some I) p=(0,11):=by unfold XR;rw[Qr (by rw[h];decide),Qr c]
   have e2:(Z2 v (some I) p).2=11:=by unfold Z2;rw[e];rfl
   refine⟨λh2=>by rw[e2]at h2;exact absurd h2 (by decide),λ_=>?_⟩;split
   ·rename_i hb
    exactλh2=>c ⟨(VY hb).1,h2⟩
   ·decide
 ·have e:XR v (some I) p=(0,(QT v (some I) p).2):=by unfold XR;rw[Qv h]
  have e2:(Z2 v (some I) p).2=(QT v (some I) p).2:=by unfold Z2;rw[e,Qv h]
  have e3:Yi v (some I) p=Ku p:=by unfold Yi;rw[Qv h]
  rw[e2,e3];exact⟨λh2=>absurd h2 h,λ_=>by show(0:Int)≠1;decide⟩
theorem Fc {v:List (List UInt8)}{I:Int}(hI:I<=64):(Kd v (some I)).length<=18200:=by
 have h1:Z1 (Vp v I 7 ⟨[],[]⟩ 1 [])<=18200:=Ce▸RG hI 7 ⟨[],[]⟩ 1 [] (by simp) (by decide) (by decide);have h2:(aT v I).length<=Z1 (Vp v I 7 ⟨[],[]⟩ 1 []):=by unfold Z1 aT;omega
 exact Y6 h2 h1
theorem MD (v:List (List UInt8)) (I k:Int):(ZO v (some I) k 0 8960).1.length<=8960:=by
 unfold ZO;simp only;split
 ·exact AZ _
 ·unfold NQ;rw[Qr (by decide)];split
  ·exact AZ _
  ·exact TL v I k
theorem cO:prog.keyTypeAt 10 71=true:=by kernel_rfl
theorem Im:prog.eqGuardType prog.depth 71=false:=by kernel_rfl
theorem Io:UJ prog 10 71 (List.replicate 32 (some .u8))=true:=by kernel_rfl
theorem cP (f:Nat->Nat):ZY f=List.zipWith XE (List.replicate 32 (some .u8)) (ZY f):=by kernel_rfl
theorem Ip (f:Nat->Nat) (w:World):(Op.equalIn 10000 71 (.agg (ZY f).toArray) (.agg (ZY f).toArray)).run prog w=.ok true w:=by
 have h:=LL (P:=prog) w 10 71 (List.replicate 32 (some .u8)) (ZY f) 9990 cO Io (by simp[ZY]);have e:Y1 prog 71 (List.zipWith XE (List.replicate 32 (some .u8)) (ZY f))=.agg (ZY f).toArray:=by rw[←cP];simp[Y1,underlying71]
 rw[e]at h;exact h
theorem GS (f:Nat->Nat) (w:World):(binOp .neq 71 (.agg (ZY f).toArray) (.agg (ZY f).toArray)).run prog w=.ok (.bool false) w:=by
 rw[run_neq_struct,Ip];rfl
section
variable {ops:Array Oper}{rest:List Oper}{o:Oper}{a:Act}{w:World}{Q:Exit->Act->World->Prop}
theorem Dq (x y:Operand) (f:Nat->Nat) (hw:Region.wanted o (yielded ops a.tmps)=true) (ho:o.op=.binOp .neq 71 x y 71) (hx:a.eval x=.agg (ZY f).toArray) (hy:a.eval y=.agg (ZY f).toArray)
  (hK:wpList prog ops Q rest (a.put o.dst (.bool false)) w):wpList prog ops Q (o::rest) a w:=by
 rw[wpList,Qv hw];refine .inl ?_;unfold Oper.wp execOp;simp only[ho,hx,hy,WW,run_eqGuard_agg w .neq 71 x y _ _ Im,MZ,GS f w];exact hK
theorem Fg (x:Operand) (b i:Nat) (f:Nat->Nat) (hc:w.rangeAt b i (ZY f)) (hw:Region.wanted o (yielded ops a.tmps)=true) (ho:o.op=.load 71 x) (hx:a.eval x=.pointer (some ⟨b,i,none⟩))
  (hK:wpList prog ops Q rest (a.put o.dst (.agg (ZY f).toArray)) w):wpList prog ops Q (o::rest) a w:=by
 have h2:=wpList_load_mid (op:={ o with guard:=none }) (ops:=ops) (rest:=rest) (Q:=Q) rfl _ x ho b i hx (ZY f) _ hc underlying71 rfl (by rw[YW];exact XO) hK;rw[wpList]at h2 ⊢;rw[Qv (by simp[Region.wanted])]at h2;rw[Qv hw];exact h2
end
theorem CY {w:World}{A:Option Addr}{n:Nat}{l:List Ja}(h:Q8 QB w A n l) (hn:0<n):∃b o,A=some ⟨b,o,none⟩/\∀k x,l[k]? =some x->w.cell? ⟨b,o+k*38,none⟩=some (.string (Qb x.path))/\w.cell? ⟨b,o+k*38+1,none⟩=some (.int .i64 x.kind)/\w.rangeAt b (o+k*38+6) (ZY x.sum):=by
 obtain⟨b,o,e,hc⟩:=h.2 hn;have hg:∀k x i v,l[k]? =some x->i<38->(QB x)[i]? =some v->w.cell? ⟨b,o+(k*38+i),none⟩=some v:=λk x i v hk hi hv=>hc _ v (by
  rw[Wo QB 38 (by omega) _ Jt,show(k*38+i)/38=k by omega,show(k*38+i)%38=i by omega,hk];exact hv)
 refine⟨b,o,e,λk x hk=>⟨hg k x 0 _ hk (by omega) rfl,hg k x 1 _ hk (by omega) rfl,λj v hj=>?_⟩⟩;have Nf:j<32:=by have:=(PO.1 hj).1;rw[YW]at this;exact this
 rw[Wed,Wed];refine hg k x (6+j) v hk (by omega) ?_;unfold QB;rw[fF (by simp),show 6+j-[Value.string (Qb x.path),.int .i64 x.kind,.int .i64 x.size,.int .i64 x.links,.int .i64 x.owner,.int .i64 x.ino].length=j by simp];exact hj
theorem CJ (v:List (List UInt8)) (I:Option Int) (p:List UInt8):(Yi v I p).path=p:=by
 unfold Yi;split<;>rfl
theorem Aw (v:List (List UInt8)) (I:Int) (p:List UInt8):(Z2 v (some I) p).1.length<=8960:=by
 unfold Z2;split
 ·exact AZ _
 ·exact MD v I _
theorem RW (m:Q1) (d:QL) (w:World) (h:Jg w m d) (hfit:MX m d) (hD0:JW w) (aw:Yg w) :
  Calls prog 8 #[.agg m.cells] w λe w'=>e=.returned (.bool true)/\Ext w w':=by
 have HL:=Qa (λw h=>BJ m d w h);have HC:=Qa (λw h h1 h2=>Ao m d w h h1 h2);have HA:=Qa ES;have xa:Ext w (w.alloc (.cells m.cells 38)):=(Qf _).alloc _;have bm:=QA w 38 m.cells;have HD:=Qa (hD0.ext xa);have HM:=Qa (h.ext xa);have lN:=Qa hfit;have HT:=Qa (aw.ext xa);clear h hfit hD0 aw;go_enter func8,ntmps8;go_upto_region 1 with fail;generalize w.alloc (.cells m.cells 38)=w1 at xa bm HD HM HT ⊢;generalize w.heap.size=G at bm ⊢;go_cut [16] (λs wx=>∃b:Bool,s=.bool b/\Ext w1 wx/\(b=false->YR m d/\m.pe.n<=60));case first =>
  clear HA
  go_wp2_with (first
   | (refine QI (.tmp 1) rfl rfl G _ _ rfl bm rfl ?_)
   | (refine Y2 (.tmp 1) rfl rfl G m 38 rfl Hg ?_)
   | (go_at_call 13;refine(HL.o _ HM.o).mono ?_;rintro e w2 ⟨⟨z,rfl,hz⟩,x2⟩;have HZ:=Qa hz;clear hz;have Hg:=bm.ext x2;rcases UK (decide (0<z)) with dz|dz)
   | (go_at_call 19;have vj:=HZ.o (by simpa using dz);refine(HC.o _ (HM.o.ext x2) (by omega) (by omega)).mono ?_;rintro e w3 ⟨⟨q,rfl,hn⟩,x3⟩;have HLZ:=Qa vj;clear vj;have HN:=Qa hn;clear hn;rcases UK (q != 0) with dn|dn))
  ·go_meet;exact⟨true,rfl,x2,λh=>by cases h⟩
  ·go_meet;exact⟨true,rfl,x2.trans x3,λh=>by cases h⟩
  ·go_meet;exact⟨false,rfl,x2.trans x3,λ_=>⟨HN.o (by simpa using dn),HLZ.o.2.1⟩⟩
 case rest =>
  obtain⟨b,rfl,x2,hd⟩:=hcut;cases b with
  | true =>
   go_wp2_with (go_at_call 10;refine(HA.o _).mono ?_;rintro e w3 ⟨rfl,x3⟩)
   go_ret;exact⟨rfl,(xa.trans x2).trans x3⟩
  | false =>
   obtain⟨Ko,T9⟩:=hd rfl;have l1:=HM.o.pr.1;have l2:=HM.o.pi.1;have l3:=HM.o.pe.1;have l4:=HM.o.fr.1;have l5:=HM.o.bl.1;have RF:=Qa (ON Ko lN.o l1.symm l2.symm (by omega));have hj:=Ko.disk.1;obtain⟨I,hgood⟩:=Ko.disk.2.2.2;have hg:Wf (QH d.bl d.pe d.di) (some I):=hgood;have tP:(QH d.bl d.pe d.di).length<=9223372036854775807:=by have:=QM hgood.plan;omega
   have Bq:m.fr.n<=100000:=by have:=Ko.rest.frn;omega
   have az:m.bl.n<=100000:=by have:=(Zw hj).most;omega
   have uO:=Qa (λw hi hD=>dR m d w hi Ko RF.o hD Bq az);have uF:=Qa (λ(fr bl:Sl) w hF dK Eg hB Sh ay hD=>(BC fr bl m d w hF dK Eg hB Sh ay RF.o Ko l4 l1 l2 HM.o.initk HM.o.innk HM.o.leftk hD).mono (λe w' ⟨z,h1,h2,_,h4⟩=>(⟨z,h1,h2,h4⟩:∃z:Q1,e=Ending.returned (.tuple #[.agg z.cells,.int .i64 0])/\Ext w w'/\Jg w' z d)));have uU:=Qa (λ(fr bl:Sl) p w hM hp=>O1 fr.A bl.A fr.n fr.c bl.n bl.c (Qb (Jy m d)) d (some I) p w hM tP hg hp);have tz:=Qa (E6 (QH d.bl d.pe d.di) I);have uV:=Qa (NU (QH d.bl d.pe d.di) (some I));have tr:=Qa (λ(fr bl:Sl) w hM hT=>CK fr bl (Jy m d) d (some I) w hM tP hg hT (λk=>Y6 (MD _ I k) (by decide)) (λp hp=>Y6 (NU _ (some I) p hp) (by decide)) (Y6 (Fc (by have:=QM hgood.plan;omega)) (by decide)));have uj:=Qa (show(Kd (QH d.bl d.pe d.di) (some I)).length<=18200 from Fc (by have:=QM hgood.plan;omega));have L6:=Qa (HT.o.ext x2);have X2:=Qa (xa.trans x2);have ky:=Qa (HD.o.ext x2);have js:=Qa (HM.o.ext x2);replace bm:=bm.ext x2;clear HL HC hd Ko T9 l1 l2 l3 l4 l5 hj hgood hg tP Bq az xa x2 HD lN;clear HM;generalize QH d.bl d.pe d.di=v at *
   go_upto_region 5 with(first
    | (refine QI (.tmp 1) rfl rfl G _ _ rfl bm rfl ?_)
    | (go_at_call 20;refine(uO.o _ js.o ky.o).mono ?_;rintro e w6 ⟨fr,bl,rfl,x6,r1,r2,r3,r4,r5,r6⟩;have qj:=Qa (λw' (y:Ext w6 w')=>uF.o fr bl w' (r1.ext y) r2 r3 (r4.ext y) r5 r6 ((ky.o.ext x6).ext y));clear r1 r2 r3 r4 r5 r6)
    | (go_at_call 25;have y7:=(Qf w6).alloc (.cells (So fr bl (Jy m d)) 24);have b7:=QA w6 24 (So fr bl (Jy m d));refine(tr.o fr bl _ (λw' y=>qj.o w' (y7.trans y)) (L6.o.ext (x6.trans y7))).mono ?_;rintro e w8 ⟨A8,c8,l8,rfl,hp8,hr8,x8⟩))
   have hl8:l8.length<=18200:=by have h1:=hp8.length_eq;have h2:=uj.o;rw[Fo]at h1;omega
   clear uj;have X8:=Qa (X2.o.trans (x6.trans (y7.trans x8)));replace b7:=b7.ext x8;have uX:=Qa (L6.o.ext (x6.trans (y7.trans x8)));have ln:=Qa (λp w (y:Ext w8 w) hp=>uU.o fr bl p w (λw'' z=>qj.o w'' (y7.trans (x8.trans (y.trans z)))) hp);clear tr uO uF uU L6 ky js bm X2 qj y7 x6 x8 HT;go_upto_region 8 with fail;go_loopw [6] (λi wx=>∃k:Nat,k<=l8.length/\i=.int .i64 k/\Ext w8 wx) (λi _=>l8.length-(intOf i).toNat);case atStart=>exact⟨0,AZ _,rfl,Qf _⟩
   case round =>
    obtain⟨k,hk,rfl,xk⟩:=hrel;by_cases Qo:k<l8.length
    ·have Vf:(k:Int)<(l8.length:Int):=by omega
     obtain⟨b,o,rfl,Qd⟩:=CY hr8 (by omega);obtain⟨c1,c2,c3⟩:=Qd k _ (JZ Qo);have nY:l8[k]∈(Kd v (some I)).map (Yi v (some I)):=hp8.mem_iff.1 (FM Qo);obtain⟨p,hpm,T9⟩:=Pq.1 nY;rw[←T9]at c1 c2 c3;rw[CJ]at c1;have vo:=uV.o p hpm;have hF:=tz.o p;have IX:=Aw v I p;have ge:=Qa (λw (y:Ext wr w)=>ln.o p w (xk.trans y) (by omega));clear nY hpm T9 Qd uV tz hr8 hp8 ln vo;generalize Yi v (some I) p=F at *;generalize Z2 v (some I) p=S at *;obtain⟨s,f⟩:=S;obtain⟨pp,kd,q2,q3,q4,q5,sm⟩:=F;simp only at hF IX c2 c3 ge;have ad:=Qa (λ(w':World) (x:Ext wr w')=>(xk.trans x).keep c1);clear c1;go_upto_region 10 with fail;refine QP 12 [[],[],[],[1,2],[3],[4],[0,5],[6],[7],[7],[8],[9]] [(.agg (So fr bl (Jy m d))),(.slice (some ⟨b,o,none⟩) l8.length c8),(.int .i64 (k:Int)),(.pointer (some ⟨b,o+k*38,none⟩)),(.pointer (some ⟨b,o+k*38,none⟩)),.string (Qb p),.tuple #[.string (Qb s),.int .i64 f],.tuple #[.string (Qb s),.int .i64 f],.string (Qb s),.int .i64 f,.string (Qb s),.int .i64 f] (by kernel_rfl) (by kernel_rfl) rfl ?_;simp only[Yh,Yt,YB,Yu];refine vW (λw' hx=>?_) ?_
     ·go_wp2_with (refine XZ _ (.tmp 3) rfl rfl w6.heap.size (So fr bl (Jy m d)) 24 _ rfl (b7.ext (xk.trans hx)) underlying24 rfl oJ ?_)
      exact Qf _
     simp only[S_]
     iterate 5
      refine vW (λw' hx=>?_) ?_
      ·have c0:=ad.o w' hx;go_wp2_with fail;exact Qf _
      simp only[S_]
     refine vW (λw' hx=>?_) ?_
     ·go_wp2_with (go_at_call 11;refine(ge.o w' hx).mono ?_;rintro e w2 ⟨rfl,x2⟩)
      all_goals rfl
     simp only[S_]
     iterate 5
      refine vW (λw' hx=>?_) ?_
      ·go_wp2_with fail;exact Qf _
      simp only[S_]
     rw[Zq];intro wz hx;rw[wpList];have Tc:=hx;have SA:=Qa (λg w (h:Box w g 9 #[.string (Qb s)]) hT=>(Tu (some ⟨g,0,none⟩) 1 1 [s] w (JF (ss:=[s]) h) (by simp;omega) (by decide) hT).mono (λe w' (k:e=_/\Ext w w')=>show e=.returned (.agg (ZY (ZZ s)).toArray)/\Ext w w' from⟨by rw[k.1,show[s].flatten=s by simp,Tg],k.2⟩));have uY:=Qa (uX.o.ext (xk.trans Tc));clear hx ad ge b7 uX IX;by_cases hf:f=0
     ·subst hf;obtain⟨rfl,rfl⟩:=hF.1 rfl;have Pt:=Qa (λ(w':World) (x:Ext wz w')=>(xk.trans (Tc.trans x)).keep c2);have qW:=Qa (λ(w':World) (x:Ext wz w')=>(λj v hj=>(xk.trans (Tc.trans x)).keep (c3 j v hj):w'.rangeAt b (o+k*38+6) (ZY (ZZ s))));clear hF c2 c3;go_upto_region 11 with fail;refine YS 33 [[],[0],[1],[2],[2,3],[2,4],[2],[2],[2,6,7],[2,8],[2,9],[2,5,10],[2,11],[12],[12],[12,13,14],[12,15],[12,16],[12,17],[2,12,18],[2,19],[20],[21],[21,22],[21,23],[24],[24],[24,25,26],[24,27],[24,28],[24,29],[21,24,30],[21,31]] [.inl (.int .i64 0),.inl (.bool true),.inl (.bool true),.inl (.string (Qb s)),OS 1 9 #[.string (Qb s)],.inl (.agg (ZY (ZZ s)).toArray),.inl ((.slice (some ⟨b,o,none⟩) l8.length c8)),.inl ((.int .i64 (k:Int))),.inl ((.pointer (some ⟨b,o+k*38,none⟩))),.inl ((.pointer (some ⟨b,o+k*38+6,none⟩))),.inl (.agg (ZY (ZZ s)).toArray),.inl (.bool false),.inl (.bool false),.inl ((.slice (some ⟨b,o,none⟩) l8.length c8)),.inl ((.int .i64 (k:Int))),.inl ((.pointer (some ⟨b,o+k*38,none⟩))),.inl ((.pointer (some ⟨b,o+k*38+1,none⟩))),.inl (.int .i64 1),.inl (.bool false),.inl (.bool false),.inl (.bool false),.inl (.bool false),.inl (.int .i64 0),.inl (.bool false),.inl (.bool false),.inl (undef),.inl (undef),.inl (undef),.inl (undef),.inl (undef),.inl (undef),.inl (.bool false),.inl (.bool false)] (by kernel_rfl) (by kernel_rfl) rfl (λus=>?_);simp only[Yh,Yt,YB,Yu]
      iterate 4
       refine xW (λw' hx hd=>?_) ?_
       ·go_wp2_with fail;exact Qf _
       simp only[S_]
      refine xR (λw' hx hd=>?_) ?_
      ·go_wp2_with fail;exact⟨(Qf w').alloc _,_,rfl,QA _ _ _⟩
      simp only[S_];refine xW (λw' hx hd=>?_) ?_
      ·have h4:=hd 4 (by simp);clear hd;generalize us 4=u4 at *;obtain⟨g4,rfl,bg4⟩:=h4;have pV:=Qa (uY.o.ext hx);have gJ:=Qa bg4;clear bg4;go_wp2_with (go_at_call 26;refine(SA.o _ _ gJ.o pV.o).mono ?_;rintro e w2 ⟨rfl,x2⟩)
       all_goals rfl
      simp only[S_]
      iterate 4
       refine xW (λw' hx hd=>?_) ?_
       ·go_wp2_with fail;exact Qf _
       simp only[S_]
      refine xW (λw' hx hd=>?_) ?_
      ·have c3:=qW.o w' hx;clear hd;go_wp2_with (refine Fg (.tmp 52) b (o+k*38+6) (ZZ s) c3 rfl rfl rfl ?_)
       exact Qf _
      simp only[S_];refine xW (λw' hx hd=>?_) ?_
      ·clear hd;go_wp2_with (refine Dq (.tmp 48) (.tmp 53) (ZZ s) rfl rfl rfl rfl ?_)
       exact Qf _
      simp only[S_]
      iterate 5
       refine xW (λw' hx hd=>?_) ?_
       ·go_wp2_with fail;exact Qf _
       simp only[S_]
      refine xW (λw' hx hd=>?_) ?_
      ·have c0:=Pt.o w' hx;go_wp2_with fail;exact Qf _
      simp only[S_]
      iterate 15
       refine xW (λw' hx hd=>?_) ?_
       ·go_wp2_with fail;exact Qf _
       simp only[S_]
      rw[K0];intro wz hx hv;clear hv;generalize us 4=u4 at *;rw[wpList];go_wp2_with fail;go_roundw;case rel=>exact⟨k+1,Qo,by go_num,xk.trans (Tc.trans hx)⟩
      case measure=>simp[intOf];omega
     ·have Fu:=hF.2 hf;have Pt:=Qa (λ(w':World) (x:Ext wz w')=>(xk.trans (Tc.trans x)).keep c2);have nM:(f==0)=false:=by rw[ai];exact hf
      have sX:(f != 0)=true:=by simpa using hf
      have Y9:(kd==1)=false:=by rw[ai];exact Fu
      clear hF c2 c3 SA uY;go_upto_region 11 with fail;refine QP 33 [[],[0],[1],[2],[2,3],[2,4],[2],[2],[2,6,7],[2,8],[2,9],[2,5,10],[2,11],[12],[12],[12,13,14],[12,15],[12,16],[12,17],[2,12,18],[2,19],[20],[21],[21,22],[21,23],[24],[24],[24,25,26],[24,27],[24,28],[24,29],[21,24,30],[21,31]] [.int .i64 f,.bool false,.bool false,undef,undef,undef,undef,undef,undef,undef,undef,undef,undef,undef,undef,undef,undef,undef,undef,undef,.bool false,.bool false,.int .i64 f,.bool true,.bool true,(.slice (some ⟨b,o,none⟩) l8.length c8),(.int .i64 (k:Int)),(.pointer (some ⟨b,o+k*38,none⟩)),(.pointer (some ⟨b,o+k*38+1,none⟩)),.int .i64 kd,.bool false,.bool false,.bool false] (by kernel_rfl) (by kernel_rfl) rfl ?_;simp only[Yh,Yt,YB,Yu]
      iterate 33
       refine vW (λw' hx=>?_) ?_
       ·have c0:=Pt.o w' hx;go_wp2_with fail;exact Qf _
       simp only[S_]
      rw[Zq];intro wz hx;rw[wpList];go_wp2_with fail;go_roundw;case rel=>exact⟨k+1,Qo,by go_num,xk.trans (Tc.trans hx)⟩
      case measure=>simp[intOf];omega
    ·have Vf:¬(k:Int)<(l8.length:Int):=by omega
     go_wp2_with (go_at_call 10;refine(HA.o _).mono ?_;rintro e w9 ⟨rfl,x9⟩)
     go_ret;exact⟨rfl,X8.o.trans (xk.trans x9)⟩
end Go.Proofs.YtfaplefkakpgcaaGreatDoor
