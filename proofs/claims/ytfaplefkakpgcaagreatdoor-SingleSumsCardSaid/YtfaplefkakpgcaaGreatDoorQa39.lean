import Derived.Test.YtfaplefkakpgcaaGreatDoorQa38
import Derived.Deep.DeepCutAuto
set_option linter.unusedVariables false
set_option linter.unusedSimpArgs false
set_option maxHeartbeats 32000000
set_option maxRecDepth 100000
namespace Go.Proofs.YtfaplefkakpgcaaGreatDoor
open Go.Proofs.Tryz
open Go.RowKit
def Up (V:Nat->BitVec 32) (a:Nat) (x:BitVec 32):Nat->BitVec 32:=λj=>if j=a then x else V j
def Js (n:Nat) (V:Nat->BitVec 32):Array Value:=((List.range n).map λi=>.int .u32 ((V i).toNat:Int)).toArray
theorem J9 (n:Nat) (V:Nat->BitVec 32):(Js n V).size=n:=by simp[Js]
theorem Y0 {n:Nat}{V:Nat->BitVec 32}{i:Nat}(h:i<n):(Js n V)[i]? =some (.int .u32 ((V i).toNat:Int)):=by
 simp[Js,h]
theorem aO {n:Nat}{V:Nat->BitVec 32}{i:Nat}(x:BitVec 32):(Js n V).setIfInBounds i (.int .u32 (x.toNat:Int))=Js n (Up V i x):=by
 apply Array.ext_getElem?;intro j;by_cases hj:j<n
 ·rw[Y0 hj,Array.getElem?_setIfInBounds];by_cases e:i=j
  ·subst e;simp[Up,J9,hj]
  ·rw[Qr e,Y0 hj];simp[Up,Fq e]
 ·rw[Array.getElem?_eq_none (by simp[J9];omega),Array.getElem?_eq_none (by rw[J9];omega)]
theorem Qs {w:World}{g n:Nat}{t:TypeId}{V:Nat->BitVec 32}(h:Box w g t (Js n V)) {i:Nat}(hi:i<n):w.cell? ⟨g,i,none⟩=some (.int .u32 ((V i).toNat:Int)):=(h.cell i).trans (Y0 hi)
theorem ZH {w:World}{g n:Nat}{t:TypeId}{V:Nat->BitVec 32}(h:Box w g t (Js n V)) (i:Nat) (x:BitVec 32):Box (w.setCell ⟨g,i,none⟩ (.int .u32 (x.toNat:Int))) g t (Js n (Up V i x)):=by
 rw[←aO];exact h.set i _
def VK (V:Nat->BitVec 32) (a b c d:Nat) (x y:BitVec 32):Nat->BitVec 32 :=
 let V:=Up V a (V a+(V b+x))
 let V:=Up V d (Yq 16 (V d ^^^ V a))
 let V:=Up V c (V c+V d)
 let V:=Up V b (Yq 12 (V b ^^^ V c))
 let V:=Up V a (V a+(V b+y))
 let V:=Up V d (Yq 8 (V d ^^^ V a))
 let V:=Up V c (V c+V d)
 Up V b (Yq 7 (V b ^^^ V c))
theorem XV (V0:Nat->BitVec 32) (g a b c d:Nat) (t:TypeId) (x y:BitVec 32) (w0:World) (h0:Box w0 g t (Js 16 V0)) (ha:a<16) (hb:b<16) (hc:c<16) (hd:d<16) :
  Calls prog 188 #[.pointer (some ⟨g,0,none⟩),.int .i64 (a:Int),.int .i64 (b:Int),.int .i64 (c:Int),.int .i64 (d:Int),.int .u32 (x.toNat:Int),.int .u32 (y.toNat:Int)] w0 λe w'=>e=.returned (.tuple #[])/\Box w' g t (Js 16 (VK V0 a b c d x y))/\w0.grownBy w' (some g):=by
 have hai:(a:Int)<16:=by omega
 have ax:(b:Int)<16:=by omega
 have nH:(c:Int)<16:=by omega
 have DZ:(d:Int)<16:=by omega
 have g0:w0.grownBy w0 (some g):=Z0 w0 _;have GO:Zv (∀Z,Z=VK V0 a b c d x y->Box w0 g t (Js 16 Z)->True):=Qa (λ_ _ _=>trivial);clear GO;go_enter func188,ntmps188;have ka:∀z:Qg w0,z.now.cell? ⟨g,a,none⟩=some (.int .u32 ((V0 a).toNat:Int)):=λz=>Qs (h0.ext z.ext) ha;have kb:∀z:Qg w0,z.now.cell? ⟨g,b,none⟩=some (.int .u32 ((V0 b).toNat:Int)):=λz=>Qs (h0.ext z.ext) hb;go_upto_region 0 with fail;try simp only[Act.put]
 refine Qc 15 (by kernel_rfl) (by kernel_rfl) ?_;simp only[Yh,Yt,YB,Yu];repeat (go_big_quiet_step (fail))
 refine Y7 ?_;rintro z0 ⟨x0,rfl⟩;have dG:=h0.ext x0.ext;have f0:=dG.frozen a;have i0:=Qs dG ha;have e0:=ZH dG a (V0 a+(V0 b+x));have g1:=Jw (i:=a) (Qm g0 x0.ext) (.int .u32 ((V0 a+(V0 b+x)).toNat:Int));go_upto_region 1 with fail;rw[mZ (V0 a) (V0 b) x];generalize Xo:x0.now.setCell _ _=w1 at *;generalize hV1:Up V0 a _=V1 at *;have h1:Box w1 g t (Js 16 V1):=e0;clear ka kb f0 i0 e0 dG g0 h0;clear Xo x0;have MT:=Qa hV1;clear hV1;have kd:∀z:Qg w1,z.now.cell? ⟨g,d,none⟩=some (.int .u32 ((V1 d).toNat:Int)):=λz=>Qs (h1.ext z.ext) hd;have ka:∀z:Qg w1,z.now.cell? ⟨g,a,none⟩=some (.int .u32 ((V1 a).toNat:Int)):=λz=>Qs (h1.ext z.ext) ha;go_upto_region 1 with fail;try simp only[Act.put]
 refine Qc 16 (by kernel_rfl) (by kernel_rfl) ?_;simp only[Yh,Yt,YB,Yu];repeat (go_big_quiet_step (with_reducible exact Jq (eJ _ _ _)))
 refine Y7 ?_;rintro z1 ⟨x1,rfl⟩;have ZS:=h1.ext x1.ext;have f1:=ZS.frozen d;have i1:=Qs ZS hd;have e1:=ZH ZS d (Yq 16 (V1 d ^^^ V1 a));have g2:=Jw (i:=d) (Qm g1 x1.ext) (.int .u32 ((Yq 16 (V1 d ^^^ V1 a)).toNat:Int));go_upto_region 2 with fail

 generalize hw2:x1.now.setCell _ _=w2 at *;generalize hV2:Up V1 d _=V2 at *;have h2:Box w2 g t (Js 16 V2):=e1;clear kd ka f1 i1 e1 ZS g1 h1;clear hw2 x1;have SB:=Qa hV2;clear hV2;have kc:∀z:Qg w2,z.now.cell? ⟨g,c,none⟩=some (.int .u32 ((V2 c).toNat:Int)):=λz=>Qs (h2.ext z.ext) hc;have kd:∀z:Qg w2,z.now.cell? ⟨g,d,none⟩=some (.int .u32 ((V2 d).toNat:Int)):=λz=>Qs (h2.ext z.ext) hd;go_upto_region 2 with fail;try simp only[Act.put]
 refine Qc 13 (by kernel_rfl) (by kernel_rfl) ?_;simp only[Yh,Yt,YB,Yu];repeat (go_big_quiet_step (fail))
 refine Y7 ?_;rintro z2 ⟨x2,rfl⟩;have Kj:=h2.ext x2.ext;have f2:=Kj.frozen c;have i2:=Qs Kj hc;have e2:=ZH Kj c (V2 c+V2 d);have g3:=Jw (i:=c) (Qm g2 x2.ext) (.int .u32 ((V2 c+V2 d).toNat:Int));go_upto_region 3 with fail;rw[bo (V2 c) (V2 d)];generalize hw3:x2.now.setCell _ _=w3 at *;generalize hV3:Up V2 c _=V3 at *;have h3:Box w3 g t (Js 16 V3):=e2;clear kc kd f2 i2 e2 Kj g2 h2;clear hw3 x2;have lu:=Qa hV3;clear hV3;have kb:∀z:Qg w3,z.now.cell? ⟨g,b,none⟩=some (.int .u32 ((V3 b).toNat:Int)):=λz=>Qs (h3.ext z.ext) hb;have kc:∀z:Qg w3,z.now.cell? ⟨g,c,none⟩=some (.int .u32 ((V3 c).toNat:Int)):=λz=>Qs (h3.ext z.ext) hc;go_upto_region 3 with fail;try simp only[Act.put]
 refine Qc 16 (by kernel_rfl) (by kernel_rfl) ?_;simp only[Yh,Yt,YB,Yu];repeat (go_big_quiet_step (with_reducible exact Jq (eI _ _ _)))
 refine Y7 ?_;rintro z3 ⟨x3,rfl⟩;have IJ:=h3.ext x3.ext;have f3:=IJ.frozen b;have i3:=Qs IJ hb;have e3:=ZH IJ b (Yq 12 (V3 b ^^^ V3 c));have g4:=Jw (i:=b) (Qm g3 x3.ext) (.int .u32 ((Yq 12 (V3 b ^^^ V3 c)).toNat:Int));go_upto_region 4 with fail

 generalize hw4:x3.now.setCell _ _=w4 at *;generalize hV4:Up V3 b _=V4 at *;have h4:Box w4 g t (Js 16 V4):=e3;clear kb kc f3 i3 e3 IJ g3 h3;clear hw4 x3;have HV4:=Qa hV4;clear hV4;have ka:∀z:Qg w4,z.now.cell? ⟨g,a,none⟩=some (.int .u32 ((V4 a).toNat:Int)):=λz=>Qs (h4.ext z.ext) ha;have kb:∀z:Qg w4,z.now.cell? ⟨g,b,none⟩=some (.int .u32 ((V4 b).toNat:Int)):=λz=>Qs (h4.ext z.ext) hb;go_upto_region 4 with fail;try simp only[Act.put]
 refine Qc 15 (by kernel_rfl) (by kernel_rfl) ?_;simp only[Yh,Yt,YB,Yu];repeat (go_big_quiet_step (fail))
 refine Y7 ?_;rintro z4 ⟨x4,rfl⟩;have DW:=h4.ext x4.ext;have f4:=DW.frozen a;have i4:=Qs DW ha;have e4:=ZH DW a (V4 a+(V4 b+y));have g5:=Jw (i:=a) (Qm g4 x4.ext) (.int .u32 ((V4 a+(V4 b+y)).toNat:Int));go_upto_region 5 with fail;rw[mZ (V4 a) (V4 b) y];generalize hw5:x4.now.setCell _ _=w5 at *;generalize hV5:Up V4 a _=V5 at *;have h5:Box w5 g t (Js 16 V5):=e4;clear ka kb f4 i4 e4 DW g4 h4;clear hw5 x4;have rI:=Qa hV5;clear hV5;have kd:∀z:Qg w5,z.now.cell? ⟨g,d,none⟩=some (.int .u32 ((V5 d).toNat:Int)):=λz=>Qs (h5.ext z.ext) hd;have ka:∀z:Qg w5,z.now.cell? ⟨g,a,none⟩=some (.int .u32 ((V5 a).toNat:Int)):=λz=>Qs (h5.ext z.ext) ha;go_upto_region 5 with fail;try simp only[Act.put]
 refine Qc 16 (by kernel_rfl) (by kernel_rfl) ?_;simp only[Yh,Yt,YB,Yu];repeat (go_big_quiet_step (with_reducible exact Jq (jZ _ _ _)))
 refine Y7 ?_;rintro z5 ⟨x5,rfl⟩;have fX:=h5.ext x5.ext;have f5:=fX.frozen d;have i5:=Qs fX hd;have e5:=ZH fX d (Yq 8 (V5 d ^^^ V5 a));have g6:=Jw (i:=d) (Qm g5 x5.ext) (.int .u32 ((Yq 8 (V5 d ^^^ V5 a)).toNat:Int));go_upto_region 6 with fail

 generalize oD:x5.now.setCell _ _=w6 at *;generalize hV6:Up V5 d _=V6 at *;have h6:Box w6 g t (Js 16 V6):=e5;clear kd ka f5 i5 e5 fX g5 h5;clear oD x5;have HV6:=Qa hV6;clear hV6;have kc:∀z:Qg w6,z.now.cell? ⟨g,c,none⟩=some (.int .u32 ((V6 c).toNat:Int)):=λz=>Qs (h6.ext z.ext) hc;have kd:∀z:Qg w6,z.now.cell? ⟨g,d,none⟩=some (.int .u32 ((V6 d).toNat:Int)):=λz=>Qs (h6.ext z.ext) hd;go_upto_region 6 with fail;try simp only[Act.put]
 refine Qc 13 (by kernel_rfl) (by kernel_rfl) ?_;simp only[Yh,Yt,YB,Yu];repeat (go_big_quiet_step (fail))
 refine Y7 ?_;rintro z6 ⟨x6,rfl⟩;have qB:=h6.ext x6.ext;have f6:=qB.frozen c;have i6:=Qs qB hc;have e6:=ZH qB c (V6 c+V6 d);have g7:=Jw (i:=c) (Qm g6 x6.ext) (.int .u32 ((V6 c+V6 d).toNat:Int));go_upto_region 7 with fail;rw[bo (V6 c) (V6 d)];generalize hw7:x6.now.setCell _ _=w7 at *;generalize hV7:Up V6 c _=V7 at *;have h7:Box w7 g t (Js 16 V7):=e6;clear kc kd f6 i6 e6 qB g6 h6;clear hw7 x6;have HV7:=Qa hV7;clear hV7;have kb:∀z:Qg w7,z.now.cell? ⟨g,b,none⟩=some (.int .u32 ((V7 b).toNat:Int)):=λz=>Qs (h7.ext z.ext) hb;have kc:∀z:Qg w7,z.now.cell? ⟨g,c,none⟩=some (.int .u32 ((V7 c).toNat:Int)):=λz=>Qs (h7.ext z.ext) hc;go_upto_region 7 with fail;try simp only[Act.put]
 refine Qc 16 (by kernel_rfl) (by kernel_rfl) ?_;simp only[Yh,Yt,YB,Yu];repeat (go_big_quiet_step (with_reducible exact Jq (jY _ _ _)))
 refine Y7 ?_;rintro z7 ⟨x7,rfl⟩;have sO:=h7.ext x7.ext;have f7:=sO.frozen b;have i7:=Qs sO hb;have e7:=ZH sO b (Yq 7 (V7 b ^^^ V7 c));have g8:=Jw (i:=b) (Qm g7 x7.ext) (.int .u32 ((Yq 7 (V7 b ^^^ V7 c)).toNat:Int));go_wp2_with fail;go_end0;have H:=MT.o;have H2:=SB.o;have H3:=lu.o;have H4:=HV4.o;have H5:=rI.o;have H6:=HV6.o;have H7:=HV7.o
 have HE:Up V7 b (Yq 7 (V7 b ^^^ V7 c))=VK V0 a b c d x y:=by subst H7 H6 H5 H4 H3 H2 H;rfl
 rw[HE]at e7;exact⟨rfl,e7,g8⟩
end Go.Proofs.YtfaplefkakpgcaaGreatDoor
