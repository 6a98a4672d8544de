import Derived.Test.YtfaplefkakpgcaaGreatDoorPl36
import Derived.Test.YtfaplefkakpgcaaGreatDoorPl24
import Derived.Test.YtfaplefkakpgcaaGreatDoorPl30
set_option linter.unusedVariables false
set_option linter.unusedSimpArgs false
set_option maxHeartbeats 32000000
set_option maxRecDepth 100000
namespace Go.Proofs.YtfaplefkakpgcaaGreatDoor
open Go.Proofs.Tryz
open Go.RowKit
abbrev tC (A:Option Addr) (n c:Nat) (b:Bool):Array Value:=#[.slice A n c,.bool b]
theorem Um {A:Option Addr}{n c:Nat}{b:Bool}:(prog.info? 193).map (·.size)=some (tC A n c b).size:=by kernel_rfl
theorem Me (A:Option Addr) (n c:Nat) (b:Bool):(tC A n c b).all (·.oneCell')=true:=by kernel_rfl
section
variable {ops:Array Oper}{rest:List Oper}{o:Oper}{a:Act}{Q:Exit->Act->World->Prop}{w:World}{G:Nat}{A:Option Addr}{n c:Nat}{b:Bool}
theorem XB (x:Operand) (hb:Box w G 193 (tC A n c b)) (hg:o.guard=none) (ho:o.op=.load 193 x) (hx:a.eval x=.pointer (some ⟨G,0,none⟩)) (hK:wpList prog ops Q rest (a.put o.dst (.agg (tC A n c b))) w):wpList prog ops Q (o::rest) a w :=
 J2 _ x hg ho G (tC A n c b) _ _ hx hb underlying193 rfl Um hK
theorem YD (x y:Operand) {old:Array Value}(hb:Box w G 193 old) (hg:o.guard=none) (ho:o.op=.store 193 x y) (hx:a.eval x=.pointer (some ⟨G,0,none⟩)) (hy:a.eval y=.agg (tC A n c b)) (hs:old.size=(tC A n c b).size)
  (hK:∀w',Box w' G 193 (tC A n c b)->w.grownBy w' (some G)->wpList prog ops Q rest (a.put o.dst undef) w'):wpList prog ops Q (o::rest) a w :=
 JU _ x y hg ho G (tC A n c b) _ _ hx hy hb Um hs (Me _ _ _ _) hK
end
def KU (w:World) (L:List (List UInt8)) (b:Bool) (v:Value):Prop:=∃A n c,v=.agg (tC A n c b)/\TRow w A n L/\n<=c
theorem KU.ext {w w':World}{L:List (List UInt8)}{b:Bool}{v:Value}(h:KU w L b v) (x:Ext w w'):KU w' L b v:=by
 obtain⟨A,n,c,h1,h2,h3⟩:=h;exact⟨A,n,c,h1,h2.ext x,h3⟩
theorem Qw {w w':World}{g:Nat}(h:w.grownBy w' (some g)):But g w w':=⟨h.os,h.tape,h.output,h.size,λk hk Jt=>h.block k hk (λe=>Jt (by injection e))⟩
theorem kB (m:Nat):madeCells #[.int .u8 0] m=J8 (zs m):=by
 apply tA.1;rw[toList_madeCells_one];simp[J8,zs]
theorem kC (m:Nat) (hm:m<=1000) (w:World):(Instr.makeSlice 167 (.int .i64 (m:Int)) (.int .i64 (m:Int))).run prog w=.ok (.slice (some ⟨w.heap.size,0,none⟩) m m) (w.alloc (.cells (J8 (zs m)) 5)):=by
 rw[←kB];exact run_make_row' 167 5 (.int .u8 0) 1 underlying167 Wj rfl .i64 .i64 m (by omega) (by omega) w
def Kt (z:Nat) (s:List UInt8):List UInt8:=if s.length=z then s else zs z
def Zj (w0 w:World) (L:List (List UInt8)) (b:Bool) (u:Value) (e:Ending) (w':World):Prop:=(∃v,e=.returned (.tuple #[v,u])/\KU w0 L b v)/\Ext w w'
theorem TRow.tailS {w:World}{g o n:Nat}{s:List UInt8}{L:List (List UInt8)}(h:TRow w (some ⟨g,o,none⟩) n (s::L)):TRow w (some ⟨g,o+1,none⟩) (n-1) L:=by
 obtain⟨h1,h2⟩:=h;refine⟨by rw[h1];rfl,λhn=>?_⟩;obtain⟨b,o2,cur,fz,e,hb,hc⟩:=h2 (by omega);injection e with e;injection e with e1 e2;subst e1 e2;refine⟨g,o+1,cur,fz,rfl,hb,λk hk=>?_⟩;have:=hc (k+1) (by simpa using hk);rw[show o+(k+1)=o+1+k by omega]at this;simpa using this
theorem ZM (L:List (List UInt8)) (b:Bool) (v:Value) (w0 w:World) (h:KU w0 L b v) (x:Ext w0 w) :
  Calls prog 136 #[v] w (Zj w0 w L.tail (b||L.isEmpty) (.string (Qb (L.headD [])))):=by
 obtain⟨A,n,c,rfl,h1,h2⟩:=h;have x0:=((Qg w).alloc (.cells (tC A n c b) 193)).alloc (.cells (tC none 0 0 false) 193);have b0:=(Qs w 193 (tC A n c b)).ext ((Qg _).alloc (.cells (tC none 0 0 false) 193));have b1:=Qs (w.alloc (.cells (tC A n c b) 193)) 193 (tC none 0 0 false);rw[YB]at b1;have h3:=h1.strs.ext (x.trans x0);have H1:=Qa h1;clear h1 x;go_enter func136,ntmps136;go_upto_region 1 with fail;generalize (w.alloc (.cells (tC A n c b) 193)).alloc (.cells (tC none 0 0 false) 193)=w1 at *;obtain⟨G,hG⟩:∃G,G=w.heap.size:=⟨_,rfl⟩
 rw[←hG]at b0 b1 ⊢;have HG:=Qa hG;clear hG;have c0:w1.cell? ⟨G,0,none⟩=some (.slice A n c):=b0.cell 0;have q1:w1.cell? ⟨G,1,none⟩=some (.bool b):=b0.cell 1;have f0:w1.frozen? ⟨G,0,none⟩=false:=b0.frozen 0;have f1:w1.frozen? ⟨G,1,none⟩=false:=b0.frozen 1;cases L with
 | nil =>
  obtain rfl:n=0:=h3.1;go_upto_region 3 with fail;have d0:Box (w1.setCell ⟨G,1,none⟩ (.bool true)) G 193 (tC A 0 c true):=b0.set 1 (.bool true);have hk:But G w1 (w1.setCell ⟨G,1,none⟩ (.bool true)):=(But.refl G w1).setCell 1 _;have d1:=hk.box b1 (by omega);have x2:=hk.past x0 (by rw[HG.o];exact Q4 _);generalize w1.setCell ⟨G,1,none⟩ (.bool true)=w2 at *;clear c0 q1 f0 f1 hk b0 b1 x0 h3
  go_wp2_with (first
   | (refine XB _ d0 rfl rfl rfl ?_)
   | (refine YD _ _ d1 rfl rfl rfl rfl rfl ?_;intro w3 b3 g3))
  refine Jv (Qd rfl _ _ (G+1) _ _ _ _ rfl rfl b3 underlying193 rfl Um) rfl ⟨⟨_,by rw[List.isEmpty_nil,mV];rfl,A,0,c,rfl,⟨rfl,λh=>absurd h (by decide)⟩,WP _⟩,x2.grown g3 (λj e=>by cases e;rw[←HG.o];exact WQ _)⟩
 | cons s L =>
  obtain⟨g,o,rfl,h5⟩:=h3.2 (by rw[h3.1];simp);have c1:w1.cell? ⟨g,o,none⟩=some (.string (Qb s)):=by have:=h5 0 (by simp);simpa using this
  have HT:=Qa H1.o.tailS;have hn:n=L.length+1:=h3.1;subst hn;have HK:Zm (∀A' n' c',Box (w1.setCell ⟨G,0,none⟩ (.slice A' n' c')) G 193 (tC A' n' c' b)/\But G w1 (w1.setCell ⟨G,0,none⟩ (.slice A' n' c'))):=Qa (λA' n' c'=>⟨b0.set 0 _,(But.refl G w1).setCell 0 _⟩);have ro:=Qa b1;have HB0:=Qa b0;clear h5 b0 b1 f1 q1 h3;by_cases hc:c=1
  ·subst hc;have hL:L=[]:=bM (by omega);subst hL;go_upto_region 6 with fail;obtain⟨d0,hk⟩:=HK.o (some ⟨g,o,none⟩) 0 0;have d1:=hk.box ro.o (by omega);have x2:=hk.past x0 (by rw[HG.o];exact Q4 _);generalize w1.setCell ⟨G,0,none⟩ (.slice (some ⟨g,o,none⟩) 0 0)=w2 at *;clear c0 c1 f0 hk x0 HK HB0 ro
   go_wp2_with (first
    | (refine XB _ d0 rfl rfl rfl ?_)
    | (refine YD _ _ d1 rfl rfl rfl rfl rfl ?_;intro w3 b3 g3))
   have x3:=x2.grown g3 (λj e=>by cases e;rw[←HG.o];exact WQ _);refine Jv (Qd rfl _ _ (G+1) _ _ _ _ rfl rfl b3 underlying193 rfl Um) rfl ⟨⟨_,by rw[List.isEmpty_cons,Bool.or_false];rfl,_,_,_,rfl,⟨rfl,λh=>absurd h (by simp)⟩,Q4 _⟩,x3⟩
  ·have UB:¬(c:Int)-1=0:=by omega
   have Lk:¬c-1=0:=by omega
   go_upto_region 6 with fail;obtain⟨d0,hk⟩:=HK.o (some ⟨g,o+1,none⟩) L.length (c-1);have d1:=hk.box ro.o (by omega);have x2:=hk.past x0 (by rw[HG.o];exact Q4 _);generalize w1.setCell ⟨G,0,none⟩ (.slice (some ⟨g,o+1,none⟩) L.length (c-1))=w2 at *;clear c0 c1 f0 hk x0 HK HB0 ro
   go_wp2_with (first
    | (refine XB _ d0 rfl rfl rfl ?_)
    | (refine YD _ _ d1 rfl rfl rfl rfl rfl ?_;intro w3 b3 g3))
   have x3:=x2.grown g3 (λj e=>by cases e;rw[←HG.o];exact WQ _);refine Jv (Qd rfl _ _ (G+1) _ _ _ _ rfl rfl b3 underlying193 rfl Um) rfl ⟨⟨_,by rw[List.isEmpty_cons,Bool.or_false];rfl,_,_,_,rfl,HT.o,by omega⟩,x3⟩
theorem Ul (s:List UInt8) (z:Option Nat) (w:World) (hs:s.length<=1000000000) (hz:∀n,z=some n->n<=1000) :
  Calls prog 135 #[.string (Qb s),.int .i64 (zI z)] w λe w'=>(∃v,e=.returned v/\KU w' ((Ql z s).getD []) (Ql z s).isNone v)/\Ext w w':=by
 have HT:=Qa (λw=>(IQ s w hs).mono (λe w' ⟨u,h1,h2,h3⟩=>by
  obtain⟨A,c,rfl,ht,hc⟩:=Bh h3;exact(⟨A,c,h1,h2,ht,hc⟩:∃A c,e=.returned (.tuple #[.slice A (Qv s).1.length c,.int .i64 (Qv s).2])/\Ext w w'/\TRow w' A (Qv s).1.length (Qv s).1/\(Qv s).1.length<=c)))
 have hl:=(YL s).1;have x0:=(Qg w).alloc (.cells (tC none 0 0 false) 193);have b0:=Qs w 193 (tC none 0 0 false);go_enter func135,ntmps135;go_upto_region 1 with fail;generalize w.alloc (.cells (tC none 0 0 false) 193)=w1 at *;obtain⟨G,hG⟩:∃G,G=w.heap.size:=⟨_,rfl⟩
 rw[←hG]at b0 ⊢;have HG:=Qa hG;clear hG;have od:=b0.lt;by_cases he:(Qv s).2=0
 ·have hb:((Qv s).2 != 0)=false:=by simp[he]
  rw[he]at HT;cases z with
  | none =>
   have nK:=Qa (show Ql none s=some (Qv s).1 from QN ⟨he,λn h=>by cases h⟩);clear he hz hb;unfold zI;generalize (Qv s).1=T at *
   go_wp2_with (first
    | (go_at_call 195;refine(HT.o _).mono ?_;rintro e w2 ⟨A,c,rfl,x2,s2,k2⟩)
    | (refine YD _ _ (b0.ext x2) rfl rfl rfl rfl rfl ?_;intro w3 b3 g3))
   have x3:=(x0.trans x2).grown g3 (λj e=>by cases e;rw[←HG.o];exact Q4 _);have s3:=(s2.but (Qw g3) (b0.ext x2) (by decide))
   refine Jv (QQ rfl _ _ G _ _ _ rfl b3 underlying193 rfl Um) rfl ⟨⟨_,rfl,?_⟩,x3⟩;rw[nK.o];exact⟨A,T.length,c,rfl,s3,k2⟩
  | some k =>
   have hk:=hz k rfl;have AE:(0:Int)<=k:=by omega
   unfold zI;by_cases Rn:(Qv s).1.length=k
   ·have nK:=Qa (show Ql (some k) s=some (Qv s).1 from QN ⟨he,λn h=>by cases h;exact Rn⟩);have hq:(((Qv s).1.length:Int) != (k:Int))=false:=by rw[Rn];simp
    clear he hz hb Rn;generalize (Qv s).1=T at *
    go_wp2_with (first
     | (go_at_call 195;refine(HT.o _).mono ?_;rintro e w2 ⟨A,c,rfl,x2,s2,k2⟩)
     | (refine YD _ _ (b0.ext x2) rfl rfl rfl rfl rfl ?_;intro w3 b3 g3))
    have x3:=(x0.trans x2).grown g3 (λj e=>by cases e;rw[←HG.o];exact Q4 _);have s3:=(s2.but (Qw g3) (b0.ext x2) (by decide))
    refine Jv (QQ rfl _ _ G _ _ _ rfl b3 underlying193 rfl Um) rfl ⟨⟨_,rfl,?_⟩,x3⟩;rw[nK.o];exact⟨A,T.length,c,rfl,s3,k2⟩
   ·have nK:=Qa (show Ql (some k) s=none from QD (λh=>Rn (h.2 k rfl)));have hq:(((Qv s).1.length:Int) != (k:Int))=true:=by simp;omega
    clear he hz hb Rn;generalize (Qv s).1=T at *
    go_wp2_with (first
     | (go_at_call 195;refine(HT.o _).mono ?_;rintro e w2 ⟨A,c,rfl,x2,s2,k2⟩)
     | (refine YD _ _ (b0.ext x2) rfl rfl rfl rfl rfl ?_;intro w3 b3 g3))
    have x3:=(x0.trans x2).grown g3 (λj e=>by cases e;rw[←HG.o];exact Q4 _);refine Jv (QQ rfl _ _ G _ _ _ rfl b3 underlying193 rfl Um) rfl ⟨⟨_,rfl,?_⟩,x3⟩;rw[nK.o];exact⟨none,0,0,rfl,⟨rfl,λh=>absurd h (by simp)⟩,Q4 _⟩
 ·have nK:=Qa (show Ql z s=none from QD (λh=>he h.1));have hb:((Qv s).2 != 0)=true:=by simpa using he
  clear he hz;generalize (Qv s).2=er at *;generalize (Qv s).1=T at *
  go_wp2_with (first
   | (go_at_call 195;refine(HT.o _).mono ?_;rintro e w2 ⟨A,c,rfl,x2,s2,k2⟩)
   | (refine YD _ _ (b0.ext x2) rfl rfl rfl rfl rfl ?_;intro w3 b3 g3))
  have x3:=(x0.trans x2).grown g3 (λj e=>by cases e;rw[←HG.o];exact Q4 _);refine Jv (QQ rfl _ _ G _ _ _ rfl b3 underlying193 rfl Um) rfl ⟨⟨_,rfl,?_⟩,x3⟩;rw[nK.o];exact⟨none,0,0,rfl,⟨rfl,λh=>absurd h (by simp)⟩,Q4 _⟩
theorem Za (L:List (List UInt8)) (b:Bool) (v:Value) (w0 w:World) (h:KU w0 L b v) (x:Ext w0 w) (hL:∀s∈L,s.length<=1000000000) :
  Calls prog 138 #[v] w (Zj w0 w L.tail (b||(QZ (L.headD [])).isNone) (.int .i64 ((QZ (L.headD [])).getD 0))):=by
 have DT:=Qa (λw h=>ZM L b v w0 w h);have HH:=Qa h;obtain⟨hd,K7⟩:∃hd,hd=L.headD []:=⟨_,rfl⟩
 obtain⟨be,hbe⟩:∃be,be=(b||L.isEmpty):=⟨_,rfl⟩
 have hLh:hd.length<=1000000000:=by
  rw[K7];cases L with
  | nil=>simp
  | cons s L=>exact hL s Gq
 have HI:=Qa (λw=>lL hd w hLh);have HE:=Qa (show be=true->(b||(QZ hd).isNone)=true fromλh=>by
  rw[hbe]at h;cases b with
  | true=>rfl
  | false =>
   cases L with
   | nil=>rw[K7];decide +kernel
   | cons s L=>simp at h)
 have HF:=Qa (show be=false->b=false fromλh=>by rw[hbe]at h;cases b<;>simp_all);clear hL hLh;rw[←K7,←hbe]at DT;rw[←K7];have nF:=Qa K7;have HBE:=Qa hbe;clear K7 hbe;obtain⟨A,n,c,rfl,h1,h2⟩:=h;have x0:=((Qg w).alloc (.cells (tC A n c b) 193)).alloc (.cells (tC none 0 0 false) 193);have b0:=(Qs w 193 (tC A n c b)).ext ((Qg _).alloc (.cells (tC none 0 0 false) 193));have b1:=Qs (w.alloc (.cells (tC A n c b) 193)) 193 (tC none 0 0 false);rw[YB]at b1;clear h1 h2;go_enter func138,ntmps138;go_upto_region 1 with fail;generalize (w.alloc (.cells (tC A n c b) 193)).alloc (.cells (tC none 0 0 false) 193)=w1 at *;obtain⟨G,hG⟩:∃G,G=w.heap.size:=⟨_,rfl⟩
 rw[←hG]at b0 b1 ⊢;have HG:=Qa hG;clear hG;have od:=b1.lt
 go_upto_region 2 with(first
  | (refine XB _ b0 rfl rfl rfl ?_)
  | (go_at_call 136;refine(DT.o _ HH.o (x.trans x0)).mono ?_;rintro e w2 ⟨⟨v2,rfl,A2,n2,c2,rfl,s2,k2⟩,x2⟩)
  | (refine YD _ _ (b0.ext x2) rfl rfl rfl rfl rfl ?_;intro w3 b3 g3))
 have hk:=Qw g3;have d1:=hk.box (b1.ext x2) (by omega);have x3:=hk.past (x0.trans x2) (by rw[HG.o];exact Q4 _);have Xc:=Qa s2;have Tr:=Qa k2;clear DT HH b0 b1 x0 x2 g3 hk s2 k2 x od;cases hp:QZ hd with
 | none =>
  have sC:=Qa (λw=>(HI.o w).mono (λe w' h=>(⟨h.1.trans (by unfold Kr;rw[hp];rfl),h.2⟩:e=.returned (.tuple #[.int .i64 0,.bool false])/\Ext w w')));have HP:=Qa hp;clear hp HI HE HF;go_upto_region 3 with(go_at_call 196;refine(sC.o _).mono ?_;rintro e w5 ⟨rfl,x5⟩)
  replace b3:=b3.ext x5;replace d1:=d1.ext x5;replace x3:=x3.trans x5;have q1:w5.cell? ⟨G,1,none⟩=some (.bool be):=b3.cell 1;have f1:w5.frozen? ⟨G,1,none⟩=false:=b3.frozen 1;go_upto_region 5 with fail;have b4:Box (w5.setCell ⟨G,1,none⟩ (.bool true)) G 193 (tC A2 n2 c2 true):=b3.set 1 (.bool true);have AB:But G w5 (w5.setCell ⟨G,1,none⟩ (.bool true)):=(But.refl G w5).setCell 1 _;have d4:=AB.box d1 (by omega);have x4:=AB.past x3 (by rw[HG.o];exact Q4 _);generalize w5.setCell ⟨G,1,none⟩ (.bool true)=w4 at *;clear q1 f1 AB b3 d1 x3
  go_wp2_with (first
   | (refine XB _ b4 rfl rfl rfl ?_)
   | (refine YD _ _ d4 rfl rfl rfl rfl rfl ?_;intro w9 b9 g9))
  refine Jv (Qd rfl _ _ (G+1) _ _ _ _ rfl rfl b9 underlying193 rfl Um) rfl ⟨⟨_,?_,A2,n2,c2,rfl,Xc.o,Tr.o⟩,x4.grown g9 (λj e=>by cases e;rw[←HG.o];exact WQ _)⟩;rw[show(b||(QZ hd).isNone)=true by rw[HP.o,Option.isNone_none,mV],HP.o];rfl
 | some k =>
  have sC:=Qa (λw=>(HI.o w).mono (λe w' h=>(⟨h.1.trans (by unfold Kr;rw[hp];rfl),h.2⟩:e=.returned (.tuple #[.int .i64 k,.bool true])/\Ext w w')));have E6:(b||(QZ hd).isNone)=be:=by
   rw[hp];cases he:be with
   | false=>rw[HF.o he];rfl
   | true=>have:=HE.o he;rw[hp]at this;exact this
  have au:=Qa E6;have HP:=Qa hp;clear hp HI HE HF E6;go_upto_region 3 with(go_at_call 196;refine(sC.o _).mono ?_;rintro e w5 ⟨rfl,x5⟩)
  have b4:=b3.ext x5;have d4:=d1.ext x5;have x4:=x3.trans x5;clear b3 d1 x3
  go_wp2_with (first
   | (refine XB _ b4 rfl rfl rfl ?_)
   | (refine YD _ _ d4 rfl rfl rfl rfl rfl ?_;intro w9 b9 g9))
  refine Jv (Qd rfl _ _ (G+1) _ _ _ _ rfl rfl b9 underlying193 rfl Um) rfl ⟨⟨_,?_,A2,n2,c2,rfl,Xc.o,Tr.o⟩,x4.grown g9 (λj e=>by cases e;rw[←HG.o];exact WQ _)⟩;rw[au.o,HP.o];rfl
theorem El (L:List (List UInt8)) (b:Bool) (v:Value) (w0 w:World) (h:KU w0 L b v) (x:Ext w0 w) :
  Calls prog 139 #[v] w (Zj w0 w L.tail (b||(ZH (L.headD [])).isNone) (.bool ((ZH (L.headD [])).getD false))):=by
 have DT:=Qa (λw h=>ZM L b v w0 w h);have HH:=Qa h;obtain⟨hd,K7⟩:∃hd,hd=L.headD []:=⟨_,rfl⟩
 obtain⟨be,hbe⟩:∃be,be=(b||L.isEmpty):=⟨_,rfl⟩
 have HE:=Qa (show be=true->(b||(ZH hd).isNone)=true fromλh=>by
  rw[hbe]at h;cases b with
  | true=>rfl
  | false =>
   cases L with
   | nil=>rw[K7];decide +kernel
   | cons s L=>simp at h)
 have HF:=Qa (show be=false->b=false fromλh=>by rw[hbe]at h;cases b<;>simp_all);rw[←K7,←hbe]at DT;rw[←K7];have nF:=Qa K7;have HBE:=Qa hbe;clear K7 hbe;obtain⟨A,n,c,rfl,h1,h2⟩:=h;have x0:=((Qg w).alloc (.cells (tC A n c b) 193)).alloc (.cells (tC none 0 0 false) 193);have b0:=(Qs w 193 (tC A n c b)).ext ((Qg _).alloc (.cells (tC none 0 0 false) 193));have b1:=Qs (w.alloc (.cells (tC A n c b) 193)) 193 (tC none 0 0 false);rw[YB]at b1;clear h1 h2;go_enter func139,ntmps139;go_upto_region 1 with fail;generalize (w.alloc (.cells (tC A n c b) 193)).alloc (.cells (tC none 0 0 false) 193)=w1 at *;obtain⟨G,hG⟩:∃G,G=w.heap.size:=⟨_,rfl⟩
 rw[←hG]at b0 b1 ⊢;have HG:=Qa hG;clear hG;have od:=b1.lt
 go_upto_region 2 with(first
  | (refine XB _ b0 rfl rfl rfl ?_)
  | (go_at_call 136;refine(DT.o _ HH.o (x.trans x0)).mono ?_;rintro e w2 ⟨⟨v2,rfl,A2,n2,c2,rfl,s2,k2⟩,x2⟩)
  | (refine YD _ _ (b0.ext x2) rfl rfl rfl rfl rfl ?_;intro w3 b3 g3))
 have hk:=Qw g3;have d1:=hk.box (b1.ext x2) (by omega);have x3:=hk.past (x0.trans x2) (by rw[HG.o];exact Q4 _);have Xc:=Qa s2;have Tr:=Qa k2;clear DT HH b0 b1 x0 x2 g3 hk s2 k2 x od;by_cases FI:hd=[48]
 ·have hP:ZH hd=some false:=by rw[FI];rfl
  have e1:((Qb hd).toList==[48])=true:=by rw[Qe,FI];rfl
  have e2:((Qb hd).toList==[49])=false:=by rw[Qe,FI];rfl
  have HP:=Qa hP;have E6:(b||(ZH hd).isNone)=be:=by
   rw[hP];cases he:be with
   | false=>rw[HF.o he];rfl
   | true=>have:=HE.o he;rw[hP]at this;exact this
  have au:=Qa E6;have b4:=b3;have d4:=d1;have x4:=x3;clear FI hP HE HF E6 b3 d1 x3
  go_wp2_with (first
   | (refine XB _ b4 rfl rfl rfl ?_)
   | (refine YD _ _ d4 rfl rfl rfl rfl rfl ?_;intro w9 b9 g9))
  refine Jv (Qd rfl _ _ (G+1) _ _ _ _ rfl rfl b9 underlying193 rfl Um) rfl ⟨⟨_,?_,A2,n2,c2,rfl,Xc.o,Tr.o⟩,x4.grown g9 (λj e=>by cases e;rw[←HG.o];exact WQ _)⟩;rw[au.o,HP.o];rfl
 by_cases h49:hd=[49]
 ·have hP:ZH hd=some true:=by rw[h49];rfl
  have e1:((Qb hd).toList==[48])=false:=by rw[Qe,h49];rfl
  have e2:((Qb hd).toList==[49])=true:=by rw[Qe,h49];rfl
  have HP:=Qa hP;have E6:(b||(ZH hd).isNone)=be:=by
   rw[hP];cases he:be with
   | false=>rw[HF.o he];rfl
   | true=>have:=HE.o he;rw[hP]at this;exact this
  have au:=Qa E6;have b4:=b3;have d4:=d1;have x4:=x3;clear FI h49 hP HE HF E6 b3 d1 x3
  go_wp2_with (first
   | (refine XB _ b4 rfl rfl rfl ?_)
   | (refine YD _ _ d4 rfl rfl rfl rfl rfl ?_;intro w9 b9 g9))
  refine Jv (Qd rfl _ _ (G+1) _ _ _ _ rfl rfl b9 underlying193 rfl Um) rfl ⟨⟨_,?_,A2,n2,c2,rfl,Xc.o,Tr.o⟩,x4.grown g9 (λj e=>by cases e;rw[←HG.o];exact WQ _)⟩;rw[au.o,HP.o];rfl
 ·have hP:ZH hd=none:=by unfold ZH;rw[QD h49,QD FI]
  have e1:((Qb hd).toList==[48])=false:=by rw[Qe];simpa using FI
  have e2:((Qb hd).toList==[49])=false:=by rw[Qe];simpa using h49
  have HP:=Qa hP;clear FI h49 hP HE HF;have q1:w3.cell? ⟨G,1,none⟩=some (.bool be):=b3.cell 1;have f1:w3.frozen? ⟨G,1,none⟩=false:=b3.frozen 1;go_upto_region 4 with fail;have b4:Box (w3.setCell ⟨G,1,none⟩ (.bool true)) G 193 (tC A2 n2 c2 true):=b3.set 1 (.bool true);have AB:But G w3 (w3.setCell ⟨G,1,none⟩ (.bool true)):=(But.refl G w3).setCell 1 _;have d4:=AB.box d1 (by omega);have x4:=AB.past x3 (by rw[HG.o];exact Q4 _);generalize w3.setCell ⟨G,1,none⟩ (.bool true)=w4 at *;clear q1 f1 AB b3 d1 x3
  go_wp2_with (first
   | (refine XB _ b4 rfl rfl rfl ?_)
   | (refine YD _ _ d4 rfl rfl rfl rfl rfl ?_;intro w9 b9 g9))
  refine Jv (Qd rfl _ _ (G+1) _ _ _ _ rfl rfl b9 underlying193 rfl Um) rfl ⟨⟨_,?_,A2,n2,c2,rfl,Xc.o,Tr.o⟩,x4.grown g9 (λj e=>by cases e;rw[←HG.o];exact WQ _)⟩;rw[show(b||(ZH hd).isNone)=true by rw[HP.o,Option.isNone_none,mV],HP.o];rfl
theorem UR (L:List (List UInt8)) (b:Bool) (v:Value) (z:Nat) (w0 w:World) (h:KU w0 L b v) (x:Ext w0 w) (hz:z<=8) (hz0:0<z) :
  Calls prog 137 #[v,.int .i64 z] w (Zj w0 w L.tail (b||(ZF z (L.headD [])).isNone) (.int .u64 ((ZF z (L.headD [])).getD 0))):=by
 have DT:=Qa (λw h=>ZM L b v w0 w h);have HH:=Qa h;obtain⟨hd,K7⟩:∃hd,hd=L.headD []:=⟨_,rfl⟩
 obtain⟨be,hbe⟩:∃be,be=(b||L.isEmpty):=⟨_,rfl⟩
 have HE:=Qa (show be=true->(b||(ZF z hd).isNone)=true fromλh=>by
  rw[hbe]at h;cases b with
  | true=>rfl
  | false =>
   cases L with
   | nil=>rw[K7];unfold ZF;rw[QD (by show¬(([]:List UInt8).length=z);simp;omega)];rfl
   | cons s L=>simp at h)
 have HF:=Qa (show be=false->b=false fromλh=>by rw[hbe]at h;cases b<;>simp_all);have VD:=Qh hd;rw[←K7,←hbe]at DT;rw[←K7];have nF:=Qa K7;have HBE:=Qa hbe;clear K7 hbe;obtain⟨A,n,c,rfl,h1,h2⟩:=h;have x0:=((Qg w).alloc (.cells (tC A n c b) 193)).alloc (.cells (tC none 0 0 false) 193);have b0:=(Qs w 193 (tC A n c b)).ext ((Qg _).alloc (.cells (tC none 0 0 false) 193));have b1:=Qs (w.alloc (.cells (tC A n c b) 193)) 193 (tC none 0 0 false);rw[YB]at b1;clear h1 h2;go_enter func137,ntmps137;go_upto_region 1 with fail;generalize (w.alloc (.cells (tC A n c b) 193)).alloc (.cells (tC none 0 0 false) 193)=w1 at *;obtain⟨G,hG⟩:∃G,G=w.heap.size:=⟨_,rfl⟩
 rw[←hG]at b0 b1 ⊢;have HG:=Qa hG;clear hG;have od:=b1.lt
 go_upto_region 2 with(first
  | (refine XB _ b0 rfl rfl rfl ?_)
  | (go_at_call 136;refine(DT.o _ HH.o (x.trans x0)).mono ?_;rintro e w2 ⟨⟨v2,rfl,A2,n2,c2,rfl,s2,k2⟩,x2⟩)
  | (refine YD _ _ (b0.ext x2) rfl rfl rfl rfl rfl ?_;intro w3 b3 g3))
 have hk:=Qw g3;have d1:=hk.box (b1.ext x2) (by omega);have x3:=hk.past (x0.trans x2) (by rw[HG.o];exact Q4 _);have Xc:=Qa s2;have Tr:=Qa k2;clear DT HH b0 b1 x0 x2 g3 hk s2 k2 x od;by_cases hl:hd.length=z
 ·have hP:ZF z hd=some (Z1 hd:Int):=QN hl;have vN:=Qa (λw=>BO hd w (by omega));have hq:((hd.length:Int) != (z:Int))=false:=by rw[hl];simp
  have HP:=Qa hP;have E6:(b||(ZF z hd).isNone)=be:=by
   rw[hP];cases he:be with
   | false=>rw[HF.o he];rfl
   | true=>have:=HE.o he;rw[hP]at this;exact this
  have au:=Qa E6;clear hP HE HF E6 hl hz hz0;have x3d:=x3.trans (Qg w3).drew;have b3d:=b3.ext (Qg w3).drew;have d1d:=d1.ext (Qg w3).drew






  go_upto_region 5 with fail;refine iS (by kernel_rfl) ?_;change wpAny _ _ _ _ _ _ _ (World.drew _)

  refine OO (i:=1) (v:=.string (Qb hd)) rfl (by kernel_rfl) (by kernel_rfl) (by kernel_rfl) (λ_ _ _ h=>h) (MU ⟨by rfl,?_⟩) ?_
  ·intro w;go_simp
  refine Vf (rs:=[0,2]) (by kernel_rfl) (by simp) ?_;refine YZ rfl (λK hK=>?_) (YZ rfl (λK hK=>?_) Vh)
  ·refine tB 193 (.tmp 2) rfl G rfl 193 (tC A2 n2 c2 be) (0,0) _ b3d underlying193 rfl Um (hK _ _ ?_);clear hK K;refine Vf (rs:=[2]) (by kernel_rfl) (by simp) ?_;refine YZ rfl (λK hK=>?_) Vh;go_simp;go_wp2_with (go_at_call 169;refine(vN.o _).mono ?_;rintro e w5 ⟨rfl,rfl⟩)
   refine Vf (rs:=[3]) (by kernel_rfl) (by simp) ?_;refine YZ rfl (λK hK=>?_) Vh;refine iT 193 (.tmp 4) (.tmp 18) rfl (G+1) (tC A2 n2 c2 be) rfl rfl 193 _ d1d Um rfl (Me _ _ _ _) (hK _ _ ?_);clear hK K;refine Vf (rs:=[4]) (by kernel_rfl) (by simp) ?_;refine YZ rfl (λK hK=>?_) Vh;go_simp;refine hK _ _ ?_;clear hK K;refine bU (by kernel_rfl) ?_ _;go_wp2_with fail;refine Jv (Qd rfl _ _ (G+1) _ _ _ _ rfl rfl (Zh d1d) underlying193 rfl Um) rfl ⟨⟨_,?_,A2,n2,c2,rfl,Xc.o,Tr.o⟩,x3d.grown (Jp _ (G+1) _) (λj e=>by cases e;rw[←HG.o];exact WQ _)⟩;rw[au.o,HP.o];rfl
  ·go_simp;go_wp2_with (go_at_call 169;refine(vN.o _).mono ?_;rintro e w5 ⟨rfl,rfl⟩)
   refine Vf (rs:=[0]) (by kernel_rfl) (by simp) ?_;refine YZ rfl (λK hK=>?_) Vh;refine tB 193 (.tmp 2) rfl G rfl 193 (tC A2 n2 c2 be) (0,0) _ b3d underlying193 rfl Um (hK _ _ ?_);clear hK K;refine Vf (rs:=[3]) (by kernel_rfl) (by simp) ?_;refine YZ rfl (λK hK=>?_) Vh;refine iT 193 (.tmp 4) (.tmp 18) rfl (G+1) (tC A2 n2 c2 be) rfl rfl 193 _ d1d Um rfl (Me _ _ _ _) (hK _ _ ?_);clear hK K;refine Vf (rs:=[4]) (by kernel_rfl) (by simp) ?_;refine YZ rfl (λK hK=>?_) Vh;go_simp;refine hK _ _ ?_;clear hK K;refine bU (by kernel_rfl) ?_ _;go_wp2_with fail;refine Jv (Qd rfl _ _ (G+1) _ _ _ _ rfl rfl (Zh d1d) underlying193 rfl Um) rfl ⟨⟨_,?_,A2,n2,c2,rfl,Xc.o,Tr.o⟩,x3d.grown (Jp _ (G+1) _) (λj e=>by cases e;rw[←HG.o];exact WQ _)⟩;rw[au.o,HP.o];rfl
 ·have hP:ZF z hd=none:=QD hl;have hq:((hd.length:Int) != (z:Int))=true:=by simp;omega
  have HP:=Qa hP;clear hP HE HF hl hz hz0;have q1:w3.cell? ⟨G,1,none⟩=some (.bool be):=b3.cell 1;have f1:w3.frozen? ⟨G,1,none⟩=false:=b3.frozen 1;go_upto_region 4 with fail;have b4:Box (w3.setCell ⟨G,1,none⟩ (.bool true)) G 193 (tC A2 n2 c2 true):=b3.set 1 (.bool true);have AB:But G w3 (w3.setCell ⟨G,1,none⟩ (.bool true)):=(But.refl G w3).setCell 1 _;have d4:=AB.box d1 (by omega);have x4:=AB.past x3 (by rw[HG.o];exact Q4 _);generalize w3.setCell ⟨G,1,none⟩ (.bool true)=w4 at *;clear q1 f1 AB b3 d1 x3
  go_wp2_with (first
   | (refine XB _ b4 rfl rfl rfl ?_)
   | (refine YD _ _ d4 rfl rfl rfl rfl rfl ?_;intro w9 b9 g9))
  refine Jv (Qd rfl _ _ (G+1) _ _ _ _ rfl rfl b9 underlying193 rfl Um) rfl ⟨⟨_,?_,A2,n2,c2,rfl,Xc.o,Tr.o⟩,x4.grown g9 (λj e=>by cases e;rw[←HG.o];exact WQ _)⟩;rw[show(b||(ZF z hd).isNone)=true by rw[HP.o,Option.isNone_none,mV],HP.o];rfl
theorem Pb (L:List (List UInt8)) (b:Bool) (v:Value) (z:Nat) (w0 w:World) (h:KU w0 L b v) (x:Ext w0 w) (hz:z<=1000) (hz0:0<z) :
  Calls prog 197 #[v,.int .i64 z] w (Zj w0 w L.tail (b||!decide ((L.headD []).length=z)) (.string (Qb (Kt z (L.headD []))))):=by
 have DT:=Qa (λw h=>ZM L b v w0 w h);have HH:=Qa h;obtain⟨hd,K7⟩:∃hd,hd=L.headD []:=⟨_,rfl⟩
 obtain⟨be,hbe⟩:∃be,be=(b||L.isEmpty):=⟨_,rfl⟩
 have HE:=Qa (show be=true->(b||!decide (hd.length=z))=true fromλh=>by
  rw[hbe]at h;cases b with
  | true=>rfl
  | false =>
   cases L with
   | nil=>rw[K7];simp;omega
   | cons s L=>simp at h)
 have HF:=Qa (show be=false->b=false fromλh=>by rw[hbe]at h;cases b<;>simp_all);have VD:=Qh hd;rw[←K7,←hbe]at DT;rw[←K7];have nF:=Qa K7;have HBE:=Qa hbe;clear K7 hbe;obtain⟨A,n,c,rfl,h1,h2⟩:=h;have x0:=((Qg w).alloc (.cells (tC A n c b) 193)).alloc (.cells (tC none 0 0 false) 193);have b0:=(Qs w 193 (tC A n c b)).ext ((Qg _).alloc (.cells (tC none 0 0 false) 193));have b1:=Qs (w.alloc (.cells (tC A n c b) 193)) 193 (tC none 0 0 false);rw[YB]at b1;clear h1 h2;go_enter func197,ntmps197;go_upto_region 1 with fail;generalize (w.alloc (.cells (tC A n c b) 193)).alloc (.cells (tC none 0 0 false) 193)=w1 at *;obtain⟨G,hG⟩:∃G,G=w.heap.size:=⟨_,rfl⟩
 rw[←hG]at b0 b1 ⊢;have HG:=Qa hG;clear hG;have od:=b1.lt
 go_upto_region 2 with(first
  | (refine XB _ b0 rfl rfl rfl ?_)
  | (go_at_call 136;refine(DT.o _ HH.o (x.trans x0)).mono ?_;rintro e w2 ⟨⟨v2,rfl,A2,n2,c2,rfl,s2,k2⟩,x2⟩)
  | (refine YD _ _ (b0.ext x2) rfl rfl rfl rfl rfl ?_;intro w3 b3 g3))
 have hk:=Qw g3;have d1:=hk.box (b1.ext x2) (by omega);have x3:=hk.past (x0.trans x2) (by rw[HG.o];exact Q4 _);have Xc:=Qa s2;have Tr:=Qa k2;clear DT HH b0 b1 x0 x2 g3 hk s2 k2 x od;by_cases hl:hd.length=z
 ·have hq:((hd.length:Int) != (z:Int))=false:=by rw[hl];simp
  have hP:(!decide (hd.length=z))=false:=by simp[hl]
  have HV:=Qa (show Kt z hd=hd from QN hl);have E6:(b||!decide (hd.length=z))=be:=by
   rw[hP];cases he:be with
   | false=>rw[HF.o he];rfl
   | true=>have:=HE.o he;rw[hP]at this;exact this
  have au:=Qa E6;have b4:=b3;have d4:=d1;have x4:=x3;clear hP HE HF E6 hl hz hz0 b3 d1 x3
  go_wp2_with (first
   | (refine XB _ b4 rfl rfl rfl ?_)
   | (refine YD _ _ d4 rfl rfl rfl rfl rfl ?_;intro w9 b9 g9))
  refine Jv (Qd rfl _ _ (G+1) _ _ _ _ rfl rfl b9 underlying193 rfl Um) rfl ⟨⟨_,?_,A2,n2,c2,rfl,Xc.o,Tr.o⟩,x4.grown g9 (λj e=>by cases e;rw[←HG.o];exact WQ _)⟩;rw[au.o,HV.o];rfl
 ·have hq:((hd.length:Int) != (z:Int))=true:=by simp;omega
  have hP:(!decide (hd.length=z))=true:=by simp[hl]
  have HP:=Qa hP;have HV:=Qa (show Kt z hd=zs z from QD hl);have ov:=kC z hz;have zG:=Qa (show(zs z).length=z from by simp[zs]);clear hP HE HF hl hz hz0;have q1:w3.cell? ⟨G,1,none⟩=some (.bool be):=b3.cell 1;have f1:w3.frozen? ⟨G,1,none⟩=false:=b3.frozen 1;go_upto_region 4 with fail;have b4:Box (w3.setCell ⟨G,1,none⟩ (.bool true)) G 193 (tC A2 n2 c2 true):=b3.set 1 (.bool true);have AB:But G w3 (w3.setCell ⟨G,1,none⟩ (.bool true)):=(But.refl G w3).setCell 1 _;have d4:=AB.box d1 (by omega);have x4:=AB.past x3 (by rw[HG.o];exact Q4 _);generalize w3.setCell ⟨G,1,none⟩ (.bool true)=w4 at *;clear q1 f1 AB b3 d1 x3;have x5:=x4.trans (Qg w4).drew;have b5:=b4.ext (Qg w4).drew;have d5:=d4.ext (Qg w4).drew;have x6:=((Qg w4).alloc (.cells (J8 (zs z)) 5)).drew;have b6:=b4.ext x6;have d6:=d4.ext x6;have hcv:=Tz (c:=z) ((Qs w4 5 (J8 (zs z))).ext (Qg _).drew) zG.o;have x7:=x4.trans x6;have od:G+1<w4.heap.size:=d4.lt;generalize zs z=ZS at *;refine iS (by kernel_rfl) ?_;change wpAny _ _ _ _ _ _ _ (World.drew _);clear b4 d4 x4;refine OO (i:=1) (v:=.int .i64 z) rfl (by kernel_rfl) (by kernel_rfl) (by kernel_rfl) (λ_ _ _ h=>h) (MU ⟨by rfl,?_⟩) ?_
  ·intro w;go_simp
  refine Vf (rs:=[0,2]) (by kernel_rfl) (by simp) ?_;refine YZ rfl (λK hK=>?_) (YZ rfl (λK hK=>?_) Vh)
  ·refine tB 193 (.tmp 2) rfl G rfl 193 (tC A2 n2 c2 true) (0,0) _ b5 underlying193 rfl Um (hK _ _ ?_);clear hK K;refine Vf (rs:=[2,4]) (by kernel_rfl) (by simp) ?_;refine YZ rfl (λK hK=>?_) (YZ rfl (λK hK=>?_) Vh)
   ·go_simp;refine hK _ _ ?_;clear hK K;refine Vf (rs:=[3,4]) (by kernel_rfl) (by simp) ?_;refine YZ rfl (λK hK=>?_) (YZ rfl (λK hK=>?_) Vh)
    ·go_simp;refine hK _ _ ?_;clear hK K;refine Vf (rs:=[4]) (by kernel_rfl) (by simp) ?_;refine YZ rfl (λK hK=>?_) Vh;refine iT 193 (.tmp 4) (.tmp 17) rfl (G+1) (tC A2 n2 c2 true) rfl rfl 193 _ d6 Um rfl (Me _ _ _ _) (hK _ _ ?_);clear hK K;have dz:=Zh (ds:=tC A2 n2 c2 true) d6;have xz:=x7.grown (Jp _ (G+1) (tC A2 n2 c2 true)) (λj e=>by cases e;rw[←HG.o];exact WQ _);generalize (w4.alloc (.cells (J8 ZS) 5)).drew.setRow (G+1) (tC A2 n2 c2 true)=wz at *;refine Vf (rs:=[5]) (by kernel_rfl) (by simp) ?_;refine YZ rfl (λK hK=>?_) Vh;go_simp;refine hK _ _ ?_;clear hK K;refine bU (by kernel_rfl) ?_ _;go_wp2_with fail;refine Jv (Qd rfl _ _ (G+1) _ _ _ _ rfl rfl dz underlying193 rfl Um) rfl ⟨⟨_,?_,A2,n2,c2,rfl,Xc.o,Tr.o⟩,xz⟩;rw[show(b||!decide (hd.length=z))=true by rw[HP.o,mV],HV.o];rfl
    ·refine iT 193 (.tmp 4) (.tmp 17) rfl (G+1) (tC A2 n2 c2 true) rfl rfl 193 _ d6 Um rfl (Me _ _ _ _) (hK _ _ ?_);clear hK K;have bz:=(((Qs w4 5 (J8 ZS)).ext (Qg _).drew).grown (Jp _ (G+1) (tC A2 n2 c2 true)) (λe=>by injection e with e;omega))
     have dz:=Zh (ds:=tC A2 n2 c2 true) d6;have xz:=x7.grown (Jp _ (G+1) (tC A2 n2 c2 true)) (λj e=>by cases e;rw[←HG.o];exact WQ _);generalize (w4.alloc (.cells (J8 ZS) 5)).drew.setRow (G+1) (tC A2 n2 c2 true)=wz at *;replace hcv:=Tz (c:=z) bz zG.o;refine Vf (rs:=[3]) (by kernel_rfl) (by simp) ?_;refine YZ rfl (λK hK=>?_) Vh;go_simp;refine hK _ _ ?_;clear hK K;refine Vf (rs:=[5]) (by kernel_rfl) (by simp) ?_;refine YZ rfl (λK hK=>?_) Vh;go_simp;refine hK _ _ ?_;clear hK K;refine bU (by kernel_rfl) ?_ _;go_wp2_with fail;refine Jv (Qd rfl _ _ (G+1) _ _ _ _ rfl rfl dz underlying193 rfl Um) rfl ⟨⟨_,?_,A2,n2,c2,rfl,Xc.o,Tr.o⟩,xz⟩;rw[show(b||!decide (hd.length=z))=true by rw[HP.o,mV],HV.o];rfl
   ·refine iT 193 (.tmp 4) (.tmp 17) rfl (G+1) (tC A2 n2 c2 true) rfl rfl 193 _ d5 Um rfl (Me _ _ _ _) (hK _ _ ?_);clear hK K;have dz:=Zh (ds:=tC A2 n2 c2 true) d5;have xz:=x5.grown (Jp _ (G+1) (tC A2 n2 c2 true)) (λj e=>by cases e;rw[←HG.o];exact WQ _);generalize w4.drew.setRow (G+1) (tC A2 n2 c2 true)=wz at *;refine Vf (rs:=[2]) (by kernel_rfl) (by simp) ?_;refine YZ rfl (λK hK=>?_) Vh;go_simp;refine hK _ _ ?_;clear hK K;have x8:=(Qg wz).alloc (.cells (J8 ZS) 5);have hcv2:=Tz (c:=z) (Qs wz 5 (J8 ZS)) zG.o;replace dz:=dz.ext x8;replace xz:=xz.trans x8;refine Vf (rs:=[3]) (by kernel_rfl) (by simp) ?_;refine YZ rfl (λK hK=>?_) Vh;go_simp;refine hK _ _ ?_;clear hK K;refine Vf (rs:=[5]) (by kernel_rfl) (by simp) ?_;refine YZ rfl (λK hK=>?_) Vh;go_simp;refine hK _ _ ?_;clear hK K;refine bU (by kernel_rfl) ?_ _;go_wp2_with fail;refine Jv (Qd rfl _ _ (G+1) _ _ _ _ rfl rfl dz underlying193 rfl Um) rfl ⟨⟨_,?_,A2,n2,c2,rfl,Xc.o,Tr.o⟩,xz⟩;rw[show(b||!decide (hd.length=z))=true by rw[HP.o,mV],HV.o];rfl
  ·go_simp;refine hK _ _ ?_;clear hK K;refine Vf (rs:=[0,3]) (by kernel_rfl) (by simp) ?_;refine YZ rfl (λK hK=>?_) (YZ rfl (λK hK=>?_) Vh)
   ·refine tB 193 (.tmp 2) rfl G rfl 193 (tC A2 n2 c2 true) (0,0) _ b6 underlying193 rfl Um (hK _ _ ?_);clear hK K;refine Vf (rs:=[3,4]) (by kernel_rfl) (by simp) ?_;refine YZ rfl (λK hK=>?_) (YZ rfl (λK hK=>?_) Vh)
    ·go_simp;refine hK _ _ ?_;clear hK K;refine Vf (rs:=[4]) (by kernel_rfl) (by simp) ?_;refine YZ rfl (λK hK=>?_) Vh;refine iT 193 (.tmp 4) (.tmp 17) rfl (G+1) (tC A2 n2 c2 true) rfl rfl 193 _ d6 Um rfl (Me _ _ _ _) (hK _ _ ?_);clear hK K;have dz:=Zh (ds:=tC A2 n2 c2 true) d6;have xz:=x7.grown (Jp _ (G+1) (tC A2 n2 c2 true)) (λj e=>by cases e;rw[←HG.o];exact WQ _);generalize (w4.alloc (.cells (J8 ZS) 5)).drew.setRow (G+1) (tC A2 n2 c2 true)=wz at *;refine Vf (rs:=[5]) (by kernel_rfl) (by simp) ?_;refine YZ rfl (λK hK=>?_) Vh;go_simp;refine hK _ _ ?_;clear hK K;refine bU (by kernel_rfl) ?_ _;go_wp2_with fail;refine Jv (Qd rfl _ _ (G+1) _ _ _ _ rfl rfl dz underlying193 rfl Um) rfl ⟨⟨_,?_,A2,n2,c2,rfl,Xc.o,Tr.o⟩,xz⟩;rw[show(b||!decide (hd.length=z))=true by rw[HP.o,mV],HV.o];rfl
    ·refine iT 193 (.tmp 4) (.tmp 17) rfl (G+1) (tC A2 n2 c2 true) rfl rfl 193 _ d6 Um rfl (Me _ _ _ _) (hK _ _ ?_);clear hK K;have bz:=(((Qs w4 5 (J8 ZS)).ext (Qg _).drew).grown (Jp _ (G+1) (tC A2 n2 c2 true)) (λe=>by injection e with e;omega))
     have dz:=Zh (ds:=tC A2 n2 c2 true) d6;have xz:=x7.grown (Jp _ (G+1) (tC A2 n2 c2 true)) (λj e=>by cases e;rw[←HG.o];exact WQ _);generalize (w4.alloc (.cells (J8 ZS) 5)).drew.setRow (G+1) (tC A2 n2 c2 true)=wz at *;replace hcv:=Tz (c:=z) bz zG.o;refine Vf (rs:=[3]) (by kernel_rfl) (by simp) ?_;refine YZ rfl (λK hK=>?_) Vh;go_simp;refine hK _ _ ?_;clear hK K;refine Vf (rs:=[5]) (by kernel_rfl) (by simp) ?_;refine YZ rfl (λK hK=>?_) Vh;go_simp;refine hK _ _ ?_;clear hK K;refine bU (by kernel_rfl) ?_ _;go_wp2_with fail;refine Jv (Qd rfl _ _ (G+1) _ _ _ _ rfl rfl dz underlying193 rfl Um) rfl ⟨⟨_,?_,A2,n2,c2,rfl,Xc.o,Tr.o⟩,xz⟩;rw[show(b||!decide (hd.length=z))=true by rw[HP.o,mV],HV.o];rfl
   ·go_simp;refine hK _ _ ?_;clear hK K;refine Vf (rs:=[0]) (by kernel_rfl) (by simp) ?_;refine YZ rfl (λK hK=>?_) Vh;refine tB 193 (.tmp 2) rfl G rfl 193 (tC A2 n2 c2 true) (0,0) _ b6 underlying193 rfl Um (hK _ _ ?_);clear hK K;refine Vf (rs:=[4]) (by kernel_rfl) (by simp) ?_;refine YZ rfl (λK hK=>?_) Vh;refine iT 193 (.tmp 4) (.tmp 17) rfl (G+1) (tC A2 n2 c2 true) rfl rfl 193 _ d6 Um rfl (Me _ _ _ _) (hK _ _ ?_);clear hK K;have dz:=Zh (ds:=tC A2 n2 c2 true) d6;have xz:=x7.grown (Jp _ (G+1) (tC A2 n2 c2 true)) (λj e=>by cases e;rw[←HG.o];exact WQ _);generalize (w4.alloc (.cells (J8 ZS) 5)).drew.setRow (G+1) (tC A2 n2 c2 true)=wz at *;refine Vf (rs:=[5]) (by kernel_rfl) (by simp) ?_;refine YZ rfl (λK hK=>?_) Vh;go_simp;refine hK _ _ ?_;clear hK K;refine bU (by kernel_rfl) ?_ _;go_wp2_with fail;refine Jv (Qd rfl _ _ (G+1) _ _ _ _ rfl rfl dz underlying193 rfl Um) rfl ⟨⟨_,?_,A2,n2,c2,rfl,Xc.o,Tr.o⟩,xz⟩;rw[show(b||!decide (hd.length=z))=true by rw[HP.o,mV],HV.o];rfl
theorem Ip (b:List UInt8) (k x y:Nat) (h:y<=32):(Qb b).extract (32*k+x) (32*k+y)=Qb (((Yk b k).drop x).take (y-x)):=by
 rw[J6];unfold Yk;rw[List.drop_take,tE,nf];congr 2;omega
theorem eu (b:List UInt8) (w:World) (hb:b.length<=8960) :
  Calls prog 232 #[.string (Qb b)] w λe w'=>∃u,e=.returned (.tuple #[u,.bool (Js b).isSome])/\Ext w w'/\((Js b).isSome=true->Zu w' w.heap.size u ((Js b).getD [])):=by
 have hz:=Qh;have N5:Zu (w.alloc (.cells #[] 154)) w.heap.size (.slice (some ⟨w.heap.size,0,none⟩) 0 0) []:=zU w #[] 0 (Q4 _) (by unfold maxLen;omega) rfl;have x0:Ext w (w.alloc (.cells #[] 154)):=(Qg w).alloc _;by_cases hm:b.length%32=0;case neg =>
  have HN:=Qa (show Js b=none from by unfold Js;rw[QD hm]);have hmi:((b.length:Int)%32 != 0)=true:=by simp;omega
  clear N5;go_enter func232,ntmps232;go_wp2_with fail;go_ret2;rw[HN.o];exact⟨_,rfl,x0,λh=>(by cases h)⟩
 have hmi:((b.length:Int)%32 != 0)=false:=by simp;omega
 have HE:=Qa (show Js b=YF b (b.length/32) from by unfold Js;rw[QN hm]);have KT:=Qa (λk (h:YF b k=none) (hk:k<=b.length/32)=>M9 h _ hk);obtain⟨N,hN⟩:∃N,b.length/32=N:=⟨_,rfl⟩
 have hbN:=Qa (show b.length=32*N by omega);have Qaq:N<=280:=by omega
 rw[hN]at HE KT;go_enter func232,ntmps232;go_wp2_with fail;clear hm hN hmi;generalize w.alloc (.cells #[] 154)=w1 at *;go_loopw [4,5,6,7] (λv t _ _ wr=>∃(k:Nat) (l:List Ve),k<=N/\t=.int .i64 ((32*k:Nat):Int)/\Ext w wr/\YF b k=some l/\Zu wr w.heap.size v l) (λ_ t _ _ _=>32*N-(intOf t).toNat);case atStart=>exact⟨0,[],by omega,rfl,x0,rfl,N5⟩
 case round =>
  clear N5 x0;obtain⟨k,l,hk,rfl,hxr,hl,own⟩:=hrel;have uP:=hxr.size;have Gt:=hbN.o;by_cases Qn:k<N
  ·have XS:(Yk b k).length=32:=by simp[Yk];omega
   have Us:=Qa (λh=>KT.o (k+1) (Cv hl h) (by omega));have NQ:=Qa (λh1 h2=>Fr hl h1 h2);have RJ:=WX hl;have gt:=Qa (λx y h=>Ip b k x y h);have Qa4:∀h:32*k+2<(Qb b).size,(Qb b)[32*k+2]'h=(Yk b k).getD 2 0:=λh=>by unfold Yk;rw[Yb,Cb,QN (by omega),EM,ZX (by rw[Qh]at h;exact h)];rfl
   clear hl;generalize Yk b k=o at *;obtain⟨i0,hi0⟩:∃i0,32*k=i0:=⟨_,rfl⟩
   rw[hi0]at gt Qa4 ⊢;have HI0:=Qa hi0;have hi0l:i0+32<=b.length:=by omega
   have hi0i:(i0:Int)<(b.length:Int):=by omega
   clear hi0 Gt;have hlw:IntKind.i64.wrap ((o.getD 2 0).toNat:Int)=((o.getD 2 0).toNat:Int):=by have:=(o.getD 2 0).toNat_lt;rw[Wb];omega
   have je:wrap64 ((o.getD 2 0).toNat:Int)=((o.getD 2 0).toNat:Int):=by have:=(o.getD 2 0).toNat_lt;unfold wrap64;omega
   have PZ:Zm (rV o=(decide ((o.getD 2 0).toNat<=24)&&decide (1<=(Xm o).2)&&decide ((Xm o).2<=64)&&Zt (Xm o).1&&decide (Xn (Xm o)=o))):=rfl;have fb:Zm (Xm o=((o.drop 4).take (o.getD 2 0).toNat,(Z1 (o.take 2):Int))):=rfl;have aF:=(o.getD 2 0).toNat_lt;generalize o.getD 2 0=ch at *;obtain⟨long,hlong⟩:∃n,ch.toNat=n:=⟨_,rfl⟩
   rw[hlong]at hlw je aF PZ fb;have hix:((i0:Int)+2).toNat=i0+2:=by omega
   have hib:(i0:Int)+2<(b.length:Int):=by omega
   go_upto_region 8 with fail;clear hlw je hix hib Qa4;by_cases c0:24<long
   ·have HN:=Qa (HE.o.trans (Us.o (.inl (by rw[PZ.o,show decide (long<=24)=false by simp;omega];simp))));have gK:(24:Int)<(long:Int):=by omega
    go_wp2_with fail;go_ret2;rw[HN.o];exact⟨_,rfl,hxr,λh=>(by cases h)⟩
   have gK:¬(24:Int)<(long:Int):=by omega
   have uO:decide ((24:Int)<(long:Int))=false:=by simp;omega
   have E7:=MT (i:=long) (l:=o.drop 4);have Rm:(o.take 2).length=2:=by simp;omega
   have GQ:=Nb (o.take 2);rw[Rm]at GQ;have HG:=Qa (show∀w,Calls prog 169 #[.string (Qb (o.take 2))] w λe w'=>e=.returned (.int .u64 ((Z1 (o.take 2):Nat):Int))/\w=w' fromλw=>by
    obtain⟨p,q,hpq⟩:∃p q,o.take 2=[p,q]:=by
     match hq:o.take 2,Rm with
     | [p,q],_=>exact⟨p,q,rfl⟩
    rw[hpq];have:=lI p q w;rw[show((Z1 [p,q]:Nat):Int)=(p.toNat:Int)+256*q.toNat by simp only[Z1];omega];exact this)
   have WN:=Qa (gt.o 4 (4+long) (by omega));rw[show 4+long-4=long by omega]at WN;have Gx:=Qa (gt.o 0 2 (by omega));have OG:=Qa (gt.o 0 32 (by omega));rw[KJ,Nat.sub_zero,nb]at Gx;rw[KJ,Nat.sub_zero,qr (by omega),nb]at OG;have Lo:((o.drop 4).take long).length<=24:=by rw[E7];omega
   have Qba:Z1 (o.take 2)<65536:=by simpa using GQ
   clear E7 GQ gt;generalize Z1 (o.take 2)=ino at *;generalize (o.drop 4).take long=name at *;generalize o.take 2=o2 at *;rw[fb.o]at Us NQ PZ;simp only at PZ;obtain⟨i2,aD⟩:∃i2,i0+2=i2:=⟨_,rfl⟩
   obtain⟨i4,hi4⟩:∃i4,i0+4=i4:=⟨_,rfl⟩
   obtain⟨i5,hi5⟩:∃i5,i0+(4+long)=i5:=⟨_,rfl⟩
   obtain⟨i6,hi6⟩:∃i6,i0+32=i6:=⟨_,rfl⟩
   rw[aD]at Gx;rw[hi4,hi5]at WN;rw[hi6]at OG;have wi2:IntKind.i64.wrap ((i0:Int)+2)=(i2:Int):=by rw[Wb];omega
   have wi4:IntKind.i64.wrap ((i0:Int)+4)=(i4:Int):=by rw[Wb];omega
   have wi5:IntKind.i64.wrap ((i4:Int)+(long:Int))=(i5:Int):=by rw[Wb];omega
   have wi6:IntKind.i64.wrap ((i0:Int)+32)=(i6:Int):=by rw[Wb];omega
   have Qa6:(i0:Int)<=(i2:Int)/\(i2:Int)<=(b.length:Int):=by omega
   have Qa9:(i4:Int)<=(i5:Int)/\(i5:Int)<=(b.length:Int):=by omega
   have Qkj:(i0:Int)<=(i6:Int)/\(i6:Int)<=(b.length:Int):=by omega
   have Qa8:(i0:Int)<=(i4:Int):=by omega
   have Qki:True:=trivial;have Qbb:(0:Int)<=(ino:Int):=Int.natCast_nonneg _;have ge:=Qa (show ino<1->decide ((ino:Int)<1)=true/\decide (1<=(ino:Int))=false fromλh=>⟨Xd (by omega),XI (by omega)⟩);have EK:=Qa (show¬ino<1->decide ((ino:Int)<1)=false/\decide (1<=(ino:Int))=true fromλh=>⟨XI (by omega),Xd (by omega)⟩);have mL:=Qa (show 64<ino->decide ((64:Int)<(ino:Int))=true/\decide ((ino:Int)<=64)=false fromλh=>⟨Xd (by omega),XI (by omega)⟩);have sG:=Qa (show¬64<ino->decide ((64:Int)<(ino:Int))=false/\decide ((ino:Int)<=64)=true fromλh=>⟨XI (by omega),Xd (by omega)⟩);have yB:=Qa (show decide (long<=24)=true from Xd (by omega));have Qbq:name.length<=1000000000:=by omega
   have Qbc:(ino:Int)<65536:=by omega
   have wb:IntKind.i64.wrap (ino:Int)=(ino:Int):=by rw[Wb];omega
   have wb2:wrap64 (ino:Int)=(ino:Int):=by unfold wrap64;omega
   clear Rm;go_upto_region 10 with fail;clear aD hi4 hi5 hi6;have aD:True:=trivial;have hi4:True:=trivial;have hi5:True:=trivial;have hi6:True:=trivial;refine JN 17 [[],[],[],[2],[0,1,3],[4],[5],[],[],[8],[],[10],[],[11,12],[7,9,13],[6,14],[]] [.inl (.string (Qb (b))),.inl (.int .i64 ((i0:Int))),.inl (.int .i64 ((i0:Int))),.inl (.int .i64 ((i2:Int))),.inl (.string (Qb (o2))),.inl (.int .u64 (ino:Int)),.inl (.int .i64 ((ino:Int))),.inl (.string (Qb (b))),.inl (.int .i64 ((i0:Int))),.inl (.int .i64 ((i4:Int))),.inl (.int .i64 ((i0:Int))),.inl (.int .i64 ((i4:Int))),.inl (.int .i64 ((long:Int))),.inl (.int .i64 ((i5:Int))),.inl (.string (Qb (name))),.inl (.agg #[.string (Qb name),.int .i64 (ino:Int)]),.inr ⟨pT wr.heap.size 154 #[.string ⟨#[]⟩,.int .i64 0],RR _ _ _⟩] (by kernel_rfl) (by kernel_rfl) rfl (λus=>?_);simp only[KG,KI,UY,KJ]
   iterate 5
    refine xW (λw' hx hd=>?_) ?_
    ·have hx2:=Gx.o;go_wp2_with fail;exact Qg _
    simp only[S_]
   refine xW (λw' hx hd=>?_) ?_
   ·go_wp2_with (go_at_call 169;refine(HG.o _).mono ?_;rintro e w2 ⟨rfl,rfl⟩)
    exact Qg _
   simp only[S_]
   iterate 10
    refine xW (λw' hx hd=>?_) ?_
    ·have ml:=WN.o;go_wp2_with fail;exact Qg _
    simp only[S_]
   refine xR (λw' hx hd=>?_) ?_
   ·go_wp2_with fail;exact⟨(Qg w').alloc _,_,rfl,hx.size,Qs _ _ _⟩
   simp only[S_];rw[Vx];intro w' hx hv;have fy:=hv 16 (by omega);clear hv;generalize us 16=u16 at *;obtain⟨g,rfl,hg,bg⟩:=fy;have HW:=Qa hx;clear hx;go_upto_region 11 with(refine EE (.tmp 7) (.tmp 43) rfl rfl g (Qb name) (ino:Int) _ 154 rfl rfl bg rfl ?_;intro W2 bx g2)
   simp only[Act.put];have xr:Ext wr W2:=HW.o.grown g2 (λj e=>by cases e;exact hg);have hx:=hxr;clear bg wi2 wi4 wi5 gK uO Qki aD hi4 hi5 hg HG;have HB:=Qa bx;have k0:∀y:Qt W2,y.now.cell? ⟨g,0,none⟩=some (.string (Qb name)):=λy=>y.ext.keep (bx.cell 0);have k1:∀y:Qt W2,y.now.cell? ⟨g,1,none⟩=some (.int .i64 (ino:Int)):=λy=>y.ext.keep (bx.cell 1);clear bx;have HM:=Qa (λw=>Te name w Qbq);have Gw:=Qa (λw=>show Calls prog 242 #[.agg #[.string (Qb name),.int .i64 (ino:Int)]] w λe w'=>e=.returned (.string (Qb (Xn (name,(ino:Int)))))/\Ext w w' from lQ (name,(ino:Int)) w Lo Qbb Qbc);cases c3:Zt name with
   | false =>
    have HN:=Qa (HE.o.trans (Us.o (.inl (by rw[PZ.o,c3];simp))));rw[c3]at HM;clear c3;refine Qk (by kernel_rfl) (by kernel_rfl) ?_;repeat (go_big_quiet_step ((first|(with_reducible exact Jb (HM.o _))|(with_reducible exact JO (Gw.o _)))))
    refine VI ?_;rintro w3 ⟨y,rfl⟩;go_wp2_with fail;go_ret2;rw[HN.o];exact⟨_,rfl,(hx.trans xr).trans y.ext,λh=>(by cases h)⟩
   | true =>
   rw[c3]at HM;by_cases c1:ino<1
   ·have HN:=Qa (HE.o.trans (Us.o (.inl (by rw[PZ.o,(ge.o c1).2];simp))));have ml:=(ge.o c1).1;clear c3;refine Qk (by kernel_rfl) (by kernel_rfl) ?_;repeat (go_big_quiet_step ((first|(with_reducible exact Jb (HM.o _))|(with_reducible exact JO (Gw.o _)))))
    refine VI ?_;rintro w3 ⟨y,rfl⟩;go_wp2_with fail;go_ret2;rw[HN.o];exact⟨_,rfl,(hx.trans xr).trans y.ext,λh=>(by cases h)⟩
   have ml:=(EK.o c1).1;by_cases c2:64<ino
   ·have HN:=Qa (HE.o.trans (Us.o (.inl (by rw[PZ.o,(mL.o c2).2];simp))));have hx2:=(mL.o c2).1;clear c3;refine Qk (by kernel_rfl) (by kernel_rfl) ?_;repeat (go_big_quiet_step ((first|(with_reducible exact Jb (HM.o _))|(with_reducible exact JO (Gw.o _)))))
    refine VI ?_;rintro w3 ⟨y,rfl⟩;go_wp2_with fail;go_ret2;rw[HN.o];exact⟨_,rfl,(hx.trans xr).trans y.ext,λh=>(by cases h)⟩
   have hx2:=(sG.o c2).1;by_cases c4:Xn (name,(ino:Int))=o;case neg =>
    have HN:=Qa (HE.o.trans (Us.o (.inl (by rw[PZ.o,show decide (Xn (name,(ino:Int))=o)=false by simpa using c4];simp))));have d4:((Qb (Xn (name,(ino:Int)))).toList==(Qb o).toList)=false:=by rw[Qe,Qe];simpa using c4
    have d5:¬(Qb (Xn (name,(ino:Int)))).toList=(Qb o).toList:=by rw[Qe,Qe];exact c4
    have d6:((Qb (Xn (name,(ino:Int)))).toList != (Qb o).toList)=true:=by rw[Qe,Qe];simpa using c4
    have hx3:=OG.o;clear c3 c4;generalize Xn (name,(ino:Int))=eo at *;refine Qk (by kernel_rfl) (by kernel_rfl) ?_;repeat (go_big_quiet_step ((first|(with_reducible exact Jb (HM.o _))|(with_reducible exact JO (Gw.o _)))))
    refine VI ?_;rintro w3 ⟨y,rfl⟩;go_wp2_with fail;go_ret2;rw[HN.o];exact⟨_,rfl,(hx.trans xr).trans y.ext,λh=>(by cases h)⟩
   have Yj:rV o=true:=by rw[PZ.o,c3,yB.o,(EK.o c1).2,(sG.o c2).2,Xd c4];rfl
   have Ts:=Qa (NQ.o Yj);have d4:((Qb (Xn (name,(ino:Int)))).toList==(Qb o).toList)=true:=by rw[c4];simp
   have d5:(Qb (Xn (name,(ino:Int)))).toList=(Qb o).toList:=by rw[c4]
   have d6:((Qb (Xn (name,(ino:Int)))).toList != (Qb o).toList)=false:=by rw[c4];simp
   have hx3:=OG.o;clear c3 NQ Yj;have ru:=Qa c4;clear c4;generalize Xn (name,(ino:Int))=eo at *;refine Qk (by kernel_rfl) (by kernel_rfl) ?_;repeat (go_big_quiet_step ((first|(with_reducible exact Jb (HM.o _))|(with_reducible exact JO (Gw.o _)))))
   refine VI ?_;rintro w3 ⟨y,rfl⟩;clear k0 k1;have mD:=xr.trans y.ext;have Cn:=HB.o.ext y.ext;generalize y.now=w4 at *;go_upto_region 13 with fail;clear HB xr HM Gw d4 d5 d6 ru PZ fb hx3 hi6 Qkj OG wi6 Qba Qbb Qbc ge EK mL sG yB Lo Qbq c1 c2 c0 aF wb wb2 XS;have Yr:=Zu.ext own mD;obtain⟨A4,cap4,rfl,at4⟩:=Yr.form;rw[RJ]at at4 ⊢;go_cut [83] (λs wx=>s=.bool (!(U2 l (name,(ino:Int))))/\Ext w4 wx);case first =>
    have k0:∀y:Qt w4,y.now.cell? ⟨g,0,none⟩=some (.string (Qb name)):=λy=>y.ext.keep (Cn.cell 0);clear Ts Us KT HE WN Gx own Yr Cn mD Qa6 Qa8 Qa9;cases k with
    | zero =>
     obtain rfl:=bM RJ;have HV:=Qa (show U2 [] (name,(ino:Int))=true from rfl);refine Qk (by kernel_rfl) (by kernel_rfl) ?_;repeat (go_big_quiet_step (fail))
     refine VI ?_;rintro w5 ⟨y,rfl⟩;go_wp2_with fail;go_meet;exact⟨by rw[HV.o];rfl,y.ext⟩
    | succ q =>
     obtain⟨bb,oo,rfl,Qf⟩:=at4.2 (by omega);have hq:=(Qf q (by omega)).1;have HV:=Qa (LC (name,(ino:Int)) RJ);simp only at HV;clear Qf at4;have k1:∀y:Qt w4,y.now.cell? ⟨bb,oo+q*2,none⟩=some (.string (Qb (l[q]'(by omega)).1)):=λy=>y.ext.keep hq;clear hq;generalize (l[q]'(by omega)).1=last at *;have t1:IntKind.i64.wrap (((q+1:Nat):Int)-1)=(q:Int):=by rw[Wb];omega
     have t2:decide ((0:Int)<((q+1:Nat):Int))=true:=Xd (by omega);have t3:(q:Int)<((q+1:Nat):Int):=by omega
     cases hl:RU last name with
     | false =>
      have P2:=Qa (HV.o.trans hl);have P8:Op.bytesLess (Qb last).toList (Qb name).toList=false:=by rw[Qe,Qe];exact hl
      clear hl HV;refine Qk (by kernel_rfl) (by kernel_rfl) ?_;repeat (go_big_quiet_step (fail))
      refine VI ?_;rintro w5 ⟨y,rfl⟩;go_wp2_with fail;go_meet;exact⟨by rw[P2.o];rfl,y.ext⟩
     | true =>
      have P2:=Qa (HV.o.trans hl);have P8:Op.bytesLess (Qb last).toList (Qb name).toList=true:=by rw[Qe,Qe];exact hl
      clear hl HV;refine Qk (by kernel_rfl) (by kernel_rfl) ?_;repeat (go_big_quiet_step (fail))
      refine VI ?_;rintro w5 ⟨y,rfl⟩;go_wp2_with fail;go_meet;exact⟨by rw[P2.o];rfl,y.ext⟩
   case rest =>
    obtain⟨rfl,hxc⟩:=hcut;cases hv:U2 l (name,(ino:Int)) with
    | false => have HN:=Qa (HE.o.trans (Us.o (.inr hv)));clear hv Ts Us KT HE;go_wp2_with fail;go_ret2;rw[HN.o];exact⟨_,rfl,hx.trans (mD.trans hxc),λh=>(by cases h)⟩
    | true =>
     have HN:=Qa (Ts.o hv);have nx:=Cn.ext hxc;have XD:=Zu.ext Yr hxc;have xr5:=mD.trans hxc;clear hv Ts Us KT HE own Yr at4 Cn mD hxc WN Gx hlong Qa6 Qa8 Qa9;unfold Zu at XD;rw[RJ]at XD
     go_wp2_with (first
      | (refine ED (.tmp 7) rfl rfl g _ 154 rfl nx rfl ?_)
      | (refine Ge (y:=(name,(ino:Int))) rfl (.tmp 85) (.tmp 87) rfl rfl rfl (Qc XD ((Qg wc).alloc _)) (Qs _ _ _) (by omega) (by simp;have:=xr5.size;omega) ?_;intro u' w6 UK My))
     have SC:=Qa (show∀j,(Value.slice A4 k cap4).ownBlock=some j->w.heap.size<=j fromλj e=>QU XD e);have x6:Ext w w6:=((hx.trans xr5).alloc _).grown My (λj e=>SC.o j e);go_roundw;case rel=>exact⟨k+1,l++[(name,(ino:Int))],by omega,by have:=HI0.o;go_num,x6,HN.o,Zu.snoc UK RJ.symm⟩
     case measure=>have:=HI0.o;simp[intOf];omega
  ·obtain rfl:k=N:=by omega
   have HN:=Qa (HE.o.trans hl);have Lo:¬((32*k:Nat):Int)<(b.length:Int):=by omega
   clear hl HE KT Gt;go_wp2_with fail;go_ret2;rw[HN.o];exact⟨_,rfl,hxr,λ_=>own⟩
end Go.Proofs.YtfaplefkakpgcaaGreatDoor
namespace Go.Proofs.YtfaplefkakpgcaaGreatDoor
open Go.RowKit Go.Shelf
theorem VR {z:Int}(h0: -9223372036854775808<=z) (h1:z<9223372036854775808):wrap64 z=z:=by
 unfold wrap64;omega
def Fg (v:List (List UInt8)) (I:Int) (x:List Int) (i:Nat):UInt8:=if VT v I x (i/128)= -1 then 0 else (v.getD (VT v I x (i/128)).toNat []).getD (i%128) 0
def Z4 (v:List (List UInt8)) (I:Int) (x:List Int) (off m:Nat):List UInt8:=(List.range' off m).map (Fg v I x)
theorem Cx (v:List (List UInt8)) (I:Int) (x:List Int) (off m:Nat):Z4 v I x off (m+1)=Z4 v I x off m++[Fg v I x (off+m)]:=by
 unfold Z4;rw[←List.range'_append_1];simp
theorem Ux (v:List (List UInt8)) (I:Int) (x:List Int) (off m:Nat):(Z4 v I x off m).length=m:=by simp[Z4]
theorem La (v:List (List UInt8)) (I:Int) (x:List Int) (off m j:Nat) (h:j<(Z4 v I x off m).length):(Z4 v I x off m)[j]=Fg v I x (off+j):=by
 simp[Z4]
theorem iX {v:List (List UInt8)}{I:Int}{x:List Int}{k:Nat}(h:VT v I x k≠-1):Lu v I (VT v I x k)=true:=by
 unfold VT at h ⊢;split
 ·rename_i c;exact c
 ·rename_i c;rw[QD c]at h;exact absurd rfl h
theorem jJ {off K:Nat}(ho:off<=8960) (hK:K<70):Vp off K=((max off (128*K)-128*K:Nat):Int):=by
 unfold Vp;rw[VR (z:=(K:Int)*128) (by omega) (by omega),VR (by omega) (by omega)];omega
theorem vC {e K:Nat}(he:e<=8960) (hK:K<70):Og e K=min ((e:Int)-128*(K:Int)) 128:=by
 unfold Og;rw[VR (z:=(K:Int)*128) (by omega) (by omega),VR (by omega) (by omega)];omega
theorem Bq {F:QH}(hg:Ji F.v F.I) {off e K:Nat}(ho:off<=8960) (he:e<=8960) (hK:K<70) :
  UO F off e K=Z4 F.v F.I F.x (max off (128*K)) (min e (128*(K+1))-max off (128*K)):=by
 unfold UO;rw[jJ ho hK,vC he hK];by_cases h:min ((e:Int)-128*(K:Int)) 128<=((max off (128*K)-128*K:Nat):Int)
 ·rw[QN h,show min e (128*(K+1))-max off (128*K)=0 by omega];rfl
 ·rw[QD h];have hm:(min ((e:Int)-128*(K:Int)) 128-((max off (128*K)-128*K:Nat):Int)).toNat=min e (128*(K+1))-max off (128*K):=by omega
  rw[hm];by_cases hh:VT F.v F.I F.x K= -1
  ·rw[QN hh];refine List.ext_getElem (by rw[UX,Ux]) λj h1 h2=>?_;rw[UX]at h1;rw[La];unfold Fg;rw[show(max off (128*K)+j)/128=K by omega,QN hh];simp[zs]
  ·rw[QD hh];obtain⟨b1,b2⟩:=Ws (iX hh);have hp:=Jg hg.plan;have Gt:(F.v.getD (VT F.v F.I F.x K).toNat []).length=128:=Yo hg (by omega);refine List.ext_getElem (by rw[Ux,MT,Nx,Gt];omega) λj h1 h2=>?_;rw[Ux]at h2;rw[List.getElem_take,List.getElem_drop];rw[La];unfold Fg;rw[show(max off (128*K)+j)/128=K by omega,QD hh];have hix:(((max off (128*K)-128*K:Nat):Int)).toNat+j=(max off (128*K)+j)%128:=by omega
   simp only[hix];rw[Yb (l:=F.v.getD (VT F.v F.I F.x K).toNat []),ZX (by rw[Gt];omega)];rfl
theorem Dq {F:QH}(hg:Ji F.v F.I) {off e:Nat}(ho:off<=8960) (he:e<=8960) (K:Nat) (hK:K<=70) :
  (List.range K).flatMap (UO F off e)=Z4 F.v F.I F.x off (min e (128*K)-off):=by
 induction K with
 | zero=>rw[show min e (128*0)-off=0 by omega];rfl
 | succ K ih =>
  rw[mR,AU,ih (by omega),bL,za,iP,Bq hg ho he (by omega)];unfold Z4;rw[←bS];congr 1;by_cases h1:128*K<=off
  ·rw[show min e (128*K)-off=0 by omega,show max off (128*K)=off by omega];rfl
  ·by_cases h2:e<=128*K
   ·rw[show min e (128*(K+1))-max off (128*K)=0 by omega,show min e (128*K)-off=min e (128*(K+1))-off by omega];simp
   ·have e1:min e (128*K)-off=128*K-off:=by omega
    have e2:max off (128*K)=off+(128*K-off):=by omega
    rw[e1,e2,List.range'_append_1];congr 1;omega
theorem PF {F:QH}(hg:Ji F.v F.I) {off size:Nat}(h:(off:Int)<JL F.x):NI F off size=Z4 F.v F.I F.x off (min size (JL F.x-(off:Int)).toNat):=by
 have hs:JL F.x<=8960:=by unfold JL;omega
 unfold NI;obtain⟨e,he⟩:∃e:Nat,EV F off size=(e:Int):=⟨(EV F off size).toNat,by unfold EV;split<;>omega⟩
 have uA:(e:Int)=if (size:Int)<JL F.x-(off:Int) then (off:Int)+size else JL F.x:=by rw[←he];rfl
 have he3:e<=8960:=by split at uA<;>omega
 rw[he,Dq hg (by omega) he3 _ (by omega)];congr 1;unfold Y5;split at uA<;>omega
theorem PE {v:List (List UInt8)}{I k:Int}(hg:Ji v I) {off size:Nat}:Ha v I k off size=(Z4 v I (QI v k) off (min size (JL (QI v k)-(off:Int)).toNat),0):=by
 unfold Ha;rw[QD (by omega)];by_cases h:JL (J9 v I k).x<=(off:Int)
 ·rw[QN h];have:JL (QI v k)<=(off:Int):=h;rw[show min size (JL (QI v k)-(off:Int)).toNat=0 by omega];rfl
 ·rw[QD h,mU,mU,PF (F:=J9 v I k) hg (by omega)];rfl
end Go.Proofs.YtfaplefkakpgcaaGreatDoor
