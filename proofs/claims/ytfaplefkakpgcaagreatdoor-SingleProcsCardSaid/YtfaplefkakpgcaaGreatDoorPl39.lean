import Derived.Test.YtfaplefkakpgcaaGreatDoorPl38
import Derived.Test.YtfaplefkakpgcaaGreatDoorPl28
set_option linter.unusedVariables false
set_option linter.unusedSimpArgs false
set_option maxHeartbeats 32000000
set_option maxRecDepth 100000
namespace Go.Proofs.YtfaplefkakpgcaaGreatDoor
open Go.Proofs.Tryz
open Go.RowKit
theorem RT (z:Nat) (s:List UInt8):(Kt z s).length=z:=by
 unfold Kt;split
 ·assumption
 ·simp[zs]
theorem ln (s:List UInt8):IntKind.u32.wrap ((ZF 4 s).getD 0)=(ZF 4 s).getD 0:=by
 cases h:ZF 4 s with
 | none=>rfl
 | some n=>exact aO h
def rY (s:List UInt8):QF:=XY ((QZ (((Ql (some 10) s).getD []).headD [])).getD 0) ((QZ (((Ql (some 10) s).getD []).tail.headD [])).getD 0) ((QZ (((Ql (some 10) s).getD []).tail.tail.headD [])).getD 0) (Kt 68 (((Ql (some 10) s).getD []).tail.tail.tail.headD [])) (Kt 32 (((Ql (some 10) s).getD []).tail.tail.tail.tail.headD [])) (Kt 136 (((Ql (some 10) s).getD []).tail.tail.tail.tail.tail.headD [])) ((ZH (((Ql (some 10) s).getD []).tail.tail.tail.tail.tail.tail.headD [])).getD false) ((ZF 4 (((Ql (some 10) s).getD []).tail.tail.tail.tail.tail.tail.tail.headD [])).getD 0) ((QZ (((Ql (some 10) s).getD []).tail.tail.tail.tail.tail.tail.tail.tail.headD [])).getD 0) ((ZF 8 (((Ql (some 10) s).getD []).tail.tail.tail.tail.tail.tail.tail.tail.tail.headD [])).getD 0)
theorem eM (s:List UInt8):(Yy (Kt 32 (((Ql (some 10) s).getD []).tail.tail.tail.tail.headD []))&&!(((((((((((Ql (some 10) s).isNone||(QZ (((Ql (some 10) s).getD []).headD [])).isNone)||(QZ (((Ql (some 10) s).getD []).tail.headD [])).isNone)||(QZ (((Ql (some 10) s).getD []).tail.tail.headD [])).isNone)||!decide ((((Ql (some 10) s).getD []).tail.tail.tail.headD []).length=68))||!decide ((((Ql (some 10) s).getD []).tail.tail.tail.tail.headD []).length=32))||!decide ((((Ql (some 10) s).getD []).tail.tail.tail.tail.tail.headD []).length=136))||(ZH (((Ql (some 10) s).getD []).tail.tail.tail.tail.tail.tail.headD [])).isNone)||(ZF 4 (((Ql (some 10) s).getD []).tail.tail.tail.tail.tail.tail.tail.headD [])).isNone)||(QZ (((Ql (some 10) s).getD []).tail.tail.tail.tail.tail.tail.tail.tail.headD [])).isNone)||(ZF 8 (((Ql (some 10) s).getD []).tail.tail.tail.tail.tail.tail.tail.tail.tail.headD [])).isNone))=(JV s).isSome/\
  (∀y,JV s=some y->Yy (Kt 32 (((Ql (some 10) s).getD []).tail.tail.tail.tail.headD []))=true/\y=rY s):=by
 unfold JV rY;cases h:Ql (some 10) s with
 | none=>exact⟨by simp,λy hy=>by cases hy⟩
 | some l =>
  obtain⟨t0,t1,t2,t3,t4,t5,t6,t7,t8,t9,rfl⟩:=Od (Yw h);simp only[OM,List.headD_cons,List.tail_cons,Option.isNone_some,Bool.false_or,qt,qo,qp];cases h0:QZ t0 with
  | none=>exact⟨by simp,λy hy=>by cases hy⟩
  | some v0 =>
  cases h1:QZ t1 with
  | none=>exact⟨by simp,λy hy=>by cases hy⟩
  | some v1 =>
  cases h2:QZ t2 with
  | none=>exact⟨by simp,λy hy=>by cases hy⟩
  | some v2 =>
  by_cases h3:t3.length=68
  ·by_cases h4:t4.length=32
   ·by_cases h5:t5.length=136
    ·cases h4b:Yy t4 with
     | false=>exact⟨by simp[Kt,h4,h4b,JQ,Zx,h3],λy hy=>by simp[Zx,h3,JQ,h4b]at hy⟩
     | true =>
     cases h6:ZH t6 with
     | none=>exact⟨by simp[Zx,JQ,h3,h4,h5,h4b],λy hy=>by simp[Zx,JQ,h3,h4,h5,h4b]at hy⟩
     | some v6 =>
     cases h7:ZF 4 t7 with
     | none=>exact⟨by simp[Zx,JQ,h3,h4,h5,h4b],λy hy=>by simp[Zx,JQ,h3,h4,h5,h4b]at hy⟩
     | some v7 =>
     cases h8:QZ t8 with
     | none=>exact⟨by simp[Zx,JQ,h3,h4,h5,h4b],λy hy=>by simp[Zx,JQ,h3,h4,h5,h4b]at hy⟩
     | some v8 =>
     cases h9:ZF 8 t9 with
     | none=>exact⟨by simp[Zx,JQ,h3,h4,h5,h4b],λy hy=>by simp[Zx,JQ,h3,h4,h5,h4b]at hy⟩
     | some v9=>exact⟨by simp[Zx,JQ,Kt,h3,h4,h5,h4b],λy hy=>by
       simp[Zx,JQ,h3,h4,h5,h4b]at hy;exact⟨by simp[Kt,h4,h4b],by rw[←hy];simp[Kt,h3,h4,h5]⟩⟩
    ·exact⟨by simp[Zx,JQ,h3,h4,h5],λy hy=>by simp[Zx,JQ,h3,h4,h5]at hy⟩
   ·exact⟨by simp[Zx,JQ,h3,h4],λy hy=>by simp[Zx,JQ,h3,h4]at hy⟩
  ·exact⟨by simp[Zx,h3],λy hy=>by simp[Zx,h3]at hy⟩
theorem eN (s:List UInt8) (hs:s.length<=100000000):∃(L0 L1 L2 L3 L4 L5 L6 L7 L8 L9 L10:List (List UInt8)) (b0 b1 b2 b3 b4 b5 b6 b7 b8 b9 VM:Bool) (pid par st why code num:Int) (cpu spc fdt:List UInt8) (mask:Bool),
  (∀w,Calls prog 135 #[.string (Qb s),.int .i64 10] w λe w'=>(∃v,e=.returned v/\KU w' L0 b0 v)/\Ext w w')/\
  (∀v w,KU w L0 b0 v->Calls prog 138 #[v] w (Zj w w L1 b1 (.int .i64 pid)))/\
  (∀v w,KU w L1 b1 v->Calls prog 138 #[v] w (Zj w w L2 b2 (.int .i64 par)))/\
  (∀v w,KU w L2 b2 v->Calls prog 138 #[v] w (Zj w w L3 b3 (.int .i64 st)))/\
  (∀v w,KU w L3 b3 v->Calls prog 197 #[v,.int .i64 68] w (Zj w w L4 b4 (.string (Qb cpu))))/\
  (∀v w,KU w L4 b4 v->Calls prog 197 #[v,.int .i64 32] w (Zj w w L5 b5 (.string (Qb spc))))/\
  (∀v w,KU w L5 b5 v->Calls prog 197 #[v,.int .i64 136] w (Zj w w L6 b6 (.string (Qb fdt))))/\
  (∀v w,KU w L6 b6 v->Calls prog 139 #[v] w (Zj w w L7 b7 (.bool mask)))/\
  (∀v w,KU w L7 b7 v->Calls prog 137 #[v,.int .i64 4] w (Zj w w L8 b8 (.int .u64 code)))/\
  (∀v w,KU w L8 b8 v->Calls prog 138 #[v] w (Zj w w L9 b9 (.int .i64 why)))/\
  (∀v w,KU w L9 b9 v->Calls prog 137 #[v,.int .i64 8] w (Zj w w L10 VM (.int .u64 num)))/\
  cpu.length=68/\
  spc.length=32/\
  fdt.length=136/\
  IntKind.u32.wrap code=code/\
  (Yy spc&&!VM)=(JV s).isSome/\
  (∀y,JV s=some y->Yy spc=true/\y=XY pid par st cpu spc fdt mask code why num):=by
 have hl:∀t∈(Ql (some 10) s).getD [],t.length<=1000000000:=by
  cases h:Ql (some 10) s with
  | none=>intro t ht;simp at ht
  | some l=>intro t ht;have:=Zd h t (by simpa using ht);omega
 have tl:∀{l:List (List UInt8)},(∀t∈l,t.length<=1000000000)->∀t∈l.tail,t.length<=1000000000:=λh t ht=>h t (List.mem_of_mem_tail ht);obtain⟨e1,e2⟩:=eM s;refine⟨_,_,_,_,_,_,_,_,_,_,_,_,_,_,_,_,_,_,_,_,_,_,_,_,_,_,_,_,_,_,_,_,λw=>Ul s (some 10) w (by omega) (λn h=>by cases h;decide),λv w h=>Za _ _ v w w h (Qg w) hl,λv w h=>Za _ _ v w w h (Qg w) (tl hl),λv w h=>Za _ _ v w w h (Qg w) (tl (tl hl)),λv w h=>Pb _ _ v 68 w w h (Qg w) (by decide) (by decide),λv w h=>Pb _ _ v 32 w w h (Qg w) (by decide) (by decide),λv w h=>Pb _ _ v 136 w w h (Qg w) (by decide) (by decide),λv w h=>El _ _ v w w h (Qg w),λv w h=>UR _ _ v 4 w w h (Qg w) (by decide) (by decide),λv w h=>Za _ _ v w w h (Qg w) (tl (tl (tl (tl (tl (tl (tl (tl hl)))))))),λv w h=>UR _ _ v 8 w w h (Qg w) (by decide) (by decide),RT _ _,RT _ _,RT _ _,ln _,e1,e2⟩
structure TP (w wx:World) (rb pb tb:Nat) (y:QF) (A:Option Addr) (n c:Nat) (b:Bool):Prop where
 rbx:Box wx rb 57 (Qq Tp).toArray
 pbx:Box wx pb 57 (Qq y).toArray
 tbx:Box wx tb 193 (tC A n c b)
 ext:Ext w wx
 h0:w.heap.size<=rb
 h1:rb<pb
 h2:pb<tb
namespace TP
variable {w wx w':World}{rb pb tb:Nat}{y y':QF}{A A':Option Addr}{n c n' c':Nat}{b b':Bool}
theorem more (S:TP w wx rb pb tb y A n c b) (x:Ext wx w'):TP w w' rb pb tb y A n c b:=⟨S.rbx.ext x,S.pbx.ext x,S.tbx.ext x,S.ext.trans x,S.h0,S.h1,S.h2⟩
theorem stT (S:TP w wx rb pb tb y A n c b) (hb:Box w' tb 193 (tC A' n' c' b')) (d:But tb wx w'):TP w w' rb pb tb y A' n' c' b' :=
 ⟨d.box S.rbx (by have:=S.h1;have:=S.h2;omega),d.box S.pbx (by have:=S.h2;omega),hb,d.past S.ext (by have:=S.h0;have:=S.h1;have:=S.h2;omega),S.h0,S.h1,S.h2⟩
theorem stP (S:TP w wx rb pb tb y A n c b) (hb:Box w' pb 57 (Qq y').toArray) (d:But pb wx w'):TP w w' rb pb tb y' A n c b :=
 ⟨d.box S.rbx (by have:=S.h1;omega),hb,d.box S.tbx (by have:=S.h2;omega),d.past S.ext (by have:=S.h0;have:=S.h1;omega),S.h0,S.h1,S.h2⟩
theorem eq (S:TP w wx rb pb tb y A n c b) (h:Qq y=Qq y'):TP w wx rb pb tb y' A n c b:=⟨S.rbx,h▸S.pbx,S.tbx,S.ext,S.h0,S.h1,S.h2⟩
end TP
section
theorem pz (y:QF) (v:Int):(Qq y).toArray.setIfInBounds 0 (.int .i64 v)=(Qq { y with pid:=v }).toArray:=by kernel_rfl
theorem py (y:QF) (v:Int):(Qq y).toArray.setIfInBounds 1 (.int .i64 v)=(Qq { y with parent:=v }).toArray:=by kernel_rfl
theorem eT (y:QF) (v:Int):(Qq y).toArray.setIfInBounds 2 (.int .i64 v)=(Qq { y with state:=v }).toArray:=by kernel_rfl
theorem ut (y:QF) (v:Int):(Qq y).toArray.setIfInBounds 19 (.int .u32 v)=(Qq { y with pc:=v }).toArray:=by kernel_rfl
theorem kq (y:QF) (v:Bool):(Qq y).toArray.setIfInBounds 92 (.bool v)=(Qq { y with mask:=v }).toArray:=by kernel_rfl
theorem kp (y:QF) (v:Int):(Qq y).toArray.setIfInBounds 93 (.int .u32 v)=(Qq { y with code:=v }).toArray:=by kernel_rfl
theorem qA (y:QF) (v:Int):(Qq y).toArray.setIfInBounds 94 (.int .i64 v)=(Qq { y with why:=v }).toArray:=by kernel_rfl
theorem px (y:QF) (v:Int):(Qq y).toArray.setIfInBounds 95 (.int .u64 v)=(Qq { y with num:=v }).toArray:=by kernel_rfl
theorem kn (y:QF) (f g h:Nat->Int):Mc (Qq y).toArray 68 (Jf (Ro default f g h 8))=(Qq (Ro y f g h 8)).toArray:=by kernel_rfl
end
theorem jD (p:QF):∀v∈Jf p,v.oneCell'=true:=λv hv=>by
 simp only[Jf,GH,nc,Pm,Rw,Fe]at hv;obtain⟨i,_,h|h|h⟩:=hv<;>(subst h;rfl)
def OK (s:List UInt8) (w:World) (e:Ending) (w':World):Prop :=
 (∃y:QF,e=.returned (.tuple #[.agg (Qq y).toArray,.bool (JV s).isSome])/\(∀y',JV s=some y'->Qq y'=Qq y))/\Ext w w'
theorem PA {y:QF}:(prog.info? 57).map (·.size)=some (Qq y).toArray.size:=by
 rw[NS,Q2];kernel_rfl
theorem Iu {y:QF}:(Qq y).toArray.all (·.oneCell')=true:=all_oneCell_toArray (λv hv=>Ky y v hv)
theorem BV (s:List UInt8) (w:World) (hs:s.length<=100000000) :
  Calls prog 142 #[.string (Qb s)] w (OK s w):=by
 obtain⟨L0,L1,L2,L3,L4,L5,L6,L7,L8,L9,L10,b0,b1,b2,b3,b4,b5,b6,b7,b8,b9,VM,pid,par,st,why,code,num,cpu,spc,fdt,mask,hof,h0,h1,h2,h3,h4,h5,h6,h7,h8,h9,Mw,hc4,rM,Pu,hend,GS⟩:=eN s hs;have mO:=Qa hof;have H0:=Qa h0;have H1:=Qa h1;have H2:=Qa h2;have H3:=Qa h3;have H4:=Qa h4;have H5:=Qa h5;have H6:=Qa h6;have H7:=Qa h7;have H8:=Qa h8;have H9:=Qa h9;have Ur:=Qa hend;have iC:=Qa GS;clear hof h0 h1 h2 h3 h4 h5 h6 h7 h8 h9 hend GS hs;go_enter func142,ntmps142;go_upto_region 1 with fail;have ni:=Qs w 57 (Qq Tp).toArray;have x0:Ext w (w.alloc (.cells (Qq Tp).toArray 57)):=(Qg w).alloc _;have z0:(w.alloc (.cells (Qq Tp).toArray 57)).heap.size=w.heap.size+1:=YB _ _;change Code.wp _ _ _ _ (w.alloc (.cells (Qq Tp).toArray 57));generalize w.alloc (.cells (Qq Tp).toArray 57)=wa at ni x0 z0 ⊢;go_upto_region 2 with(refine JU _ (.tmp 4) (.tmp 12) rfl rfl (w.heap.size+1) _ _ _ rfl rfl (by rw[←z0];exact Qs wa 57 _) (by kernel_rfl) rfl (by kernel_rfl) ?_;intro w1 bp g1)
 have bp':Box w1 (w.heap.size+1) 57 (Qq Tp).toArray:=bp;have x1:Ext w w1:=(x0.alloc _).grown g1 (λj e=>by cases e;omega);have br:Box w1 w.heap.size 57 (Qq Tp).toArray:=(ni.ext ((Qg wa).alloc _)).grown g1 (by simp);have AE:w.heap.size+2<=w1.heap.size:=by have:=g1.size;rw[YB]at this;omega
 clear ni x0 z0 bp g1 wa;have SF:w.heap.size<w.heap.size+1:=sy _;have pE:w.heap.size<=w.heap.size:=Q4 _;generalize CP:w.heap.size+1=pb at *;have XS:pb<w1.heap.size:=by omega
 clear CP AE;generalize hrr:w.heap.size=rb at br SF ⊢;have Qb2:w.heap.size<=rb:=by omega
 clear pE
 go_upto_region 3 with(first
  | (go_at_call 135;refine(mO.o _).mono ?_;rintro e w2 ⟨⟨v2,rfl,A0,n0,c0,rfl,s0,k0⟩,x2⟩)
  | (refine YD _ _ (Qs w2 _ _) rfl rfl rfl rfl rfl ?_;intro w3 b3 g3))
 have y3:Ext w2 w3:=((Qg w2).alloc _).grown g3 (λj e=>by cases e;exact Q4 _);have S0:TP w w3 rb pb w2.heap.size Tp A0 n0 c0 b0:=⟨br.ext (x2.trans y3),bp'.ext (x2.trans y3),b3,(x1.trans x2).trans y3,Qb2,SF,Ca XS x2.size⟩
 have r0:=s0.ext y3;generalize w2.heap.size=tb at S0 ⊢;clear bp' x1 br XS SF Qb2 x2 s0 y3 b3 g3 mO w1 w2
 go_upto_region 4 with(first
  | (refine XB _ S0.tbx rfl rfl rfl ?_)
  | (go_at_call 138;refine(H0.o _ _ ⟨A0,n0,c0,rfl,r0,k0⟩).mono ?_;rintro e p1 ⟨⟨v1,rfl,A1,n1,c1,rfl,q1,k1⟩,z1⟩;have S1a:=S0.more z1;have r1a:=q1.ext z1)
  | (refine YD _ _ S1a.tbx rfl rfl rfl rfl rfl ?_;intro o1 bb1 gg1;have S1b:=S1a.stT bb1 (Qw gg1);have r1b:=r1a.but (Qw gg1) S1a.tbx (by decide))
  | (refine QJ 3 _ _ rfl rfl pb 0 (.int .i64 pid) _ _ _ rfl rfl rfl YT S1b.pbx (by rw[NS,Q2];decide) (pz _ _) ?_;intro u1 bz1 dz1;have S1:=S1b.stP bz1 dz1;have r1:=r1b.but dz1 S1b.pbx (by decide)))
 clear H0 S0 S1a r0 r1a q1 z1 k0 bb1 gg1 S1b r1b bz1 dz1
 go_upto_region 5 with(first
  | (refine XB _ S1.tbx rfl rfl rfl ?_)
  | (go_at_call 138;refine(H1.o _ _ ⟨A1,n1,c1,rfl,r1,k1⟩).mono ?_;rintro e p2 ⟨⟨v2,rfl,A2,n2,c2,rfl,q2,k2⟩,z2⟩;have S2a:=S1.more z2;have r2a:=q2.ext z2)
  | (refine YD _ _ S2a.tbx rfl rfl rfl rfl rfl ?_;intro o2 bb2 gg2;have sg:=S2a.stT bb2 (Qw gg2);have r2b:=r2a.but (Qw gg2) S2a.tbx (by decide))
  | (refine QJ 3 _ _ rfl rfl pb 1 (.int .i64 par) _ _ _ rfl rfl rfl YT sg.pbx (by rw[NS,Q2];decide) (py _ _) ?_;intro u2 bz2 dz2;have S2:=sg.stP bz2 dz2;have r2:=r2b.but dz2 sg.pbx (by decide)))
 clear H1 S1 S2a r1 r2a q2 z2 k1 bb2 gg2 sg r2b bz2 dz2
 go_upto_region 6 with(first
  | (refine XB _ S2.tbx rfl rfl rfl ?_)
  | (go_at_call 138;refine(H2.o _ _ ⟨A2,n2,c2,rfl,r2,k2⟩).mono ?_;rintro e p3 ⟨⟨v3,rfl,A3,n3,c3,rfl,q3,k3⟩,z3⟩;have S3a:=S2.more z3;have r3a:=q3.ext z3)
  | (refine YD _ _ S3a.tbx rfl rfl rfl rfl rfl ?_;intro o3 bb3 gg3;have vd:=S3a.stT bb3 (Qw gg3);have r3b:=r3a.but (Qw gg3) S3a.tbx (by decide))
  | (refine QJ 3 _ _ rfl rfl pb 2 (.int .i64 st) _ _ _ rfl rfl rfl YT vd.pbx (by rw[NS,Q2];decide) (eT _ _) ?_;intro u3 bz3 dz3;have S3:=vd.stP bz3 dz3;have r3:=r3b.but dz3 vd.pbx (by decide)))
 clear H2 S2 S3a r2 r3a q3 z3 k2 bb3 gg3 vd r3b bz3 dz3
 go_upto_region 7 with(first
  | (refine XB _ S3.tbx rfl rfl rfl ?_)
  | (go_at_call 197;refine(H3.o _ _ ⟨A3,n3,c3,rfl,r3,k3⟩).mono ?_;rintro e p4 ⟨⟨v4,rfl,A4,n4,c4,rfl,q4,k4⟩,z4⟩;have S4a:=S3.more z4;have r4a:=q4.ext z4)
  | (refine YD _ _ S4a.tbx rfl rfl rfl rfl rfl ?_;intro o4 bb4 gg4;have S4:=S4a.stT bb4 (Qw gg4);have r4:=r4a.but (Qw gg4) S4a.tbx (by decide)))
 clear H3 S3 S4a r3 r4a q4 z4 k3 bb4 gg4;have sF:=Qa k4;clear k4;have ru:=Qa hc4;have mu:=Qa rM;have xI:=Qa Pu;clear hc4 rM Pu;replace S4:=S4.eq (show _=Qq (AH { Tp with pid:=pid,parent:=par,state:=st } (λi=>QE cpu (4*i) 4) 0) from rfl);generalize wX:({ Tp with pid:=pid,parent:=par,state:=st }:QF)=y3 at S4;have zA:=Qa wX;have hl3:(Qb cpu).size=68:=by rw[Qh];exact Mw
 have gx:=Qa S4;have HR4:=Qa r4;clear wX S4 r4;go_upto_region 8 with fail;go_loopw [7] (λi wx=>∃k:Nat,k<=16/\i=.int .i64 k/\TP w wx rb pb tb (AH y3 (λi=>QE cpu (4*i) 4) k) A4 n4 c4 b4/\TRow wx A4 n4 L4) (λi _=>16-(intOf i).toNat);case atStart=>exact⟨0,by omega,rfl,gx.o,HR4.o⟩
 case round =>
  obtain⟨k,hk,rfl,S1,r1⟩:=hrel;clear gx HR4;by_cases Qn:k<16
  ·have Y6:(k:Int)<16:=by omega
   have HP:Zm ((Qq (AH y3 (λi=>QE cpu (4*i) 4) k)).toArray.setIfInBounds (3+k) (.int .u32 (QE cpu (4*k) 4))=(Qq (AH y3 (λi=>QE cpu (4*i) 4) (k+1))).toArray):=Qa (aX y3 (λi=>QE cpu (4*i) 4) Qn);have HG:=Qa (λw=>MF cpu (4*k) 4 (by decide) w);have hu:=DL cpu (4*k);generalize QE cpu (4*k) 4=r at *;clear Mw
   go_wp2_with (first
    | (go_at_call 169;refine(HG.o _).mono ?_;rintro e w2 ⟨rfl,rfl⟩)
    | (refine QJ 45 _ _ rfl rfl pb (3+k) (.int .u32 r) _ _ _ rfl rfl rfl Ew S1.pbx (by rw[NS,Q2];omega) HP.o ?_;intro w3 np d3;have S2:=S1.stP np d3;have r2:=r1.but d3 S1.pbx (by decide)))
   go_roundw;case rel=>exact⟨k+1,by omega,by go_num,S2,r2⟩
   case measure=>simp[intOf];omega
  ·obtain rfl:k=16:=by omega
   have HG:=Qa (λw=>MF cpu 64 4 (by decide) w);have hu:=DL cpu 64;generalize hyr:AH y3 (λi=>QE cpu (4*i) 4) 16=yR at *;generalize gD:QE cpu 64 4=pc at *;have zD:=Qa hyr;have fg:=Qa gD;clear hyr gD Mw hk Qn
   go_upto_region 12 with(first
    | (go_at_call 169;refine(HG.o _).mono ?_;rintro e w2 ⟨rfl,rfl⟩)
    | (refine QJ 45 _ _ rfl rfl pb 19 (.int .u32 pc) _ _ _ rfl rfl rfl Ew S1.pbx (by rw[NS,Q2];decide) (ut _ _) ?_;intro w3 np d3;have S4:=S1.stP np d3;have r4:=r1.but d3 S1.pbx (by decide)))
   have k4:=sF.o;clear S1 r1 HG hu np d3 hl3;generalize hyp:({ yR with pc:=pc }:QF)=yP at S4;have zC:=Qa hyp;clear hyp
   go_upto_region 13 with(first
    | (refine XB _ S4.tbx rfl rfl rfl ?_)
    | (go_at_call 197;refine(H4.o _ _ ⟨A4,n4,c4,rfl,r4,k4⟩).mono ?_;rintro e p5 ⟨⟨v5,rfl,A5,n5,c5,rfl,q5,k5⟩,z5⟩;have S5a:=S4.more z5;have r5a:=q5.ext z5)
    | (refine YD _ _ S5a.tbx rfl rfl rfl rfl rfl ?_;intro o5 bb5 gg5;have S5:=S5a.stT bb5 (Qw gg5);have r5:=r5a.but (Qw gg5) S5a.tbx (by decide)))
   clear H4 S4 S5a r4 r5a q5 z5 k4 bb5 gg5;have HSP:=Qa (λw=>DC spc w ru.o);obtain⟨bs,hbs⟩:∃b,b=Yy spc:=⟨_,rfl⟩
   have HBS:=Qa hbs;unfold D9 at HSP;rw[←hbs]at HSP Ur iC;clear hbs
   go_upto_region 15 with(first
    | (go_at_call 198;refine(HSP.o _).mono ?_;rintro e w4 ⟨⟨q,rfl,hq⟩,x4⟩;have si:=S5.more x4;have r5b:=r5.ext x4)
    | (refine PU (.tmp 71) (.tmp 69) rfl rfl pb yP q _ rfl rfl si.pbx ?_;intro w5 b5' d5;have S5c:=si.stP b5' d5;have r5c:=r5b.but d5 si.pbx (by decide)))
   have HQ:=Qa hq;clear S5 r5 si r5b x4 b5' d5 hq HSP;replace S5:=S5c;replace r5:=r5c;clear S5c r5c;generalize hyS:yP.pages q=yS at S5;have zE:=Qa hyS;clear hyS
   go_upto_region 16 with(first
    | (refine XB _ S5.tbx rfl rfl rfl ?_)
    | (go_at_call 197;refine(H5.o _ _ ⟨A5,n5,c5,rfl,r5,k5⟩).mono ?_;rintro e p6 ⟨⟨v6,rfl,A6,n6,c6,rfl,q6,k6⟩,z6⟩;have S6a:=S5.more z6;have r6a:=q6.ext z6)
    | (refine YD _ _ S6a.tbx rfl rfl rfl rfl rfl ?_;intro o6 Se gg6;have S6:=S6a.stT Se (Qw gg6);have r6:=r6a.but (Qw gg6) S6a.tbx (by decide)))
   clear H5 S5 S6a r5 r6a q6 z6 k5 Se gg6;have mH:=Qa (λw=>IR fdt w mu.o);have HPF:=Qa (kn yS (λi=>QG fdt (17*i)) (λi=>wrap64 (QE fdt (17*i+1) 8)) (λi=>wrap64 (QE fdt (17*i+9) 8)))
   go_upto_region 17 with(first
    | (go_at_call 199;refine(mH.o _).mono ?_;rintro e w6 ⟨rfl,x6⟩;have ve:=S6.more x6;have r6b:=r6.ext x6)
    | (refine Yg 55 (.tmp 79) (.tmp 78) rfl rfl pb 68 (Jf (Qaj fdt 8)) _ _ _ rfl rfl (jD _) (by show _=some 24;exact Mt) ve.pbx (by rw[NS,Q2];show 68+24<=96;decide) HPF.o ?_;intro w7 b7' d7;have S6c:=ve.stP b7' d7;have r6c:=r6b.but d7 ve.pbx (by decide)))
   replace S6:=S6c;replace r6:=r6c;clear ve r6b S6c r6c x6 b7' d7 mH HPF;generalize hyF:Ro yS (λi=>QG fdt (17*i)) (λi=>wrap64 (QE fdt (17*i+1) 8)) (λi=>wrap64 (QE fdt (17*i+9) 8)) 8=yF at S6;have HYF:=Qa hyF;clear hyF
   go_upto_region 18 with(first
    | (refine XB _ S6.tbx rfl rfl rfl ?_)
    | (go_at_call 139;refine(H6.o _ _ ⟨A6,n6,c6,rfl,r6,k6⟩).mono ?_;rintro e p7 ⟨⟨v7,rfl,A7,n7,c7,rfl,q7,k7⟩,z7⟩;have S7a:=S6.more z7;have r7a:=q7.ext z7)
    | (refine YD _ _ S7a.tbx rfl rfl rfl rfl rfl ?_;intro o7 bb7 gg7;have sk:=S7a.stT bb7 (Qw gg7);have r7b:=r7a.but (Qw gg7) S7a.tbx (by decide))
    | (refine QJ 4 _ _ rfl rfl pb 92 (.bool mask) _ _ _ rfl rfl rfl Pe sk.pbx (by rw[NS,Q2];decide) (kq _ _) ?_;intro u7 bz7 dz7;have S7:=sk.stP bz7 dz7;have r7:=r7b.but dz7 sk.pbx (by decide)))
   clear H6 S6 S7a r6 r7a q7 z7 k6 bb7 gg7 sk r7b bz7 dz7
   go_upto_region 19 with(first
    | (refine XB _ S7.tbx rfl rfl rfl ?_)
    | (go_at_call 137;refine(H7.o _ _ ⟨A7,n7,c7,rfl,r7,k7⟩).mono ?_;rintro e p8 ⟨⟨v8,rfl,A8,n8,c8,rfl,q8,k8⟩,z8⟩;have S8a:=S7.more z8;have r8a:=q8.ext z8)
    | (refine YD _ _ S8a.tbx rfl rfl rfl rfl rfl ?_;intro o8 bb8 gg8;have S8:=S8a.stT bb8 (Qw gg8);have r8:=r8a.but (Qw gg8) S8a.tbx (by decide)))
   clear H7 S7 S8a r7 r8a q8 z8 k7 bb8 gg8;have Pu:=xI.o;go_upto_region 20 with(refine QJ 45 _ _ rfl rfl pb 93 (.int .u32 code) _ _ _ rfl rfl rfl Ew S8.pbx (by rw[NS,Q2];decide) (kp _ _) ?_;intro w8 b8' d8;have zO:=S8.stP b8' d8;have r8b:=r8.but d8 S8.pbx (by decide))
   clear S8 r8 b8' d8 Pu;replace S8:=zO;replace r8:=r8b;clear zO r8b
   go_upto_region 21 with(first
    | (refine XB _ S8.tbx rfl rfl rfl ?_)
    | (go_at_call 138;refine(H8.o _ _ ⟨A8,n8,c8,rfl,r8,k8⟩).mono ?_;rintro e p9 ⟨⟨v9,rfl,A9,n9,c9,rfl,q9,k9⟩,z9⟩;have S9a:=S8.more z9;have r9a:=q9.ext z9)
    | (refine YD _ _ S9a.tbx rfl rfl rfl rfl rfl ?_;intro o9 bb9 gg9;have vf:=S9a.stT bb9 (Qw gg9);have r9b:=r9a.but (Qw gg9) S9a.tbx (by decide))
    | (refine QJ 3 _ _ rfl rfl pb 94 (.int .i64 why) _ _ _ rfl rfl rfl YT vf.pbx (by rw[NS,Q2];decide) (qA _ _) ?_;intro u9 bz9 dz9;have S9:=vf.stP bz9 dz9;have r9:=r9b.but dz9 vf.pbx (by decide)))
   clear H8 S8 S9a r8 r9a q9 z9 k8 bb9 gg9 vf r9b bz9 dz9
   go_upto_region 22 with(first
    | (refine XB _ S9.tbx rfl rfl rfl ?_)
    | (go_at_call 137;refine(H9.o _ _ ⟨A9,n9,c9,rfl,r9,k9⟩).mono ?_;rintro e p10 ⟨⟨v10,rfl,A10,n10,c10,rfl,gL,Mb⟩,z10⟩;have nR:=S9.more z10;have Qc4:=gL.ext z10)
    | (refine YD _ _ nR.tbx rfl rfl rfl rfl rfl ?_;intro uY Sc gg10;have AQ:=nR.stT Sc (Qw gg10);have kw:=Qc4.but (Qw gg10) nR.tbx (by decide))
    | (refine QJ 31 _ _ rfl rfl pb 95 (.int .u64 num) _ _ _ rfl rfl rfl Ex AQ.pbx (by rw[NS,Q2];decide) (px _ _) ?_;intro u10 bz10 dz10;have Aw:=AQ.stP bz10 dz10;have r10:=kw.but dz10 AQ.pbx (by decide)))
   clear H9 S9 nR r9 Qc4 gL z10 k9 Sc gg10 AQ kw bz10 dz10;have CK:bs=true->Qq ({ { { { yF with mask:=mask } with code:=code } with why:=why } with num:=num }:QF)=Qq (XY pid par st cpu spc fdt mask code why num):=λh=>by rw[←HYF.o,←zE.o,HQ.o h,←zC.o,←zD.o,←zA.o,←fg.o];exact Ee pid par st cpu spc fdt mask code why num
   have MM:=Qa CK;generalize ({ { { { yF with mask:=mask } with code:=code } with why:=why } with num:=num }:QF)=yE at Aw MM;clear CK r10 Mb;have qX:=Qa (λy' (h:JV s=some y')=>show Qq y'=Qq yE from by
    obtain⟨h1,h2⟩:=iC.o y' h;rw[MM.o h1,h2])
   have dG:pb≠rb:=by have:=Aw.h1;omega
   have CN:tb≠rb:=by have:=Aw.h1;have:=Aw.h2;omega
   have HBP:=Qa (λ(w':World) (h:But rb u10.drew w')=>h.box (Aw.pbx.ext (Qg u10).drew) dG);have gW:=Qa (λ(w':World) (h:But rb u10.drew w')=>h.box (Aw.tbx.ext (Qg u10).drew) CN);have pE:=Aw.rbx;have sW:=Qa (λ(w':World) (h:But rb u10.drew w')=>h.past (Aw.ext.trans (Qg u10).drew) Aw.h0);clear Aw dG CN;go_upto_region 22 with fail;cases bs with
   | false =>
    refine Vl 9 [[],[],[1],[2],[2,3],[2,4],[2,5],[0],[6]] [.agg (Qq yE).toArray,.bool false,.bool false,undef,undef,undef,.bool false,undef,.bool false] 7 rb 57 (Qq yE).toArray _ (by kernel_rfl) (by kernel_rfl) pE (by rw[NS,NS,Q2,Q2]) (λus=>?_);simp only[KG,KI,UY,KJ];rw[Qu];refine ZU (λw' hC hd=>?_) ?_
    ·clear hd;have b':=HBP.o w' hC.1;refine Qx 106 rfl (by simp[Act.put]) ?_;go_wp2_with (refine J2 _ (.tmp 4) rfl rfl pb (Qq yE).toArray _ _ rfl b' underlying57 rfl PA ?_)
     exact⟨ZE.same (by decide),QP.of (by decide) rfl⟩
    simp only[S_];rw[Qu];refine ZU (λw' hC hd=>?_) ?_
    ·clear hd;refine Qx 107 rfl (by simp[Act.put]) ?_;go_wp2_with fail;exact⟨ZE.same (by decide),QP.of (by decide) rfl⟩
    simp only[S_];rw[Qu];refine ZU (λw' hC hd=>?_) ?_
    ·have h1:us 1=.bool false:=QP.at (by decide) (hd 1 (by simp));clear hd;generalize us 1=u1 at *;subst h1;refine Qx 108 rfl (by simp[Act.put]) ?_;go_wp2_with fail;exact⟨ZE.same (by decide),QP.of (by decide) rfl⟩
    simp only[S_];rw[Qu];refine ZU (λw' hC hd=>?_) ?_
    ·have h2:us 2=.bool false:=QP.at (by decide) (hd 2 (by simp));clear hd;generalize us 2=u2 at *;subst h2;refine Qx 109 rfl (by simp[Act.put]) ?_;go_wp2_with fail;exact⟨ZE.same (by decide),QP.of (by decide) rfl⟩
    simp only[S_];rw[Qu];refine ZU (λw' hC hd=>?_) ?_
    ·have h2:us 2=.bool false:=QP.at (by decide) (hd 2 (by simp));have h3:us 3=undef:=QP.at (by decide) (hd 3 (by simp));clear hd;generalize us 2=u2 at *;subst h2;generalize us 3=u3 at *;subst h3;refine Qx 110 rfl (by simp[Act.put]) ?_;go_wp2_with fail;exact⟨ZE.same (by decide),QP.of (by decide) rfl⟩
    simp only[S_];rw[Qu];refine ZU (λw' hC hd=>?_) ?_
    ·have h2:us 2=.bool false:=QP.at (by decide) (hd 2 (by simp));have h4:us 4=undef:=QP.at (by decide) (hd 4 (by simp));clear hd;generalize us 2=u2 at *;subst h2;generalize us 4=u4 at *;subst h4;refine Qx 111 rfl (by simp[Act.put]) ?_;go_wp2_with fail;exact⟨ZE.same (by decide),QP.of (by decide) rfl⟩
    simp only[S_];rw[Qu];refine ZU (λw' hC hd=>?_) ?_
    ·have h2:us 2=.bool false:=QP.at (by decide) (hd 2 (by simp));have h5:us 5=undef:=QP.at (by decide) (hd 5 (by simp));clear hd;generalize us 2=u2 at *;subst h2;generalize us 5=u5 at *;subst h5;refine Qx 112 rfl (by simp[Act.put]) ?_;go_wp2_with fail;exact⟨ZE.same (by decide),QP.of (by decide) rfl⟩
    simp only[S_];rw[Qu];refine ZU (λw' hC hd=>?_) ?_
    ·have h0:us 0=.agg (Qq yE).toArray:=QP.at (by decide) (hd 0 (by simp));clear hd;generalize us 0=u0 at *;subst h0;obtain⟨hC1,cs,hC2,hC3⟩:=hC;refine Uz rfl rfl (λw u h=>h) ?_;go_wp2_with (refine JU _ (.tmp 2) (.tmp 106) rfl rfl rb (Qq yE).toArray cs _ rfl rfl hC2 PA hC3 Iu ?_;intro w2 b2 g2)
     exact⟨ZE.st (Qw g2) b2,QP.st b2⟩
    simp only[S_];rw[Qu];refine ZU (λw' hC hd=>?_) ?_
    ·have h6:us 6=.bool false:=QP.at (by decide) (hd 6 (by simp));clear hd;generalize us 6=u6 at *;subst h6;refine Qx 3 rfl (by simp[Act.put]) ?_;go_wp2_with fail;exact⟨ZE.same (by decide),QP.of (by decide) rfl⟩
    simp only[S_];rw[Qu];intro wz hC hv;have h0:us 0=.agg (Qq yE).toArray:=QP.at (by decide) (hv 0 (by omega));have h1:us 1=.bool false:=QP.at (by decide) (hv 1 (by omega));have h2:us 2=.bool false:=QP.at (by decide) (hv 2 (by omega));have h3:us 3=undef:=QP.at (by decide) (hv 3 (by omega));have h4:us 4=undef:=QP.at (by decide) (hv 4 (by omega));have h5:us 5=undef:=QP.at (by decide) (hv 5 (by omega));have h6:us 6=.bool false:=QP.at (by decide) (hv 6 (by omega));have h8:us 8=.bool false:=QP.at (by decide) (hv 8 (by omega));have bz:Box wz rb 57 (Qq yE).toArray:=QP.bx (hv 7 (by omega));clear hv;generalize us 0=y0 at *;subst h0;generalize us 1=y1 at *;subst h1;generalize us 2=y2 at *;subst h2;generalize us 3=y3 at *;subst h3;generalize us 4=y4 at *;subst h4;generalize us 5=y5 at *;subst h5;generalize us 6=y6 at *;subst h6;generalize us 8=y8 at *;subst h8;generalize us 7=y7 at *;rw[wpList];have xz:=sW.o wz hC.1;go_wp2_with fail;refine Jv (Qd rfl _ _ rb _ _ _ _ rfl rfl bz underlying57 rfl PA) rfl ⟨⟨yE,?_,qX.o⟩,xz⟩;rw[←Ur.o];rfl
   | true =>
    refine Vl 9 [[],[],[1],[2],[2,3],[2,4],[2,5],[0],[6]] [.agg (Qq yE).toArray,.bool true,.bool true,.pointer (some ⟨tb,1,none⟩),.bool VM,.bool (!VM),.bool (!VM),undef,.bool (!VM)] 7 rb 57 (Qq yE).toArray _ (by kernel_rfl) (by kernel_rfl) pE (by rw[NS,NS,Q2,Q2]) (λus=>?_);simp only[KG,KI,UY,KJ];rw[Qu];refine ZU (λw' hC hd=>?_) ?_
    ·clear hd;have b':=HBP.o w' hC.1;refine Qx 106 rfl (by simp[Act.put]) ?_;go_wp2_with (refine J2 _ (.tmp 4) rfl rfl pb (Qq yE).toArray _ _ rfl b' underlying57 rfl PA ?_)
     exact⟨ZE.same (by decide),QP.of (by decide) rfl⟩
    simp only[S_];rw[Qu];refine ZU (λw' hC hd=>?_) ?_
    ·clear hd;refine Qx 107 rfl (by simp[Act.put]) ?_;go_wp2_with fail;exact⟨ZE.same (by decide),QP.of (by decide) rfl⟩
    simp only[S_];rw[Qu];refine ZU (λw' hC hd=>?_) ?_
    ·have h1:us 1=.bool true:=QP.at (by decide) (hd 1 (by simp));clear hd;generalize us 1=u1 at *;subst h1;refine Qx 108 rfl (by simp[Act.put]) ?_;go_wp2_with fail;exact⟨ZE.same (by decide),QP.of (by decide) rfl⟩
    simp only[S_];rw[Qu];refine ZU (λw' hC hd=>?_) ?_
    ·have h2:us 2=.bool true:=QP.at (by decide) (hd 2 (by simp));clear hd;generalize us 2=u2 at *;subst h2;refine Qx 109 rfl (by simp[Act.put]) ?_;go_wp2_with fail;exact⟨ZE.same (by decide),QP.of (by decide) rfl⟩
    simp only[S_];rw[Qu];refine ZU (λw' hC hd=>?_) ?_
    ·have h2:us 2=.bool true:=QP.at (by decide) (hd 2 (by simp));have h3:us 3=.pointer (some ⟨tb,1,none⟩):=QP.at (by decide) (hd 3 (by simp));clear hd;generalize us 2=u2 at *;subst h2;generalize us 3=u3 at *;subst h3;have q':w'.cell? ⟨tb,1,none⟩=some (.bool VM):=(gW.o w' hC.1).cell 1;refine Qx 110 rfl (by simp[Act.put]) ?_;go_wp2_with fail;exact⟨ZE.same (by decide),QP.of (by decide) rfl⟩
    simp only[S_];rw[Qu];refine ZU (λw' hC hd=>?_) ?_
    ·have h2:us 2=.bool true:=QP.at (by decide) (hd 2 (by simp));have h4:us 4=.bool VM:=QP.at (by decide) (hd 4 (by simp));clear hd;generalize us 2=u2 at *;subst h2;generalize us 4=u4 at *;subst h4;refine Qx 111 rfl (by simp[Act.put]) ?_;go_wp2_with fail;exact⟨ZE.same (by decide),QP.of (by decide) rfl⟩
    simp only[S_];rw[Qu];refine ZU (λw' hC hd=>?_) ?_
    ·have h2:us 2=.bool true:=QP.at (by decide) (hd 2 (by simp));have h5:us 5=.bool (!VM):=QP.at (by decide) (hd 5 (by simp));clear hd;generalize us 2=u2 at *;subst h2;generalize us 5=u5 at *;subst h5;refine Qx 112 rfl (by simp[Act.put]) ?_;go_wp2_with fail;exact⟨ZE.same (by decide),QP.of (by decide) rfl⟩
    simp only[S_];rw[Qu];refine ZU (λw' hC hd=>?_) ?_
    ·have h0:us 0=.agg (Qq yE).toArray:=QP.at (by decide) (hd 0 (by simp));clear hd;generalize us 0=u0 at *;subst h0;obtain⟨hC1,cs,hC2,hC3⟩:=hC;refine Uz rfl rfl (λw u h=>h) ?_;go_wp2_with (refine JU _ (.tmp 2) (.tmp 106) rfl rfl rb (Qq yE).toArray cs _ rfl rfl hC2 PA hC3 Iu ?_;intro w2 b2 g2)
     exact⟨ZE.st (Qw g2) b2,QP.st b2⟩
    simp only[S_];rw[Qu];refine ZU (λw' hC hd=>?_) ?_
    ·have h6:us 6=.bool (!VM):=QP.at (by decide) (hd 6 (by simp));clear hd;generalize us 6=u6 at *;subst h6;refine Qx 3 rfl (by simp[Act.put]) ?_;go_wp2_with fail;exact⟨ZE.same (by decide),QP.of (by decide) rfl⟩
    simp only[S_];rw[Qu];intro wz hC hv;have h0:us 0=.agg (Qq yE).toArray:=QP.at (by decide) (hv 0 (by omega));have h1:us 1=.bool true:=QP.at (by decide) (hv 1 (by omega));have h2:us 2=.bool true:=QP.at (by decide) (hv 2 (by omega));have h3:us 3=.pointer (some ⟨tb,1,none⟩):=QP.at (by decide) (hv 3 (by omega));have h4:us 4=.bool VM:=QP.at (by decide) (hv 4 (by omega));have h5:us 5=.bool (!VM):=QP.at (by decide) (hv 5 (by omega));have h6:us 6=.bool (!VM):=QP.at (by decide) (hv 6 (by omega));have h8:us 8=.bool (!VM):=QP.at (by decide) (hv 8 (by omega));have bz:Box wz rb 57 (Qq yE).toArray:=QP.bx (hv 7 (by omega));clear hv;generalize us 0=y0 at *;subst h0;generalize us 1=y1 at *;subst h1;generalize us 2=y2 at *;subst h2;generalize us 3=y3 at *;subst h3;generalize us 4=y4 at *;subst h4;generalize us 5=y5 at *;subst h5;generalize us 6=y6 at *;subst h6;generalize us 8=y8 at *;subst h8;generalize us 7=y7 at *;rw[wpList];have xz:=sW.o wz hC.1;go_wp2_with fail;refine Jv (Qd rfl _ _ rb _ _ _ _ rfl rfl bz underlying57 rfl PA) rfl ⟨⟨yE,?_,qX.o⟩,xz⟩;rw[←Ur.o];rfl
theorem Ow (x:List UInt8):((((Ql (some 2) x).isNone||(QZ (((Ql (some 2) x).getD []).headD [])).isNone))||((Ql (some 2) x).getD []).tail.isEmpty)=(Jm x).isNone/\
  (∀y,Jm x=some y->y=((QZ (((Ql (some 2) x).getD []).headD [])).getD 0,((Ql (some 2) x).getD []).tail.headD [])):=by
 unfold Jm;cases h:Ql (some 2) x with
 | none=>exact⟨by simp,λy hy=>by cases hy⟩
 | some l =>
  obtain⟨a,b,rfl⟩:=DJ (Yw h);cases hi:QZ a with
  | none=>exact⟨by simp[hi],λy hy=>by simp[hi]at hy⟩
  | some n=>exact⟨by simp[hi],λy hy=>by simp[hi]at hy;rw[←hy];simp[hi]⟩
theorem Ox (x:List UInt8) (hx:x.length<=100000000):∃(L0 L1 L2:List (List UInt8)) (b0 b1:Bool) (nv:Int) (sv:List UInt8),
  (∀w,Calls prog 135 #[.string (Qb x),.int .i64 2] w λe w'=>(∃v,e=.returned v/\KU w' L0 b0 v)/\Ext w w')/\
  (∀v w0 w,KU w0 L0 b0 v->Ext w0 w->Calls prog 138 #[v] w (Zj w0 w L1 b1 (.int .i64 nv)))/\
  (∀v w0 w,KU w0 L1 b1 v->Ext w0 w->Calls prog 136 #[v] w (Zj w0 w L2 (Jm x).isNone (.string (Qb sv))))/\
  (∀y,Jm x=some y->y=(nv,sv)):=by
 obtain⟨h1,h2⟩:=Ow x;have hl:∀t∈(Ql (some 2) x).getD [],t.length<=1000000000:=by
  cases h:Ql (some 2) x with
  | none=>intro t ht;simp at ht
  | some l=>intro t ht;have:=Zd h t (by simpa using ht);omega
 refine⟨(Ql (some 2) x).getD [],((Ql (some 2) x).getD []).tail,((Ql (some 2) x).getD []).tail.tail,(Ql (some 2) x).isNone,((Ql (some 2) x).isNone||(QZ (((Ql (some 2) x).getD []).headD [])).isNone),(QZ (((Ql (some 2) x).getD []).headD [])).getD 0,((Ql (some 2) x).getD []).tail.headD [],λw=>Ul x (some 2) w (by omega) (λn h=>by cases h;decide),λv w0 w h x=>Za _ _ v w0 w h x hl,λv w0 w h x=>?_,h2⟩;rw[←h1];exact ZM _ _ v w0 w h x
def Rv (s:List UInt8) (w:World) (e:Ending) (w':World):Prop :=
 ∃l u,e=.returned (.tuple #[u,.bool (QK s).isSome])/\w'.ownsRow w.heap.size 92 2 u l.length (l.flatMap Zn)/\l.length<=s.length/\(∀l',QK s=some l'->l'=l)/\Ext w w'
theorem KP (s:List UInt8) (w:World) (hs:s.length<=100000000) :
  Calls prog 140 #[.string (Qb s)] w (Rv s w):=by
 have HO:=Qa (λw=>Ul s none w (by omega) (λn h=>by cases h));obtain⟨T,hT⟩:∃T,T=(Ql none s).getD []:=⟨_,rfl⟩
 obtain⟨bT,hbT⟩:∃b,b=(Ql none s).isNone:=⟨_,rfl⟩
 have hTs:T.length<=s.length/\∀x∈T,x.length<=s.length:=by
  rw[hT];cases h:Ql none s with
  | none=>exact⟨by simp,λx hx=>by simp at hx⟩
  | some l=>exact⟨by have:=YI h;have h2:=(YL s).1;rw[this]at h2;simpa using h2,λx hx=>Zd h x (by simpa using hx)⟩
 have HW:=Qa (show bT=false->QK s=Zp Jm T fromλh=>by
  unfold QK;rw[hT];rw[hbT]at h;cases h2:Ql none s with
  | none=>rw[h2]at h;cases h
  | some l=>rfl)
 have yv:=Qa (show bT=true->QK s=none/\T=[] fromλh=>by
  unfold QK;rw[hT];rw[hbT]at h;cases h2:Ql none s with
  | none=>exact⟨rfl,rfl⟩
  | some l=>rw[h2]at h;cases h)
 rw[←hT,←hbT]at HO;have va:=Qa hTs;have o0:=Y2 w 92 2;have x0:=(Qg w).alloc (.cells #[] 92);clear hT hbT hTs;go_enter func140,ntmps140;go_upto_region 2 with fail;generalize w.alloc (.cells #[] 92)=w1 at *
 go_upto_region 3 with(first
  | (go_at_call 135;refine(HO.o _).mono ?_;rintro e w2 ⟨⟨v2,rfl,A,n,c,rfl,s2,k2⟩,x2⟩)
  | (refine YD _ _ (Qs w2 _ _) rfl rfl rfl rfl rfl ?_;intro w3 b3 g3))
 have G6:Ext w2 w3:=((Qg w2).alloc _).grown g3 (λj e=>by cases e;exact Q4 _);have x3:=(x0.trans x2).trans G6;have o3:=Qc o0 (x2.trans G6);have s3:=s2.ext G6;have hn:n=T.length:=s2.1;subst hn;have OG:=Qa x3;have HO3:=Qa o3;have Qkh:=(x0.trans x2).size;clear o0 x0 x2 s2 g3 G6;obtain⟨g5,hg5⟩:∃g,g=w2.heap.size:=⟨_,rfl⟩
 rw[←hg5]at b3 Qkh ⊢;clear hg5;have HB3:=Qa b3;have qf:=Qa s3;have c0:w3.cell? ⟨g5,0,none⟩=some (.slice A T.length c):=b3.cell 0;clear b3 s3;go_upto_region 4 with fail;go_loopw [4,16] (λl i wx=>∃done:List ZY,done.length<=T.length/\i=.int .i64 done.length/\wx.ownsRow w.heap.size 92 2 l done.length (done.flatMap Zn)/\Ext w wx/\Box wx g5 193 (tC A T.length c bT)/\TRow wx A T.length T/\Zm (Zp Jm T=(Zp Jm (T.drop done.length)).map (done++·))) (λ_ i _=>T.length-(intOf i).toNat);case atStart=>exact⟨[],by simp,rfl,HO3.o,OG.o,HB3.o,qf.o,Qa (by rw[Mn,KJ];exact Ut Jm T)⟩
 case round =>
  obtain⟨done,hd,rfl,o1,x1,AZ,s3,hA⟩:=hrel;have c1:wr.cell? ⟨g5,0,none⟩=some (.slice A T.length c):=AZ.cell 0;have q1:wr.cell? ⟨g5,1,none⟩=some (.bool bT):=AZ.cell 1;have G8:=Qa o1;have WN:=Qa x1;have ro:=Qa AZ;have XH:=Qa s3;replace s3:=s3.strs;clear o1 c0 x1 HO3 AZ HB3 qf OG x3 o3;by_cases Qn:done.length<T.length
  ·have HAS:=Qa (λ(y:ZY) (hy:Jm T[done.length]=some y)=>show Zp Jm T=(Zp Jm (T.drop (done++[y]).length)).map ((done++[y])++·) from by
    have:=hA.o;rw[fj Qn]at this;have h2:=WR this hy;rw[VL,Weh];exact h2)
   have HAF:=Qa (λ(hy:Jm T[done.length]=none)=>show QK s=none from by
    cases hb:bT with
    | true=>exact(yv.o hb).1
    | false =>
     rw[HW.o hb];have:=hA.o;rw[fj Qn]at this;exact KX this hy)
   have hx:T[done.length].length<=100000000:=YR (va.o.2 _ (NT Qn)) hs;obtain⟨gA,oA,hAA,Qf⟩:=s3.2 (by omega);subst hAA;have c2:=Qf done.length Qn;have jc:(done.length:Int)<(T.length:Int):=by omega
   have hgt:T.length<=100000000:=YR va.o.1 hs;obtain⟨x,hxe⟩:∃x,x=T[done.length]:=⟨_,rfl⟩
   rw[←hxe]at hx HAS HAF c2;clear hxe Qf s3;obtain⟨L0,L1,L2,b0,b1,nv,sv,hof,hnu,htx,hy⟩:=Ox x hx;have mO:=Qa hof;have gj:=Qa hnu;have HTX:=Qa htx;have HY:=Qa hy;have Gn:=Qa c1;have vJ:=Qa (show done.length<=s.length from YR hd va.o.1);have qV:=Qa (show done.length<=1000000000 by omega);have HXW:=Qa (λw9 (x:Ext wr w9)=>show w.heap.size<=(w9.alloc (.cells (Zn (nv,sv)).toArray 92)).heap.size from((WN.o.trans x).alloc _).size);clear hof hnu htx hy hx hs HW yv va hA;cases hq:Jm x with
   | none =>
    rw[hq]at HTX;have HN:=Qa (HAF.o hq);clear hq HAS HAF HY
    go_wp2_with (first
     | (go_at_call 135;refine(mO.o _).mono ?_;rintro e w4 ⟨⟨v4,rfl,A4,n4,c4,rfl,s4,k4⟩,x4⟩)
     | (refine YD _ _ (Qs w4 _ _) rfl rfl rfl rfl rfl ?_;intro w5 b5 g5';have x5:Ext w4 w5:=((Qg w4).alloc _).grown g5' (λj e=>by cases e;exact Q4 _))
     | (refine XB _ b5 rfl rfl rfl ?_)
     | (go_at_call 138;refine(gj.o _ _ _ ⟨A4,n4,c4,rfl,s4,k4⟩ x5).mono ?_;rintro e w6 ⟨⟨v6,rfl,A6,n6,c6,rfl,s6,k6⟩,x6⟩)
     | (refine YD _ _ (b5.ext x6) rfl rfl rfl rfl rfl ?_;intro w7 b7 g7;have x7:Ext w4 w7:=(x5.trans x6).grown g7 (λj e=>by cases e;exact Q4 _))
     | (refine XB _ b7 rfl rfl rfl ?_)
     | (go_at_call 136;refine(HTX.o _ _ _ ⟨A6,n6,c6,rfl,s6,k6⟩ x7).mono ?_;rintro e w8 ⟨⟨v8,rfl,A8,n8,c8,rfl,s8,k8⟩,x8⟩)
     | (refine YD _ _ (b7.ext x8) rfl rfl rfl rfl rfl ?_;intro w9 b9 g9;have x9:Ext w4 w9:=(x7.trans x8).grown g9 (λj e=>by cases e;exact Q4 _);have q9:w9.cell? ⟨w4.heap.size,1,none⟩=some (.bool true):=b9.cell 1))
    have fX:=WN.o.trans (x4.trans x9);have uY:=Qc G8.o (x4.trans x9);go_ret2;exact⟨done,_,by rw[HN.o];rfl,uY,vJ.o,(λl' h=>by rw[HN.o]at h;cases h),fX⟩
   | some y =>
    rw[hq]at HTX;obtain rfl:=HY.o y hq;have HA2:=Qa (HAS.o _ hq);clear hq HAS HAF HY
    go_wp2_with (first
     | (go_at_call 135;refine(mO.o _).mono ?_;rintro e w4 ⟨⟨v4,rfl,A4,n4,c4,rfl,s4,k4⟩,x4⟩)
     | (refine YD _ _ (Qs w4 _ _) rfl rfl rfl rfl rfl ?_;intro w5 b5 g5';have x5:Ext w4 w5:=((Qg w4).alloc _).grown g5' (λj e=>by cases e;exact Q4 _))
     | (refine XB _ b5 rfl rfl rfl ?_)
     | (go_at_call 138;refine(gj.o _ _ _ ⟨A4,n4,c4,rfl,s4,k4⟩ x5).mono ?_;rintro e w6 ⟨⟨v6,rfl,A6,n6,c6,rfl,s6,k6⟩,x6⟩)
     | (refine YD _ _ (b5.ext x6) rfl rfl rfl rfl rfl ?_;intro w7 b7 g7;have x7:Ext w4 w7:=(x5.trans x6).grown g7 (λj e=>by cases e;exact Q4 _))
     | (refine XB _ b7 rfl rfl rfl ?_)
     | (go_at_call 136;refine(HTX.o _ _ _ ⟨A6,n6,c6,rfl,s6,k6⟩ x7).mono ?_;rintro e w8 ⟨⟨v8,rfl,A8,n8,c8,rfl,s8,k8⟩,x8⟩)
     | (refine YD _ _ (b7.ext x8) rfl rfl rfl rfl rfl ?_;intro w9 b9 g9;have x9:Ext w4 w9:=(x7.trans x8).grown g9 (λj e=>by cases e;exact Q4 _);have q9:w9.cell? ⟨w4.heap.size,1,none⟩=some (.bool false):=b9.cell 1)
     | (refine Ak (nv,sv) rfl (.tmp 38) (.tmp 42) rfl rfl rfl (Qc G8.o ((x4.trans x9).alloc _)) (Qs _ _ _) qV.o (HXW.o _ (x4.trans x9)) ?_;intro u10 gP uY g10))
    have xa:=(x4.trans x9).alloc (.cells #[.int .i64 nv,.string (Qb sv)] 92);have oz:=Qc G8.o xa;have y10:=vz (WN.o.trans xa) g10 (WN.o.trans xa).size (λk hk=>QU oz hk);have bz:=(ro.o.ext xa).grown g10 (QX oz (ro.o.ext xa) (by decide));have sz:=Ti (XH.o.ext xa) g10 oz (by decide);go_roundw;case rel=>exact⟨done++[(nv,sv)],by rw[VL];exact Qn,by rw[VL];go_num,by rw[VL];exact uY,y10,bz,sz,HA2⟩
    case measure=>simp only[intOf];omega
  ·have HD:=Qa (show done.length=T.length by omega);have jc:¬(done.length:Int)<(T.length:Int):=by omega
   have HF:=Qa (show(!bT)=(QK s).isSome from by
    cases hb:bT with
    | true=>rw[(yv.o hb).1];rfl
    | false =>
     rw[HW.o hb,hA.o,HD.o,vr];rfl)
   have HL:=Qa (λl' (h:QK s=some l')=>show l'=done from by
    cases hb:bT with
    | true=>rw[(yv.o hb).1]at h;cases h
    | false =>
     rw[HW.o hb,hA.o,HD.o,vr]at h;simp[Zp]at h;exact h.symm)
   have vJ:=Qa (show done.length<=s.length from YR hd va.o.1);have q2:wr.drew.cell? ⟨g5,1,none⟩=some (.bool bT):=((Qg wr).drew).keep q1;clear hA HW yv va hd hs c1 q1;go_upto_region 13 with fail;go_region;go_wp2_with fail;go_ret2;exact⟨done,_,by rw[←HF.o];rfl,Qc G8.o (Qg _).drew,vJ.o,HL.o,WN.o.drew⟩
theorem iV {o:Oper}{a:Act}{W:World}{K:Act->World->Prop}{Q:Exit->Act->World->Prop}{S E:TypeId}{zv:Value}{z bytes B g n:Nat}{u:Value}{xs:List Value}(y:List Value) (hu:prog.underlying S=some (.slice E)) (hinf:(prog.info? E).map (λi=>(i.zero,i.size,i.bytes))=some (some zv,z,bytes)) (hz0:0<z) (hzc:zv.cells.size=z)
  (hyl:y.length=z) (hyo:∀v∈y,v.oneCell'=true) (hby:bytes<=1000) (sl x:Operand)
  (ho:o.op=.call { callee:=.builtin .append,args:=#[sl,x],argTypes:=#[S,S] }) (hs:a.eval sl=u) (hx:a.eval x=.slice (some ⟨g,0,none⟩) 1 1)
  (h0:W.ownsRow B E z u n xs) (hb:Box W g E y.toArray) (hn:n<=1000000000) (hB:B<=W.heap.size)
  (hK:∀u' W',W'.ownsRow B E z u' (n+1) (xs++y)->W.grownBy W' u.ownBlock->K (a.put o.dst u') W'):o.wp prog a W K Q:=by
 obtain⟨i,hi,hz,h1,h2⟩:=AW hinf;obtain⟨v',w',hr,ho2,hg,_,_⟩:=nU (P:=prog) W B S o.type E i zv z bytes hu hi hz h1 h2 hzc hz0 u n xs h0 ⟨g,0,none⟩ 1 1 y (by omega) (λj u hj=>by
  have ha:(⟨g,0,none⟩:Addr).add j=⟨g,j,none⟩:=by unfold Addr.add;split<;>simp_all
  rw[ha,hb.cell j];simpa using hj) hyo (by unfold maxLen;omega) (by
   have h3:(n+1)*bytes<=(n+1)*1000:=Nat.mul_le_mul_left _ hby;omega) hB
 unfold Oper.wp execOp;simp only[ho,resolve,invoke,builtin,Ny,Fb,Mm,bO,P4,Gz,hs,hx,hr];exact hK v' w' ho2 hg
def MQ (s:List UInt8) (w:World) (e:Ending) (w':World):Prop :=
 ∃l u,e=.returned (.tuple #[u,.bool (QK s).isSome])/\w'.ownsRow w.heap.size 95 2 u l.length (l.flatMap Zn)/\l.length<=s.length/\(∀l',QK s=some l'->l'=l)/\Ext w w'
theorem DB (s:List UInt8) (w:World) (hs:s.length<=100000000) :
  Calls prog 141 #[.string (Qb s)] w (MQ s w):=by
 have HW:=Qa (KP s w hs);obtain⟨bz,hbz⟩:∃b,b=(QK s).isSome:=⟨_,rfl⟩
 unfold Rv at HW;unfold MQ;rw[←hbz]at HW ⊢;clear hbz;go_enter func141,ntmps141;go_upto_region 2 with(go_at_call 140;refine HW.o.mono ?_;rintro e w1 ⟨l,u,rfl,o1,hl,hlast,x1⟩)
 obtain⟨A,c,rfl⟩:=Vt o1;have HL:=Qa hl;have HLa:=Qa hlast;have RJ:l.length<=100000000:=YR hl hs;have o2:=Qc o1 ((Qg w1).alloc (.cells #[] 95));have p2:=Q8 (Y2 w1 95 2) x1.size;have x2:=x1.alloc (.cells #[] 95);clear hl hlast hs HW o1 x1;go_upto_region 4 with fail;generalize w1.alloc (.cells #[] 95)=w2 at *;have go:=Qa o2;have Aq:=Qa p2;have Gx:=Qa x2;clear o2 p2 x2;go_loopw [6,16] (λv i wx=>∃k:Nat,k<=l.length/\i=.int .i64 k/\wx.ownsRow w.heap.size 95 2 v k ((l.take k).flatMap Zn)/\wx.ownsRow w.heap.size 92 2 (.slice A l.length c) l.length (l.flatMap Zn)/\Ext w wx) (λ_ i _=>l.length-(intOf i).toNat);case atStart=>exact⟨0,WP _,rfl,Aq.o,go.o,Gx.o⟩
 case round =>
  obtain⟨k,hk,rfl,p1,o1,x1⟩:=hrel;have G9:=Qa p1;have G8:=Qa o1;have WN:=Qa x1;clear go Aq Gx p1 x1;by_cases Qn:k<l.length
  ·have jc:(k:Int)<(l.length:Int):=by omega
   obtain⟨g,o,rfl,Qf⟩:=(J5 (s:=⟨A,l.length,c⟩) o1 (λ_ _=>rfl) rfl rfl).wrs.2 (by show 0<l.length;omega);obtain⟨c1,c2⟩:=Qf k Qn;have HT:=Qa (show(l.take k).flatMap Zn++Zn l[k]=(l.take (k+1)).flatMap Zn from by rw[Gp Qn,AU];simp);clear o1 Qf;generalize l[k]=y at *;have d1:wr.drew.cell? ⟨g,o+k*2,none⟩=some (.int .i64 y.1):=((Qg wr).drew).keep c1;have d2:wr.drew.cell? ⟨g,o+k*2+1,none⟩=some (.string (Qb y.2)):=((Qg wr).drew).keep c2;clear c1 c2;have xz:Ext wr (wr.alloc (.cells #[.int .i64 y.1,.string (Qb y.2)] 95)).drew:=((Qg wr).alloc _).drew;have bz:=(Qs wr 95 #[.int .i64 y.1,.string (Qb y.2)]).ext ((Qg _).drew);have oP:=Qc G9.o xz;have oW:=Qc G8.o xz;have yz:=WN.o.trans xz;go_upto_region 6 with fail;refine iS (by kernel_rfl) ?_;change wpAny _ _ _ _ _ _ _ (World.drew _);refine OO (i:=0) (v:=u6) rfl (by kernel_rfl) (by kernel_rfl) (by kernel_rfl) (λ_ _ _ h=>h) (MU ⟨by rfl,?_⟩) ?_
   ·intro w;go_simp
   refine OO (i:=1) (v:=.slice (some ⟨g,o,none⟩) l.length c) rfl (by kernel_rfl) (by kernel_rfl) (by kernel_rfl) (λ_ _ _ h=>h) (MU ⟨by rfl,?_⟩) ?_
   ·intro w;go_simp
   refine OO (i:=2) (v:=.int .i64 k) rfl (by kernel_rfl) (by kernel_rfl) (by kernel_rfl) (λ_ _ _ h=>h) (MU ⟨by rfl,?_⟩) ?_
   ·intro w;go_simp
   refine OO (i:=3) (v:=.pointer (some ⟨g,o+k*2,none⟩)) rfl (by kernel_rfl) (by kernel_rfl) (by kernel_rfl) (λ_ _ _ h=>h) (MU ⟨by rfl,?_⟩) ?_
   ·intro w;go_simp
   refine OO (i:=4) (v:=.pointer (some ⟨g,o+k*2,none⟩)) rfl (by kernel_rfl) (by kernel_rfl) (by kernel_rfl) (λ_ _ _ h=>h) (MU ⟨by rfl,?_⟩) ?_
   ·intro w;go_simp
   refine OO (i:=6) (v:=.slice (some ⟨g,o,none⟩) l.length c) rfl (by kernel_rfl) (by kernel_rfl) (by kernel_rfl) (λ_ _ _ h=>h) (MU ⟨by rfl,?_⟩) ?_
   ·intro w;go_simp
   refine OO (i:=7) (v:=.int .i64 k) rfl (by kernel_rfl) (by kernel_rfl) (by kernel_rfl) (λ_ _ _ h=>h) (MU ⟨by rfl,?_⟩) ?_
   ·intro w;go_simp
   refine OO (i:=8) (v:=.pointer (some ⟨g,o+k*2,none⟩)) rfl (by kernel_rfl) (by kernel_rfl) (by kernel_rfl) (λ_ _ _ h=>h) (MU ⟨by rfl,?_⟩) ?_
   ·intro w;go_simp
   refine OO (i:=9) (v:=.pointer (some ⟨g,o+k*2+1,none⟩)) rfl (by kernel_rfl) (by kernel_rfl) (by kernel_rfl) (λ_ _ _ h=>h) (MU ⟨by rfl,?_⟩) ?_
   ·intro w;go_simp
   refine Vf (rs:=[5,10]) (by kernel_rfl) (by simp) ?_;refine YZ rfl (λK hK=>?_) (YZ rfl (λK hK=>?_) Vh)
   ·go_simp;refine hK _ _ ?_;clear hK K;refine Vf (rs:=[10]) (by kernel_rfl) (by simp) ?_;refine YZ rfl (λK hK=>?_) Vh;go_simp;refine hK _ _ ?_;clear hK K;refine Vf (rs:=[11]) (by kernel_rfl) (by simp) ?_;refine YZ rfl (λK hK=>?_) Vh;go_simp;refine hK _ _ ?_;clear hK K;refine Vf (rs:=[12]) (by kernel_rfl) (by simp) ?_;refine YZ rfl (λK hK=>?_) Vh;go_simp;refine hK _ _ ?_;clear hK K;refine Vf (rs:=[13]) (by kernel_rfl) (by simp) ?_;refine YZ rfl (λK hK=>?_) Vh;refine iV (Zn y) underlying33 Dp (by decide) rfl rfl (Nn y) (by decide) (.tmp 19) (.tmp 31) rfl rfl rfl oP bz (by omega) yz.size ?_;intro u' W' hoP hgP;refine hK _ _ ?_;clear hK K;refine Vf (rs:=[14]) (by kernel_rfl) (by simp) ?_;refine YZ rfl (λK hK=>?_) Vh;go_simp;refine hK _ _ ?_;clear hK K;refine bU (by kernel_rfl) ?_ _;go_wp2_with fail;go_roundw;case rel=>exact⟨k+1,Qn,by go_num,by rw[←HT.o];exact hoP,Zz oW oP (by decide) hgP,vz yz hgP yz.size (λk hk=>QU oP hk)⟩
    case measure=>simp only[intOf];omega
   ·go_simp;refine hK _ _ ?_;clear hK K;refine Vf (rs:=[5]) (by kernel_rfl) (by simp) ?_;refine YZ rfl (λK hK=>?_) Vh;go_simp;refine hK _ _ ?_;clear hK K;refine Vf (rs:=[11]) (by kernel_rfl) (by simp) ?_;refine YZ rfl (λK hK=>?_) Vh;go_simp;refine hK _ _ ?_;clear hK K;refine Vf (rs:=[12]) (by kernel_rfl) (by simp) ?_;refine YZ rfl (λK hK=>?_) Vh;go_simp;refine hK _ _ ?_;clear hK K;refine Vf (rs:=[13]) (by kernel_rfl) (by simp) ?_;refine YZ rfl (λK hK=>?_) Vh;refine iV (Zn y) underlying33 Dp (by decide) rfl rfl (Nn y) (by decide) (.tmp 19) (.tmp 31) rfl rfl rfl oP bz (by omega) yz.size ?_;intro u' W' hoP hgP;refine hK _ _ ?_;clear hK K;refine Vf (rs:=[14]) (by kernel_rfl) (by simp) ?_;refine YZ rfl (λK hK=>?_) Vh;go_simp;refine hK _ _ ?_;clear hK K;refine bU (by kernel_rfl) ?_ _;go_wp2_with fail;go_roundw;case rel=>exact⟨k+1,Qn,by go_num,by rw[←HT.o];exact hoP,Zz oW oP (by decide) hgP,vz yz hgP yz.size (λk hk=>QU oP hk)⟩
    case measure=>simp only[intOf];omega
  ·have jc:¬(k:Int)<(l.length:Int):=by omega
   obtain rfl:k=l.length:=by omega
   clear o1;go_wp2_with fail;go_ret2;have:=G9.o;rw[Ri]at this;exact⟨l,_,rfl,this,HL.o,HLa.o,WN.o⟩
theorem JC {α β:Type} {o:Option α}{f:α->Option β}{b:Bool}(h:∀x,(f x).isSome=b):(o.bind f).isSome=(o.isSome&&b):=by
 cases o with
 | none=>rfl
 | some x=>simp[h]
theorem LF {α β:Type} {o:Option α}{f:α->β}:(o.map f).isSome=o.isSome:=by cases o<;>rfl
theorem SJ {α:Type} (o:Option α):o.isNone= !o.isSome:=by cases o<;>rfl
theorem Po {α β:Type} {f:α->Option β}:∀l:List α,(Zp f l).isSome=l.all (λx=>(f x).isSome)
 | []=>rfl
 | x::l=>by rw[Zp,JC (λy=>LF),Po l];rfl
theorem VY {l:List (List UInt8)}{n:Nat}(h:∀t∈l,t.length<=n):(l.headD []).length<=n:=by
 cases l with
 | nil=>simp
 | cons x l=>exact h _ Gq
theorem GY (s:List UInt8):(VE s).isSome=(!(Ql none s).isNone&&((Ql none s).getD []).all (λx=>(JV x).isSome)):=by
 unfold VE;cases h:Ql none s with
 | none=>rfl
 | some l=>simp[Po]
theorem qK (t:List UInt8):(Lit.int .i64 ((QZ t).getD 0)).wf=true:=by
 cases h:QZ t with
 | none=>rfl
 | some v =>
  have k:=(UD h).1;unfold Up at k;have e1:IntKind.i64.min= -9223372036854775808:=by decide
  have e2:IntKind.i64.max=9223372036854775807:=by decide
  simp only[OM];unfold Lit.wf;simp only[Vg,MS,e1,e2];exact k
theorem ea (s:List UInt8) :
  (((((((((Ql none (((Ql (some 16) s).getD []).tail.tail.tail.tail.tail.tail.tail.tail.tail.tail.tail.tail.tail.tail.tail.headD [])).getD []).all (λx=>(JV x).isSome)&&(QK (((Ql (some 16) s).getD []).tail.tail.tail.tail.tail.tail.tail.tail.tail.tail.tail.tail.headD [])).isSome)&&(QK (((Ql (some 16) s).getD []).tail.tail.tail.tail.tail.tail.tail.tail.tail.tail.tail.tail.tail.headD [])).isSome)&&(QK (((Ql (some 16) s).getD []).tail.tail.tail.tail.tail.tail.tail.tail.tail.tail.tail.tail.tail.tail.headD [])).isSome)&&!((((((((((((((((((Ql (some 16) s).isNone||((Ql (some 16) s).getD []).isEmpty)||(ZF 8 (((Ql (some 16) s).getD []).tail.headD [])).isNone)||(QZ (((Ql (some 16) s).getD []).tail.tail.headD [])).isNone)||(QZ (((Ql (some 16) s).getD []).tail.tail.tail.headD [])).isNone)||(QZ (((Ql (some 16) s).getD []).tail.tail.tail.tail.headD [])).isNone)||(QZ (((Ql (some 16) s).getD []).tail.tail.tail.tail.tail.headD [])).isNone)||((Ql (some 16) s).getD []).tail.tail.tail.tail.tail.tail.isEmpty)||(QZ (((Ql (some 16) s).getD []).tail.tail.tail.tail.tail.tail.tail.headD [])).isNone)||((Ql (some 16) s).getD []).tail.tail.tail.tail.tail.tail.tail.tail.isEmpty)||(ZH (((Ql (some 16) s).getD []).tail.tail.tail.tail.tail.tail.tail.tail.tail.headD [])).isNone)||(ZF 8 (((Ql (some 16) s).getD []).tail.tail.tail.tail.tail.tail.tail.tail.tail.tail.headD [])).isNone)||(QZ (((Ql (some 16) s).getD []).tail.tail.tail.tail.tail.tail.tail.tail.tail.tail.tail.headD [])).isNone)||((Ql (some 16) s).getD []).tail.tail.tail.tail.tail.tail.tail.tail.tail.tail.tail.tail.isEmpty)||((Ql (some 16) s).getD []).tail.tail.tail.tail.tail.tail.tail.tail.tail.tail.tail.tail.tail.isEmpty)||((Ql (some 16) s).getD []).tail.tail.tail.tail.tail.tail.tail.tail.tail.tail.tail.tail.tail.tail.isEmpty)||((Ql (some 16) s).getD []).tail.tail.tail.tail.tail.tail.tail.tail.tail.tail.tail.tail.tail.tail.tail.isEmpty)))&&!(Ql none (((Ql (some 16) s).getD []).tail.tail.tail.tail.tail.tail.tail.tail.tail.tail.tail.tail.tail.tail.tail.headD [])).isNone)&&((((Ql (some 16) s).getD []).headD [])==[104,105,98,50]))=(Ye s).isSome)/\
  (∀z e,Ye s=some (z,e)->(z.clock=((ZF 8 (((Ql (some 16) s).getD []).tail.headD [])).getD 0)/\z.quantum=((QZ (((Ql (some 16) s).getD []).tail.tail.headD [])).getD 0)/\z.cur=((QZ (((Ql (some 16) s).getD []).tail.tail.tail.headD [])).getD 0)/\z.left=((QZ (((Ql (some 16) s).getD []).tail.tail.tail.tail.headD [])).getD 0)/\z.next=((QZ (((Ql (some 16) s).getD []).tail.tail.tail.tail.tail.headD [])).getD 0)/\z.init=(((Ql (some 16) s).getD []).tail.tail.tail.tail.tail.tail.headD [])/\z.newPipe=((QZ (((Ql (some 16) s).getD []).tail.tail.tail.tail.tail.tail.tail.headD [])).getD 0)/\z.inn=(((Ql (some 16) s).getD []).tail.tail.tail.tail.tail.tail.tail.tail.headD [])/\z.fin=((ZH (((Ql (some 16) s).getD []).tail.tail.tail.tail.tail.tail.tail.tail.tail.headD [])).getD false)/\z.told=((ZF 8 (((Ql (some 16) s).getD []).tail.tail.tail.tail.tail.tail.tail.tail.tail.tail.headD [])).getD 0)/\z.dleft=((QZ (((Ql (some 16) s).getD []).tail.tail.tail.tail.tail.tail.tail.tail.tail.tail.tail.headD [])).getD 0))/\
   QK (((Ql (some 16) s).getD []).tail.tail.tail.tail.tail.tail.tail.tail.tail.tail.tail.tail.headD [])=some e.pe/\QK (((Ql (some 16) s).getD []).tail.tail.tail.tail.tail.tail.tail.tail.tail.tail.tail.tail.tail.headD [])=some e.di/\QK (((Ql (some 16) s).getD []).tail.tail.tail.tail.tail.tail.tail.tail.tail.tail.tail.tail.tail.tail.headD [])=some e.pi/\VE (((Ql (some 16) s).getD []).tail.tail.tail.tail.tail.tail.tail.tail.tail.tail.tail.tail.tail.tail.tail.headD [])=some e.pr):=by
 refine⟨?_,λz e h=>?_⟩
 ·unfold Ye;cases h:Ql (some 16) s with
  | none=>simp
  | some l =>
   obtain⟨t0,t1,t2,t3,t4,t5,t6,t7,t8,t9,t10,t11,t12,t13,t14,t15,rfl⟩:=I6 (Yw h);simp only[OM,List.headD_cons,List.tail_cons,Option.isNone_some,Bool.false_or,qt,qo,qp,List.isEmpty_cons,Bool.or_false];by_cases h0:t0=[104,105,98,50]
   ·rw[QN h0];rw[JC (λclock=>JC (λquantum=>JC (λcur=>JC (λleft=>JC (λnext=>JC (λnewPipe=>JC (λfin=>JC (λtold=>JC (λdleft=>JC (λpe=>JC (λdi=>JC (λpi=>LF))))))))))))];rw[GY,h0];simp only[SJ,Bool.not_or,Bool.not_not,beq_self_eq_true,vp];ac_rfl
   ·rw[QD h0];simp[h0]
 ·obtain⟨t1,t2,t3,t4,t5,t6,t7,t8,t9,t10,t11,t12,t13,t14,t15,p0,p1,p2,p3,p4,p5,p6,p7,p8,p9,p10,p11,p12,p13,p14,p15,_⟩:=PG h;rw[p0];simp only[OM,List.headD_cons,List.tail_cons];rw[p1,p2,p3,p4,p5,p7,p9,p10,p11];exact⟨⟨rfl,rfl,rfl,rfl,rfl,p6,rfl,p8,rfl,rfl,rfl⟩,p12,p13,p14,p15⟩
theorem da (s:List UInt8) (hs:s.length<=100000000):∃(L0 L1 L2 L3 L4 L5 L6 L7 L8 L9 L10 L11 L12 L13 L14 L15 L16:List (List UInt8)) (b0 b1 b2 b3 b4 b5 b6 b7 b8 b9 VM b11 Uq b13 b14 b15 b16:Bool) (word ini inn ta tb tc td:List UInt8) (clock quantum cur left next newPipe told dleft:Int) (fin:Bool),
  (∀w,Calls prog 135 #[.string (Qb s),.int .i64 16] w λe w'=>(∃v,e=.returned v/\KU w' L0 b0 v)/\Ext w w')/\
  (∀v w,KU w L0 b0 v->Calls prog 136 #[v] w (Zj w w L1 b1 (.string (Qb word))))/\
  (∀v w,KU w L1 b1 v->Calls prog 137 #[v,.int .i64 8] w (Zj w w L2 b2 (.int .u64 clock)))/\
  (∀v w,KU w L2 b2 v->Calls prog 138 #[v] w (Zj w w L3 b3 (.int .i64 quantum)))/\
  (∀v w,KU w L3 b3 v->Calls prog 138 #[v] w (Zj w w L4 b4 (.int .i64 cur)))/\
  (∀v w,KU w L4 b4 v->Calls prog 138 #[v] w (Zj w w L5 b5 (.int .i64 left)))/\
  (∀v w,KU w L5 b5 v->Calls prog 138 #[v] w (Zj w w L6 b6 (.int .i64 next)))/\
  (∀v w,KU w L6 b6 v->Calls prog 136 #[v] w (Zj w w L7 b7 (.string (Qb ini))))/\
  (∀v w,KU w L7 b7 v->Calls prog 138 #[v] w (Zj w w L8 b8 (.int .i64 newPipe)))/\
  (∀v w,KU w L8 b8 v->Calls prog 136 #[v] w (Zj w w L9 b9 (.string (Qb inn))))/\
  (∀v w,KU w L9 b9 v->Calls prog 139 #[v] w (Zj w w L10 VM (.bool fin)))/\
  (∀v w,KU w L10 VM v->Calls prog 137 #[v,.int .i64 8] w (Zj w w L11 b11 (.int .u64 told)))/\
  (∀v w,KU w L11 b11 v->Calls prog 138 #[v] w (Zj w w L12 Uq (.int .i64 dleft)))/\
  (∀v w,KU w L12 Uq v->Calls prog 136 #[v] w (Zj w w L13 b13 (.string (Qb ta))))/\
  (∀v w,KU w L13 b13 v->Calls prog 136 #[v] w (Zj w w L14 b14 (.string (Qb tb))))/\
  (∀v w,KU w L14 b14 v->Calls prog 136 #[v] w (Zj w w L15 b15 (.string (Qb tc))))/\
  (∀v w,KU w L15 b15 v->Calls prog 136 #[v] w (Zj w w L16 b16 (.string (Qb td))))/\
  (ta.length<=100000000/\tb.length<=100000000/\tc.length<=100000000/\td.length<=100000000/\ini.length<=100000000/\inn.length<=100000000)/\
  (Lit.int .i64 dleft).wf=true/\
  (((((((((Ql none td).getD []).all (λx=>(JV x).isSome)&&(QK ta).isSome)&&(QK tb).isSome)&&(QK tc).isSome)&&!b16)&&!(Ql none td).isNone)&&(word==[104,105,98,50]))=(Ye s).isSome)/\
  (∀z e,Ye s=some (z,e)->(z.clock=clock/\z.quantum=quantum/\z.cur=cur/\z.left=left/\z.next=next/\z.init=ini/\z.newPipe=newPipe/\z.inn=inn/\z.fin=fin/\z.told=told/\z.dleft=dleft)/\
   QK ta=some e.pe/\QK tb=some e.di/\QK tc=some e.pi/\VE td=some e.pr):=by
 have hl:∀t∈(Ql (some 16) s).getD [],t.length<=100000000:=by
  cases h:Ql (some 16) s with
  | none=>intro t ht;simp at ht
  | some l=>intro t ht;have:=Zd h t (by simpa using ht);omega
 have tl:∀{l:List (List UInt8)},(∀t∈l,t.length<=100000000)->∀t∈l.tail,t.length<=100000000:=λh t ht=>h t (List.mem_of_mem_tail ht);have tn:∀{l:List (List UInt8)},(∀t∈l,t.length<=100000000)->∀t∈l,t.length<=1000000000:=λh t ht=>YR (h t ht) (by decide);obtain⟨e1,e2⟩:=ea s;exact⟨_,_,_,_,_,_,_,_,_,_,_,_,_,_,_,_,_,_,_,_,_,_,_,_,_,_,_,_,_,_,_,_,_,_,_,_,_,_,_,_,_,_,_,_,_,_,_,_,_,_,λw=>Ul s (some 16) w (by omega) (λn h=>by cases h;decide),λv w h=>ZM _ _ v w w h (Qg w),λv w h=>UR _ _ v 8 w w h (Qg w) (by decide) (by decide),λv w h=>Za _ _ v w w h (Qg w) (tn (tl (tl hl))),λv w h=>Za _ _ v w w h (Qg w) (tn (tl (tl (tl hl)))),λv w h=>Za _ _ v w w h (Qg w) (tn (tl (tl (tl (tl hl))))),λv w h=>Za _ _ v w w h (Qg w) (tn (tl (tl (tl (tl (tl hl)))))),λv w h=>ZM _ _ v w w h (Qg w),λv w h=>Za _ _ v w w h (Qg w) (tn (tl (tl (tl (tl (tl (tl (tl hl)))))))),λv w h=>ZM _ _ v w w h (Qg w),λv w h=>El _ _ v w w h (Qg w),λv w h=>UR _ _ v 8 w w h (Qg w) (by decide) (by decide),λv w h=>Za _ _ v w w h (Qg w) (tn (tl (tl (tl (tl (tl (tl (tl (tl (tl (tl (tl hl)))))))))))),λv w h=>ZM _ _ v w w h (Qg w),λv w h=>ZM _ _ v w w h (Qg w),λv w h=>ZM _ _ v w w h (Qg w),λv w h=>ZM _ _ v w w h (Qg w),⟨VY (tl (tl (tl (tl (tl (tl (tl (tl (tl (tl (tl (tl hl)))))))))))),VY (tl (tl (tl (tl (tl (tl (tl (tl (tl (tl (tl (tl (tl hl))))))))))))),VY (tl (tl (tl (tl (tl (tl (tl (tl (tl (tl (tl (tl (tl (tl hl)))))))))))))),VY (tl (tl (tl (tl (tl (tl (tl (tl (tl (tl (tl (tl (tl (tl (tl hl))))))))))))))),VY (tl (tl (tl (tl (tl (tl hl)))))),VY (tl (tl (tl (tl (tl (tl (tl (tl hl))))))))⟩,qK _,e1,e2⟩
theorem Pn {α β:Type} {f:α->Option β}:∀{a b:List α}{l:List β},Zp f (a++b)=some l->∃x y,Zp f a=some x/\Zp f b=some y/\l=x++y
 | [],b,l,h=>⟨[],l,rfl,h,rfl⟩
 | c::a,b,l,h=>by rw[fu,Zp]at h;obtain⟨y,h1,h2⟩:=Jk h;obtain⟨t,h3,h4⟩:=WG h2;obtain⟨u,v,h5,h6,h7⟩:=Pn h3;refine⟨y::u,v,?_,h6,by rw[←h4,h7];rfl⟩;rw[Zp,h1,qt,h5];rfl
def D7 (T:List (List UInt8)) (k:Nat) (ys:List QF):Prop:=ys.length=k/\∀l',Zp JV (T.take k)=some l'->l'.flatMap Qq=ys.flatMap Qq/\l'.length=k
theorem D7.zero (T:List (List UInt8)):D7 T 0 []:=⟨rfl,λl' h=>by
 rw[KI]at h;injection h with h;subst h;exact⟨rfl,rfl⟩⟩
theorem D7.step {T:List (List UInt8)}{k:Nat}{ys:List QF}{y:QF}(h:D7 T k ys) (hk:k<T.length) (hy:∀y',JV T[k]=some y'->Qq y'=Qq y):D7 T (k+1) (ys++[y]):=by
 refine⟨by rw[VL,h.1];rfl,λl' hl=>?_⟩;rw[Gp hk]at hl;obtain⟨a,b,h1,h2,h3⟩:=Pn hl;obtain⟨e1,e2⟩:=h.2 a h1;rw[Zp]at h2;obtain⟨y',h4,h5⟩:=Jk h2;injection h5 with h5;subst h5;subst h3;have h6:=hy y' h4;refine⟨?_,by rw[VL,e2];rfl⟩;rw[AU,AU,e1];simp[h6]
theorem iU {T:List (List UInt8)}{k:Nat}(hk:k<T.length):(T.take (k+1)).all (λx=>(JV x).isSome)=((T.take k).all (λx=>(JV x).isSome)&&(JV T[k]).isSome):=by
 rw[Gp hk,List.all_append];simp
structure TM (w wx:World) (rb pb tb:Nat) (z:QO) (A:Option Addr) (n c:Nat) (b:Bool):Prop where
 rbx:Box wx rb 38 QB.cells
 pbx:Box wx pb 38 z.cells
 tbx:Box wx tb 193 (tC A n c b)
 ext:Ext w wx
 h0:w.heap.size<=rb
 h1:rb<pb
 h2:pb<tb
namespace TM
variable {w wx w':World}{rb pb tb:Nat}{z z':QO}{A A':Option Addr}{n c n' c':Nat}{b b':Bool}
theorem more (S:TM w wx rb pb tb z A n c b) (x:Ext wx w'):TM w w' rb pb tb z A n c b:=⟨S.rbx.ext x,S.pbx.ext x,S.tbx.ext x,S.ext.trans x,S.h0,S.h1,S.h2⟩
theorem stT (S:TM w wx rb pb tb z A n c b) (hb:Box w' tb 193 (tC A' n' c' b')) (d:But tb wx w'):TM w w' rb pb tb z A' n' c' b' :=
 ⟨d.box S.rbx (by have:=S.h1;have:=S.h2;omega),d.box S.pbx (by have:=S.h2;omega),hb,d.past S.ext (by have:=S.h0;have:=S.h1;have:=S.h2;omega),S.h0,S.h1,S.h2⟩
theorem stM (S:TM w wx rb pb tb z A n c b) (hb:Box w' pb 38 z'.cells) (d:But pb wx w'):TM w w' rb pb tb z' A n c b :=
 ⟨d.box S.rbx (by have:=S.h1;omega),hb,d.box S.tbx (by have:=S.h2;omega),d.past S.ext (by have:=S.h0;have:=S.h1;omega),S.h0,S.h1,S.h2⟩
section
variable {ops:Array Oper}{rest:List Oper}{o:Oper}{a:Act}{Q:Exit->Act->World->Prop}{L:List (List UInt8)}
theorem ld (S:TM w wx rb pb tb z A n c b) (hg:o.guard=none) (ho:o.op=.load 193 (.tmp 5)) (hx:a.eval (.tmp 5)=.pointer (some ⟨tb,0,none⟩)) (hK:wpList prog ops Q rest (a.put o.dst (.agg (tC A n c b))) wx):wpList prog ops Q (o::rest) a wx :=
 J2 _ (.tmp 5) hg ho tb (tC A n c b) _ _ hx S.tbx underlying193 rfl Um hK
theorem st (S:TM w wx rb pb tb z A n c b) (x:Ext wx w') (r:TRow wx A' n' L) (t:Tmp) (hg:o.guard=none) (ho:o.op=.store 193 (.tmp 5) (.tmp t)) (hx:a.eval (.tmp 5)=.pointer (some ⟨tb,0,none⟩)) (hy:a.eval (.tmp t)=.agg (tC A' n' c' b'))
  (hK:∀w2,TM w w2 rb pb tb z A' n' c' b'->TRow w2 A' n' L->wpList prog ops Q rest (a.put o.dst undef) w2):wpList prog ops Q (o::rest) a w' :=
 JU _ (.tmp 5) (.tmp t) hg ho tb (tC A' n' c' b') _ _ hx hy (S.more x).tbx Um rfl (Me _ _ _ _) λw2 h g=>hK w2 ((S.more x).stT h (Qw g)) ((r.ext x).but (Qw g) (S.more x).tbx (by decide))
theorem cell (S:TM w wx rb pb tb z A n c b) (r:TRow wx A n L) (T:TypeId) (x y:Tmp) (i:Nat) (v:Value) (z':QO) (hg:o.guard=none) (ho:o.op=.store T (.tmp x) (.tmp y)) (hx:a.eval (.tmp x)=.pointer (some ⟨pb,i,none⟩)) (hy:a.eval (.tmp y)=v) (hv:v.oneCell'=true) (hi:(prog.info? T).map (·.size)=some 1)
  (Qn:i<z.cells.size) (SB:z.cells.setIfInBounds i v=z'.cells) (hK:∀w2,TM w w2 rb pb tb z' A n c b->TRow w2 A n L->wpList prog ops Q rest (a.put o.dst undef) w2):wpList prog ops Q (o::rest) a wx :=
 QJ T (.tmp x) (.tmp y) hg ho pb i v _ z'.cells _ hx hy hv hi S.pbx Qn SB λw2 h d=>hK w2 (S.stM h d) (r.but d S.pbx (by decide))
end
end TM
structure TL (w wx:World) (rb pb tb vb:Nat) (z:QO) (A A2:Option Addr) (n c n2 c2:Nat) (b b2:Bool) (L2:List (List UInt8)) (B:Nat) (pe di pi:Sl) (lpe ldi lpi:List ZY):Prop where
 tm:TM w wx rb pb tb z A n c b
 vbx:Box wx vb 193 (tC A2 n2 c2 b2)
 h3:tb<vb
 row:TRow wx A2 n2 L2
 pe:wx.ownsRow B 92 2 (.slice pe.A pe.n pe.c) pe.n (lpe.flatMap Zn)
 di:wx.ownsRow B 92 2 (.slice di.A di.n di.c) di.n (ldi.flatMap Zn)
 pi:wx.ownsRow B 95 2 (.slice pi.A pi.n pi.c) pi.n (lpi.flatMap Zn)
namespace TL
variable {w wx w':World}{rb pb tb vb:Nat}{z z':QO}{A A2:Option Addr}{n c n2 c2:Nat}{b b2:Bool}{L2:List (List UInt8)}{B:Nat}{pe di pi:Sl}{lpe ldi lpi:List ZY}
theorem more (S:TL w wx rb pb tb vb z A A2 n c n2 c2 b b2 L2 B pe di pi lpe ldi lpi) (x:Ext wx w'):TL w w' rb pb tb vb z A A2 n c n2 c2 b b2 L2 B pe di pi lpe ldi lpi :=
 ⟨S.tm.more x,S.vbx.ext x,S.h3,S.row.ext x,Qc S.pe x,Qc S.di x,Qc S.pi x⟩
theorem stM (S:TL w wx rb pb tb vb z A A2 n c n2 c2 b b2 L2 B pe di pi lpe ldi lpi) (hb:Box w' pb 38 z'.cells) (d:But pb wx w'):TL w w' rb pb tb vb z' A A2 n c n2 c2 b b2 L2 B pe di pi lpe ldi lpi :=
 ⟨S.tm.stM hb d,d.box S.vbx (by have:=S.h3;have:=S.tm.h2;omega),S.h3,S.row.but d S.tm.pbx (by decide),Qi S.pe d S.tm.pbx (by decide),Qi S.di d S.tm.pbx (by decide),Qi S.pi d S.tm.pbx (by decide)⟩
theorem app {u:Value}{k:Nat}{xs:List Value}(S:TL w wx rb pb tb vb z A A2 n c n2 c2 b b2 L2 B pe di pi lpe ldi lpi) (o:wx.ownsRow w.heap.size 57 96 u k xs) (g:wx.grownBy w' u.ownBlock):TL w w' rb pb tb vb z A A2 n c n2 c2 b b2 L2 B pe di pi lpe ldi lpi :=
 ⟨⟨S.tm.rbx.grown g (QX o S.tm.rbx (by decide)),S.tm.pbx.grown g (QX o S.tm.pbx (by decide)),S.tm.tbx.grown g (QX o S.tm.tbx (by decide)),S.tm.ext.grown g (λk e=>QU o e),S.tm.h0,S.tm.h1,S.tm.h2⟩,
   S.vbx.grown g (QX o S.vbx (by decide)),S.h3,Ti S.row g o (by decide),Zz S.pe o (by decide) g,Zz S.di o (by decide) g,Zz S.pi o (by decide) g⟩
end TL
def ToR (fr bl:Sl) (s:List UInt8) (w:World) (e:Ending) (w':World):Prop :=
 ∃z:QO,e=.returned (.tuple #[.agg z.cells,.bool (Ye s).isSome])/\Ext w w'/\∀z0 e0,Ye s=some (z0,e0)->Zv z z0/\z.fr=fr/\z.bl=bl/\z.pr.n=e0.pr.length/\z.pi.n=e0.pi.length/\z.pe.n=e0.pe.length/\z.di.n=e0.di.length/\
  w'.ownsRow w.heap.size 57 96 (.slice z.pr.A z.pr.n z.pr.c) z.pr.n (e0.pr.flatMap Qq)/\w'.ownsRow w.heap.size 95 2 (.slice z.pi.A z.pi.n z.pi.c) z.pi.n (e0.pi.flatMap Zn)/\w'.ownsRow w.heap.size 92 2 (.slice z.pe.A z.pe.n z.pe.c) z.pe.n (e0.pe.flatMap Zn)/\w'.ownsRow w.heap.size 92 2 (.slice z.di.A z.di.n z.di.c) z.di.n (e0.di.flatMap Zn)
theorem ab (fr bl:Sl) (s:List UInt8) (w:World) (hs:s.length<=100000000) :
  Calls prog 70 #[.agg #[.slice fr.A fr.n fr.c,.slice bl.A bl.n bl.c,.string (Qb s)]] w (ToR fr bl s w):=by
 obtain⟨L0,L1,L2,L3,L4,L5,L6,L7,L8,L9,L10,L11,L12,L13,L14,L15,L16,b0,b1,b2,b3,b4,b5,b6,b7,b8,b9,VM,b11,Uq,b13,b14,b15,b16,word,ini,inn,ta,tb,tc,td,clock,quantum,cur,left,next,newPipe,told,dleft,fin,hof,h0,h1,h2,h3,h4,h5,h6,h7,h8,h9,GL,oY,Sw,h13,oZ,h15,YW,hwf,hend,GS⟩:=da s hs;have mO:=Qa hof;have H0:=Qa h0;have H1:=Qa h1;have H2:=Qa h2;have H3:=Qa h3;have H4:=Qa h4;have H5:=Qa h5;have H6:=Qa h6;have H7:=Qa h7;have H8:=Qa h8;have H9:=Qa h9;have H10:=Qa GL;have H11:=Qa oY;have H12:=Qa Sw;have H13:=Qa h13;have H14:=Qa oZ;have H15:=Qa h15;have az:=Qa YW;have Ur:=Qa hend;have iC:=Qa GS;clear hof h0 h1 h2 h3 h4 h5 h6 h7 h8 h9 GL oY Sw h13 oZ h15 hend GS hs hwf YW;have x0:=((Qg w).alloc (.cells #[.slice fr.A fr.n fr.c,.slice bl.A bl.n bl.c,.string (Qb s)] 24)).alloc (.cells QB.cells 38);have bx:=(Qs w 24 #[.slice fr.A fr.n fr.c,.slice bl.A bl.n bl.c,.string (Qb s)]).ext ((Qg _).alloc (.cells QB.cells 38));have br:=Qs (w.alloc (.cells #[.slice fr.A fr.n fr.c,.slice bl.A bl.n bl.c,.string (Qb s)] 24)) 38 QB.cells;rw[YB]at br;go_enter func70,ntmps70;go_upto_region 1 with fail;change Code.wp _ _ _ _ ((w.alloc (.cells #[.slice fr.A fr.n fr.c,.slice bl.A bl.n bl.c,.string (Qb s)] 24)).alloc (.cells QB.cells 38));generalize (w.alloc (.cells #[.slice fr.A fr.n fr.c,.slice bl.A bl.n bl.c,.string (Qb s)] 24)).alloc (.cells QB.cells 38)=w0 at x0 bx br ⊢;obtain⟨G,hG⟩:∃G,G=w.heap.size:=⟨_,rfl⟩
 have rJ:w.heap.size<=G:=by omega
 rw[←hG]at bx br ⊢;clear hG;have q0:w0.cell? ⟨G,0,none⟩=some (.slice fr.A fr.n fr.c):=bx.cell 0;have q1:w0.cell? ⟨G,1,none⟩=some (.slice bl.A bl.n bl.c):=bx.cell 1;go_upto_region 2 with(refine Qr (.tmp 4) (.tmp 27) rfl rfl w0.heap.size (⟨0,0,0,0,fr,Q1,0,[],Q1,0,[],false,0,bl,Q1,0,Q1⟩:QO) _ _ rfl rfl (Qs _ _ _) rfl ?_;intro w1 b1 g1)
 have y1:Ext w0 w1:=((Qg w0).alloc _).grown g1 (λj e=>by cases e;exact Q4 _);have jd:G+1<w0.heap.size:=br.lt;have Vq:w0.heap.size<w1.heap.size:=b1.lt;obtain⟨pb,CP⟩:∃g,g=w0.heap.size:=⟨_,rfl⟩
 rw[←CP]at b1 jd Vq ⊢;clear CP;have br1:=br.ext y1;have x1:=x0.trans y1;have q2:w1.cell? ⟨G,2,none⟩=some (.string (Qb s)):=(bx.ext y1).cell 2;clear q0 q1 g1 br bx x0 y1 w0;obtain⟨rb,pE⟩:∃g,g=G+1:=⟨_,rfl⟩
 have Qb3:w.heap.size<=rb:=by omega
 rw[←pE]at br1 jd ⊢;clear pE rJ
 go_upto_region 3 with(first
  | (go_at_call 135;refine(mO.o _).mono ?_;rintro e w2 ⟨⟨v2,rfl,A0,n0,c0,rfl,s0,k0⟩,x2⟩)
  | (refine JU _ (.tmp 5) (.tmp 30) rfl rfl w2.heap.size (tC A0 n0 c0 b0) _ _ rfl rfl (Qs w2 _ _) Um rfl (Me _ _ _ _) ?_;intro w3 b3 g3))
 have y3:Ext w2 w3:=((Qg w2).alloc _).grown g3 (λj e=>by cases e;exact Q4 _);have S0:TM w w3 rb pb w2.heap.size ⟨0,0,0,0,fr,Q1,0,[],Q1,0,[],false,0,bl,Q1,0,Q1⟩ A0 n0 c0 b0:=⟨br1.ext (x2.trans y3),b1.ext (x2.trans y3),b3,(x1.trans x2).trans y3,Qb3,jd,Ca Vq x2.size⟩
 have r0:=s0.ext y3;generalize w2.heap.size=tbk at S0 ⊢;clear br1 b1 x1 x2 s0 y3 b3 g3 mO jd Vq Qb3 q2 w1 w2
 go_upto_region 4 with(first
  | (refine S0.ld rfl rfl rfl ?_)
  | (go_at_call 136;refine(H0.o _ _ ⟨A0,n0,c0,rfl,r0,k0⟩).mono ?_;rintro e p1 ⟨⟨v1,rfl,A1,n1,c1,rfl,q1,k1⟩,z1⟩)
  | (refine S0.st z1 q1 34 rfl rfl rfl rfl ?_;intro o1 S1 r1))
 clear H0 S0 r0 q1 z1 k0
 go_upto_region 5 with(first
  | (refine S1.ld rfl rfl rfl ?_)
  | (go_at_call 137;refine(H1.o _ _ ⟨A1,n1,c1,rfl,r1,k1⟩).mono ?_;rintro e p2 ⟨⟨v2,rfl,A2,n2,c2,rfl,q2,k2⟩,z2⟩)
  | (refine S1.st z2 q2 39 rfl rfl rfl rfl ?_;intro o2 sg r2b)
  | (refine sg.cell r2b 31 41 40 0 (.int .u64 clock) ⟨clock,0,0,0,fr,Q1,0,[],Q1,0,[],false,0,bl,Q1,0,Q1⟩ rfl rfl rfl rfl rfl Ex (show 0<17 by decide) rfl ?_;intro u2 S2 r2))
 clear H1 S1 r1 q2 z2 k1 sg r2b;try simp only[Act.put]
 go_cut [] from 31 to 47 (λwx=>∃(A:Option Addr) (n c:Nat),TM w wx rb pb tbk ⟨clock,quantum,0,0,fr,Q1,0,[],Q1,0,[],false,0,bl,Q1,0,Q1⟩ A n c b3/\TRow wx A n L3/\n<=c);case first =>
  go_wp2_with (first
   | (refine S2.ld rfl rfl rfl ?_)
   | (go_at_call 138;refine(H2.o _ _ ⟨A2,n2,c2,rfl,r2,k2⟩).mono ?_;rintro e p3 ⟨⟨v3,rfl,A3,n3,c3,rfl,q3,k3⟩,z3⟩)
   | (refine S2.st z3 q3 45 rfl rfl rfl rfl ?_;intro o3 vd r3b)
   | (refine vd.cell r3b 3 47 46 1 (.int .i64 quantum) ⟨clock,quantum,0,0,fr,Q1,0,[],Q1,0,[],false,0,bl,Q1,0,Q1⟩ rfl rfl rfl rfl rfl YT (show 1<17 by decide) rfl ?_;intro u3 S3 r3))
  go_meet;exact⟨A3,n3,c3,S3,r3,k3⟩
 case rest =>
 obtain⟨A3,n3,c3,S3,r3,k3⟩:=hcut;clear H2 S2 r2 k2
 go_upto_region 7 with(first
  | (refine S3.ld rfl rfl rfl ?_)
  | (go_at_call 138;refine(H3.o _ _ ⟨A3,n3,c3,rfl,r3,k3⟩).mono ?_;rintro e p4 ⟨⟨v4,rfl,A4,n4,c4,rfl,q4,k4⟩,z4⟩)
  | (refine S3.st z4 q4 51 rfl rfl rfl rfl ?_;intro o4 S4b r4b)
  | (refine S4b.cell r4b 3 53 52 2 (.int .i64 cur) ⟨clock,quantum,cur,0,fr,Q1,0,[],Q1,0,[],false,0,bl,Q1,0,Q1⟩ rfl rfl rfl rfl rfl YT (show 2<17 by decide) rfl ?_;intro u4 S4 r4))
 clear H3 S3 r3 q4 z4 k3 S4b r4b
 go_upto_region 8 with(first
  | (refine S4.ld rfl rfl rfl ?_)
  | (go_at_call 138;refine(H4.o _ _ ⟨A4,n4,c4,rfl,r4,k4⟩).mono ?_;rintro e p5 ⟨⟨v5,rfl,A5,n5,c5,rfl,q5,k5⟩,z5⟩)
  | (refine S4.st z5 q5 57 rfl rfl rfl rfl ?_;intro o5 si r5b)
  | (refine si.cell r5b 3 59 58 3 (.int .i64 left) ⟨clock,quantum,cur,left,fr,Q1,0,[],Q1,0,[],false,0,bl,Q1,0,Q1⟩ rfl rfl rfl rfl rfl YT (show 3<17 by decide) rfl ?_;intro u5 S5 r5))
 clear H4 S4 r4 q5 z5 k4 si r5b;try simp only[Act.put]
 go_cut [] from 31 to 65 (λwx=>∃(A:Option Addr) (n c:Nat),TM w wx rb pb tbk ⟨clock,quantum,cur,left,fr,Q1,next,[],Q1,0,[],false,0,bl,Q1,0,Q1⟩ A n c b6/\TRow wx A n L6/\n<=c);case first =>
  go_wp2_with (first
   | (refine S5.ld rfl rfl rfl ?_)
   | (go_at_call 138;refine(H5.o _ _ ⟨A5,n5,c5,rfl,r5,k5⟩).mono ?_;rintro e p6 ⟨⟨v6,rfl,A6,n6,c6,rfl,q6,k6⟩,z6⟩)
   | (refine S5.st z6 q6 63 rfl rfl rfl rfl ?_;intro o6 ve r6b)
   | (refine ve.cell r6b 3 65 64 6 (.int .i64 next) ⟨clock,quantum,cur,left,fr,Q1,next,[],Q1,0,[],false,0,bl,Q1,0,Q1⟩ rfl rfl rfl rfl rfl YT (show 6<17 by decide) rfl ?_;intro u6 S6 r6))
  go_meet;exact⟨A6,n6,c6,S6,r6,k6⟩
 case rest =>
 obtain⟨A6,n6,c6,S6,r6,k6⟩:=hcut;clear H5 S5 r5 k5
 go_upto_region 10 with(first
  | (refine S6.ld rfl rfl rfl ?_)
  | (go_at_call 136;refine(H6.o _ _ ⟨A6,n6,c6,rfl,r6,k6⟩).mono ?_;rintro e p7 ⟨⟨v7,rfl,A7,n7,c7,rfl,q7,k7⟩,z7⟩)
  | (refine S6.st z7 q7 69 rfl rfl rfl rfl ?_;intro o7 sk r7b)
  | (refine sk.cell r7b 9 71 70 7 (.string (Qb ini)) ⟨clock,quantum,cur,left,fr,Q1,next,ini,Q1,0,[],false,0,bl,Q1,0,Q1⟩ rfl rfl rfl rfl rfl af (show 7<17 by decide) rfl ?_;intro u7 S7 r7))
 clear H6 S6 r6 q7 z7 k6 sk r7b
 go_upto_region 11 with(first
  | (refine S7.ld rfl rfl rfl ?_)
  | (go_at_call 138;refine(H7.o _ _ ⟨A7,n7,c7,rfl,r7,k7⟩).mono ?_;rintro e p8 ⟨⟨v8,rfl,A8,n8,c8,rfl,q8,k8⟩,z8⟩)
  | (refine S7.st z8 q8 75 rfl rfl rfl rfl ?_;intro o8 zO r8b)
  | (refine zO.cell r8b 3 77 76 9 (.int .i64 newPipe) ⟨clock,quantum,cur,left,fr,Q1,next,ini,Q1,newPipe,[],false,0,bl,Q1,0,Q1⟩ rfl rfl rfl rfl rfl YT (show 9<17 by decide) rfl ?_;intro u8 S8 r8))
 clear H7 S7 r7 q8 z8 k7 zO r8b;try simp only[Act.put]
 go_cut [] from 31 to 83 (λwx=>∃(A:Option Addr) (n c:Nat),TM w wx rb pb tbk ⟨clock,quantum,cur,left,fr,Q1,next,ini,Q1,newPipe,inn,false,0,bl,Q1,0,Q1⟩ A n c b9/\TRow wx A n L9/\n<=c);case first =>
  go_wp2_with (first
   | (refine S8.ld rfl rfl rfl ?_)
   | (go_at_call 136;refine(H8.o _ _ ⟨A8,n8,c8,rfl,r8,k8⟩).mono ?_;rintro e p9 ⟨⟨v9,rfl,A9,n9,c9,rfl,q9,k9⟩,z9⟩)
   | (refine S8.st z9 q9 81 rfl rfl rfl rfl ?_;intro o9 vf r9b)
   | (refine vf.cell r9b 9 83 82 10 (.string (Qb inn)) ⟨clock,quantum,cur,left,fr,Q1,next,ini,Q1,newPipe,inn,false,0,bl,Q1,0,Q1⟩ rfl rfl rfl rfl rfl af (show 10<17 by decide) rfl ?_;intro u9 S9 r9))
  go_meet;exact⟨A9,n9,c9,S9,r9,k9⟩
 case rest =>
 obtain⟨A9,n9,c9,S9,r9,k9⟩:=hcut;clear H8 S8 r8 k8
 go_upto_region 13 with(first
  | (refine S9.ld rfl rfl rfl ?_)
  | (go_at_call 139;refine(H9.o _ _ ⟨A9,n9,c9,rfl,r9,k9⟩).mono ?_;rintro e p10 ⟨⟨v10,rfl,A10,n10,c10,rfl,gL,Mb⟩,z10⟩)
  | (refine S9.st z10 gL 87 rfl rfl rfl rfl ?_;intro uY AQ kw)
  | (refine AQ.cell kw 4 89 88 11 (.bool fin) ⟨clock,quantum,cur,left,fr,Q1,next,ini,Q1,newPipe,inn,fin,0,bl,Q1,0,Q1⟩ rfl rfl rfl rfl rfl Pe (show 11<17 by decide) rfl ?_;intro u10 Aw r10))
 clear H9 S9 r9 gL z10 k9 AQ kw
 go_upto_region 14 with(first
  | (refine Aw.ld rfl rfl rfl ?_)
  | (go_at_call 137;refine(H10.o _ _ ⟨A10,n10,c10,rfl,r10,Mb⟩).mono ?_;rintro e p11 ⟨⟨v11,rfl,A11,n11,c11,rfl,q11,k11⟩,z11⟩)
  | (refine Aw.st z11 q11 93 rfl rfl rfl rfl ?_;intro o11 S11b r11b)
  | (refine S11b.cell r11b 31 95 94 12 (.int .u64 told) ⟨clock,quantum,cur,left,fr,Q1,next,ini,Q1,newPipe,inn,fin,told,bl,Q1,0,Q1⟩ rfl rfl rfl rfl rfl Ex (show 12<17 by decide) rfl ?_;intro u11 S11 r11))
 clear H10 Aw r10 q11 z11 Mb S11b r11b;try simp only[Act.put]
 go_cut [] from 31 to 102 (λwx=>∃(A:Option Addr) (n c:Nat),TM w wx rb pb tbk ⟨clock,quantum,cur,left,fr,Q1,next,ini,Q1,newPipe,inn,fin,told,bl,Q1,dleft,Q1⟩ A n c Uq/\TRow wx A n L12/\n<=c);case first =>
  go_wp2_with (first
   | (refine S11.ld rfl rfl rfl ?_)
   | (go_at_call 138;refine(H11.o _ _ ⟨A11,n11,c11,rfl,r11,k11⟩).mono ?_;rintro e p12 ⟨⟨v12,rfl,A12,n12,fx,rfl,q12,k12⟩,gR⟩)
   | (refine S11.st gR q12 99 rfl rfl rfl rfl ?_;intro o12 S12b r12b)
   | (refine S12b.cell r12b 3 102 100 15 (.int .i64 dleft) ⟨clock,quantum,cur,left,fr,Q1,next,ini,Q1,newPipe,inn,fin,told,bl,Q1,dleft,Q1⟩ rfl rfl rfl rfl rfl YT (show 15<17 by decide) rfl ?_;intro u12 S12 r12))
  go_meet;exact⟨A12,n12,fx,S12,r12,k12⟩
 case rest =>
 obtain⟨A12,n12,fx,S12,r12,k12⟩:=hcut;clear H11 S11 r11 k11
 go_upto_region 16 with(first
  | (refine S12.ld rfl rfl rfl ?_)
  | (go_at_call 136;refine(H12.o _ _ ⟨A12,n12,fx,rfl,r12,k12⟩).mono ?_;rintro e p13 ⟨⟨v13,rfl,A13,n13,c13,rfl,IC,k13⟩,z13⟩)
  | (refine S12.st z13 IC 106 rfl rfl rfl rfl ?_;intro o13 S13 r13))
 clear H12 S12 r12 IC z13 k12
 go_upto_region 17 with(first
  | (refine S13.ld rfl rfl rfl ?_)
  | (go_at_call 136;refine(H13.o _ _ ⟨A13,n13,c13,rfl,r13,k13⟩).mono ?_;rintro e p14 ⟨⟨v14,rfl,A14,n14,c14,rfl,ID,k14⟩,z14⟩)
  | (refine S13.st z14 ID 111 rfl rfl rfl rfl ?_;intro o14 S14 r14))
 clear H13 S13 r13 ID z14 k13;try simp only[Act.put]
 go_cut [9] from 31 to 117 (λt wx=>∃(A:Option Addr) (n c:Nat),t=.string (Qb tc)/\TM w wx rb pb tbk ⟨clock,quantum,cur,left,fr,Q1,next,ini,Q1,newPipe,inn,fin,told,bl,Q1,dleft,Q1⟩ A n c b15/\TRow wx A n L15/\n<=c);case first =>
  go_wp2_with (first
   | (refine S14.ld rfl rfl rfl ?_)
   | (go_at_call 136;refine(H14.o _ _ ⟨A14,n14,c14,rfl,r14,k14⟩).mono ?_;rintro e p15 ⟨⟨v15,rfl,A15,n15,c15,rfl,kt,k15⟩,z15⟩)
   | (refine S14.st z15 kt 116 rfl rfl rfl rfl ?_;intro o15 S15 r15))
  go_meet;exact⟨A15,n15,c15,rfl,S15,r15,k15⟩
 case rest =>
 obtain⟨A15,n15,c15,rfl,S15,r15,k15⟩:=hcut;clear H14 S14 r14 k14
 go_upto_region 19 with(first
  | (refine S15.ld rfl rfl rfl ?_)
  | (go_at_call 136;refine(H15.o _ _ ⟨A15,n15,c15,rfl,r15,k15⟩).mono ?_;rintro e p16 ⟨⟨v16,rfl,A16,n16,wH,rfl,eU,k16⟩,z16⟩)
  | (refine S15.st z16 eU 121 rfl rfl rfl rfl ?_;intro o16 S16 ky))
 clear H15 S15 r15 eU z16 k15;have Qhq:=Qa ky;clear ky k16 Qhq;have HTA:=Qa (λw=>KP ta w az.o.1);have HTB:=Qa (λw=>KP tb w az.o.2.1);have HTC:=Qa (λw=>DB tc w az.o.2.2.1);have HOD:=Qa (λw=>Ul td none w (by have:=az.o.2.2.2.1;omega) (λn h=>by cases h));unfold Rv at HTA HTB;unfold MQ at HTC;obtain⟨bi,hbi⟩:∃b,b=(QK ta).isSome:=⟨_,rfl⟩
 obtain⟨bj,hbj⟩:∃b,b=(QK tb).isSome:=⟨_,rfl⟩
 obtain⟨bk,N0⟩:∃b,b=(QK tc).isSome:=⟨_,rfl⟩
 rw[←hbi]at HTA Ur;rw[←hbj]at HTB Ur;rw[←N0]at HTC Ur;obtain⟨T,hT⟩:∃T,T=(Ql none td).getD []:=⟨_,rfl⟩
 obtain⟨bd,og⟩:∃b,b=(Ql none td).isNone:=⟨_,rfl⟩
 rw[←hT,←og]at HOD;rw[←hT,←og]at Ur;have vZ:=Qa (show T.length<=100000000/\∀x∈T,x.length<=100000000 from by
  have hl:=az.o.2.2.2.1;rw[hT];cases h:Ql none td with
  | none=>exact⟨by simp,λx hx=>by simp at hx⟩
  | some l=>exact⟨by have:=YI h;have h2:=(YL td).1;rw[this]at h2;simp at h2 ⊢;omega,λx hx=>YR (Zd h x (by simpa using hx)) hl⟩)
 have ye:=Qa (λl (h:VE td=some l)=>show Zp JV T=some l from by
  unfold VE at h;obtain⟨t,h1,h2⟩:=Jk h;rw[hT,h1];exact h2)
 clear hbi hbj N0 hT og;obtain⟨hw,hhw⟩:∃b,b=(word==[104,105,98,50]):=⟨_,rfl⟩
 rw[←hhw]at Ur;have Qo3:((Qb word).toList==[104,105,98,50])=hw:=by rw[Qe,hhw]
 clear hhw
 go_upto_region 22 with(first
  | (go_at_call 140;with_reducible (refine(HTA.o _).mono ?_);clear HTA;rintro e wa ⟨lpe,ua,rfl,oa,-,ha,xa⟩)
  | (go_at_call 140;with_reducible (refine(HTB.o _).mono ?_);clear HTB;rintro e wb ⟨ldi,ub,rfl,ob,-,hb,xb⟩)
  | (go_at_call 141;with_reducible (refine(HTC.o _).mono ?_);clear HTC;rintro e wc ⟨lpi,uc,rfl,oc,-,hc,xc⟩))
 obtain⟨Aa,ca,rfl⟩:=Vt oa;obtain⟨Ab,cb,rfl⟩:=Vt ob;obtain⟨Ac,cc,rfl⟩:=Vt oc;have HA:=Qa ha;have HB:=Qa hb;have HC:=Qa hc;have uZ:=Q8 (Qc (Qc oa xb) xc) S16.ext.size;have ud:=Q8 (Qc ob xc) (YR S16.ext.size xa.size);have ue:=Q8 oc (YR S16.ext.size (YR xa.size xb.size));have vc:=S16.more (xa.trans (xb.trans xc));clear oa ob oc ha hb hc S16 xa xb xc;try simp only[Act.put]
 go_cut [] from 31 to 144 (λwx=>TM w wx rb pb tbk ⟨clock,quantum,cur,left,fr,Q1,next,ini,⟨Ac,lpi.length,cc⟩,newPipe,inn,fin,told,bl,⟨Aa,lpe.length,ca⟩,dleft,⟨Ab,ldi.length,cb⟩⟩ A16 n16 wH b16/\wx.ownsRow w.heap.size 92 2 (.slice Aa lpe.length ca) lpe.length (lpe.flatMap Zn)/\wx.ownsRow w.heap.size 92 2 (.slice Ab ldi.length cb) ldi.length (ldi.flatMap Zn)/\wx.ownsRow w.heap.size 95 2 (.slice Ac lpi.length cc) lpi.length (lpi.flatMap Zn));case first =>
  go_wp2_with (first
   | (refine QJ 33 (.tmp 144) (.tmp 140) rfl rfl pb 8 (.slice Ac lpi.length cc) _ (⟨clock,quantum,cur,left,fr,Q1,next,ini,⟨Ac,lpi.length,cc⟩,newPipe,inn,fin,told,bl,⟨Aa,lpe.length,ca⟩,dleft,⟨Ab,ldi.length,cb⟩⟩:QO).cells _ rfl rfl rfl lg iL.pbx (show 8<17 by decide) rfl ?_;intro d3 e3 f3;have zM:=iL.stM e3 f3)
   | (refine QJ 34 (.tmp 143) (.tmp 139) rfl rfl pb 16 (.slice Ab ldi.length cb) _ (⟨clock,quantum,cur,left,fr,Q1,next,ini,Q1,newPipe,inn,fin,told,bl,⟨Aa,lpe.length,ca⟩,dleft,⟨Ab,ldi.length,cb⟩⟩:QO).cells _ rfl rfl rfl Ey iK.pbx (show 16<17 by decide) rfl ?_;intro d2 e2 f2;have iL:=iK.stM e2 f2)
   | (refine QJ 34 (.tmp 142) (.tmp 138) rfl rfl pb 14 (.slice Aa lpe.length ca) _ (⟨clock,quantum,cur,left,fr,Q1,next,ini,Q1,newPipe,inn,fin,told,bl,⟨Aa,lpe.length,ca⟩,dleft,Q1⟩:QO).cells _ rfl rfl rfl Ey vc.pbx (show 14<17 by decide) rfl ?_;intro d1 e1 f1;have iK:=vc.stM e1 f1))
  replace uZ:=Qi (Qi (Qi uZ f1 vc.pbx (by decide)) f2 iK.pbx (by decide)) f3 iL.pbx (by decide);replace ud:=Qi (Qi (Qi ud f1 vc.pbx (by decide)) f2 iK.pbx (by decide)) f3 iL.pbx (by decide);replace ue:=Qi (Qi (Qi ue f1 vc.pbx (by decide)) f2 iK.pbx (by decide)) f3 iL.pbx (by decide);go_meet;exact⟨zM,uZ,ud,ue⟩
 case rest =>
 obtain⟨zM,oa2',ob2',oc2'⟩:=hcut;clear uZ ud ue vc;have uZ:=oa2';have ud:=ob2';have ue:=oc2';clear oa2' ob2' oc2'
 go_upto_region 25 with(first
  | (go_at_call 135;refine(HOD.o _).mono ?_;rintro e w2 ⟨⟨v2,rfl,A2,n2,c2,rfl,s2,k2⟩,x2⟩)
  | (refine JU _ (.tmp 17) (.tmp 146) rfl rfl w2.heap.size (tC A2 n2 c2 bd) _ _ rfl rfl (Qs w2 _ _) Um rfl (Me _ _ _ _) ?_;intro w3' b3 g3))
 have y3:Ext w2 w3':=((Qg w2).alloc _).grown g3 (λj e=>by cases e;exact Q4 _);have GR:n2=T.length:=s2.1;subst GR;have hvb:tbk<w2.heap.size:=Ca zM.tbx.lt x2.size;have SL:TL w w3' rb pb tbk w2.heap.size ⟨clock,quantum,cur,left,fr,Q1,next,ini,⟨Ac,lpi.length,cc⟩,newPipe,inn,fin,told,bl,⟨Aa,lpe.length,ca⟩,dleft,⟨Ab,ldi.length,cb⟩⟩ A16 A2 n16 wH T.length c2 b16 bd T w.heap.size ⟨Aa,lpe.length,ca⟩ ⟨Ab,ldi.length,cb⟩ ⟨Ac,lpi.length,cc⟩ lpe ldi lpi:=⟨zM.more (x2.trans y3),b3,hvb,s2.ext y3,Qc uZ (x2.trans y3),Qc ud (x2.trans y3),Qc ue (x2.trans y3)⟩
 clear zM uZ ud ue s2 x2 y3 b3 g3 hvb HOD;generalize w2.heap.size=vb at SL ⊢;clear w2;have c0:w3'.cell? ⟨vb,0,none⟩=some (.slice A2 T.length c2):=SL.vbx.cell 0;have HSL:=Qa SL;clear SL;go_upto_region 26 with fail;go_loopw [18,150] (λok i wx=>∃(k:Nat) (ys:List QF) (A c:_),k<=T.length/\ok=.bool ((T.take k).all (λx=>(JV x).isSome))/\i=.int .i64 k/\TL w wx rb pb tbk vb ⟨clock,quantum,cur,left,fr,⟨A,k,c⟩,next,ini,⟨Ac,lpi.length,cc⟩,newPipe,inn,fin,told,bl,⟨Aa,lpe.length,ca⟩,dleft,⟨Ab,ldi.length,cb⟩⟩ A16 A2 n16 wH T.length c2 b16 bd T w.heap.size ⟨Aa,lpe.length,ca⟩ ⟨Ab,ldi.length,cb⟩ ⟨Ac,lpi.length,cc⟩ lpe ldi lpi/\wx.ownsRow w.heap.size 57 96 (.slice A k c) k (ys.flatMap Qq)/\Zm (D7 T k ys)) (λ_ i _=>T.length-(intOf i).toNat);case atStart=>exact⟨0,[],none,0,WP _,rfl,rfl,HSL.o,⟨rfl,.inl ⟨rfl,rfl⟩⟩,Qa (D7.zero T)⟩
 case round =>
  obtain⟨k,ys,A,c,hk,rfl,rfl,S1,o1,hP⟩:=hrel;clear HSL c0;by_cases Qn:k<T.length
  ·have Y6:(k:Int)<(T.length:Int):=by omega
   have fZ:=Qa (iU Qn);have hx:=vZ.o.2 _ (NT Qn);have U6:=Qa (λ(y:QF) (hy:∀y',JV T[k]=some y'->Qq y'=Qq y)=>hP.o.step Qn hy);have yq:=Qa (λw=>BV T[k] w hx);unfold OK at yq;obtain⟨g,oo,me,Qf⟩:=S1.row.strs.2 (by omega);have cx:=Qf k Qn;subst me;obtain⟨x,hxe⟩:∃x,x=T[k]:=⟨_,rfl⟩
   rw[←hxe]at cx yq U6 fZ;obtain⟨isb,hisb⟩:∃b,b=(JV x).isSome:=⟨_,rfl⟩
   rw[←hisb]at yq fZ;clear hxe Qf hx hisb;have cv:wr.cell? ⟨vb,0,none⟩=some (.slice (some ⟨g,oo,none⟩) T.length c2):=S1.vbx.cell 0;have hgt:=vZ.o.1;generalize (T.take k).all (λx=>(JV x).isSome)=ob at *;have HKN:=Qa (show k<=1000000000 by omega);have XH:=Qa S1;have G8:=Qa o1;clear S1 o1 hgt
   go_upto_region 29 with(first
    | (go_at_call 142;refine(yq.o _).mono ?_;rintro e w4 ⟨⟨y,rfl,hy⟩,x4⟩)
    | (refine JU _ (.tmp 20) (.tmp 160) rfl rfl w4.heap.size (Qq y).toArray _ _ rfl rfl (Qs w4 _ _) PA (by kernel_rfl) Iu ?_;intro w5 b5 g5))
   have x5:Ext wr w5:=x4.trans (((Qg w4).alloc _).grown g5 (λj e=>by cases e;exact Q4 _));have HPY:=Qa (U6.o y hy);have S5:=XH.o.more x5;have o5:=Qc G8.o x5;clear XH G8 x4 g5 cx cv yq U6 hy x5;generalize w4.heap.size=yb at b5 ⊢;clear w4;have c5:w5.cell? ⟨pb,5,none⟩=some (.slice A k c):=S5.tm.pbx.cell 5;have x6:=(Qg w5).alloc (.cells (Qq y).toArray 57);have vV:=Qa (S5.more x6);have HO6:=Qa (Qc o5 x6);have b6:=Qs w5 57 (Qq y).toArray;have hz6:=vV.o.tm.ext.size;clear S5 o5
   go_upto_region 30 with(first
    | (refine J2 _ (.tmp 20) rfl rfl yb (Qq y).toArray _ _ rfl b5 underlying57 rfl PA ?_;simp only[S_])
    | (refine Vk (.tmp 164) rfl rfl y rfl ?_;simp only[S_])
    | (at_builtin;refine Kk (u:=.slice A k c) (Qq y) underlying32 N7 (by decide) ?_ (Q2 y) (Ky y) (by decide) ?_ (.tmp 163) (.tmp 165) ?_ ?_ ?_ HO6.o b6 HKN.o hz6 ?_;(· rfl);(· rfl);(· rfl);(· rfl);(· rfl);intro u9 w9 o9 g9;obtain⟨A9,c9,e9⟩:=Vt o9;subst e9;have S9:=vV.o.app HO6.o g9;simp only[S_])
    | (refine QJ 32 (.tmp 167) (.tmp 166) rfl rfl pb 5 (.slice A9 (k+1) c9) _ (⟨clock,quantum,cur,left,fr,⟨A9,k+1,c9⟩,next,ini,⟨Ac,lpi.length,cc⟩,newPipe,inn,fin,told,bl,⟨Aa,lpe.length,ca⟩,dleft,⟨Ab,ldi.length,cb⟩⟩:QO).cells _ rfl rfl rfl B9 S9.tm.pbx (show 5<17 by decide) rfl ?_;intro gP iY d10;have Aw:=S9.stM iY d10;have uY:=Qi o9 d10 S9.tm.pbx (by decide)))
   have HOK:=Qa (show((T.take (k+1)).all (λx=>(JV x).isSome))=(ob&&isb) from fZ.o);clear S9 b5 b6 vV HO6 c5 x6 hz6 g9 o9 iY d10 fZ;have hgt2:=vZ.o.1;cases ob
   all_goals
    go_wp2_with fail;go_roundw;case rel=>exact⟨k+1,ys++[y],A9,c9,Qn,by rw[HOK.o];rfl,by go_num,Aw,by rw[AU,bL,za,iP];exact uY,HPY⟩
    case measure=>simp only[intOf];omega
  ·obtain rfl:k=T.length:=by omega
   have Y6:¬((T.length:Int)<(T.length:Int)):=by omega
   rw[Ri];have wM:=hP.o;unfold D7 at wM;rw[Ri]at wM;have Aq:=Qa wM;obtain⟨ob,hob⟩:∃b,b=T.all (λx=>(JV x).isSome):=⟨_,rfl⟩
   rw[←hob]at Ur ⊢;clear hob hP wM Qn hk vZ;generalize hz:(⟨clock,quantum,cur,left,fr,⟨A,T.length,c⟩,next,ini,⟨Ac,lpi.length,cc⟩,newPipe,inn,fin,told,bl,⟨Aa,lpe.length,ca⟩,dleft,⟨Ab,ldi.length,cb⟩⟩:QO)=Z at S1;have HZ:=Qa hz;clear hz;obtain⟨r,hr⟩:∃r,r=(Ye s).isSome:=⟨_,rfl⟩
   have MM:Zm (∀w',Ext w w'->w'.ownsRow w.heap.size 57 96 (.slice A T.length c) T.length (ys.flatMap Qq)->w'.ownsRow w.heap.size 92 2 (.slice Aa lpe.length ca) lpe.length (lpe.flatMap Zn)->w'.ownsRow w.heap.size 92 2 (.slice Ab ldi.length cb) ldi.length (ldi.flatMap Zn)->w'.ownsRow w.heap.size 95 2 (.slice Ac lpi.length cc) lpi.length (lpi.flatMap Zn)->ToR fr bl s w (.returned (.tuple #[.agg Z.cells,.bool r])) w'):=Qa (λw' hx o1 o2 o3 o4=>by
    refine⟨Z,by rw[hr],hx,λz0 e0 hq=>?_⟩;obtain⟨⟨v1,v2,v3,v4,v5,v6,v7,v8,v9,v10,v11⟩,p1,p2,p3,p4⟩:=iC.o z0 e0 hq;have e1:=HA.o _ p1;have e2:=HB.o _ p2;have e3:=HC.o _ p3;obtain⟨e4,e5⟩:=Aq.o.2 _ (ye.o _ p4);rw[←HZ.o,e1,e2,e3,e4];exact⟨⟨v1.symm,v2.symm,v3.symm,v4.symm,v5.symm,v6.symm,v7.symm,v8.symm,v9.symm,v10.symm,v11.symm⟩,rfl,rfl,e5.symm,rfl,rfl,rfl,o1,o4,o2,o3⟩)
   rw[←hr]at Ur;have qb:wr.cell? ⟨tbk,1,none⟩=some (.bool b16):=S1.tm.tbx.cell 1;have qv:wr.cell? ⟨vb,1,none⟩=some (.bool bd):=S1.vbx.cell 1;have bm:=S1.tm.pbx;have bR:=S1.tm.rbx;have XH:=Qa S1;have G8:=Qa o1;clear hr HA HB HC Aq ye iC az S1 o1 HZ;cases ob;case false =>
    obtain rfl:r=false:=by rw[←Ur.o];simp
    go_wp2_with (first|(refine Qo (.tmp 4) rfl rfl pb _ _ rfl bm rfl ?_)|(refine Qr (.tmp 2) (.tmp 173) rfl rfl rb Z _ _ rfl rfl bR rfl ?_;intro w9 b9 g9))
    have VJ:=Qw g9;exact Jv (Qd rfl _ _ rb _ _ _ (.bool false) rfl rfl b9 underlying38 rfl J1) rfl (MM.o w9 (VJ.past XH.o.tm.ext XH.o.tm.h0) (Qi G8.o VJ bR (by decide)) (Qi XH.o.pe VJ bR (by decide)) (Qi XH.o.di VJ bR (by decide)) (Qi XH.o.pi VJ bR (by decide)))
   case true =>
    cases bi;case false =>
     obtain rfl:r=false:=by rw[←Ur.o];simp
     go_wp2_with (first|(refine Qo (.tmp 4) rfl rfl pb _ _ rfl bm rfl ?_)|(refine Qr (.tmp 2) (.tmp 173) rfl rfl rb Z _ _ rfl rfl bR rfl ?_;intro w9 b9 g9))
     have VJ:=Qw g9;exact Jv (Qd rfl _ _ rb _ _ _ (.bool false) rfl rfl b9 underlying38 rfl J1) rfl (MM.o w9 (VJ.past XH.o.tm.ext XH.o.tm.h0) (Qi G8.o VJ bR (by decide)) (Qi XH.o.pe VJ bR (by decide)) (Qi XH.o.di VJ bR (by decide)) (Qi XH.o.pi VJ bR (by decide)))
    case true =>
     cases bj;case false =>
      obtain rfl:r=false:=by rw[←Ur.o];simp
      go_wp2_with (first|(refine Qo (.tmp 4) rfl rfl pb _ _ rfl bm rfl ?_)|(refine Qr (.tmp 2) (.tmp 173) rfl rfl rb Z _ _ rfl rfl bR rfl ?_;intro w9 b9 g9))
      have VJ:=Qw g9;exact Jv (Qd rfl _ _ rb _ _ _ (.bool false) rfl rfl b9 underlying38 rfl J1) rfl (MM.o w9 (VJ.past XH.o.tm.ext XH.o.tm.h0) (Qi G8.o VJ bR (by decide)) (Qi XH.o.pe VJ bR (by decide)) (Qi XH.o.di VJ bR (by decide)) (Qi XH.o.pi VJ bR (by decide)))
     case true =>
      cases bk;case false =>
       obtain rfl:r=false:=by rw[←Ur.o];simp
       go_wp2_with (first|(refine Qo (.tmp 4) rfl rfl pb _ _ rfl bm rfl ?_)|(refine Qr (.tmp 2) (.tmp 173) rfl rfl rb Z _ _ rfl rfl bR rfl ?_;intro w9 b9 g9))
       have VJ:=Qw g9;exact Jv (Qd rfl _ _ rb _ _ _ (.bool false) rfl rfl b9 underlying38 rfl J1) rfl (MM.o w9 (VJ.past XH.o.tm.ext XH.o.tm.h0) (Qi G8.o VJ bR (by decide)) (Qi XH.o.pe VJ bR (by decide)) (Qi XH.o.di VJ bR (by decide)) (Qi XH.o.pi VJ bR (by decide)))
      case true =>
       cases b16;case true =>
        obtain rfl:r=false:=by rw[←Ur.o];simp
        go_wp2_with (first|(refine Qo (.tmp 4) rfl rfl pb _ _ rfl bm rfl ?_)|(refine Qr (.tmp 2) (.tmp 173) rfl rfl rb Z _ _ rfl rfl bR rfl ?_;intro w9 b9 g9))
        have VJ:=Qw g9;exact Jv (Qd rfl _ _ rb _ _ _ (.bool false) rfl rfl b9 underlying38 rfl J1) rfl (MM.o w9 (VJ.past XH.o.tm.ext XH.o.tm.h0) (Qi G8.o VJ bR (by decide)) (Qi XH.o.pe VJ bR (by decide)) (Qi XH.o.di VJ bR (by decide)) (Qi XH.o.pi VJ bR (by decide)))
       case false =>
        cases bd;case true =>
         obtain rfl:r=false:=by rw[←Ur.o];simp
         go_wp2_with (first|(refine Qo (.tmp 4) rfl rfl pb _ _ rfl bm rfl ?_)|(refine Qr (.tmp 2) (.tmp 173) rfl rfl rb Z _ _ rfl rfl bR rfl ?_;intro w9 b9 g9))
         have VJ:=Qw g9;exact Jv (Qd rfl _ _ rb _ _ _ (.bool false) rfl rfl b9 underlying38 rfl J1) rfl (MM.o w9 (VJ.past XH.o.tm.ext XH.o.tm.h0) (Qi G8.o VJ bR (by decide)) (Qi XH.o.pe VJ bR (by decide)) (Qi XH.o.di VJ bR (by decide)) (Qi XH.o.pi VJ bR (by decide)))
        case false =>
         cases hw;case false =>
          obtain rfl:r=false:=by rw[←Ur.o];simp
          go_wp2_with (first|(refine Qo (.tmp 4) rfl rfl pb _ _ rfl bm rfl ?_)|(refine Qr (.tmp 2) (.tmp 173) rfl rfl rb Z _ _ rfl rfl bR rfl ?_;intro w9 b9 g9))
          have VJ:=Qw g9;exact Jv (Qd rfl _ _ rb _ _ _ (.bool false) rfl rfl b9 underlying38 rfl J1) rfl (MM.o w9 (VJ.past XH.o.tm.ext XH.o.tm.h0) (Qi G8.o VJ bR (by decide)) (Qi XH.o.pe VJ bR (by decide)) (Qi XH.o.di VJ bR (by decide)) (Qi XH.o.pi VJ bR (by decide)))
         case true =>
          obtain rfl:r=true:=by rw[←Ur.o];simp
          go_wp2_with (first|(refine Qo (.tmp 4) rfl rfl pb _ _ rfl bm rfl ?_)|(refine Qr (.tmp 2) (.tmp 173) rfl rfl rb Z _ _ rfl rfl bR rfl ?_;intro w9 b9 g9))
          have VJ:=Qw g9;exact Jv (Qd rfl _ _ rb _ _ _ (.bool true) rfl rfl b9 underlying38 rfl J1) rfl (MM.o w9 (VJ.past XH.o.tm.ext XH.o.tm.h0) (Qi G8.o VJ bR (by decide)) (Qi XH.o.pe VJ bR (by decide)) (Qi XH.o.di VJ bR (by decide)) (Qi XH.o.pi VJ bR (by decide)))
end Go.Proofs.YtfaplefkakpgcaaGreatDoor
