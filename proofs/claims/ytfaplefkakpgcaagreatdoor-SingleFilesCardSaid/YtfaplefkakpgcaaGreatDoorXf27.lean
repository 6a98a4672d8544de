/- The document's reading of a process (layer 32: toProc). -/
import Derived.Test.YtfaplefkakpgcaaGreatDoorXf24
import Derived.Test.YtfaplefkakpgcaaGreatDoorXf26
import Derived.Test.YtfaplefkakpgcaaGreatDoorXf5
import Derived.Test.YtfaplefkakpgcaaGreatDoorXf21
import Derived.Test.YtfaplefkakpgcaaGreatDoorXf20
set_option linter.unusedVariables false
set_option linter.unusedSimpArgs false
set_option maxHeartbeats 32000000
set_option maxRecDepth 100000
namespace Go.Proofs.YtfaplefkakpgcaaGreatDoor
open Go.Proofs.Tryz
open Go.RowKit
theorem longV_len (z:Nat) (s:List UInt8):(longV z s).length=z:=by
 unfold longV;split
 ·assumption
 ·simp[zs]
theorem u32_num4 (s:List UInt8):IntKind.u32.wrap ((numP 4 s).getD 0)=(numP 4 s).getD 0:=by
 cases h:numP 4 s with
 | none=>rfl
 | some n=>exact num_u32 h
def procV (s:List UInt8):PrT:=mkProc ((intP (((openT (some 10) s).getD []).headD [])).getD 0) ((intP (((openT (some 10) s).getD []).tail.headD [])).getD 0) ((intP (((openT (some 10) s).getD []).tail.tail.headD [])).getD 0) (longV 68 (((openT (some 10) s).getD []).tail.tail.tail.headD [])) (longV 32 (((openT (some 10) s).getD []).tail.tail.tail.tail.headD [])) (longV 136 (((openT (some 10) s).getD []).tail.tail.tail.tail.tail.headD [])) ((flagP (((openT (some 10) s).getD []).tail.tail.tail.tail.tail.tail.headD [])).getD false) ((numP 4 (((openT (some 10) s).getD []).tail.tail.tail.tail.tail.tail.tail.headD [])).getD 0) ((intP (((openT (some 10) s).getD []).tail.tail.tail.tail.tail.tail.tail.tail.headD [])).getD 0) ((numP 8 (((openT (some 10) s).getD []).tail.tail.tail.tail.tail.tail.tail.tail.tail.headD [])).getD 0)
theorem procP_ops (s:List UInt8):(spaceB (longV 32 (((openT (some 10) s).getD []).tail.tail.tail.tail.headD []))&&!(((((((((((openT (some 10) s).isNone||(intP (((openT (some 10) s).getD []).headD [])).isNone)||(intP (((openT (some 10) s).getD []).tail.headD [])).isNone)||(intP (((openT (some 10) s).getD []).tail.tail.headD [])).isNone)||!decide ((((openT (some 10) s).getD []).tail.tail.tail.headD []).length=68))||!decide ((((openT (some 10) s).getD []).tail.tail.tail.tail.headD []).length=32))||!decide ((((openT (some 10) s).getD []).tail.tail.tail.tail.tail.headD []).length=136))||(flagP (((openT (some 10) s).getD []).tail.tail.tail.tail.tail.tail.headD [])).isNone)||(numP 4 (((openT (some 10) s).getD []).tail.tail.tail.tail.tail.tail.tail.headD [])).isNone)||(intP (((openT (some 10) s).getD []).tail.tail.tail.tail.tail.tail.tail.tail.headD [])).isNone)||(numP 8 (((openT (some 10) s).getD []).tail.tail.tail.tail.tail.tail.tail.tail.tail.headD [])).isNone))=(procP s).isSome/\
  (∀y,procP s=some y->spaceB (longV 32 (((openT (some 10) s).getD []).tail.tail.tail.tail.headD []))=true/\y=procV s):=by
 unfold procP procV;cases h:openT (some 10) s with
 | none=>exact⟨by simp,λy hy=>by cases hy⟩
 | some l =>
  obtain⟨t0,t1,t2,t3,t4,t5,t6,t7,t8,t9,rfl⟩:=ten_of (openT_len h);simp only[Option.getD_some,List.headD_cons,List.tail_cons,Option.isNone_some,Bool.false_or,Option.bind_some,List.getD_cons_zero,List.getD_cons_succ];cases h0:intP t0 with
  | none=>exact⟨by simp,λy hy=>by cases hy⟩
  | some v0 =>
  cases h1:intP t1 with
  | none=>exact⟨by simp,λy hy=>by cases hy⟩
  | some v1 =>
  cases h2:intP t2 with
  | none=>exact⟨by simp,λy hy=>by cases hy⟩
  | some v2 =>
  by_cases h3:t3.length=68
  ·by_cases h4:t4.length=32
   ·by_cases h5:t5.length=136
    ·cases h4b:spaceB t4 with
     | false=>exact⟨by simp[longV,h4,h4b,spaceP,fixP,h3],λy hy=>by simp[fixP,h3,spaceP,h4b]at hy⟩
     | true =>
     cases h6:flagP t6 with
     | none=>exact⟨by simp[fixP,spaceP,h3,h4,h5,h4b],λy hy=>by simp[fixP,spaceP,h3,h4,h5,h4b]at hy⟩
     | some v6 =>
     cases h7:numP 4 t7 with
     | none=>exact⟨by simp[fixP,spaceP,h3,h4,h5,h4b],λy hy=>by simp[fixP,spaceP,h3,h4,h5,h4b]at hy⟩
     | some v7 =>
     cases h8:intP t8 with
     | none=>exact⟨by simp[fixP,spaceP,h3,h4,h5,h4b],λy hy=>by simp[fixP,spaceP,h3,h4,h5,h4b]at hy⟩
     | some v8 =>
     cases h9:numP 8 t9 with
     | none=>exact⟨by simp[fixP,spaceP,h3,h4,h5,h4b],λy hy=>by simp[fixP,spaceP,h3,h4,h5,h4b]at hy⟩
     | some v9=>exact⟨by simp[fixP,spaceP,longV,h3,h4,h5,h4b],λy hy=>by
       simp[fixP,spaceP,h3,h4,h5,h4b]at hy;exact⟨by simp[longV,h4,h4b],by rw[← hy];simp[longV,h3,h4,h5]⟩⟩
    ·exact⟨by simp[fixP,spaceP,h3,h4,h5],λy hy=>by simp[fixP,spaceP,h3,h4,h5]at hy⟩
   ·exact⟨by simp[fixP,spaceP,h3,h4],λy hy=>by simp[fixP,spaceP,h3,h4]at hy⟩
  ·exact⟨by simp[fixP,h3],λy hy=>by simp[fixP,h3]at hy⟩
theorem procT_ops (s:List UInt8) (hs:s.length<=100000000):∃(L0 L1 L2 L3 L4 L5 L6 L7 L8 L9 L10:List (List UInt8)) (b0 b1 b2 b3 b4 b5 b6 b7 b8 b9 b10:Bool) (pid par st why code num:Int) (cpu spc fdt:List UInt8) (mask:Bool),
  (∀w,Calls prog 135 #[.string (str s),.int .i64 10] w λe w'=>(∃v,e=.returned v/\IsT w' L0 b0 v)/\Ext w w')/\
  (∀v w,IsT w L0 b0 v->Calls prog 138 #[v] w (TakeR w w L1 b1 (.int .i64 pid)))/\
  (∀v w,IsT w L1 b1 v->Calls prog 138 #[v] w (TakeR w w L2 b2 (.int .i64 par)))/\
  (∀v w,IsT w L2 b2 v->Calls prog 138 #[v] w (TakeR w w L3 b3 (.int .i64 st)))/\
  (∀v w,IsT w L3 b3 v->Calls prog 197 #[v,.int .i64 68] w (TakeR w w L4 b4 (.string (str cpu))))/\
  (∀v w,IsT w L4 b4 v->Calls prog 197 #[v,.int .i64 32] w (TakeR w w L5 b5 (.string (str spc))))/\
  (∀v w,IsT w L5 b5 v->Calls prog 197 #[v,.int .i64 136] w (TakeR w w L6 b6 (.string (str fdt))))/\
  (∀v w,IsT w L6 b6 v->Calls prog 139 #[v] w (TakeR w w L7 b7 (.bool mask)))/\
  (∀v w,IsT w L7 b7 v->Calls prog 137 #[v,.int .i64 4] w (TakeR w w L8 b8 (.int .u64 code)))/\
  (∀v w,IsT w L8 b8 v->Calls prog 138 #[v] w (TakeR w w L9 b9 (.int .i64 why)))/\
  (∀v w,IsT w L9 b9 v->Calls prog 137 #[v,.int .i64 8] w (TakeR w w L10 b10 (.int .u64 num)))/\
  cpu.length=68/\
  spc.length=32/\
  fdt.length=136/\
  IntKind.u32.wrap code=code/\
  (spaceB spc&&!b10)=(procP s).isSome/\
  (∀y,procP s=some y->spaceB spc=true/\y=mkProc pid par st cpu spc fdt mask code why num):=by
 have hl:∀t∈(openT (some 10) s).getD [],t.length<=1000000000:=by
  cases h:openT (some 10) s with
  | none=>intro t ht;simp at ht
  | some l=>intro t ht;have:=openT_few h t (by simpa using ht);omega
 have tl:∀{l:List (List UInt8)},(∀t∈l,t.length<=1000000000)->∀t∈l.tail,t.length<=1000000000:=λh t ht=>h t (List.mem_of_mem_tail ht);obtain⟨e1,e2⟩:=procP_ops s;refine⟨_,_,_,_,_,_,_,_,_,_,_,_,_,_,_,_,_,_,_,_,_,_,_,_,_,_,_,_,_,_,_,_,λw=>rof32_any s (some 10) w (by omega) (λn h=>by cases h;decide),λv w h=>rnumber_any _ _ v w w h (Ext.refl w) hl,λv w h=>rnumber_any _ _ v w w h (Ext.refl w) (tl hl),λv w h=>rnumber_any _ _ v w w h (Ext.refl w) (tl (tl hl)),λv w h=>rlong_any _ _ v 68 w w h (Ext.refl w) (by decide) (by decide),λv w h=>rlong_any _ _ v 32 w w h (Ext.refl w) (by decide) (by decide),λv w h=>rlong_any _ _ v 136 w w h (Ext.refl w) (by decide) (by decide),λv w h=>rflag_any _ _ v w w h (Ext.refl w),λv w h=>rbytes_any _ _ v 4 w w h (Ext.refl w) (by decide) (by decide),λv w h=>rnumber_any _ _ v w w h (Ext.refl w) (tl (tl (tl (tl (tl (tl (tl (tl hl)))))))),λv w h=>rbytes_any _ _ v 8 w w h (Ext.refl w) (by decide) (by decide),longV_len _ _,longV_len _ _,longV_len _ _,u32_num4 _,e1,e2⟩
structure TP (w wx:World) (rb pb tb:Nat) (y:PrT) (A:Option Addr) (n c:Nat) (b:Bool):Prop where
 rbx:Box wx rb 57 (prL prZ).toArray
 pbx:Box wx pb 57 (prL y).toArray
 tbx:Box wx tb 193 (tC A n c b)
 ext:Ext w wx
 h0:w.heap.size<=rb
 h1:rb<pb
 h2:pb<tb
namespace TP
variable {w wx w':World}{rb pb tb:Nat}{y y':PrT}{A A':Option Addr}{n c n' c':Nat}{b b':Bool}
theorem more (S:TP w wx rb pb tb y A n c b) (x:Ext wx w'):TP w w' rb pb tb y A n c b:=⟨S.rbx.ext x,S.pbx.ext x,S.tbx.ext x,S.ext.trans x,S.h0,S.h1,S.h2⟩
theorem stT (S:TP w wx rb pb tb y A n c b) (hb:Box w' tb 193 (tC A' n' c' b')) (d:But tb wx w'):TP w w' rb pb tb y A' n' c' b' :=
 ⟨d.box S.rbx (by have:=S.h1;have:=S.h2;omega),d.box S.pbx (by have:=S.h2;omega),hb,d.past S.ext (by have:=S.h0;have:=S.h1;have:=S.h2;omega),S.h0,S.h1,S.h2⟩
theorem stP (S:TP w wx rb pb tb y A n c b) (hb:Box w' pb 57 (prL y').toArray) (d:But pb wx w'):TP w w' rb pb tb y' A n c b :=
 ⟨d.box S.rbx (by have:=S.h1;omega),hb,d.box S.tbx (by have:=S.h2;omega),d.past S.ext (by have:=S.h0;have:=S.h1;omega),S.h0,S.h1,S.h2⟩
theorem eq (S:TP w wx rb pb tb y A n c b) (h:prL y=prL y'):TP w wx rb pb tb y' A n c b:=⟨S.rbx,h▸S.pbx,S.tbx,S.ext,S.h0,S.h1,S.h2⟩
end TP
section
theorem put_pid (y:PrT) (v:Int):(prL y).toArray.setIfInBounds 0 (.int .i64 v)=(prL { y with pid:=v }).toArray:=by kernel_rfl
theorem put_par (y:PrT) (v:Int):(prL y).toArray.setIfInBounds 1 (.int .i64 v)=(prL { y with parent:=v }).toArray:=by kernel_rfl
theorem put_state (y:PrT) (v:Int):(prL y).toArray.setIfInBounds 2 (.int .i64 v)=(prL { y with state:=v }).toArray:=by kernel_rfl
theorem put_pc (y:PrT) (v:Int):(prL y).toArray.setIfInBounds 19 (.int .u32 v)=(prL { y with pc:=v }).toArray:=by kernel_rfl
theorem put_mask (y:PrT) (v:Bool):(prL y).toArray.setIfInBounds 92 (.bool v)=(prL { y with mask:=v }).toArray:=by kernel_rfl
theorem put_code (y:PrT) (v:Int):(prL y).toArray.setIfInBounds 93 (.int .u32 v)=(prL { y with code:=v }).toArray:=by kernel_rfl
theorem put_why (y:PrT) (v:Int):(prL y).toArray.setIfInBounds 94 (.int .i64 v)=(prL { y with why:=v }).toArray:=by kernel_rfl
theorem put_num (y:PrT) (v:Int):(prL y).toArray.setIfInBounds 95 (.int .u64 v)=(prL { y with num:=v }).toArray:=by kernel_rfl
theorem putR_fds (y:PrT) (f g h:Nat->Int):putR (prL y).toArray 68 (fdsL (prF default f g h 8))=(prL (prF y f g h 8)).toArray:=by kernel_rfl
end
theorem fdsL_one (p:PrT):∀v∈fdsL p,v.oneCell'=true:=λv hv=>by
 simp only[fdsL,fdL,List.mem_flatMap,List.mem_cons,List.not_mem_nil,or_false]at hv;obtain⟨i,_,h|h|h⟩:=hv<;>(subst h;rfl)
def ToProcR (s:List UInt8) (w:World) (e:Ending) (w':World):Prop :=
 (∃y:PrT,e=.returned (.tuple #[.agg (prL y).toArray,.bool (procP s).isSome])/\(∀y',procP s=some y'->prL y'=prL y))/\Ext w w'
theorem prSzT {y:PrT}:(prog.info? 57).map (·.size)=some (prL y).toArray.size:=by
 rw[List.size_toArray,prL_len];kernel_rfl
theorem prOneT {y:PrT}:(prL y).toArray.all (·.oneCell')=true:=all_oneCell_toArray (λv hv=>prL_one y v hv)
theorem rtoProc_any (s:List UInt8) (w:World) (hs:s.length<=100000000) :
  Calls prog 142 #[.string (str s)] w (ToProcR s w):=by
 obtain⟨L0,L1,L2,L3,L4,L5,L6,L7,L8,L9,L10,b0,b1,b2,b3,b4,b5,b6,b7,b8,b9,b10,pid,par,st,why,code,num,cpu,spc,fdt,mask,hof,h0,h1,h2,h3,h4,h5,h6,h7,h8,h9,hc3,hc4,hc5,hcode,hend,hval⟩:=procT_ops s hs;have HOF:=lh_ hof;have H0:=lh_ h0;have H1:=lh_ h1;have H2:=lh_ h2;have H3:=lh_ h3;have H4:=lh_ h4;have H5:=lh_ h5;have H6:=lh_ h6;have H7:=lh_ h7;have H8:=lh_ h8;have H9:=lh_ h9;have HEND:=lh_ hend;have HVAL:=lh_ hval;clear hof h0 h1 h2 h3 h4 h5 h6 h7 h8 h9 hend hval hs;go_enter func142,ntmps142;go_upto_region 1 with fail;have b0':=Box.new w 57 (prL prZ).toArray;have x0:Ext w (w.alloc (.cells (prL prZ).toArray 57)):=(Ext.refl w).alloc _;have z0:(w.alloc (.cells (prL prZ).toArray 57)).heap.size=w.heap.size+1:=World.size_alloc _ _;change Code.wp _ _ _ _ (w.alloc (.cells (prL prZ).toArray 57));generalize w.alloc (.cells (prL prZ).toArray 57)=wa at b0' x0 z0 ⊢;go_upto_region 2 with(refine wp_st _ (.tmp 4) (.tmp 12) rfl rfl (w.heap.size+1) _ _ _ rfl rfl (by rw[← z0];exact Box.new wa 57 _) (by kernel_rfl) rfl (by kernel_rfl) ?_;intro w1 bp g1)
 have bp':Box w1 (w.heap.size+1) 57 (prL prZ).toArray:=bp;have x1:Ext w w1:=(x0.alloc _).grown g1 (λj e=>by cases e;omega);have br:Box w1 w.heap.size 57 (prL prZ).toArray:=(b0'.ext ((Ext.refl wa).alloc _)).grown g1 (by simp);have hz1:w.heap.size+2<=w1.heap.size:=by have:=g1.size;rw[World.size_alloc]at this;omega
 clear b0' x0 z0 bp g1 wa;have hr0:w.heap.size<w.heap.size+1:=Nat.lt_succ_self _;have hrb:w.heap.size<=w.heap.size:=Nat.le_refl _;generalize hpb:w.heap.size+1=pb at *;have hpl:pb<w1.heap.size:=by omega
 clear hpb hz1;generalize hrr:w.heap.size=rb at br hr0 ⊢;have hrb':w.heap.size<=rb:=by omega
 clear hrb
 go_upto_region 3 with(first
  | (go_at_call 135;refine(HOF.out _).mono ?_;rintro e w2 ⟨⟨v2,rfl,A0,n0,c0,rfl,s0,k0⟩,x2⟩)
  | (refine wp_st _ _ _ rfl rfl w2.heap.size (tC A0 n0 c0 b0) _ _ rfl rfl (Box.new w2 _ _) tSz rfl (tOne _ _ _ _) ?_;intro w3 b3 g3))
 have y3:Ext w2 w3:=((Ext.refl w2).alloc _).grown g3 (λj e=>by cases e;exact Nat.le_refl _);have S0:TP w w3 rb pb w2.heap.size prZ A0 n0 c0 b0:=⟨br.ext (x2.trans y3),bp'.ext (x2.trans y3),b3,(x1.trans x2).trans y3,hrb',hr0,Nat.lt_of_lt_of_le hpl x2.size⟩
 have r0:=s0.ext y3;generalize w2.heap.size=tb at S0 ⊢;clear bp' x1 br hpl hr0 hrb' x2 s0 y3 b3 g3 HOF w1 w2
 go_upto_region 4 with(first
  | (refine wp_ld _ _ rfl rfl tb (tC A0 n0 c0 b0) _ _ rfl S0.tbx underlying193 rfl tSz ?_)
  | (go_at_call 138;refine(H0.out _ _ ⟨A0,n0,c0,rfl,r0,k0⟩).mono ?_;rintro e p1 ⟨⟨v1,rfl,A1,n1,c1,rfl,q1,k1⟩,z1⟩;have S1a:=S0.more z1;have r1a:=q1.ext z1)
  | (refine wp_st _ _ _ rfl rfl tb (tC A1 n1 c1 b1) _ _ rfl rfl S1a.tbx tSz rfl (tOne _ _ _ _) ?_;intro o1 bb1 gg1;have S1b:=S1a.stT bb1 (but_grown2 gg1);have r1b:=r1a.but (but_grown2 gg1) S1a.tbx (by decide))
  | (refine wp_st_cell 3 _ _ rfl rfl pb 0 (.int .i64 pid) _ _ _ rfl rfl rfl szInt S1b.pbx (by rw[List.size_toArray,prL_len];decide) (put_pid _ _) ?_;intro u1 bz1 dz1;have S1:=S1b.stP bz1 dz1;have r1:=r1b.but dz1 S1b.pbx (by decide)))
 clear H0 S0 S1a r0 r1a q1 z1 k0 bb1 gg1 S1b r1b bz1 dz1
 go_upto_region 5 with(first
  | (refine wp_ld _ _ rfl rfl tb (tC A1 n1 c1 b1) _ _ rfl S1.tbx underlying193 rfl tSz ?_)
  | (go_at_call 138;refine(H1.out _ _ ⟨A1,n1,c1,rfl,r1,k1⟩).mono ?_;rintro e p2 ⟨⟨v2,rfl,A2,n2,c2,rfl,q2,k2⟩,z2⟩;have S2a:=S1.more z2;have r2a:=q2.ext z2)
  | (refine wp_st _ _ _ rfl rfl tb (tC A2 n2 c2 b2) _ _ rfl rfl S2a.tbx tSz rfl (tOne _ _ _ _) ?_;intro o2 bb2 gg2;have S2b:=S2a.stT bb2 (but_grown2 gg2);have r2b:=r2a.but (but_grown2 gg2) S2a.tbx (by decide))
  | (refine wp_st_cell 3 _ _ rfl rfl pb 1 (.int .i64 par) _ _ _ rfl rfl rfl szInt S2b.pbx (by rw[List.size_toArray,prL_len];decide) (put_par _ _) ?_;intro u2 bz2 dz2;have S2:=S2b.stP bz2 dz2;have r2:=r2b.but dz2 S2b.pbx (by decide)))
 clear H1 S1 S2a r1 r2a q2 z2 k1 bb2 gg2 S2b r2b bz2 dz2
 go_upto_region 6 with(first
  | (refine wp_ld _ _ rfl rfl tb (tC A2 n2 c2 b2) _ _ rfl S2.tbx underlying193 rfl tSz ?_)
  | (go_at_call 138;refine(H2.out _ _ ⟨A2,n2,c2,rfl,r2,k2⟩).mono ?_;rintro e p3 ⟨⟨v3,rfl,A3,n3,c3,rfl,q3,k3⟩,z3⟩;have S3a:=S2.more z3;have r3a:=q3.ext z3)
  | (refine wp_st _ _ _ rfl rfl tb (tC A3 n3 c3 b3) _ _ rfl rfl S3a.tbx tSz rfl (tOne _ _ _ _) ?_;intro o3 bb3 gg3;have S3b:=S3a.stT bb3 (but_grown2 gg3);have r3b:=r3a.but (but_grown2 gg3) S3a.tbx (by decide))
  | (refine wp_st_cell 3 _ _ rfl rfl pb 2 (.int .i64 st) _ _ _ rfl rfl rfl szInt S3b.pbx (by rw[List.size_toArray,prL_len];decide) (put_state _ _) ?_;intro u3 bz3 dz3;have S3:=S3b.stP bz3 dz3;have r3:=r3b.but dz3 S3b.pbx (by decide)))
 clear H2 S2 S3a r2 r3a q3 z3 k2 bb3 gg3 S3b r3b bz3 dz3
 go_upto_region 7 with(first
  | (refine wp_ld _ _ rfl rfl tb (tC A3 n3 c3 b3) _ _ rfl S3.tbx underlying193 rfl tSz ?_)
  | (go_at_call 197;refine(H3.out _ _ ⟨A3,n3,c3,rfl,r3,k3⟩).mono ?_;rintro e p4 ⟨⟨v4,rfl,A4,n4,c4,rfl,q4,k4⟩,z4⟩;have S4a:=S3.more z4;have r4a:=q4.ext z4)
  | (refine wp_st _ _ _ rfl rfl tb (tC A4 n4 c4 b4) _ _ rfl rfl S4a.tbx tSz rfl (tOne _ _ _ _) ?_;intro o4 bb4 gg4;have S4:=S4a.stT bb4 (but_grown2 gg4);have r4:=r4a.but (but_grown2 gg4) S4a.tbx (by decide)))
 clear H3 S3 S4a r3 r4a q4 z4 k3 bb4 gg4;have HK4:=lh_ k4;clear k4;have HC4:=lh_ hc4;have HC5:=lh_ hc5;have HCODE:=lh_ hcode;clear hc4 hc5 hcode;replace S4:=S4.eq (show _=prL (prR { prZ with pid:=pid,parent:=par,state:=st } (λi=>numAtT cpu (4*i) 4) 0) from rfl);generalize hy3:({ prZ with pid:=pid,parent:=par,state:=st }:PrT)=y3 at S4;have HY3:=lh_ hy3;have hl3:(str cpu).size=68:=by rw[str_size];exact hc3
 have HS4:=lh_ S4;have HR4:=lh_ r4;clear hy3 S4 r4;go_upto_region 8 with fail;go_loopw [7] (λi wx=>∃k:Nat,k<=16/\i=.int .i64 k/\TP w wx rb pb tb (prR y3 (λi=>numAtT cpu (4*i) 4) k) A4 n4 c4 b4/\TRow wx A4 n4 L4) (λi _=>16-(intOf i).toNat);case atStart=>exact⟨0,by omega,rfl,HS4.out,HR4.out⟩
 case round =>
  obtain⟨k,hk,rfl,S1,r1⟩:=hrel;clear HS4 HR4;by_cases hlt:k<16
  ·have hki:(k:Int)<16:=by omega
   have HP:Hid ((prL (prR y3 (λi=>numAtT cpu (4*i) 4) k)).toArray.setIfInBounds (3+k) (.int .u32 (numAtT cpu (4*k) 4))=(prL (prR y3 (λi=>numAtT cpu (4*i) 4) (k+1))).toArray):=lh_ (prR_put y3 (λi=>numAtT cpu (4*i) 4) hlt);have HG:=lh_ (λw=>rget_at cpu (4*k) 4 (by decide) w);have hu:=u32_at cpu (4*k);generalize numAtT cpu (4*k) 4=r at *;clear hc3
   go_wp2_with (first
    | (go_at_call 169;refine(HG.out _).mono ?_;rintro e w2 ⟨rfl,rfl⟩)
    | (refine wp_st_cell 45 _ _ rfl rfl pb (3+k) (.int .u32 r) _ _ _ rfl rfl rfl szU32 S1.pbx (by rw[List.size_toArray,prL_len];omega) HP.out ?_;intro w3 b3' d3;have S2:=S1.stP b3' d3;have r2:=r1.but d3 S1.pbx (by decide)))
   go_roundw;case rel=>exact⟨k+1,by omega,by go_num,S2,r2⟩
   case measure=>simp[intOf];omega
  ·obtain rfl:k=16:=by omega
   have HG:=lh_ (λw=>rget_at cpu 64 4 (by decide) w);have hu:=u32_at cpu 64;generalize hyr:prR y3 (λi=>numAtT cpu (4*i) 4) 16=yR at *;generalize hpc:numAtT cpu 64 4=pc at *;have HYR:=lh_ hyr;have HPC:=lh_ hpc;clear hyr hpc hc3 hk hlt
   go_upto_region 12 with(first
    | (go_at_call 169;refine(HG.out _).mono ?_;rintro e w2 ⟨rfl,rfl⟩)
    | (refine wp_st_cell 45 _ _ rfl rfl pb 19 (.int .u32 pc) _ _ _ rfl rfl rfl szU32 S1.pbx (by rw[List.size_toArray,prL_len];decide) (put_pc _ _) ?_;intro w3 b3' d3;have S4:=S1.stP b3' d3;have r4:=r1.but d3 S1.pbx (by decide)))
   have k4:=HK4.out;clear S1 r1 HG hu b3' d3 hl3;generalize hyp:({ yR with pc:=pc }:PrT)=yP at S4;have HYP:=lh_ hyp;clear hyp
   go_upto_region 13 with(first
    | (refine wp_ld _ _ rfl rfl tb (tC A4 n4 c4 b4) _ _ rfl S4.tbx underlying193 rfl tSz ?_)
    | (go_at_call 197;refine(H4.out _ _ ⟨A4,n4,c4,rfl,r4,k4⟩).mono ?_;rintro e p5 ⟨⟨v5,rfl,A5,n5,c5,rfl,q5,k5⟩,z5⟩;have S5a:=S4.more z5;have r5a:=q5.ext z5)
    | (refine wp_st _ _ _ rfl rfl tb (tC A5 n5 c5 b5) _ _ rfl rfl S5a.tbx tSz rfl (tOne _ _ _ _) ?_;intro o5 bb5 gg5;have S5:=S5a.stT bb5 (but_grown2 gg5);have r5:=r5a.but (but_grown2 gg5) S5a.tbx (by decide)))
   clear H4 S4 S5a r4 r5a q5 z5 k4 bb5 gg5;have HSP:=lh_ (λw=>rtoSpace_any spc w HC4.out);obtain⟨bs,hbs⟩:∃b,b=spaceB spc:=⟨_,rfl⟩
   have HBS:=lh_ hbs;unfold ToSpaceR at HSP;rw[← hbs]at HSP HEND HVAL;clear hbs
   go_upto_region 15 with(first
    | (go_at_call 198;refine(HSP.out _).mono ?_;rintro e w4 ⟨⟨q,rfl,hq⟩,x4⟩;have S5b:=S5.more x4;have r5b:=r5.ext x4)
    | (refine wp_st_space (.tmp 71) (.tmp 69) rfl rfl pb yP q _ rfl rfl S5b.pbx ?_;intro w5 b5' d5;have S5c:=S5b.stP b5' d5;have r5c:=r5b.but d5 S5b.pbx (by decide)))
   have HQ:=lh_ hq;clear S5 r5 S5b r5b x4 b5' d5 hq HSP;replace S5:=S5c;replace r5:=r5c;clear S5c r5c;generalize hyS:yP.pages q=yS at S5;have HYS:=lh_ hyS;clear hyS
   go_upto_region 16 with(first
    | (refine wp_ld _ _ rfl rfl tb (tC A5 n5 c5 b5) _ _ rfl S5.tbx underlying193 rfl tSz ?_)
    | (go_at_call 197;refine(H5.out _ _ ⟨A5,n5,c5,rfl,r5,k5⟩).mono ?_;rintro e p6 ⟨⟨v6,rfl,A6,n6,c6,rfl,q6,k6⟩,z6⟩;have S6a:=S5.more z6;have r6a:=q6.ext z6)
    | (refine wp_st _ _ _ rfl rfl tb (tC A6 n6 c6 b6) _ _ rfl rfl S6a.tbx tSz rfl (tOne _ _ _ _) ?_;intro o6 bb6 gg6;have S6:=S6a.stT bb6 (but_grown2 gg6);have r6:=r6a.but (but_grown2 gg6) S6a.tbx (by decide)))
   clear H5 S5 S6a r5 r6a q6 z6 k5 bb6 gg6;have HFD:=lh_ (λw=>rtoFds_any fdt w HC5.out);have HPF:=lh_ (putR_fds yS (λi=>byteAt fdt (17*i)) (λi=>wrap64 (numAtT fdt (17*i+1) 8)) (λi=>wrap64 (numAtT fdt (17*i+9) 8)))
   go_upto_region 17 with(first
    | (go_at_call 199;refine(HFD.out _).mono ?_;rintro e w6 ⟨rfl,x6⟩;have S6b:=S6.more x6;have r6b:=r6.ext x6)
    | (refine wp_st_range 55 (.tmp 79) (.tmp 78) rfl rfl pb 68 (fdsL (fdRd fdt 8)) _ _ _ rfl rfl (fdsL_one _) (by show _=some 24;exact fdsSize) S6b.pbx (by rw[List.size_toArray,prL_len];show 68+24<=96;decide) HPF.out ?_;intro w7 b7' d7;have S6c:=S6b.stP b7' d7;have r6c:=r6b.but d7 S6b.pbx (by decide)))
   replace S6:=S6c;replace r6:=r6c;clear S6b r6b S6c r6c x6 b7' d7 HFD HPF;generalize hyF:prF yS (λi=>byteAt fdt (17*i)) (λi=>wrap64 (numAtT fdt (17*i+1) 8)) (λi=>wrap64 (numAtT fdt (17*i+9) 8)) 8=yF at S6;have HYF:=lh_ hyF;clear hyF
   go_upto_region 18 with(first
    | (refine wp_ld _ _ rfl rfl tb (tC A6 n6 c6 b6) _ _ rfl S6.tbx underlying193 rfl tSz ?_)
    | (go_at_call 139;refine(H6.out _ _ ⟨A6,n6,c6,rfl,r6,k6⟩).mono ?_;rintro e p7 ⟨⟨v7,rfl,A7,n7,c7,rfl,q7,k7⟩,z7⟩;have S7a:=S6.more z7;have r7a:=q7.ext z7)
    | (refine wp_st _ _ _ rfl rfl tb (tC A7 n7 c7 b7) _ _ rfl rfl S7a.tbx tSz rfl (tOne _ _ _ _) ?_;intro o7 bb7 gg7;have S7b:=S7a.stT bb7 (but_grown2 gg7);have r7b:=r7a.but (but_grown2 gg7) S7a.tbx (by decide))
    | (refine wp_st_cell 4 _ _ rfl rfl pb 92 (.bool mask) _ _ _ rfl rfl rfl szBool S7b.pbx (by rw[List.size_toArray,prL_len];decide) (put_mask _ _) ?_;intro u7 bz7 dz7;have S7:=S7b.stP bz7 dz7;have r7:=r7b.but dz7 S7b.pbx (by decide)))
   clear H6 S6 S7a r6 r7a q7 z7 k6 bb7 gg7 S7b r7b bz7 dz7
   go_upto_region 19 with(first
    | (refine wp_ld _ _ rfl rfl tb (tC A7 n7 c7 b7) _ _ rfl S7.tbx underlying193 rfl tSz ?_)
    | (go_at_call 137;refine(H7.out _ _ ⟨A7,n7,c7,rfl,r7,k7⟩).mono ?_;rintro e p8 ⟨⟨v8,rfl,A8,n8,c8,rfl,q8,k8⟩,z8⟩;have S8a:=S7.more z8;have r8a:=q8.ext z8)
    | (refine wp_st _ _ _ rfl rfl tb (tC A8 n8 c8 b8) _ _ rfl rfl S8a.tbx tSz rfl (tOne _ _ _ _) ?_;intro o8 bb8 gg8;have S8:=S8a.stT bb8 (but_grown2 gg8);have r8:=r8a.but (but_grown2 gg8) S8a.tbx (by decide)))
   clear H7 S7 S8a r7 r8a q8 z8 k7 bb8 gg8;have hcode:=HCODE.out;go_upto_region 20 with(refine wp_st_cell 45 _ _ rfl rfl pb 93 (.int .u32 code) _ _ _ rfl rfl rfl szU32 S8.pbx (by rw[List.size_toArray,prL_len];decide) (put_code _ _) ?_;intro w8 b8' d8;have S8b:=S8.stP b8' d8;have r8b:=r8.but d8 S8.pbx (by decide))
   clear S8 r8 b8' d8 hcode;replace S8:=S8b;replace r8:=r8b;clear S8b r8b
   go_upto_region 21 with(first
    | (refine wp_ld _ _ rfl rfl tb (tC A8 n8 c8 b8) _ _ rfl S8.tbx underlying193 rfl tSz ?_)
    | (go_at_call 138;refine(H8.out _ _ ⟨A8,n8,c8,rfl,r8,k8⟩).mono ?_;rintro e p9 ⟨⟨v9,rfl,A9,n9,c9,rfl,q9,k9⟩,z9⟩;have S9a:=S8.more z9;have r9a:=q9.ext z9)
    | (refine wp_st _ _ _ rfl rfl tb (tC A9 n9 c9 b9) _ _ rfl rfl S9a.tbx tSz rfl (tOne _ _ _ _) ?_;intro o9 bb9 gg9;have S9b:=S9a.stT bb9 (but_grown2 gg9);have r9b:=r9a.but (but_grown2 gg9) S9a.tbx (by decide))
    | (refine wp_st_cell 3 _ _ rfl rfl pb 94 (.int .i64 why) _ _ _ rfl rfl rfl szInt S9b.pbx (by rw[List.size_toArray,prL_len];decide) (put_why _ _) ?_;intro u9 bz9 dz9;have S9:=S9b.stP bz9 dz9;have r9:=r9b.but dz9 S9b.pbx (by decide)))
   clear H8 S8 S9a r8 r9a q9 z9 k8 bb9 gg9 S9b r9b bz9 dz9
   go_upto_region 22 with(first
    | (refine wp_ld _ _ rfl rfl tb (tC A9 n9 c9 b9) _ _ rfl S9.tbx underlying193 rfl tSz ?_)
    | (go_at_call 137;refine(H9.out _ _ ⟨A9,n9,c9,rfl,r9,k9⟩).mono ?_;rintro e p10 ⟨⟨v10,rfl,A10,n10,c10,rfl,q10,k10⟩,z10⟩;have S10a:=S9.more z10;have r10a:=q10.ext z10)
    | (refine wp_st _ _ _ rfl rfl tb (tC A10 n10 c10 b10) _ _ rfl rfl S10a.tbx tSz rfl (tOne _ _ _ _) ?_;intro o10 bb10 gg10;have S10b:=S10a.stT bb10 (but_grown2 gg10);have r10b:=r10a.but (but_grown2 gg10) S10a.tbx (by decide))
    | (refine wp_st_cell 31 _ _ rfl rfl pb 95 (.int .u64 num) _ _ _ rfl rfl rfl szU64 S10b.pbx (by rw[List.size_toArray,prL_len];decide) (put_num _ _) ?_;intro u10 bz10 dz10;have S10:=S10b.stP bz10 dz10;have r10:=r10b.but dz10 S10b.pbx (by decide)))
   clear H9 S9 S10a r9 r10a q10 z10 k9 bb10 gg10 S10b r10b bz10 dz10;have hfin:bs=true->prL ({ { { { yF with mask:=mask } with code:=code } with why:=why } with num:=num }:PrT)=prL (mkProc pid par st cpu spc fdt mask code why num):=λh=>by rw[← HYF.out,← HYS.out,HQ.out h,← HYP.out,← HYR.out,← HY3.out,← HPC.out];exact proc_done pid par st cpu spc fdt mask code why num
   have HFIN:=lh_ hfin;generalize ({ { { { yF with mask:=mask } with code:=code } with why:=why } with num:=num }:PrT)=yE at S10 HFIN;clear hfin r10 k10;have HLAST:=lh_ (λy' (h:procP s=some y')=>show prL y'=prL yE from by
    obtain⟨h1,h2⟩:=HVAL.out y' h;rw[HFIN.out h1,h2])
   have hne1:pb≠rb:=by have:=S10.h1;omega
   have hne2:tb≠rb:=by have:=S10.h1;have:=S10.h2;omega
   have HBP:=lh_ (λ(w':World) (h:But rb u10.drew w')=>h.box (S10.pbx.ext (Ext.refl u10).drew) hne1);have HBT:=lh_ (λ(w':World) (h:But rb u10.drew w')=>h.box (S10.tbx.ext (Ext.refl u10).drew) hne2);have hrb:=S10.rbx;have HXE:=lh_ (λ(w':World) (h:But rb u10.drew w')=>h.past (S10.ext.trans (Ext.refl u10).drew) S10.h0);clear S10 hne1 hne2;go_upto_region 22 with fail;cases bs with
   | false =>
    refine wp_region_ret 9 [[],[],[1],[2],[2,3],[2,4],[2,5],[0],[6]] [.agg (prL yE).toArray,.bool false,.bool false,undef,undef,undef,.bool false,undef,.bool false] 7 rb 57 (prL yE).toArray _ (by kernel_rfl) (by kernel_rfl) hrb (by rw[List.size_toArray,List.size_toArray,prL_len,prL_len]) (λus=>?_);simp only[List.take_succ_cons,List.take_zero,List.drop_succ_cons,List.drop_zero];rw[mWalk];refine And.intro (λw' hC hd=>?_) ?_
    ·clear hd;have b':=HBP.out w' hC.1;refine g_of_list 106 rfl (by simp[Act.put]) ?_;go_wp2_with (refine wp_ld _ (.tmp 4) rfl rfl pb (prL yE).toArray _ _ rfl b' underlying57 rfl prSzT ?_)
     exact⟨RetR.same (by decide),RetV.of (by decide) rfl⟩
    simp only[pS_,pN_,sA_,s0_,s1_];rw[mWalk];refine And.intro (λw' hC hd=>?_) ?_
    ·clear hd;refine g_of_list 107 rfl (by simp[Act.put]) ?_;go_wp2_with fail;exact⟨RetR.same (by decide),RetV.of (by decide) rfl⟩
    simp only[pS_,pN_,sA_,s0_,s1_];rw[mWalk];refine And.intro (λw' hC hd=>?_) ?_
    ·have h1:us 1=.bool false:=RetV.at (by decide) (hd 1 (by simp));clear hd;generalize us 1=u1 at *;subst h1;refine g_of_list 108 rfl (by simp[Act.put]) ?_;go_wp2_with fail;exact⟨RetR.same (by decide),RetV.of (by decide) rfl⟩
    simp only[pS_,pN_,sA_,s0_,s1_];rw[mWalk];refine And.intro (λw' hC hd=>?_) ?_
    ·have h2:us 2=.bool false:=RetV.at (by decide) (hd 2 (by simp));clear hd;generalize us 2=u2 at *;subst h2;refine g_of_list 109 rfl (by simp[Act.put]) ?_;go_wp2_with fail;exact⟨RetR.same (by decide),RetV.of (by decide) rfl⟩
    simp only[pS_,pN_,sA_,s0_,s1_];rw[mWalk];refine And.intro (λw' hC hd=>?_) ?_
    ·have h2:us 2=.bool false:=RetV.at (by decide) (hd 2 (by simp));have h3:us 3=undef:=RetV.at (by decide) (hd 3 (by simp));clear hd;generalize us 2=u2 at *;subst h2;generalize us 3=u3 at *;subst h3;refine g_of_list 110 rfl (by simp[Act.put]) ?_;go_wp2_with fail;exact⟨RetR.same (by decide),RetV.of (by decide) rfl⟩
    simp only[pS_,pN_,sA_,s0_,s1_];rw[mWalk];refine And.intro (λw' hC hd=>?_) ?_
    ·have h2:us 2=.bool false:=RetV.at (by decide) (hd 2 (by simp));have h4:us 4=undef:=RetV.at (by decide) (hd 4 (by simp));clear hd;generalize us 2=u2 at *;subst h2;generalize us 4=u4 at *;subst h4;refine g_of_list 111 rfl (by simp[Act.put]) ?_;go_wp2_with fail;exact⟨RetR.same (by decide),RetV.of (by decide) rfl⟩
    simp only[pS_,pN_,sA_,s0_,s1_];rw[mWalk];refine And.intro (λw' hC hd=>?_) ?_
    ·have h2:us 2=.bool false:=RetV.at (by decide) (hd 2 (by simp));have h5:us 5=undef:=RetV.at (by decide) (hd 5 (by simp));clear hd;generalize us 2=u2 at *;subst h2;generalize us 5=u5 at *;subst h5;refine g_of_list 112 rfl (by simp[Act.put]) ?_;go_wp2_with fail;exact⟨RetR.same (by decide),RetV.of (by decide) rfl⟩
    simp only[pS_,pN_,sA_,s0_,s1_];rw[mWalk];refine And.intro (λw' hC hd=>?_) ?_
    ·have h0:us 0=.agg (prL yE).toArray:=RetV.at (by decide) (hd 0 (by simp));clear hd;generalize us 0=u0 at *;subst h0;obtain⟨hC1,cs,hC2,hC3⟩:=hC;refine g_of_store rfl rfl (λw u h=>h) ?_;go_wp2_with (refine wp_st _ (.tmp 2) (.tmp 106) rfl rfl rb (prL yE).toArray cs _ rfl rfl hC2 prSzT hC3 prOneT ?_;intro w2 b2 g2)
     exact⟨RetR.st (but_grown2 g2) b2,RetV.st b2⟩
    simp only[pS_,pN_,sA_,s0_,s1_];rw[mWalk];refine And.intro (λw' hC hd=>?_) ?_
    ·have h6:us 6=.bool false:=RetV.at (by decide) (hd 6 (by simp));clear hd;generalize us 6=u6 at *;subst h6;refine g_of_list 3 rfl (by simp[Act.put]) ?_;go_wp2_with fail;exact⟨RetR.same (by decide),RetV.of (by decide) rfl⟩
    simp only[pS_,pN_,sA_,s0_,s1_];rw[mWalk];intro wz hC hv;have h0:us 0=.agg (prL yE).toArray:=RetV.at (by decide) (hv 0 (by omega));have h1:us 1=.bool false:=RetV.at (by decide) (hv 1 (by omega));have h2:us 2=.bool false:=RetV.at (by decide) (hv 2 (by omega));have h3:us 3=undef:=RetV.at (by decide) (hv 3 (by omega));have h4:us 4=undef:=RetV.at (by decide) (hv 4 (by omega));have h5:us 5=undef:=RetV.at (by decide) (hv 5 (by omega));have h6:us 6=.bool false:=RetV.at (by decide) (hv 6 (by omega));have h8:us 8=.bool false:=RetV.at (by decide) (hv 8 (by omega));have bz:Box wz rb 57 (prL yE).toArray:=RetV.bx (hv 7 (by omega));clear hv;generalize us 0=y0 at *;subst h0;generalize us 1=y1 at *;subst h1;generalize us 2=y2 at *;subst h2;generalize us 3=y3 at *;subst h3;generalize us 4=y4 at *;subst h4;generalize us 5=y5 at *;subst h5;generalize us 6=y6 at *;subst h6;generalize us 8=y8 at *;subst h8;generalize us 7=y7 at *;rw[wpList];have xz:=HXE.out wz hC.1;go_wp2_with fail;refine bodyPost_ret (results_cell2 rfl _ _ rb _ _ _ _ rfl rfl bz underlying57 rfl prSzT) rfl ⟨⟨yE,?_,HLAST.out⟩,xz⟩;rw[← HEND.out];rfl
   | true =>
    refine wp_region_ret 9 [[],[],[1],[2],[2,3],[2,4],[2,5],[0],[6]] [.agg (prL yE).toArray,.bool true,.bool true,.pointer (some ⟨tb,1,none⟩),.bool b10,.bool (!b10),.bool (!b10),undef,.bool (!b10)] 7 rb 57 (prL yE).toArray _ (by kernel_rfl) (by kernel_rfl) hrb (by rw[List.size_toArray,List.size_toArray,prL_len,prL_len]) (λus=>?_);simp only[List.take_succ_cons,List.take_zero,List.drop_succ_cons,List.drop_zero];rw[mWalk];refine And.intro (λw' hC hd=>?_) ?_
    ·clear hd;have b':=HBP.out w' hC.1;refine g_of_list 106 rfl (by simp[Act.put]) ?_;go_wp2_with (refine wp_ld _ (.tmp 4) rfl rfl pb (prL yE).toArray _ _ rfl b' underlying57 rfl prSzT ?_)
     exact⟨RetR.same (by decide),RetV.of (by decide) rfl⟩
    simp only[pS_,pN_,sA_,s0_,s1_];rw[mWalk];refine And.intro (λw' hC hd=>?_) ?_
    ·clear hd;refine g_of_list 107 rfl (by simp[Act.put]) ?_;go_wp2_with fail;exact⟨RetR.same (by decide),RetV.of (by decide) rfl⟩
    simp only[pS_,pN_,sA_,s0_,s1_];rw[mWalk];refine And.intro (λw' hC hd=>?_) ?_
    ·have h1:us 1=.bool true:=RetV.at (by decide) (hd 1 (by simp));clear hd;generalize us 1=u1 at *;subst h1;refine g_of_list 108 rfl (by simp[Act.put]) ?_;go_wp2_with fail;exact⟨RetR.same (by decide),RetV.of (by decide) rfl⟩
    simp only[pS_,pN_,sA_,s0_,s1_];rw[mWalk];refine And.intro (λw' hC hd=>?_) ?_
    ·have h2:us 2=.bool true:=RetV.at (by decide) (hd 2 (by simp));clear hd;generalize us 2=u2 at *;subst h2;refine g_of_list 109 rfl (by simp[Act.put]) ?_;go_wp2_with fail;exact⟨RetR.same (by decide),RetV.of (by decide) rfl⟩
    simp only[pS_,pN_,sA_,s0_,s1_];rw[mWalk];refine And.intro (λw' hC hd=>?_) ?_
    ·have h2:us 2=.bool true:=RetV.at (by decide) (hd 2 (by simp));have h3:us 3=.pointer (some ⟨tb,1,none⟩):=RetV.at (by decide) (hd 3 (by simp));clear hd;generalize us 2=u2 at *;subst h2;generalize us 3=u3 at *;subst h3;have q':w'.cell? ⟨tb,1,none⟩=some (.bool b10):=(HBT.out w' hC.1).cell 1;refine g_of_list 110 rfl (by simp[Act.put]) ?_;go_wp2_with fail;exact⟨RetR.same (by decide),RetV.of (by decide) rfl⟩
    simp only[pS_,pN_,sA_,s0_,s1_];rw[mWalk];refine And.intro (λw' hC hd=>?_) ?_
    ·have h2:us 2=.bool true:=RetV.at (by decide) (hd 2 (by simp));have h4:us 4=.bool b10:=RetV.at (by decide) (hd 4 (by simp));clear hd;generalize us 2=u2 at *;subst h2;generalize us 4=u4 at *;subst h4;refine g_of_list 111 rfl (by simp[Act.put]) ?_;go_wp2_with fail;exact⟨RetR.same (by decide),RetV.of (by decide) rfl⟩
    simp only[pS_,pN_,sA_,s0_,s1_];rw[mWalk];refine And.intro (λw' hC hd=>?_) ?_
    ·have h2:us 2=.bool true:=RetV.at (by decide) (hd 2 (by simp));have h5:us 5=.bool (!b10):=RetV.at (by decide) (hd 5 (by simp));clear hd;generalize us 2=u2 at *;subst h2;generalize us 5=u5 at *;subst h5;refine g_of_list 112 rfl (by simp[Act.put]) ?_;go_wp2_with fail;exact⟨RetR.same (by decide),RetV.of (by decide) rfl⟩
    simp only[pS_,pN_,sA_,s0_,s1_];rw[mWalk];refine And.intro (λw' hC hd=>?_) ?_
    ·have h0:us 0=.agg (prL yE).toArray:=RetV.at (by decide) (hd 0 (by simp));clear hd;generalize us 0=u0 at *;subst h0;obtain⟨hC1,cs,hC2,hC3⟩:=hC;refine g_of_store rfl rfl (λw u h=>h) ?_;go_wp2_with (refine wp_st _ (.tmp 2) (.tmp 106) rfl rfl rb (prL yE).toArray cs _ rfl rfl hC2 prSzT hC3 prOneT ?_;intro w2 b2 g2)
     exact⟨RetR.st (but_grown2 g2) b2,RetV.st b2⟩
    simp only[pS_,pN_,sA_,s0_,s1_];rw[mWalk];refine And.intro (λw' hC hd=>?_) ?_
    ·have h6:us 6=.bool (!b10):=RetV.at (by decide) (hd 6 (by simp));clear hd;generalize us 6=u6 at *;subst h6;refine g_of_list 3 rfl (by simp[Act.put]) ?_;go_wp2_with fail;exact⟨RetR.same (by decide),RetV.of (by decide) rfl⟩
    simp only[pS_,pN_,sA_,s0_,s1_];rw[mWalk];intro wz hC hv;have h0:us 0=.agg (prL yE).toArray:=RetV.at (by decide) (hv 0 (by omega));have h1:us 1=.bool true:=RetV.at (by decide) (hv 1 (by omega));have h2:us 2=.bool true:=RetV.at (by decide) (hv 2 (by omega));have h3:us 3=.pointer (some ⟨tb,1,none⟩):=RetV.at (by decide) (hv 3 (by omega));have h4:us 4=.bool b10:=RetV.at (by decide) (hv 4 (by omega));have h5:us 5=.bool (!b10):=RetV.at (by decide) (hv 5 (by omega));have h6:us 6=.bool (!b10):=RetV.at (by decide) (hv 6 (by omega));have h8:us 8=.bool (!b10):=RetV.at (by decide) (hv 8 (by omega));have bz:Box wz rb 57 (prL yE).toArray:=RetV.bx (hv 7 (by omega));clear hv;generalize us 0=y0 at *;subst h0;generalize us 1=y1 at *;subst h1;generalize us 2=y2 at *;subst h2;generalize us 3=y3 at *;subst h3;generalize us 4=y4 at *;subst h4;generalize us 5=y5 at *;subst h5;generalize us 6=y6 at *;subst h6;generalize us 8=y8 at *;subst h8;generalize us 7=y7 at *;rw[wpList];have xz:=HXE.out wz hC.1;go_wp2_with fail;refine bodyPost_ret (results_cell2 rfl _ _ rb _ _ _ _ rfl rfl bz underlying57 rfl prSzT) rfl ⟨⟨yE,?_,HLAST.out⟩,xz⟩;rw[← HEND.out];rfl
theorem own_new0 (w:World) (e:TypeId) (z:Nat):(w.alloc (.cells #[] e)).ownsRow w.heap.size e z (.slice (some ⟨w.heap.size,0,none⟩) 0 0) 0 [] :=
 ⟨by simp,.inr ⟨w.heap.size,0,#[],rfl,Nat.le_refl _,World.alloc_heap_new w _,Nat.le_refl _,by unfold maxLen;omega,by simp,by simp⟩⟩
theorem writeQ_bad (x:List UInt8):((((openT (some 2) x).isNone||(intP (((openT (some 2) x).getD []).headD [])).isNone))||((openT (some 2) x).getD []).tail.isEmpty)=(writeQ x).isNone/\
  (∀y,writeQ x=some y->y=((intP (((openT (some 2) x).getD []).headD [])).getD 0,((openT (some 2) x).getD []).tail.headD [])):=by
 unfold writeQ;cases h:openT (some 2) x with
 | none=>exact⟨by simp,λy hy=>by cases hy⟩
 | some l =>
  obtain⟨a,b,rfl⟩:=two_of (openT_len h);cases hi:intP a with
  | none=>exact⟨by simp[hi],λy hy=>by simp[hi]at hy⟩
  | some n=>exact⟨by simp[hi],λy hy=>by simp[hi]at hy;rw[← hy];simp[hi]⟩
theorem writeT_ops (x:List UInt8) (hx:x.length<=100000000):∃(L0 L1 L2:List (List UInt8)) (b0 b1:Bool) (nv:Int) (sv:List UInt8),
  (∀w,Calls prog 135 #[.string (str x),.int .i64 2] w λe w'=>(∃v,e=.returned v/\IsT w' L0 b0 v)/\Ext w w')/\
  (∀v w0 w,IsT w0 L0 b0 v->Ext w0 w->Calls prog 138 #[v] w (TakeR w0 w L1 b1 (.int .i64 nv)))/\
  (∀v w0 w,IsT w0 L1 b1 v->Ext w0 w->Calls prog 136 #[v] w (TakeR w0 w L2 (writeQ x).isNone (.string (str sv))))/\
  (∀y,writeQ x=some y->y=(nv,sv)):=by
 obtain⟨h1,h2⟩:=writeQ_bad x;have hl:∀t∈(openT (some 2) x).getD [],t.length<=1000000000:=by
  cases h:openT (some 2) x with
  | none=>intro t ht;simp at ht
  | some l=>intro t ht;have:=openT_few h t (by simpa using ht);omega
 refine⟨(openT (some 2) x).getD [],((openT (some 2) x).getD []).tail,((openT (some 2) x).getD []).tail.tail,(openT (some 2) x).isNone,((openT (some 2) x).isNone||(intP (((openT (some 2) x).getD []).headD [])).isNone),(intP (((openT (some 2) x).getD []).headD [])).getD 0,((openT (some 2) x).getD []).tail.headD [],λw=>rof32_any x (some 2) w (by omega) (λn h=>by cases h;decide),λv w0 w h x=>rnumber_any _ _ v w0 w h x hl,λv w0 w h x=>?_,h2⟩;rw[← h1];exact rtext_any _ _ v w0 w h x
def ToWritesR (s:List UInt8) (w:World) (e:Ending) (w':World):Prop :=
 ∃l u,e=.returned (.tuple #[u,.bool (writesP s).isSome])/\w'.ownsRow w.heap.size 92 2 u l.length (l.flatMap wrL)/\l.length<=s.length/\(∀l',writesP s=some l'->l'=l)/\Ext w w'
theorem rtoWrites_any (s:List UInt8) (w:World) (hs:s.length<=100000000) :
  Calls prog 140 #[.string (str s)] w (ToWritesR s w):=by
 have HO:=lh_ (λw=>rof32_any s none w (by omega) (λn h=>by cases h));obtain⟨T,hT⟩:∃T,T=(openT none s).getD []:=⟨_,rfl⟩
 obtain⟨bT,hbT⟩:∃b,b=(openT none s).isNone:=⟨_,rfl⟩
 have hTs:T.length<=s.length/\∀x∈T,x.length<=s.length:=by
  rw[hT];cases h:openT none s with
  | none=>exact⟨by simp,λx hx=>by simp at hx⟩
  | some l=>exact⟨by have:=openT_texts h;have h2:=(textsP_len s).1;rw[this]at h2;simpa using h2,λx hx=>openT_few h x (by simpa using hx)⟩
 have HW:=lh_ (show bT=false->writesP s=allP writeQ T fromλh=>by
  unfold writesP;rw[hT];rw[hbT]at h;cases h2:openT none s with
  | none=>rw[h2]at h;cases h
  | some l=>rfl)
 have HWN:=lh_ (show bT=true->writesP s=none/\T=[] fromλh=>by
  unfold writesP;rw[hT];rw[hbT]at h;cases h2:openT none s with
  | none=>exact⟨rfl,rfl⟩
  | some l=>rw[h2]at h;cases h)
 rw[← hT,← hbT]at HO;have HTs:=lh_ hTs;have o0:=own_new0 w 92 2;have x0:=(Ext.refl w).alloc (.cells #[] 92);clear hT hbT hTs;go_enter func140,ntmps140;go_upto_region 2 with fail;generalize w.alloc (.cells #[] 92)=w1 at *
 go_upto_region 3 with(first
  | (go_at_call 135;refine(HO.out _).mono ?_;rintro e w2 ⟨⟨v2,rfl,A,n,c,rfl,s2,k2⟩,x2⟩)
  | (refine wp_st _ _ _ rfl rfl w2.heap.size (tC A n c bT) _ _ rfl rfl (Box.new w2 _ _) tSz rfl (tOne _ _ _ _) ?_;intro w3 b3 g3))
 have x23:Ext w2 w3:=((Ext.refl w2).alloc _).grown g3 (λj e=>by cases e;exact Nat.le_refl _);have x3:=(x0.trans x2).trans x23;have o3:=own_ext o0 (x2.trans x23);have s3:=s2.ext x23;have hn:n=T.length:=s2.1;subst hn;have HX3:=lh_ x3;have HO3:=lh_ o3;have hg5a:=(x0.trans x2).size;clear o0 x0 x2 s2 g3 x23;obtain⟨g5,hg5⟩:∃g,g=w2.heap.size:=⟨_,rfl⟩
 rw[← hg5]at b3 hg5a ⊢;clear hg5;have HB3:=lh_ b3;have HS3:=lh_ s3;have c0:w3.cell? ⟨g5,0,none⟩=some (.slice A T.length c):=b3.cell 0;clear b3 s3;go_upto_region 4 with fail;go_loopw [4,16] (λl i wx=>∃done:List WrT,done.length<=T.length/\i=.int .i64 done.length/\wx.ownsRow w.heap.size 92 2 l done.length (done.flatMap wrL)/\Ext w wx/\Box wx g5 193 (tC A T.length c bT)/\TRow wx A T.length T/\Hid (allP writeQ T=(allP writeQ (T.drop done.length)).map (done++·))) (λ_ i _=>T.length-(intOf i).toNat);case atStart=>exact⟨[],by simp,rfl,HO3.out,HX3.out,HB3.out,HS3.out,lh_ (by rw[List.length_nil,List.drop_zero];exact allP_start writeQ T)⟩
 case round =>
  obtain⟨done,hd,rfl,o1,x1,b1',s3,hA⟩:=hrel;have c1:wr.cell? ⟨g5,0,none⟩=some (.slice A T.length c):=b1'.cell 0;have q1:wr.cell? ⟨g5,1,none⟩=some (.bool bT):=b1'.cell 1;have HO1:=lh_ o1;have HX1:=lh_ x1;have HB1:=lh_ b1';have HS1:=lh_ s3;replace s3:=s3.strs;clear o1 c0 x1 HO3 b1' HB3 HS3 HX3 x3 o3;by_cases hlt:done.length<T.length
  ·have HAS:=lh_ (λ(y:WrT) (hy:writeQ T[done.length]=some y)=>show allP writeQ T=(allP writeQ (T.drop (done++[y]).length)).map ((done++[y])++·) from by
    have:=hA.out;rw[List.drop_eq_getElem_cons hlt]at this;have h2:=allP_step this hy;rw[List.length_append,List.length_singleton];exact h2)
   have HAF:=lh_ (λ(hy:writeQ T[done.length]=none)=>show writesP s=none from by
    cases hb:bT with
    | true=>exact(HWN.out hb).1
    | false =>
     rw[HW.out hb];have:=hA.out;rw[List.drop_eq_getElem_cons hlt]at this;exact allP_fail this hy)
   have hx:T[done.length].length<=100000000:=Nat.le_trans (HTs.out.2 _ (List.getElem_mem hlt)) hs;obtain⟨gA,oA,hAA,hcell⟩:=s3.2 (by omega);subst hAA;have c2:=hcell done.length hlt;have hlt':(done.length:Int)<(T.length:Int):=by omega
   have hgt:T.length<=100000000:=Nat.le_trans HTs.out.1 hs;obtain⟨x,hxe⟩:∃x,x=T[done.length]:=⟨_,rfl⟩
   rw[← hxe]at hx HAS HAF c2;clear hxe hcell s3;obtain⟨L0,L1,L2,b0,b1,nv,sv,hof,hnu,htx,hy⟩:=writeT_ops x hx;have HOF:=lh_ hof;have HNU:=lh_ hnu;have HTX:=lh_ htx;have HY:=lh_ hy;have HC1:=lh_ c1;have HDL:=lh_ (show done.length<=s.length from Nat.le_trans hd HTs.out.1);have HDN:=lh_ (show done.length<=1000000000 by omega);have HXW:=lh_ (λw9 (x:Ext wr w9)=>show w.heap.size<=(w9.alloc (.cells (wrL (nv,sv)).toArray 92)).heap.size from((HX1.out.trans x).alloc _).size);clear hof hnu htx hy hx hs HW HWN HTs hA;cases hq:writeQ x with
   | none =>
    rw[hq]at HTX;have HN:=lh_ (HAF.out hq);clear hq HAS HAF HY
    go_wp2_with (first
     | (go_at_call 135;refine(HOF.out _).mono ?_;rintro e w4 ⟨⟨v4,rfl,A4,n4,c4,rfl,s4,k4⟩,x4⟩)
     | (refine wp_st _ _ _ rfl rfl w4.heap.size (tC A4 n4 c4 b0) _ _ rfl rfl (Box.new w4 _ _) tSz rfl (tOne _ _ _ _) ?_;intro w5 b5 g5';have x5:Ext w4 w5:=((Ext.refl w4).alloc _).grown g5' (λj e=>by cases e;exact Nat.le_refl _))
     | (refine wp_ld _ _ rfl rfl w4.heap.size (tC A4 n4 c4 b0) _ _ rfl b5 underlying193 rfl tSz ?_)
     | (go_at_call 138;refine(HNU.out _ _ _ ⟨A4,n4,c4,rfl,s4,k4⟩ x5).mono ?_;rintro e w6 ⟨⟨v6,rfl,A6,n6,c6,rfl,s6,k6⟩,x6⟩)
     | (refine wp_st _ _ _ rfl rfl w4.heap.size (tC A6 n6 c6 b1) _ _ rfl rfl (b5.ext x6) tSz rfl (tOne _ _ _ _) ?_;intro w7 b7 g7;have x7:Ext w4 w7:=(x5.trans x6).grown g7 (λj e=>by cases e;exact Nat.le_refl _))
     | (refine wp_ld _ _ rfl rfl w4.heap.size (tC A6 n6 c6 b1) _ _ rfl b7 underlying193 rfl tSz ?_)
     | (go_at_call 136;refine(HTX.out _ _ _ ⟨A6,n6,c6,rfl,s6,k6⟩ x7).mono ?_;rintro e w8 ⟨⟨v8,rfl,A8,n8,c8,rfl,s8,k8⟩,x8⟩)
     | (refine wp_st _ _ _ rfl rfl w4.heap.size (tC A8 n8 c8 (none:Option WrT).isNone) _ _ rfl rfl (b7.ext x8) tSz rfl (tOne _ _ _ _) ?_;intro w9 b9 g9;have x9:Ext w4 w9:=(x7.trans x8).grown g9 (λj e=>by cases e;exact Nat.le_refl _);have q9:w9.cell? ⟨w4.heap.size,1,none⟩=some (.bool true):=b9.cell 1))
    have x10:=HX1.out.trans (x4.trans x9);have o10:=own_ext HO1.out (x4.trans x9);go_ret2;exact⟨done,_,by rw[HN.out];rfl,o10,HDL.out,(λl' h=>by rw[HN.out]at h;cases h),x10⟩
   | some y =>
    rw[hq]at HTX;obtain rfl:=HY.out y hq;have HA2:=lh_ (HAS.out _ hq);clear hq HAS HAF HY
    go_wp2_with (first
     | (go_at_call 135;refine(HOF.out _).mono ?_;rintro e w4 ⟨⟨v4,rfl,A4,n4,c4,rfl,s4,k4⟩,x4⟩)
     | (refine wp_st _ _ _ rfl rfl w4.heap.size (tC A4 n4 c4 b0) _ _ rfl rfl (Box.new w4 _ _) tSz rfl (tOne _ _ _ _) ?_;intro w5 b5 g5';have x5:Ext w4 w5:=((Ext.refl w4).alloc _).grown g5' (λj e=>by cases e;exact Nat.le_refl _))
     | (refine wp_ld _ _ rfl rfl w4.heap.size (tC A4 n4 c4 b0) _ _ rfl b5 underlying193 rfl tSz ?_)
     | (go_at_call 138;refine(HNU.out _ _ _ ⟨A4,n4,c4,rfl,s4,k4⟩ x5).mono ?_;rintro e w6 ⟨⟨v6,rfl,A6,n6,c6,rfl,s6,k6⟩,x6⟩)
     | (refine wp_st _ _ _ rfl rfl w4.heap.size (tC A6 n6 c6 b1) _ _ rfl rfl (b5.ext x6) tSz rfl (tOne _ _ _ _) ?_;intro w7 b7 g7;have x7:Ext w4 w7:=(x5.trans x6).grown g7 (λj e=>by cases e;exact Nat.le_refl _))
     | (refine wp_ld _ _ rfl rfl w4.heap.size (tC A6 n6 c6 b1) _ _ rfl b7 underlying193 rfl tSz ?_)
     | (go_at_call 136;refine(HTX.out _ _ _ ⟨A6,n6,c6,rfl,s6,k6⟩ x7).mono ?_;rintro e w8 ⟨⟨v8,rfl,A8,n8,c8,rfl,s8,k8⟩,x8⟩)
     | (refine wp_st _ _ _ rfl rfl w4.heap.size (tC A8 n8 c8 (some (nv,sv):Option WrT).isNone) _ _ rfl rfl (b7.ext x8) tSz rfl (tOne _ _ _ _) ?_;intro w9 b9 g9;have x9:Ext w4 w9:=(x7.trans x8).grown g9 (λj e=>by cases e;exact Nat.le_refl _);have q9:w9.cell? ⟨w4.heap.size,1,none⟩=some (.bool false):=b9.cell 1)
     | (refine wp_app_w (nv,sv) rfl (.tmp 38) (.tmp 42) rfl rfl rfl (own_ext HO1.out ((x4.trans x9).alloc _)) (Box.new _ _ _) HDN.out (HXW.out _ (x4.trans x9)) ?_;intro u10 w10 o10 g10))
    have xa:=(x4.trans x9).alloc (.cells #[.int .i64 nv,.string (str sv)] 92);have oz:=own_ext HO1.out xa;have y10:=Below.grown (HX1.out.trans xa) g10 (HX1.out.trans xa).size (λk hk=>own_low oz hk);have bz:=(HB1.out.ext xa).grown g10 (own_ne oz (HB1.out.ext xa) (by decide));have sz:=trow_grown (HS1.out.ext xa) g10 oz (by decide);go_roundw;case rel=>exact⟨done++[(nv,sv)],by rw[List.length_append];exact hlt,by rw[List.length_append];go_num,by rw[List.length_append];exact o10,y10,bz,sz,HA2⟩
    case measure=>simp only[intOf];omega
  ·have HD:=lh_ (show done.length=T.length by omega);have hlt':¬(done.length:Int)<(T.length:Int):=by omega
   have HF:=lh_ (show(!bT)=(writesP s).isSome from by
    cases hb:bT with
    | true=>rw[(HWN.out hb).1];rfl
    | false =>
     rw[HW.out hb,hA.out,HD.out,List.drop_length];rfl)
   have HL:=lh_ (λl' (h:writesP s=some l')=>show l'=done from by
    cases hb:bT with
    | true=>rw[(HWN.out hb).1]at h;cases h
    | false =>
     rw[HW.out hb,hA.out,HD.out,List.drop_length]at h;simp[allP]at h;exact h.symm)
   have HDL:=lh_ (show done.length<=s.length from Nat.le_trans hd HTs.out.1);have q2:wr.drew.cell? ⟨g5,1,none⟩=some (.bool bT):=((Ext.refl wr).drew).keep q1;clear hA HW HWN HTs hd hs c1 q1;go_upto_region 13 with fail;go_region;go_wp2_with fail;go_ret2;exact⟨done,_,by rw[← HF.out];rfl,own_ext HO1.out (Ext.refl _).drew,HDL.out,HL.out,HX1.out.drew⟩
theorem app_op {o:Oper}{a:Act}{W:World}{K:Act->World->Prop}{Q:Exit->Act->World->Prop}{S E:TypeId}{zv:Value}{z bytes B g n:Nat}{u:Value}{xs:List Value}(y:List Value) (hu:prog.underlying S=some (.slice E)) (hinf:(prog.info? E).map (λi=>(i.zero,i.size,i.bytes))=some (some zv,z,bytes)) (hz0:0<z) (hzc:zv.cells.size=z)
  (hyl:y.length=z) (hyo:∀v∈y,v.oneCell'=true) (hby:bytes<=1000) (sl x:Operand)
  (ho:o.op=.call { callee:=.builtin .append,args:=#[sl,x],argTypes:=#[S,S] }) (hs:a.eval sl=u) (hx:a.eval x=.slice (some ⟨g,0,none⟩) 1 1)
  (h0:W.ownsRow B E z u n xs) (hb:Box W g E y.toArray) (hn:n<=1000000000) (hB:B<=W.heap.size)
  (hK:∀u' W',W'.ownsRow B E z u' (n+1) (xs++y)->W.grownBy W' u.ownBlock->K (a.put o.dst u') W'):o.wp prog a W K Q:=by
 obtain⟨i,hi,hz,h1,h2⟩:=info_parts hinf;obtain⟨v',w',hr,ho2,hg,_,_⟩:=run_append_own_at (P:=prog) W B S o.type E i zv z bytes hu hi hz h1 h2 hzc hz0 u n xs h0 ⟨g,0,none⟩ 1 1 y (by omega) (λj u hj=>by
  have ha:(⟨g,0,none⟩:Addr).add j=⟨g,j,none⟩:=by unfold Addr.add;split<;>simp_all
  rw[ha,hb.cell j];simpa using hj) hyo (by unfold maxLen;omega) (by
   have h3:(n+1)*bytes<=(n+1)*1000:=Nat.mul_le_mul_left _ hby;omega) hB
 unfold Oper.wp execOp;simp only[ho,resolve,invoke,builtin,Sem.run_bind,Sem.run_pure,Result.andThen_ok,List.map_toArray,List.map_cons,List.map_nil,hs,hx,hr];exact hK v' w' ho2 hg
def ToPipesR (s:List UInt8) (w:World) (e:Ending) (w':World):Prop :=
 ∃l u,e=.returned (.tuple #[u,.bool (writesP s).isSome])/\w'.ownsRow w.heap.size 95 2 u l.length (l.flatMap wrL)/\l.length<=s.length/\(∀l',writesP s=some l'->l'=l)/\Ext w w'
theorem rtoPipes_any (s:List UInt8) (w:World) (hs:s.length<=100000000) :
  Calls prog 141 #[.string (str s)] w (ToPipesR s w):=by
 have HW:=lh_ (rtoWrites_any s w hs);obtain⟨bz,hbz⟩:∃b,b=(writesP s).isSome:=⟨_,rfl⟩
 unfold ToWritesR at HW;unfold ToPipesR;rw[← hbz]at HW ⊢;clear hbz;go_enter func141,ntmps141;go_upto_region 2 with(go_at_call 140;refine HW.out.mono ?_;rintro e w1 ⟨l,u,rfl,o1,hl,hlast,x1⟩)
 obtain⟨A,c,rfl⟩:=own_isSl o1;have HL:=lh_ hl;have HLa:=lh_ hlast;have hll:l.length<=100000000:=Nat.le_trans hl hs;have o2:=own_ext o1 ((Ext.refl w1).alloc (.cells #[] 95));have p2:=own_base (own_new0 w1 95 2) x1.size;have x2:=x1.alloc (.cells #[] 95);clear hl hlast hs HW o1 x1;go_upto_region 4 with fail;generalize w1.alloc (.cells #[] 95)=w2 at *;have HO2:=lh_ o2;have HP2:=lh_ p2;have HX2:=lh_ x2;clear o2 p2 x2;go_loopw [6,16] (λv i wx=>∃k:Nat,k<=l.length/\i=.int .i64 k/\wx.ownsRow w.heap.size 95 2 v k ((l.take k).flatMap wrL)/\wx.ownsRow w.heap.size 92 2 (.slice A l.length c) l.length (l.flatMap wrL)/\Ext w wx) (λ_ i _=>l.length-(intOf i).toNat);case atStart=>exact⟨0,Nat.zero_le _,rfl,HP2.out,HO2.out,HX2.out⟩
 case round =>
  obtain⟨k,hk,rfl,p1,o1,x1⟩:=hrel;have HP1:=lh_ p1;have HO1:=lh_ o1;have HX1:=lh_ x1;clear HO2 HP2 HX2 p1 x1;by_cases hlt:k<l.length
  ·have hlt':(k:Int)<(l.length:Int):=by omega
   obtain⟨g,o,rfl,hcell⟩:=(own_row (s:=⟨A,l.length,c⟩) o1 (λ_ _=>rfl) rfl rfl).wrs.2 (by show 0<l.length;omega);obtain⟨c1,c2⟩:=hcell k hlt;have HT:=lh_ (show(l.take k).flatMap wrL++wrL l[k]=(l.take (k+1)).flatMap wrL from by rw[List.take_succ_eq_append_getElem hlt,List.flatMap_append];simp);clear o1 hcell;generalize l[k]=y at *;have d1:wr.drew.cell? ⟨g,o+k*2,none⟩=some (.int .i64 y.1):=((Ext.refl wr).drew).keep c1;have d2:wr.drew.cell? ⟨g,o+k*2+1,none⟩=some (.string (str y.2)):=((Ext.refl wr).drew).keep c2;clear c1 c2;have xz:Ext wr (wr.alloc (.cells #[.int .i64 y.1,.string (str y.2)] 95)).drew:=((Ext.refl wr).alloc _).drew;have bz:=(Box.new wr 95 #[.int .i64 y.1,.string (str y.2)]).ext ((Ext.refl _).drew);have oP:=own_ext HP1.out xz;have oW:=own_ext HO1.out xz;have yz:=HX1.out.trans xz;go_upto_region 6 with fail;refine wp_region_any (by kernel_rfl) ?_;change wpAny _ _ _ _ _ _ _ (World.drew _);refine wpAny_take (i:=0) (v:=u6) rfl (by kernel_rfl) (by kernel_rfl) (by kernel_rfl) (λ_ _ _ h=>h) (Or.inl ⟨by rfl,?_⟩) ?_
   ·intro w;go_simp
   refine wpAny_take (i:=1) (v:=.slice (some ⟨g,o,none⟩) l.length c) rfl (by kernel_rfl) (by kernel_rfl) (by kernel_rfl) (λ_ _ _ h=>h) (Or.inl ⟨by rfl,?_⟩) ?_
   ·intro w;go_simp
   refine wpAny_take (i:=2) (v:=.int .i64 k) rfl (by kernel_rfl) (by kernel_rfl) (by kernel_rfl) (λ_ _ _ h=>h) (Or.inl ⟨by rfl,?_⟩) ?_
   ·intro w;go_simp
   refine wpAny_take (i:=3) (v:=.pointer (some ⟨g,o+k*2,none⟩)) rfl (by kernel_rfl) (by kernel_rfl) (by kernel_rfl) (λ_ _ _ h=>h) (Or.inl ⟨by rfl,?_⟩) ?_
   ·intro w;go_simp
   refine wpAny_take (i:=4) (v:=.pointer (some ⟨g,o+k*2,none⟩)) rfl (by kernel_rfl) (by kernel_rfl) (by kernel_rfl) (λ_ _ _ h=>h) (Or.inl ⟨by rfl,?_⟩) ?_
   ·intro w;go_simp
   refine wpAny_take (i:=6) (v:=.slice (some ⟨g,o,none⟩) l.length c) rfl (by kernel_rfl) (by kernel_rfl) (by kernel_rfl) (λ_ _ _ h=>h) (Or.inl ⟨by rfl,?_⟩) ?_
   ·intro w;go_simp
   refine wpAny_take (i:=7) (v:=.int .i64 k) rfl (by kernel_rfl) (by kernel_rfl) (by kernel_rfl) (λ_ _ _ h=>h) (Or.inl ⟨by rfl,?_⟩) ?_
   ·intro w;go_simp
   refine wpAny_take (i:=8) (v:=.pointer (some ⟨g,o+k*2,none⟩)) rfl (by kernel_rfl) (by kernel_rfl) (by kernel_rfl) (λ_ _ _ h=>h) (Or.inl ⟨by rfl,?_⟩) ?_
   ·intro w;go_simp
   refine wpAny_take (i:=9) (v:=.pointer (some ⟨g,o+k*2+1,none⟩)) rfl (by kernel_rfl) (by kernel_rfl) (by kernel_rfl) (λ_ _ _ h=>h) (Or.inl ⟨by rfl,?_⟩) ?_
   ·intro w;go_simp
   refine wpAny_ready (rs:=[5,10]) (by kernel_rfl) (by simp) ?_;refine AllReady.cons rfl (λK hK=>?_) (AllReady.cons rfl (λK hK=>?_) AllReady.nil)
   ·go_simp;refine hK _ _ ?_;clear hK K;refine wpAny_ready (rs:=[10]) (by kernel_rfl) (by simp) ?_;refine AllReady.cons rfl (λK hK=>?_) AllReady.nil;go_simp;refine hK _ _ ?_;clear hK K;refine wpAny_ready (rs:=[11]) (by kernel_rfl) (by simp) ?_;refine AllReady.cons rfl (λK hK=>?_) AllReady.nil;go_simp;refine hK _ _ ?_;clear hK K;refine wpAny_ready (rs:=[12]) (by kernel_rfl) (by simp) ?_;refine AllReady.cons rfl (λK hK=>?_) AllReady.nil;go_simp;refine hK _ _ ?_;clear hK K;refine wpAny_ready (rs:=[13]) (by kernel_rfl) (by simp) ?_;refine AllReady.cons rfl (λK hK=>?_) AllReady.nil;refine app_op (wrL y) underlying33 piInfo (by decide) rfl rfl (wrL_one y) (by decide) (.tmp 19) (.tmp 31) rfl rfl rfl oP bz (by omega) yz.size ?_;intro u' W' hoP hgP;refine hK _ _ ?_;clear hK K;refine wpAny_ready (rs:=[14]) (by kernel_rfl) (by simp) ?_;refine AllReady.cons rfl (λK hK=>?_) AllReady.nil;go_simp;refine hK _ _ ?_;clear hK K;refine wpAny_done (by kernel_rfl) ?_ _;go_wp2_with fail;go_roundw;case rel=>exact⟨k+1,hlt,by go_num,by rw[← HT.out];exact hoP,own_twoR oW oP (by decide) hgP,Below.grown yz hgP yz.size (λk hk=>own_low oP hk)⟩
    case measure=>simp only[intOf];omega
   ·go_simp;refine hK _ _ ?_;clear hK K;refine wpAny_ready (rs:=[5]) (by kernel_rfl) (by simp) ?_;refine AllReady.cons rfl (λK hK=>?_) AllReady.nil;go_simp;refine hK _ _ ?_;clear hK K;refine wpAny_ready (rs:=[11]) (by kernel_rfl) (by simp) ?_;refine AllReady.cons rfl (λK hK=>?_) AllReady.nil;go_simp;refine hK _ _ ?_;clear hK K;refine wpAny_ready (rs:=[12]) (by kernel_rfl) (by simp) ?_;refine AllReady.cons rfl (λK hK=>?_) AllReady.nil;go_simp;refine hK _ _ ?_;clear hK K;refine wpAny_ready (rs:=[13]) (by kernel_rfl) (by simp) ?_;refine AllReady.cons rfl (λK hK=>?_) AllReady.nil;refine app_op (wrL y) underlying33 piInfo (by decide) rfl rfl (wrL_one y) (by decide) (.tmp 19) (.tmp 31) rfl rfl rfl oP bz (by omega) yz.size ?_;intro u' W' hoP hgP;refine hK _ _ ?_;clear hK K;refine wpAny_ready (rs:=[14]) (by kernel_rfl) (by simp) ?_;refine AllReady.cons rfl (λK hK=>?_) AllReady.nil;go_simp;refine hK _ _ ?_;clear hK K;refine wpAny_done (by kernel_rfl) ?_ _;go_wp2_with fail;go_roundw;case rel=>exact⟨k+1,hlt,by go_num,by rw[← HT.out];exact hoP,own_twoR oW oP (by decide) hgP,Below.grown yz hgP yz.size (λk hk=>own_low oP hk)⟩
    case measure=>simp only[intOf];omega
  ·have hlt':¬(k:Int)<(l.length:Int):=by omega
   obtain rfl:k=l.length:=by omega
   clear o1;go_wp2_with fail;go_ret2;have:=HP1.out;rw[List.take_length]at this;exact⟨l,_,rfl,this,HL.out,HLa.out,HX1.out⟩
theorem bind_isSome {α β:Type} {o:Option α}{f:α->Option β}{b:Bool}(h:∀x,(f x).isSome=b):(o.bind f).isSome=(o.isSome&&b):=by
 cases o with
 | none=>rfl
 | some x=>simp[h]
theorem map_isSome {α β:Type} {o:Option α}{f:α->β}:(o.map f).isSome=o.isSome:=by cases o<;>rfl
theorem isNone_not {α:Type} (o:Option α):o.isNone= !o.isSome:=by cases o<;>rfl
theorem allP_isSome {α β:Type} {f:α->Option β}:∀l:List α,(allP f l).isSome=l.all (λx=>(f x).isSome)
 | []=>rfl
 | x::l=>by rw[allP,bind_isSome (λy=>map_isSome),allP_isSome l];rfl
theorem headD_few {l:List (List UInt8)}{n:Nat}(h:∀t∈l,t.length<=n):(l.headD []).length<=n:=by
 cases l with
 | nil=>simp
 | cons x l=>exact h _ List.mem_cons_self
theorem procsP_isSome (s:List UInt8):(procsP s).isSome=(!(openT none s).isNone&&((openT none s).getD []).all (λx=>(procP x).isSome)):=by
 unfold procsP;cases h:openT none s with
 | none=>rfl
 | some l=>simp[allP_isSome]
theorem wf_getD (t:List UInt8):(Lit.int .i64 ((intP t).getD 0)).wf=true:=by
 cases h:intP t with
 | none=>rfl
 | some v =>
  have k:=(intP_itoaS h).1;unfold N64 at k;have e1:IntKind.i64.min= -9223372036854775808:=by decide
  have e2:IntKind.i64.max=9223372036854775807:=by decide
  simp only[Option.getD_some];unfold Lit.wf;simp only[Bool.and_eq_true,decide_eq_true_eq,e1,e2];exact k
theorem restQ_ops (s:List UInt8) :
  (((((((((openT none (((openT (some 16) s).getD []).tail.tail.tail.tail.tail.tail.tail.tail.tail.tail.tail.tail.tail.tail.tail.headD [])).getD []).all (λx=>(procP x).isSome)&&(writesP (((openT (some 16) s).getD []).tail.tail.tail.tail.tail.tail.tail.tail.tail.tail.tail.tail.headD [])).isSome)&&(writesP (((openT (some 16) s).getD []).tail.tail.tail.tail.tail.tail.tail.tail.tail.tail.tail.tail.tail.headD [])).isSome)&&(writesP (((openT (some 16) s).getD []).tail.tail.tail.tail.tail.tail.tail.tail.tail.tail.tail.tail.tail.tail.headD [])).isSome)&&!((((((((((((((((((openT (some 16) s).isNone||((openT (some 16) s).getD []).isEmpty)||(numP 8 (((openT (some 16) s).getD []).tail.headD [])).isNone)||(intP (((openT (some 16) s).getD []).tail.tail.headD [])).isNone)||(intP (((openT (some 16) s).getD []).tail.tail.tail.headD [])).isNone)||(intP (((openT (some 16) s).getD []).tail.tail.tail.tail.headD [])).isNone)||(intP (((openT (some 16) s).getD []).tail.tail.tail.tail.tail.headD [])).isNone)||((openT (some 16) s).getD []).tail.tail.tail.tail.tail.tail.isEmpty)||(intP (((openT (some 16) s).getD []).tail.tail.tail.tail.tail.tail.tail.headD [])).isNone)||((openT (some 16) s).getD []).tail.tail.tail.tail.tail.tail.tail.tail.isEmpty)||(flagP (((openT (some 16) s).getD []).tail.tail.tail.tail.tail.tail.tail.tail.tail.headD [])).isNone)||(numP 8 (((openT (some 16) s).getD []).tail.tail.tail.tail.tail.tail.tail.tail.tail.tail.headD [])).isNone)||(intP (((openT (some 16) s).getD []).tail.tail.tail.tail.tail.tail.tail.tail.tail.tail.tail.headD [])).isNone)||((openT (some 16) s).getD []).tail.tail.tail.tail.tail.tail.tail.tail.tail.tail.tail.tail.isEmpty)||((openT (some 16) s).getD []).tail.tail.tail.tail.tail.tail.tail.tail.tail.tail.tail.tail.tail.isEmpty)||((openT (some 16) s).getD []).tail.tail.tail.tail.tail.tail.tail.tail.tail.tail.tail.tail.tail.tail.isEmpty)||((openT (some 16) s).getD []).tail.tail.tail.tail.tail.tail.tail.tail.tail.tail.tail.tail.tail.tail.tail.isEmpty)))&&!(openT none (((openT (some 16) s).getD []).tail.tail.tail.tail.tail.tail.tail.tail.tail.tail.tail.tail.tail.tail.tail.headD [])).isNone)&&((((openT (some 16) s).getD []).headD [])==[104,105,98,50]))=(restQ s).isSome)/\
  (∀z e,restQ s=some (z,e)->(z.clock=((numP 8 (((openT (some 16) s).getD []).tail.headD [])).getD 0)/\z.quantum=((intP (((openT (some 16) s).getD []).tail.tail.headD [])).getD 0)/\z.cur=((intP (((openT (some 16) s).getD []).tail.tail.tail.headD [])).getD 0)/\z.left=((intP (((openT (some 16) s).getD []).tail.tail.tail.tail.headD [])).getD 0)/\z.next=((intP (((openT (some 16) s).getD []).tail.tail.tail.tail.tail.headD [])).getD 0)/\z.init=(((openT (some 16) s).getD []).tail.tail.tail.tail.tail.tail.headD [])/\z.newPipe=((intP (((openT (some 16) s).getD []).tail.tail.tail.tail.tail.tail.tail.headD [])).getD 0)/\z.inn=(((openT (some 16) s).getD []).tail.tail.tail.tail.tail.tail.tail.tail.headD [])/\z.fin=((flagP (((openT (some 16) s).getD []).tail.tail.tail.tail.tail.tail.tail.tail.tail.headD [])).getD false)/\z.told=((numP 8 (((openT (some 16) s).getD []).tail.tail.tail.tail.tail.tail.tail.tail.tail.tail.headD [])).getD 0)/\z.dleft=((intP (((openT (some 16) s).getD []).tail.tail.tail.tail.tail.tail.tail.tail.tail.tail.tail.headD [])).getD 0))/\
   writesP (((openT (some 16) s).getD []).tail.tail.tail.tail.tail.tail.tail.tail.tail.tail.tail.tail.headD [])=some e.pe/\writesP (((openT (some 16) s).getD []).tail.tail.tail.tail.tail.tail.tail.tail.tail.tail.tail.tail.tail.headD [])=some e.di/\writesP (((openT (some 16) s).getD []).tail.tail.tail.tail.tail.tail.tail.tail.tail.tail.tail.tail.tail.tail.headD [])=some e.pi/\procsP (((openT (some 16) s).getD []).tail.tail.tail.tail.tail.tail.tail.tail.tail.tail.tail.tail.tail.tail.tail.headD [])=some e.pr):=by
 refine⟨?_,λz e h=>?_⟩
 ·unfold restQ;cases h:openT (some 16) s with
  | none=>simp
  | some l =>
   obtain⟨t0,t1,t2,t3,t4,t5,t6,t7,t8,t9,t10,t11,t12,t13,t14,t15,rfl⟩:=six_of (openT_len h);simp only[Option.getD_some,List.headD_cons,List.tail_cons,Option.isNone_some,Bool.false_or,Option.bind_some,List.getD_cons_zero,List.getD_cons_succ,List.isEmpty_cons,Bool.or_false];by_cases h0:t0=[104,105,98,50]
   ·rw[if_pos h0];rw[bind_isSome (λclock=>bind_isSome (λquantum=>bind_isSome (λcur=>bind_isSome (λleft=>bind_isSome (λnext=>bind_isSome (λnewPipe=>bind_isSome (λfin=>bind_isSome (λtold=>bind_isSome (λdleft=>bind_isSome (λpe=>bind_isSome (λdi=>bind_isSome (λpi=>map_isSome))))))))))))];rw[procsP_isSome,h0];simp only[isNone_not,Bool.not_or,Bool.not_not,beq_self_eq_true,Bool.and_true];ac_rfl
   ·rw[if_neg h0];simp[h0]
 ·obtain⟨t1,t2,t3,t4,t5,t6,t7,t8,t9,t10,t11,t12,t13,t14,t15,p0,p1,p2,p3,p4,p5,p6,p7,p8,p9,p10,p11,p12,p13,p14,p15,_⟩:=restQ_parts h;rw[p0];simp only[Option.getD_some,List.headD_cons,List.tail_cons];rw[p1,p2,p3,p4,p5,p7,p9,p10,p11];exact⟨⟨rfl,rfl,rfl,rfl,rfl,p6,rfl,p8,rfl,rfl,rfl⟩,p12,p13,p14,p15⟩
theorem machT_ops (s:List UInt8) (hs:s.length<=100000000):∃(L0 L1 L2 L3 L4 L5 L6 L7 L8 L9 L10 L11 L12 L13 L14 L15 L16:List (List UInt8)) (b0 b1 b2 b3 b4 b5 b6 b7 b8 b9 b10 b11 b12 b13 b14 b15 b16:Bool) (word ini inn ta tb tc td:List UInt8) (clock quantum cur left next newPipe told dleft:Int) (fin:Bool),
  (∀w,Calls prog 135 #[.string (str s),.int .i64 16] w λe w'=>(∃v,e=.returned v/\IsT w' L0 b0 v)/\Ext w w')/\
  (∀v w,IsT w L0 b0 v->Calls prog 136 #[v] w (TakeR w w L1 b1 (.string (str word))))/\
  (∀v w,IsT w L1 b1 v->Calls prog 137 #[v,.int .i64 8] w (TakeR w w L2 b2 (.int .u64 clock)))/\
  (∀v w,IsT w L2 b2 v->Calls prog 138 #[v] w (TakeR w w L3 b3 (.int .i64 quantum)))/\
  (∀v w,IsT w L3 b3 v->Calls prog 138 #[v] w (TakeR w w L4 b4 (.int .i64 cur)))/\
  (∀v w,IsT w L4 b4 v->Calls prog 138 #[v] w (TakeR w w L5 b5 (.int .i64 left)))/\
  (∀v w,IsT w L5 b5 v->Calls prog 138 #[v] w (TakeR w w L6 b6 (.int .i64 next)))/\
  (∀v w,IsT w L6 b6 v->Calls prog 136 #[v] w (TakeR w w L7 b7 (.string (str ini))))/\
  (∀v w,IsT w L7 b7 v->Calls prog 138 #[v] w (TakeR w w L8 b8 (.int .i64 newPipe)))/\
  (∀v w,IsT w L8 b8 v->Calls prog 136 #[v] w (TakeR w w L9 b9 (.string (str inn))))/\
  (∀v w,IsT w L9 b9 v->Calls prog 139 #[v] w (TakeR w w L10 b10 (.bool fin)))/\
  (∀v w,IsT w L10 b10 v->Calls prog 137 #[v,.int .i64 8] w (TakeR w w L11 b11 (.int .u64 told)))/\
  (∀v w,IsT w L11 b11 v->Calls prog 138 #[v] w (TakeR w w L12 b12 (.int .i64 dleft)))/\
  (∀v w,IsT w L12 b12 v->Calls prog 136 #[v] w (TakeR w w L13 b13 (.string (str ta))))/\
  (∀v w,IsT w L13 b13 v->Calls prog 136 #[v] w (TakeR w w L14 b14 (.string (str tb))))/\
  (∀v w,IsT w L14 b14 v->Calls prog 136 #[v] w (TakeR w w L15 b15 (.string (str tc))))/\
  (∀v w,IsT w L15 b15 v->Calls prog 136 #[v] w (TakeR w w L16 b16 (.string (str td))))/\
  (ta.length<=100000000/\tb.length<=100000000/\tc.length<=100000000/\td.length<=100000000/\ini.length<=100000000/\inn.length<=100000000)/\
  (Lit.int .i64 dleft).wf=true/\
  (((((((((openT none td).getD []).all (λx=>(procP x).isSome)&&(writesP ta).isSome)&&(writesP tb).isSome)&&(writesP tc).isSome)&&!b16)&&!(openT none td).isNone)&&(word==[104,105,98,50]))=(restQ s).isSome)/\
  (∀z e,restQ s=some (z,e)->(z.clock=clock/\z.quantum=quantum/\z.cur=cur/\z.left=left/\z.next=next/\z.init=ini/\z.newPipe=newPipe/\z.inn=inn/\z.fin=fin/\z.told=told/\z.dleft=dleft)/\
   writesP ta=some e.pe/\writesP tb=some e.di/\writesP tc=some e.pi/\procsP td=some e.pr):=by
 have hl:∀t∈(openT (some 16) s).getD [],t.length<=100000000:=by
  cases h:openT (some 16) s with
  | none=>intro t ht;simp at ht
  | some l=>intro t ht;have:=openT_few h t (by simpa using ht);omega
 have tl:∀{l:List (List UInt8)},(∀t∈l,t.length<=100000000)->∀t∈l.tail,t.length<=100000000:=λh t ht=>h t (List.mem_of_mem_tail ht);have tn:∀{l:List (List UInt8)},(∀t∈l,t.length<=100000000)->∀t∈l,t.length<=1000000000:=λh t ht=>Nat.le_trans (h t ht) (by decide);obtain⟨e1,e2⟩:=restQ_ops s;exact⟨_,_,_,_,_,_,_,_,_,_,_,_,_,_,_,_,_,_,_,_,_,_,_,_,_,_,_,_,_,_,_,_,_,_,_,_,_,_,_,_,_,_,_,_,_,_,_,_,_,_,λw=>rof32_any s (some 16) w (by omega) (λn h=>by cases h;decide),λv w h=>rtext_any _ _ v w w h (Ext.refl w),λv w h=>rbytes_any _ _ v 8 w w h (Ext.refl w) (by decide) (by decide),λv w h=>rnumber_any _ _ v w w h (Ext.refl w) (tn (tl (tl hl))),λv w h=>rnumber_any _ _ v w w h (Ext.refl w) (tn (tl (tl (tl hl)))),λv w h=>rnumber_any _ _ v w w h (Ext.refl w) (tn (tl (tl (tl (tl hl))))),λv w h=>rnumber_any _ _ v w w h (Ext.refl w) (tn (tl (tl (tl (tl (tl hl)))))),λv w h=>rtext_any _ _ v w w h (Ext.refl w),λv w h=>rnumber_any _ _ v w w h (Ext.refl w) (tn (tl (tl (tl (tl (tl (tl (tl hl)))))))),λv w h=>rtext_any _ _ v w w h (Ext.refl w),λv w h=>rflag_any _ _ v w w h (Ext.refl w),λv w h=>rbytes_any _ _ v 8 w w h (Ext.refl w) (by decide) (by decide),λv w h=>rnumber_any _ _ v w w h (Ext.refl w) (tn (tl (tl (tl (tl (tl (tl (tl (tl (tl (tl (tl hl)))))))))))),λv w h=>rtext_any _ _ v w w h (Ext.refl w),λv w h=>rtext_any _ _ v w w h (Ext.refl w),λv w h=>rtext_any _ _ v w w h (Ext.refl w),λv w h=>rtext_any _ _ v w w h (Ext.refl w),⟨headD_few (tl (tl (tl (tl (tl (tl (tl (tl (tl (tl (tl (tl hl)))))))))))),headD_few (tl (tl (tl (tl (tl (tl (tl (tl (tl (tl (tl (tl (tl hl))))))))))))),headD_few (tl (tl (tl (tl (tl (tl (tl (tl (tl (tl (tl (tl (tl (tl hl)))))))))))))),headD_few (tl (tl (tl (tl (tl (tl (tl (tl (tl (tl (tl (tl (tl (tl (tl hl))))))))))))))),headD_few (tl (tl (tl (tl (tl (tl hl)))))),headD_few (tl (tl (tl (tl (tl (tl (tl (tl hl))))))))⟩,wf_getD _,e1,e2⟩
end Go.Proofs.YtfaplefkakpgcaaGreatDoor
