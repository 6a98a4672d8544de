import Derived.Test.YtfaplefkakpgcaaGreatDoorPl37
import Derived.Test.YtfaplefkakpgcaaGreatDoorPl27
set_option linter.unusedVariables false
set_option linter.unusedSimpArgs false
set_option maxHeartbeats 32000000
set_option maxRecDepth 100000
namespace Go.Proofs.YtfaplefkakpgcaaGreatDoor
open Go.Proofs.Tryz
open Go.RowKit
def D9 (s:List UInt8) (w:World) (e:Ending) (w':World):Prop :=
 (∃q:QF,e=.returned (.tuple #[.agg (Jw q).toArray,.bool (Yy s)])/\(Yy s=true->q=mo s 16))/\Ext w w'
theorem DC (s:List UInt8) (w:World) (hs:s.length=32) :
  Calls prog 198 #[.string (Qb s)] w (D9 s w):=by
 go_enter func198,ntmps198;go_upto_region 1 with fail;have b0:=Qs w 52 DF;have x0:Ext w (w.alloc (.cells DF 52)):=(Qg w).alloc _;have z0:(w.alloc (.cells DF 52)).heap.size=w.heap.size+1:=YB _ _;change Code.wp _ _ _ _ (w.alloc (.cells DF 52));generalize w.alloc (.cells DF 52)=wa at b0 x0 z0 ⊢;go_upto_region 2 with(refine JU _ (.tmp 4) (.tmp 7) rfl rfl (w.heap.size+1) _ _ _ rfl rfl (by rw[←z0];exact Qs wa 52 _) (by kernel_rfl) rfl (by kernel_rfl) ?_;intro w1 b1 g1)
 have AZ:Box w1 (w.heap.size+1) 52 DF:=b1;have x1:Ext w w1:=(x0.alloc _).grown g1 (λj e=>by cases e;omega);have b2:Box w1 w.heap.size 52 DF:=(b0.ext ((Qg wa).alloc _)).grown g1 (by simp);clear b0 x0 z0 b1 g1;go_upto_region 3 with fail;go_loopw [5] (λi wx=>∃k:Nat,k<=16/\i=.int .i64 k/\Box wx (w.heap.size+1) 52 (fG s k)/\Box wx w.heap.size 52 DF/\Ext w wx/\Zm (∀j<k,LW (QG s (2*j)) (QG s (2*j+1))=true)) (λi _=>16-(intOf i).toNat);case atStart=>exact⟨0,by omega,rfl,AZ,b2,x1,Qa (λj h=>by omega)⟩
 case round =>
  clear AZ b2 x1;obtain⟨k,hk,rfl,bs,br,xk,Yj⟩:=hrel;by_cases Qn:k<16
  ·have Y6:(k:Int)<16:=by omega
   have i1:∀w,(Instr.index 9 (.string (Qb s)) (.int .i64 (2*(k:Int)))).run prog w=.ok (.int .u8 (QG s (2*k))) w:=λw=>Ua s (2*k) (by omega) w;have i2:∀w,(Instr.index 9 (.string (Qb s)) (.int .i64 (2*(k:Int)+1))).run prog w=.ok (.int .u8 (QG s (2*k+1))) w:=λw=>Ua s (2*k+1) (by omega) w;have HP:=Qa (ae s Qn);have q1:=VU s (2*k);have q2:=VU s (2*k+1);have HN:=Qa (λh=>Hr (s:=s) Qn h);have HO:=Qa (show LW (QG s (2*k)) (QG s (2*k+1))=true->∀j<k+1,LW (QG s (2*j)) (QG s (2*j+1))=true fromλh j hj=>by
    by_cases hjk:j=k
    ·subst hjk;exact h
    ·exact Yj.o j (by omega))
   generalize QG s (2*k)=c at *;generalize QG s (2*k+1)=f at *;have VA:=Wq q2.1 q2.2;have uJ:=Wq q1.1 q1.2;have HX:=Qa xk;clear hs xk;by_cases h0:c=0/\f=0
   ·obtain⟨rfl,rfl⟩:=h0;clear q1 q2 VA;go_wp2_with (refine YM _ (.tmp 44) (.tmp 43) rfl rfl (w.heap.size+1) (k*3) _ _ _ _ _ _ rfl rfl Kz rfl rfl rfl bs (by rw[WH];omega) HP.o ?_;intro w3 b3 g3)
    go_roundw;case rel=>exact⟨k+1,by omega,by go_num,b3,br.grown g3 (by simp),HX.o.grown g3 (λj e=>by cases e;omega),Qa (HO.o rfl)⟩
    case measure=>simp[intOf];omega
   ·by_cases h1:c=1
    ·subst h1;go_wp2_with (refine YM _ (.tmp 44) (.tmp 43) rfl rfl (w.heap.size+1) (k*3) _ _ _ _ _ _ rfl rfl Kz rfl rfl rfl bs (by rw[WH];omega) HP.o ?_;intro w3 b3 g3)
     go_roundw;case rel=>exact⟨k+1,by omega,by go_num,b3,br.grown g3 (by simp),HX.o.grown g3 (λj e=>by cases e;omega),Qa (HO.o rfl)⟩
     case measure=>simp[intOf];omega
    ·by_cases h2:c=2
     ·subst h2;go_wp2_with (refine YM _ (.tmp 44) (.tmp 43) rfl rfl (w.heap.size+1) (k*3) _ _ _ _ _ _ rfl rfl Kz rfl rfl rfl bs (by rw[WH];omega) HP.o ?_;intro w3 b3 g3)
      go_roundw;case rel=>exact⟨k+1,by omega,by go_num,b3,br.grown g3 (by simp),HX.o.grown g3 (λj e=>by cases e;omega),Qa (HO.o rfl)⟩
      case measure=>simp[intOf];omega
     ·have k1:(c==1)=false:=by simpa using h1
      have k2:(c==2)=false:=by simpa using h2
      have hb:Zm (Yy s=false):=Qa (HN.o (by
       unfold LW;rw[k1,k2];cases e0:(c==0)
       ·rfl
       ·have e1:c=0:=by simpa using e0
        have e2:(f==0)=false:=by simp;intro e3;exact h0 ⟨e1,e3⟩
        rw[e2];rfl))
      clear HO Yj HP HN;cases e0:(c==0)
      ·have e3:2<c:=by
        have:c≠0:=by simpa using e0
        omega
       clear k1 k2 h0 h1 h2
       go_wp2_with (first
        | (refine J2 _ (.tmp 4) rfl rfl (w.heap.size+1) _ _ _ rfl bs underlying52 rfl Y8 ?_)
        | (refine JU _ (.tmp 2) (.tmp 31) rfl rfl w.heap.size _ _ _ rfl rfl br Y8 rfl MI ?_;intro w3 b3 g3))
       exact Jv (Qd rfl _ _ w.heap.size _ _ _ _ rfl rfl b3 underlying52 rfl Y8) rfl ⟨⟨_,by rw[hb.o];rfl,λh=>by rw[hb.o]at h;cases h⟩,HX.o.grown g3 (λj e=>by cases e;exact Q4 _)⟩
      ·have e1:c=0:=by simpa using e0
       subst e1;have e2:(f != 0)=true:=by simp;intro e3;exact h0 ⟨rfl,e3⟩
       clear k1 k2 h0 h1 h2 e0
       go_wp2_with (first
        | (refine J2 _ (.tmp 4) rfl rfl (w.heap.size+1) _ _ _ rfl bs underlying52 rfl Y8 ?_)
        | (refine JU _ (.tmp 2) (.tmp 31) rfl rfl w.heap.size _ _ _ rfl rfl br Y8 rfl MI ?_;intro w3 b3 g3))
       exact Jv (Qd rfl _ _ w.heap.size _ _ _ _ rfl rfl b3 underlying52 rfl Y8) rfl ⟨⟨_,by rw[hb.o];rfl,λh=>by rw[hb.o]at h;cases h⟩,HX.o.grown g3 (λj e=>by cases e;exact Q4 _)⟩
  ·obtain rfl:k=16:=by omega
   have hb:=Qa (Eu (s:=s) Yj.o)
   go_wp2_with (first
    | (refine J2 _ (.tmp 4) rfl rfl (w.heap.size+1) _ _ _ rfl bs underlying52 rfl Y8 ?_)
    | (refine JU _ (.tmp 2) (.tmp 45) rfl rfl w.heap.size _ _ _ rfl rfl br Y8 rfl MI ?_;intro w3 b3 g3))
   exact Jv (Qd rfl _ _ w.heap.size _ _ _ _ rfl rfl b3 underlying52 rfl Y8) rfl ⟨⟨_,by rw[hb.o];rfl,λ_=>rfl⟩,xk.grown g3 (λj e=>by cases e;exact Q4 _)⟩
theorem MF (s:List UInt8) (i z:Nat) (hz:z<=8) (w:World) :
  Calls prog 169 #[.string ((Qb s).extract i (i+z))] w λe w'=>e=.returned (.int .u64 (QE s i z))/\w=w':=by
 rw[NY];exact BO _ w (by rw[MT];omega)
def Qaj (s:List UInt8) (k:Nat):QF:=Ro default (λi=>QG s (17*i)) (λi=>wrap64 (QE s (17*i+1) 8)) (λi=>wrap64 (QE s (17*i+9) 8)) k
def tk (s:List UInt8) (k:Nat):Array Value:=(Jf (Qaj s k)).toArray
def rD:Array Value:=(Jf default).toArray
theorem i7 (s:List UInt8) (k:Nat):(tk s k).size=24:=rfl
theorem Sm {s:List UInt8}{k:Nat}:(prog.info? 55).map (·.size)=some (tk s k).size:=Mt
theorem oO {s:List UInt8}{k:Nat}:(tk s k).all (·.oneCell')=true:=all_oneCell_toArray (λv hv=>by
 simp only[Jf,GH,nc,Pm,Rw,Fe]at hv;obtain⟨i,_,h|h|h⟩:=hv<;>(subst h;rfl))
theorem IR (s:List UInt8) (w:World) (hs:s.length=136) :
  Calls prog 199 #[.string (Qb s)] w λe w'=>e=.returned (.agg (tk s 8))/\Ext w w':=by
 have VD:(Qb s).size=136:=by rw[Qh];exact hs
 go_enter func199,ntmps199;go_upto_region 1 with fail;have b0:=Qs w 55 rD;have x0:Ext w (w.alloc (.cells rD 55)):=(Qg w).alloc _;have z0:(w.alloc (.cells rD 55)).heap.size=w.heap.size+1:=YB _ _;change Code.wp _ _ _ _ (w.alloc (.cells rD 55));generalize w.alloc (.cells rD 55)=wa at b0 x0 z0 ⊢;go_upto_region 2 with(refine JU _ (.tmp 3) (.tmp 6) rfl rfl (w.heap.size+1) _ _ _ rfl rfl (by rw[←z0];exact Qs wa 55 _) (by kernel_rfl) rfl (by kernel_rfl) ?_;intro w1 b1 g1)
 have AZ:Box w1 (w.heap.size+1) 55 rD:=b1;have x1:Ext w w1:=(x0.alloc _).grown g1 (λj e=>by cases e;omega);have b2:Box w1 w.heap.size 55 rD:=(b0.ext ((Qg wa).alloc _)).grown g1 (by simp);clear b0 x0 z0 b1 g1;go_upto_region 3 with fail;go_loopw [4] (λi wx=>∃k:Nat,k<=8/\i=.int .i64 k/\Box wx (w.heap.size+1) 55 (tk s k)/\Box wx w.heap.size 55 rD/\Ext w wx) (λi _=>8-(intOf i).toNat);case atStart=>exact⟨0,by omega,rfl,AZ,b2,x1⟩
 case round =>
  clear AZ b2 x1;obtain⟨k,hk,rfl,bs,br,xk⟩:=hrel;by_cases Qn:k<8
  ·have Y6:(k:Int)<8:=by omega
   have HP:Zm ((((tk s k).setIfInBounds (k*3) (.int .i64 (QG s (17*k)))).setIfInBounds (k*3+1) (.int .i64 (wrap64 (QE s (17*k+1) 8)))).setIfInBounds (k*3+2) (.int .i64 (wrap64 (QE s (17*k+9) 8)))=tk s (k+1)):=Qa (O3 default (λi=>QG s (17*i)) (λi=>wrap64 (QE s (17*i+1) 8)) (λi=>wrap64 (QE s (17*i+9) 8)) Qn);have HX:(Qb s).extract (17*k) (17*k+17)=Qb ((s.drop (17*k)).take 17):=NY s (17*k) 17;have e0:=Tx s (17*k) 17 0 (by decide);have e1:=Kw s (17*k) 17 1 8 (by decide);have e2:=Kw s (17*k) 17 9 8 (by decide);have XS:((s.drop (17*k)).take 17).length=17:=by rw[MT,Nx];omega
   go_upto_region 6 with fail;rw[HX];clear HX;generalize (s.drop (17*k)).take 17=p at *;rw[nb]at e0;rw[←e0,←e1,←e2]at HP;clear e0 e1 e2;have hps:(Qb p).size=17:=by rw[Qh];exact XS
   have i0:∀w,(Instr.index 9 (.string (Qb p)) (.int .i64 0)).run prog w=.ok (.int .u8 (QG p 0)) w:=λw=>Ua p 0 (by omega) w;have HG1:=Qa (λw=>MF p 1 8 (by decide) w);have vN:=Qa (λw=>MF p 9 8 (by decide) w);have q0:=VU p 0;have hw0:=Wq q0.1 q0.2;clear q0;generalize QG p 0=c0 at *;generalize QE p 1 8=c1 at *;generalize QE p 9 8=c2 at *;refine Ja 14 (by kernel_rfl) (by kernel_rfl) ?_;simp only[KG,KI,UY,KJ];repeat (go_big_quiet_step ((first|(with_reducible exact Jb (HG1.o _))|(with_reducible exact Jb (vN.o _)))))
   refine VI ?_;rintro w2 ⟨x2,rfl⟩;have bs2:=bs.ext x2.ext;have Sf:=br.ext x2.ext;have xk2:=xk.trans x2.ext;generalize x2.now=w2 at *;go_wp2_with (refine YM _ _ _ rfl rfl (w.heap.size+1) (k*3) _ _ _ _ _ _ rfl rfl KL rfl rfl rfl bs2 (by rw[i7];omega) HP.o ?_;intro w3 b3 g3)
   go_roundw;case rel=>exact⟨k+1,by omega,by go_num,b3,Sf.grown g3 (by simp),xk2.grown g3 (λj e=>by cases e;omega)⟩
   case measure=>simp[intOf];omega
  ·obtain rfl:k=8:=by omega
   go_wp2_with (first
    | (refine J2 _ (.tmp 3) rfl rfl (w.heap.size+1) _ _ _ rfl bs underlying55 rfl Sm ?_)
    | (refine JU _ (.tmp 2) (.tmp 32) rfl rfl w.heap.size _ _ _ rfl rfl br Sm rfl oO ?_;intro w3 b3 g3))
   exact Jv (QQ rfl _ _ w.heap.size _ _ _ rfl b3 underlying55 rfl Sm) rfl ⟨rfl,xk.grown g3 (λj e=>by cases e;exact Q4 _)⟩
def sd (l:List QF) (pid:Int) (e:Ending):Prop:=∃b,e=.returned (.bool b)/\(b=true↔XM l pid)
def zK (l:List ZY) (id:Int) (e:Ending):Prop:=∃(y:ZY) (b:Bool),e=.returned (.tuple #[.agg #[.int .i64 y.1,.string (Qb y.2)],.bool b])/\(b=true↔∃z∈l,z.1=id)
def FdR (l:List ZY) (k n p:Int) (e:Ending):Prop:=∃b,e=.returned (.bool b)/\(b=true↔Gm l k n p)
def We {α:Type} (f:α->Prop) (l:List α) (k:Nat):Prop:=∀(i:Nat) (h:i<l.length),i<k->¬f l[i]
theorem We.zero {α:Type} {f:α->Prop}{l:List α}:We f l 0:=λ_ _ h=>absurd h (zT _)
theorem We.next {α:Type} {f:α->Prop}{l:List α}{k:Nat}(h:We f l k) (hk:k<l.length) (hn:¬f l[k]):We f l (k+1):=λi hi f9=>by
 by_cases e:i<k
 ·exact h i hi e
 ·obtain rfl:i=k:=by omega
  exact hn
theorem We.all {α:Type} {f:α->Prop}{l:List α}(h:We f l l.length):¬∃y∈l,f y:=λ⟨y,hy,hf⟩=>by
 obtain⟨i,hi,rfl⟩:=Fd hy;exact h i hi hi hf
theorem YX {p:Prop}(h:¬p):(false=true↔p):=⟨λe=>(by cases e),λe=>absurd e h⟩
theorem ML {p:Prop}(h:p):(true=true↔p):=⟨λ_=>h,λ_=>rfl⟩
theorem jz (m:QO) (l:List QF) (pid:Int) (w:World) (h:Q6 Qq w m.pr.A m.pr.n l) (mi:m.pr.n<=4000) :
  Calls prog 96 #[.agg m.cells,.int .i64 pid] w λe w'=>sd l pid e/\Ext w w':=by
 obtain⟨RL,N1⟩:=h;have xa:Ext w (w.alloc (.cells m.cells 38)):=(Qg _).alloc _;have ba:=Qs w 38 m.cells;have q5:(w.alloc (.cells m.cells 38)).cell? ⟨w.heap.size,5,none⟩=some (.slice m.pr.A m.pr.n m.pr.c):=ba.cell 5;go_enter func96,ntmps96;go_wp2_with fail;clear q5 ba;generalize w.alloc (.cells m.cells 38)=w1 at *;try rw[RL]
 rw[RL]at mi;have G9:=Qa RL;clear RL;generalize m.pr.A=A at *;go_loopw [6,10] (λ_ i wx=>∃k:Nat,k<=l.length/\i=.int .i64 k/\Ext w wx/\We (λy:QF=>y.pid=pid/\(y.state=1\/y.state=2)) l k) (λ_ i _=>l.length-(intOf i).toNat);case atStart=>exact⟨0,by omega,rfl,xa,We.zero⟩
 case round =>
  obtain⟨k,hk,rfl,xk,hnk⟩:=hrel;have sP:=Qa hnk;clear hnk;by_cases Qn:k<l.length
  ·obtain⟨b,o,rfl,Qf⟩:=N1 (by rw[G9.o];omega);have r1:=Ze (Z6 Qf Qn) xk;clear Qf;have Y6:(k:Int)<(l.length:Int):=by omega
   have HL:=Qa (show l[k].pid=pid->(l[k].state=1\/l[k].state=2)->XM l pid fromλh1 h2=>⟨l[k],NT Qn,h1,h2⟩);have D4:=Qa (λh=>sP.o.next Qn h);clear sP;generalize l[k]=y at *
   go_upto_region 4 with(first
    | (refine QT (.tmp 12) rfl rfl b (o+k*96) y rfl r1 ?_)
    | (refine J0 (.tmp 6) (.tmp 13) rfl rfl wr.heap.size y _ 57 rfl rfl (Qs _ _ _) rfl ?_;intro w2 b2 g2))
   have x2:Ext w w2:=(xk.alloc _).grown g2 (λj e=>by cases e;exact xk.size);have c0:w2.cell? ⟨wr.heap.size,0,none⟩=some (.int .i64 y.pid):=b2.cell 0;have c2:w2.cell? ⟨wr.heap.size,2,none⟩=some (.int .i64 y.state):=b2.cell 2;clear g2 r1 b2;rcases VS (y.pid==pid) with d1|d1
   ·rcases VS (y.state==1) with d2|d2
    ·have HD:=Qa (HL.o (by simpa using d1) (.inl (by simpa using d2)));go_wp2_with fail;go_ret;exact⟨⟨true,rfl,ML HD.o⟩,x2⟩
    ·rcases VS (y.state==2) with d3|d3
     ·have HD:=Qa (HL.o (by simpa using d1) (.inr (by simpa using d3)));go_wp2_with fail;go_ret;exact⟨⟨true,rfl,ML HD.o⟩,x2⟩
     ·have Mk:=Qa (D4.o (λh=>by
       rcases h.2 with e|e
       ·rw[e]at d2;simp at d2
       ·rw[e]at d3;simp at d3))
      go_wp2_with fail;go_roundw;case rel=>exact⟨k+1,by omega,by go_num,x2,Mk.o⟩
      case measure=>simp[intOf];omega
   ·have Mk:=Qa (D4.o (λh=>by rw[h.1]at d1;simp at d1));go_wp2_with fail;go_roundw;case rel=>exact⟨k+1,by omega,by go_num,x2,Mk.o⟩
    case measure=>simp[intOf];omega
  ·obtain rfl:k=l.length:=by omega
   go_wp2_with fail;go_ret;exact⟨⟨false,rfl,YX (λh=>sP.o.all h)⟩,xk⟩
theorem Af (m:QO) (l:List QF) (fr:Int) (w:World) (h:Q6 Qq w m.pr.A m.pr.n l) (hn:m.pr.n<=4000) :
  Calls prog 81 #[.agg m.cells,.int .i64 fr] w λe w'=>e=.returned (.int .i64 (Q7 l fr l.length))/\Ext w w':=by
 obtain⟨RL,N1⟩:=h;have xa:Ext w (w.alloc (.cells m.cells 38)):=(Qg _).alloc _;have ba:=Qs w 38 m.cells;have q5:(w.alloc (.cells m.cells 38)).cell? ⟨w.heap.size,5,none⟩=some (.slice m.pr.A m.pr.n m.pr.c):=ba.cell 5;go_enter func81,ntmps81;go_wp2_with fail;clear q5 ba;generalize w.alloc (.cells m.cells 38)=w1 at *;try rw[RL]
 rw[RL]at hn;have G9:=Qa RL;clear RL;generalize m.pr.A=A at *;go_loopw [5,13] (λt i wx=>∃(k:Nat),k<=l.length/\i=.int .i64 k/\t=.int .i64 (Q7 l fr k)/\Q7 l fr k<=16*k/\Ext w wx) (λ_ i _=>l.length-(intOf i).toNat);case atStart=>exact⟨0,by omega,rfl,rfl,by simp[Q7],xa⟩
 case round =>
  obtain⟨k,hk,rfl,rfl,hz,xk⟩:=hrel;by_cases Qn:k<l.length
  ·obtain⟨b,o,rfl,Qf⟩:=N1 (by rw[G9.o];omega);have r1:=Ze (Z6 Qf Qn) xk;clear Qf;have Y6:(k:Int)<(l.length:Int):=by omega
   have HU:=Qa (show Q7 l fr (k+1)=Q7 l fr k+Zw l[k] fr 16 by
    rw[Q7,Yb,ZX Qn];rfl)
   generalize l[k]=y at *;generalize Q7 l fr k=z at *
   go_wp2_with (first
    | (refine QT (.tmp 15) rfl rfl b (o+k*96) y rfl r1 ?_)
    | (refine J0 (.tmp 7) (.tmp 16) rfl rfl wr.heap.size y _ 57 rfl rfl (Qs _ _ _) rfl ?_;intro w2 b2 g2;have x2:Ext w w2:=(xk.alloc _).grown g2 (λj e=>by cases e;exact xk.size))
    | (refine Zs (.tmp 17) rfl rfl wr.heap.size 57 y rfl b2 ?_))
   go_loopw [5,19] (λt i wx=>∃(j:Nat),j<=16/\i=.int .i64 j/\t=.int .i64 ((z+Zw y fr j:Nat):Int)/\Zw y fr j<=j/\Ext w wx) (λ_ i _=>16-(intOf i).toNat);case atStart=>exact⟨0,by omega,rfl,rfl,by simp[Zw],x2⟩
   case round =>
    clear r1 b2 g2 xk x2;obtain⟨j,hj,rfl,rfl,Da,xj⟩:=hrel;by_cases NE:j<16
    ·have Kp:(j:Int)<16:=by omega
     have HC:=Qa (show Zw y fr (j+1)=Zw y fr j+(if y.pis j=true/\y.pfr j=fr then 1 else 0) from rfl);generalize Zw y fr j=c at *;cases e1:y.pis j with
     | false =>
      have Pj:=Qa (HC.o.trans (by rw[e1,QD (λh=>by cases h.1)]))
      go_wp2_with (first
       | (refine ZV (.tmp 18) (.tmp 19) rfl rfl y j rfl rfl NE ?_;rw[e1]))
      go_roundw;case rel=>exact⟨j+1,by omega,by go_num,by rw[Pj.o];rfl,by rw[Pj.o];omega,xj.alloc _⟩
      case measure=>simp[intOf];omega
     | true =>
      rcases VS (y.pfr j==fr) with e2|e2
      ·have Pj:=Qa (HC.o.trans (by rw[QN ⟨e1,by simpa using e2⟩]))
       go_wp2_with (first
        | (refine ZV (.tmp 18) (.tmp 19) rfl rfl y j rfl rfl NE ?_;rw[e1]))
       go_roundw;case rel=>exact⟨j+1,by omega,by go_num,by rw[Pj.o];go_num,by rw[Pj.o];omega,xj.alloc _⟩
       case measure=>simp[intOf];omega
      ·have Pj:=Qa (HC.o.trans (by rw[QD (λh=>by simp[h.2]at e2)]))
       go_wp2_with (first
        | (refine ZV (.tmp 18) (.tmp 19) rfl rfl y j rfl rfl NE ?_;rw[e1]))
       go_roundw;case rel=>exact⟨j+1,by omega,by go_num,by rw[Pj.o];rfl,by rw[Pj.o];omega,xj.alloc _⟩
       case measure=>simp[intOf];omega
    ·have TI:¬(j:Int)<16:=by omega
     have HJ:=Qa (show j=16 by omega);go_wp2_with fail;go_roundw;case rel=>exact⟨k+1,by omega,by go_num,by rw[HU.o,←HJ.o],by rw[HU.o];have h1:=Da;rw[HJ.o]at h1;omega,xj⟩
     case measure=>simp[intOf];omega
  ·obtain rfl:k=l.length:=by omega
   go_wp2_with fail;go_ret;exact⟨by rfl,xk⟩
theorem lS (m:QO) (l:List ZY) (id:Int) (w:World) (h:Cd w m.pi.A m.pi.n l) (mi:m.pi.n<=4000) :
  Calls prog 167 #[.agg m.cells,.int .i64 id] w λe w'=>zK l id e/\Ext w w':=by
 obtain⟨RL,N1⟩:=h;have xa:Ext w (w.alloc (.cells m.cells 38)):=(Qg _).alloc _;have ba:=(Qs w 38 m.cells).ext ((Qg _).alloc (.cells #[.int .i64 0,.string ⟨#[]⟩] 95));have q8:((w.alloc (.cells m.cells 38)).alloc (.cells #[.int .i64 0,.string ⟨#[]⟩] 95)).cell? ⟨w.heap.size,8,none⟩=some (.slice m.pi.A m.pi.n m.pi.c):=ba.cell 8;have b4:Box ((w.alloc (.cells m.cells 38)).alloc (.cells #[.int .i64 0,.string ⟨#[]⟩] 95)) (w.heap.size+1) 95 #[.int .i64 0,.string ⟨#[]⟩]:=by have:=Qs (w.alloc (.cells m.cells 38)) 95 #[.int .i64 0,.string ⟨#[]⟩];rw[YB]at this;exact this
 have fY:=xa.alloc (.cells #[.int .i64 0,.string ⟨#[]⟩] 95);go_enter func167,ntmps167;go_wp2_with fail;clear q8 ba xa;generalize ((w.alloc (.cells m.cells 38)).alloc (.cells #[.int .i64 0,.string ⟨#[]⟩] 95))=w1 at *;try rw[RL]
 rw[RL]at mi;have G9:=Qa RL;clear RL;generalize m.pi.A=A at *;go_loopw [7,11] (λ_ i wx=>∃(k:Nat),k<=l.length/\i=.int .i64 k/\Ext w wx/\Box wx (w.heap.size+1) 95 #[.int .i64 0,.string ⟨#[]⟩]/\We (λy:ZY=>y.1=id) l k) (λ_ i _=>l.length-(intOf i).toNat);case atStart=>exact⟨0,by omega,rfl,fY,b4,We.zero⟩
 case round =>
  obtain⟨k,hk,rfl,xk,bk,hnk⟩:=hrel;have sP:=Qa hnk;clear hnk;by_cases Qn:k<l.length
  ·obtain⟨b,o,rfl,Qf⟩:=N1 (by rw[G9.o];omega);have e1:=xk.keep (Qf k Qn).1;have e2:=xk.keep (Qf k Qn).2;clear Qf;have Y6:(k:Int)<(l.length:Int):=by omega
   have HL:=Qa (show l[k].1=id->∃z∈l,z.1=id fromλh1=>⟨l[k],NT Qn,h1⟩);have D4:=Qa (λh=>sP.o.next Qn h);clear sP;generalize l[k]=y at *;have bk2:=bk.ext ((Qg wr).alloc (.cells #[.int .i64 y.1,.string (Qb y.2)] 95));rcases VS (y.1==id) with d1|d1
   ·have HD:=Qa (HL.o (by simpa using d1))
    go_wp2_with (first
     | (refine Gk (.tmp 4) (.tmp 19) rfl rfl (w.heap.size+1) y.1 (Qb y.2) _ 95 rfl rfl bk2 rfl ?_;intro w2 b2 g2;have x2:Ext w w2:=(xk.alloc _).grown g2 (λj e=>by cases e;omega)))
    exact Jv (v:=.tuple #[.agg #[.int .i64 y.1,.string (Qb y.2)],.bool true]) (Qd Tryz.results167 _ _ _ _ _ _ _ rfl rfl b2 underlying95 rfl LS) rfl ⟨⟨_,_,rfl,ML HD.o⟩,x2⟩
   ·have Mk:=Qa (D4.o (λh=>by rw[h]at d1;simp at d1));go_wp2_with fail;go_roundw;case rel=>exact⟨k+1,by omega,by go_num,xk.alloc _,bk2,Mk.o⟩
    case measure=>simp[intOf];omega
  ·obtain rfl:k=l.length:=by omega
   go_wp2_with (first
    | (refine Gk (.tmp 4) (.tmp 21) rfl rfl (w.heap.size+1) 0 ⟨#[]⟩ _ 95 rfl rfl bk rfl ?_;intro w2 b2 g2;have x2:Ext w w2:=xk.grown g2 (λj e=>by cases e;omega)))
   exact Jv (v:=.tuple #[.agg #[.int .i64 0,.string ⟨#[]⟩],.bool false]) (Qd Tryz.results167 _ _ _ _ _ _ _ rfl rfl b2 underlying95 rfl LS) rfl ⟨⟨(0,[]),_,rfl,YX (λh=>sP.o.all h)⟩,x2⟩
theorem Sn {l:List ZY}{k n p:Int}(hk:k<=2) (hn:n≠0) (h:Gm l k n p):False:=by
 rcases h with⟨_,h,_⟩|⟨h,_⟩|⟨h,_⟩<;>omega
theorem EW {l:List ZY}{k n p:Int}(hk:k=0\/k=1\/k=2) (hn:n=0):((p==0)=true↔Gm l k n p):=by
 constructor
 ·intro h;exact .inl ⟨hk,hn,by simpa using h⟩
 ·intro h;rcases h with⟨_,_,h⟩|⟨h,_⟩|⟨h,_⟩
  ·simpa using h
  ·omega
  ·omega
theorem TD {l:List ZY}{n p:Int}(h:Gm l 3 n p):1<=n/\n<=64/\0<=p/\p<=8960:=by
 rcases h with⟨h,_⟩|⟨_,h⟩|⟨h,_⟩
 ·omega
 ·exact h
 ·omega
theorem Ms {l:List ZY}{k n p:Int}(hk:k=4\/k=5) (h:Gm l k n p):p=0/\∃z∈l,z.1=n:=by
 rcases h with⟨h,_⟩|⟨h,_⟩|⟨_,h⟩
 ·omega
 ·omega
 ·exact h
theorem oQ {l:List ZY}{k n p:Int}(hk:¬(k=0\/k=1\/k=2\/k=3\/k=4\/k=5)) (h:Gm l k n p):False:=by
 rcases h with⟨h,_⟩|⟨h,_⟩|⟨h,_⟩<;>omega
theorem uv (m:QO) (l:List ZY) (k n p:Int) (w:World) (h:Cd w m.pi.A m.pi.n l) (mi:m.pi.n<=4000) :
  Calls prog 97 #[.agg m.cells,.agg #[.int .i64 k,.int .i64 n,.int .i64 p]] w λe w'=>FdR l k n p e/\Ext w w':=by
 have xa:Ext w ((w.alloc (.cells m.cells 38)).alloc (.cells #[.int .i64 k,.int .i64 n,.int .i64 p] 54)):=((Qg _).alloc _).alloc _;have ba:=(Qs w 38 m.cells).ext ((Qg _).alloc (.cells #[.int .i64 k,.int .i64 n,.int .i64 p] 54));have HP:=Qa (λid w h=>lS m l id w h mi);have h2:=h.ext xa;have bf:=Qs (w.alloc (.cells m.cells 38)) 54 #[.int .i64 k,.int .i64 n,.int .i64 p];rw[YB]at bf;clear h;go_enter func97,ntmps97
 go_upto_region 2 with(first
  | (refine Qo (.tmp 2) rfl rfl w.heap.size _ 38 rfl ba rfl ?_)
  | (go_at_call 167;refine(HP.o _ _ h2).mono ?_;rintro e w1 ⟨⟨y,b1,rfl,Vy⟩,x1⟩;have bf1:=(bf.ext x1).ext ((Qg w1).alloc (.cells #[.int .i64 y.1,.string (Qb y.2)] 95));have f0:=bf1.cell 0;have f1:=bf1.cell 1;have f2:=bf1.cell 2;have xw:=(xa.trans x1).alloc (.cells #[.int .i64 y.1,.string (Qb y.2)] 95);have HB:=Qa Vy;clear Vy))
 rcases(by omega:k=0\/k=1\/k=2\/k=3\/k=4\/k=5\/(k≠0/\k≠1/\k≠2/\k≠3/\k≠4/\k≠5)) with rfl|rfl|rfl|rfl|rfl|rfl|⟨h0,h1,h2,h3,h4,h5⟩
 ·rcases VS (n==0) with d1|d1<;>go_wp2_with fail
  all_goals
   go_ret;exact⟨⟨_,rfl,by first|exact YX (λh=>Sn (by omega) (by simpa using d1) h)|exact EW (by omega) (by simpa using d1)⟩,xw⟩
 ·rcases VS (n==0) with d1|d1<;>go_wp2_with fail
  all_goals
   go_ret;exact⟨⟨_,rfl,by first|exact YX (λh=>Sn (by omega) (by simpa using d1) h)|exact EW (by omega) (by simpa using d1)⟩,xw⟩
 ·rcases VS (n==0) with d1|d1<;>go_wp2_with fail
  all_goals
   go_ret;exact⟨⟨_,rfl,by first|exact YX (λh=>Sn (by omega) (by simpa using d1) h)|exact EW (by omega) (by simpa using d1)⟩,xw⟩
 ·rcases VS (decide (1<=n)) with d1|d1
  ·rcases VS (decide (n<=64)) with d2|d2
   ·rcases VS (decide (0<=p)) with d3|d3
    ·go_wp2_with fail;go_ret;exact⟨⟨_,rfl,λh=>.inr (.inl ⟨rfl,WO d1,WO d2,WO d3,WO h⟩),λh=>Xd (TD h).2.2.2⟩,xw⟩
    ·go_wp2_with fail;go_ret;exact⟨⟨false,rfl,YX (λh=>bJ d3 (TD h).2.2.1)⟩,xw⟩
   ·go_wp2_with fail;go_ret;exact⟨⟨false,rfl,YX (λh=>bJ d2 (TD h).2.1)⟩,xw⟩
  ·go_wp2_with fail;go_ret;exact⟨⟨false,rfl,YX (λh=>bJ d1 (TD h).1)⟩,xw⟩
 ·rcases VS (p==0) with d1|d1
  ·go_wp2_with fail;go_ret;exact⟨⟨b1,rfl,λh=>.inr (.inr ⟨by omega,by simpa using d1,HB.o.1 h⟩),λh=>HB.o.2 (Ms (by omega) h).2⟩,xw⟩
  ·go_wp2_with fail;go_ret;exact⟨⟨false,rfl,YX (λh=>by have:=(Ms (by omega) h).1;rw[this]at d1;simp at d1)⟩,xw⟩
 ·rcases VS (p==0) with d1|d1
  ·go_wp2_with fail;go_ret;exact⟨⟨b1,rfl,λh=>.inr (.inr ⟨by omega,by simpa using d1,HB.o.1 h⟩),λh=>HB.o.2 (Ms (by omega) h).2⟩,xw⟩
  ·go_wp2_with fail;go_ret;exact⟨⟨false,rfl,YX (λh=>by have:=(Ms (by omega) h).1;rw[this]at d1;simp at d1)⟩,xw⟩
 ·have e0:(k==0)=false:=by simpa using h0
  have e1:(k==1)=false:=by simpa using h1
  have e2:(k==2)=false:=by simpa using h2
  have e3:(k==3)=false:=by simpa using h3
  have e4:(k==4)=false:=by simpa using h4
  have e5:(k==5)=false:=by simpa using h5
  have H05:=Qa (show¬(k=0\/k=1\/k=2\/k=3\/k=4\/k=5) by omega);clear h0 h1 h2 h3 h4 h5;go_wp2_with fail;go_ret;exact⟨⟨false,rfl,YX (λh=>oQ H05.o h)⟩,xw⟩
def qj (m:QO) (d:Qz) (y:QF) (e:Ending):Prop:=∃b,e=.returned (.bool b)/\(b=true↔Xa m d y)
def VB (v:Value) (p:Prop):Prop:=∃b,v=.bool b/\(b=false↔p)
theorem VB.yes {p:Prop}(h:¬p):VB (.bool true) p:=⟨true,rfl,λe=>(by cases e),λk=>absurd k h⟩
theorem VB.of {b:Bool}{p:Prop}(h:b=false↔p):VB (.bool b) p:=⟨b,rfl,h⟩
theorem VB.no {p:Prop}(h:p):VB (.bool false) p:=⟨false,rfl,λ_=>h,λ_=>rfl⟩
theorem Uw {a:Int}:((a != 0)=false)↔a=0:=by simp
theorem BS (m:QO) (d:Qz) (y:QF) (w:World) (h:Q0 w m d) (Tm:m.pr.n<=4000) (K8:m.pi.n<=4000) :
  Calls prog 51 #[.agg m.cells,.agg (Qq y).toArray] w λe w'=>qj m d y e/\Ext w w':=by
 have HL:=Qa (λid w (h:Q0 w m d)=>jz m d.pr id w h.pr Tm);have HU:=Qa (λid w (h:Q0 w m d)=>Af m d.pr id w h.pr Tm);have HF:=Qa (λk n p w (h:Q0 w m d)=>uv m d.pi k n p w h.pi.wrs K8);go_enter func51,ntmps51;go_upto_region 1 with fail;have xa:Ext w ((w.alloc (.cells m.cells 38)).alloc (.cells (Qq y).toArray 57)):=((Qg _).alloc _).alloc _;have bm:=(Qs w 38 m.cells).ext ((Qg _).alloc (.cells (Qq y).toArray 57));have bp:=Qs (w.alloc (.cells m.cells 38)) 57 (Qq y).toArray;rw[YB]at bp;generalize (w.alloc (.cells m.cells 38)).alloc (.cells (Qq y).toArray 57)=w1 at *;have h1:=h.ext xa;have cf:∀wx,Ext w1 wx->wx.cell? ⟨w.heap.size+1,0,none⟩=some (.int .i64 y.pid)/\wx.cell? ⟨w.heap.size+1,1,none⟩=some (.int .i64 y.parent)/\wx.cell? ⟨w.heap.size+1,2,none⟩=some (.int .i64 y.state)/\wx.cell? ⟨w.heap.size+1,3,none⟩=some (.int .u32 (y.reg 0))/\wx.cell? ⟨w.heap.size+1,93,none⟩=some (.int .u32 y.code)/\wx.cell? ⟨w.heap.size+1,94,none⟩=some (.int .i64 y.why)/\wx.cell? ⟨w.heap.size+1,95,none⟩=some (.int .u64 y.num)/\wx.cell? ⟨w.heap.size,6,none⟩=some (.int .i64 m.next)/\wx.cell? ⟨w.heap.size,4,none⟩=some (.slice m.fr.A m.fr.n m.fr.c):=λwx x => ⟨(bp.ext x).cell 0,(bp.ext x).cell 1,(bp.ext x).cell 2,(bp.ext x).cell 3,(bp.ext x).cell 93,(bp.ext x).cell 94,(bp.ext x).cell 95,(bm.ext x).cell 6,(bm.ext x).cell 4⟩
 have CF:=Qa cf;clear cf;obtain⟨p0,p1,p2,p3,p93,p94,p95,m6,m4⟩:=CF.o _ (Qg w1);go_upto_region 3 with fail;generalize TH:(y.state==3)=dead at *;generalize Lr:(y.state==2)=waits at *;have Vm:=Qa (show(dead=true->y.state=3)/\(dead=false->y.state≠3) from⟨λh=>by rw[h]at TH;simpa using TH,λh=>by rw[h]at TH;simpa using TH⟩);have nP:=Qa (show(waits=true->y.state=2)/\(waits=false->y.state≠2) from⟨λh=>by rw[h]at Lr;simpa using Lr,λh=>by rw[h]at Lr;simpa using Lr⟩);clear TH Lr;go_cut [47] (λs wx=>VB s ((1<=y.pid/\y.pid<m.next)/\(y.state=1\/y.state=2\/y.state=3)/\y.reg 0=0)/\w1=wx);case first =>
  as_aux_lemma =>
   have d1:=VS (decide (y.pid<1));have d2:=VS (decide (m.next<=y.pid));have d3:=VS (y.state != 1);clear p1 p93 p94 p95 m4;rcases d1 with d1|d1
   ·have HX:=Qa (WO d1);clear d2 d3;go_wp2_with fail;go_meet;exact⟨VB.yes (λh=>by have:=h.1;have:=HX.o;omega),rfl⟩
   ·rcases d2 with d2|d2
    ·have HX:=Qa (WO d2);clear d3;go_wp2_with fail;go_meet;exact⟨VB.yes (λh=>by have:=h.1;have:=HX.o;omega),rfl⟩
    ·have bE:=Qa (show 1<=y.pid/\y.pid<m.next by have:=bJ d1;have:=bJ d2;omega);rcases d3 with d3|d3
     ·have XH:=Qa (show y.state≠1 by simpa using d3);cases waits
      ·cases dead
       ·go_wp2_with fail;go_meet;exact⟨VB.yes (λh=>by
         rcases h.2.1 with e|e|e
         ·exact XH.o e
         ·exact nP.o.2 (by first|rfl|trivial) e
         ·exact Vm.o.2 (by first|rfl|trivial) e),rfl⟩
       ·go_wp2_with fail;go_meet;exact⟨VB.of (Uw.trans ⟨λh=>⟨bE.o,.inr (.inr (Vm.o.1 (by first|rfl|trivial))),h⟩,λh=>h.2.2⟩),rfl⟩
      ·go_wp2_with fail;go_meet;exact⟨VB.of (Uw.trans ⟨λh=>⟨bE.o,.inr (.inl (nP.o.1 (by first|rfl|trivial))),h⟩,λh=>h.2.2⟩),rfl⟩
     ·have XH:=Qa (show y.state=1 by simpa using d3);go_wp2_with fail;go_meet;exact⟨VB.of (Uw.trans ⟨λh=>⟨bE.o,.inl XH.o,h⟩,λh=>h.2.2⟩),rfl⟩
 case rest =>
  obtain⟨⟨b47,rfl,hb47⟩,rfl⟩:=hcut;have ww:=Qa hb47;clear hb47;cases b47 with
  | true => go_wp2_with fail;go_ret;exact⟨⟨false,rfl,YX (λh=>by have:=ww.o.2 ⟨h.pid,h.state,h.reg⟩;cases this)⟩,xa⟩
  | false =>
   go_upto_region 5 with fail;go_cut [60] (λs wx=>VB s (XM d.pr y.parent\/(y.state≠3/\y.parent=0))/\Ext w1 wx);case first =>
    as_aux_lemma =>
     clear p0 p2 p3 p93 p94 p95 m6 m4
     go_wp2_with (first
      | (refine Qo (.tmp 2) rfl rfl w.heap.size _ 38 rfl bm rfl ?_)
      | (go_at_call 96;refine(HL.o _ _ h1).mono ?_;rintro e w2 ⟨⟨b2,rfl,Pt⟩,x2⟩;have ar:=Qa Pt;clear Pt;have p1':=x2.keep p1;clear p1;rcases b2 with _|_<;>rcases dead with _|_))
     ·go_meet;exact⟨VB.of (Uw.trans ⟨λh=>.inr ⟨Vm.o.2 (by first|rfl|trivial),h⟩,λh=>h.elim (λh=>by have:=ar.o.2 h;cases this) (λh=>h.2)⟩),x2⟩
     ·go_meet;exact⟨VB.yes (λh=>h.elim (λh=>by have:=ar.o.2 h;cases this) (λh=>h.1 (Vm.o.1 (by first|rfl|trivial)))),x2⟩
     ·go_meet;exact⟨VB.no (.inl (ar.o.1 (by first|rfl|trivial))),x2⟩
     ·go_meet;exact⟨VB.no (.inl (ar.o.1 (by first|rfl|trivial))),x2⟩
   case rest =>
    obtain⟨⟨b60,rfl,hb60⟩,x5⟩:=hcut;have xE:=Qa hb60;clear hb60;clear p0 p1 p2 p3 p93 p94 p95 m6 m4;obtain⟨p0,p1,p2,p3,p93,p94,p95,m6,m4⟩:=CF.o _ x5;cases b60 with
    | true => go_wp2_with fail;go_ret;exact⟨⟨false,rfl,YX (λh=>by have:=xE.o.2 h.par;cases this)⟩,xa.trans x5⟩
    | false =>
     go_upto_region 7 with fail;go_cut [93] (λs wx=>VB s (((y.state=2/\1<=y.why/\y.why<=5)\/(y.state≠2/\y.why=0/\y.num=0))/\(y.state=3\/y.code=0))/\wc=wx);case first =>
      as_aux_lemma =>
       have d1:=VS (y.why != 0);have d2:=VS (decide (y.why<0));have d3:=VS (decide (5<y.why));have d4:=VS (y.num != 0);clear p0 p1 p2 p3 m6 m4;cases waits
       ·rcases d1 with d1|d1
        ·have HX:=Qa (show y.why≠0 by simpa using d1);clear d2 d3 d4;go_wp2_with fail;go_meet;exact⟨VB.yes (λh=>h.1.elim (λh=>nP.o.2 (by first|rfl|trivial) h.1) (λh=>HX.o h.2.1)),rfl⟩
        ·have qh:=Qa (show y.why=0 by simpa using d1);rcases d2 with d2|d2
         ·have HX:=Qa (WO d2);clear d3 d4;go_wp2_with fail;go_meet;exact⟨VB.yes (λ_=>by have:=qh.o;have:=HX.o;omega),rfl⟩
         ·rcases d3 with d3|d3
          ·have HX:=Qa (WO d3);clear d4;go_wp2_with fail;go_meet;exact⟨VB.yes (λ_=>by have:=qh.o;have:=HX.o;omega),rfl⟩
          ·rcases d4 with d4|d4
           ·have HX:=Qa (show y.num≠0 by simpa using d4);go_wp2_with fail;go_meet;exact⟨VB.yes (λh=>h.1.elim (λh=>nP.o.2 (by first|rfl|trivial) h.1) (λh=>HX.o h.2.2)),rfl⟩
           ·have mN:=Qa (show y.num=0 by simpa using d4);cases dead
            ·go_wp2_with fail;go_meet;exact⟨VB.of (Uw.trans ⟨λh=>⟨.inr ⟨nP.o.2 (by first|rfl|trivial),qh.o,mN.o⟩,.inr h⟩,λh=>h.2.elim (λe=>absurd e (Vm.o.2 (by first|rfl|trivial))) id⟩),rfl⟩
            ·go_wp2_with fail;go_meet;exact⟨VB.no ⟨.inr ⟨nP.o.2 (by first|rfl|trivial),qh.o,mN.o⟩,.inl (Vm.o.1 (by first|rfl|trivial))⟩,rfl⟩
       ·rcases d1 with d1|d1
        ·have qh:=Qa (show y.why≠0 by simpa using d1);rcases d2 with d2|d2
         ·have HX:=Qa (WO d2);clear d3 d4;go_wp2_with fail;go_meet;exact⟨VB.yes (λh=>h.1.elim (λh=>by have:=HX.o;omega) (λh=>qh.o h.2.1)),rfl⟩
         ·have mP:=Qa (bJ d2);rcases d3 with d3|d3
          ·have HX:=Qa (WO d3);clear d4;go_wp2_with fail;go_meet;exact⟨VB.yes (λh=>h.1.elim (λh=>by have:=HX.o;omega) (λh=>qh.o h.2.1)),rfl⟩
          ·have yt:=Qa (bJ d3);clear d4;have HWy:=Qa (show 1<=y.why/\y.why<=5 by have:=qh.o;have:=mP.o;have:=yt.o;omega);cases dead
           ·go_wp2_with fail;go_meet;exact⟨VB.of (Uw.trans ⟨λh=>⟨.inl ⟨nP.o.1 (by first|rfl|trivial),HWy.o⟩,.inr h⟩,λh=>h.2.elim (λe=>absurd e (Vm.o.2 (by first|rfl|trivial))) id⟩),rfl⟩
           ·go_wp2_with fail;go_meet;exact⟨VB.no ⟨.inl ⟨nP.o.1 (by first|rfl|trivial),HWy.o⟩,.inl (Vm.o.1 (by first|rfl|trivial))⟩,rfl⟩
        ·have HX:=Qa (show y.why=0 by simpa using d1);clear d2 d3 d4;go_wp2_with fail;go_meet;exact⟨VB.yes (λh=>h.1.elim (λh=>by have:=HX.o;omega) (λh=>h.1 (nP.o.1 (by first|rfl|trivial)))),rfl⟩
     case rest =>
      obtain⟨⟨b93,rfl,hb93⟩,rfl⟩:=hcut;have xH:=Qa hb93;clear hb93;cases b93 with
      | true => go_wp2_with fail;go_ret;exact⟨⟨false,rfl,YX (λh=>by have:=xH.o.2 ⟨h.why,h.code⟩;cases this)⟩,xa.trans x5⟩
      | false =>
       clear p0 p1 p2 p3 p93 p94 p95 m6 m4;have bp5:=bp.ext x5;go_wp2_with (refine Zs (.tmp 94) rfl rfl (w.heap.size+1) 57 y rfl bp5 ?_)
       go_loopw [96] (λi wx=>∃j:Nat,j<=16/\i=.int .i64 j/\Ext w1 wx/\∀q<j,KV m d y q) (λi _=>16-(intOf i).toNat);case atStart=>exact⟨0,by omega,rfl,x5,λq h=>by omega⟩
       case round =>
        clear x5 bp5;obtain⟨j,hj,rfl,xj,Ma⟩:=hrel;have fh:=Qa Ma;clear Ma;by_cases NE:j<16
        ·have Kp:(j:Int)<16:=by omega
         have XG:=Qa (show KV m d y j->∀q<j+1,KV m d y q fromλh q hq=>by
          by_cases e:q<j
          ·exact fh.o q e
          ·obtain rfl:q=j:=by omega
           exact h)
         have HPM:=Qa (show Xa m d y->KV m d y j fromλh=>h.page j NE);unfold KV at XG HPM;go_upto_region 12 with(refine ZV (.tmp 95) (.tmp 96) rfl rfl y j rfl rfl NE ?_)
         clear fh;generalize y.pis j=ia at *;generalize y.pwr j=iw at *;generalize y.pfr j=ifr at *;have bq:=Qs wr 50 #[.bool ia,.bool iw,.int .i64 ifr];have xq:=xj.alloc (.cells #[.bool ia,.bool iw,.int .i64 ifr] 50);generalize wr.alloc (.cells #[.bool ia,.bool iw,.int .i64 ifr] 50)=wq at *;have q0:=bq.cell 0;have q1:=bq.cell 1;have q2:=bq.cell 2;go_cut [9] (λs wx=>(∃b,s=.bool b/\(b=true↔ia=false/\iw=false/\ifr=0))/\wq=wx);case first =>
          as_aux_lemma =>
           clear XG HPM;cases ia<;>cases iw<;>go_wp2_with fail
           all_goals
            go_meet;exact⟨⟨_,rfl,by first|(simp;done)|(simp_all;done)|omega⟩,rfl⟩
         case rest =>
          obtain⟨⟨b9,rfl,VJ⟩,rfl⟩:=hcut;have rq:=Qa VJ;clear VJ;have m4:=(CF.o _ xq).2.2.2.2.2.2.2.2;have bmq:=bm.ext xq;have h2:=h1.ext xq;go_upto_region 13 with fail;go_cut [135] (λs wx=>VB s ((ia=false/\iw=false/\ifr=0)\/(ia=true/\y.state≠3/\0<=ifr/\ifr<(m.fr.n:Int)/\Q7 d.pr ifr d.pr.length=1))/\Ext wq wx);case first =>
           as_aux_lemma =>
            clear XG HPM;have dA:=VS (decide (ifr<0));have dB:=VS (decide ((m.fr.n:Int)<=ifr));cases ia
            ·clear dA dB;cases b9
             ·go_wp2_with fail;go_meet;exact⟨VB.yes (λh=>h.elim (λh=>by have:=rq.o.2 h;cases this) (λh=>by cases h.1)),Qg _⟩
             ·go_wp2_with fail;go_meet;exact⟨VB.no (.inl (rq.o.1 (by first|rfl|trivial))),Qg _⟩
            ·cases dead
             ·rcases dA with dA|dA
              ·have HX:=Qa (WO dA);clear dB;go_wp2_with fail;go_meet;exact⟨VB.yes (λh=>h.elim (λh=>by cases h.1) (λh=>by have:=HX.o;omega)),Qg _⟩
              ·have HA:=Qa (bJ dA);rcases dB with dB|dB
               ·have HX:=Qa (WO dB);go_wp2_with fail;go_meet;exact⟨VB.yes (λh=>h.elim (λh=>by cases h.1) (λh=>by have:=HX.o;omega)),Qg _⟩
               ·have HBb:=Qa (bJ dB)
                go_wp2_with (first
                 | (refine Jz (.tmp 2) rfl rfl w.heap.size m 38 rfl bmq ?_)
                 | (go_at_call 81;refine(HU.o _ _ h2).mono ?_;rintro e w2 ⟨rfl,x2⟩))
                go_meet;exact⟨VB.of ⟨λh=>.inr ⟨by first|rfl|trivial,Vm.o.2 (by first|rfl|trivial),by have:=HA.o;omega,by have:=HBb.o;omega,by have h':((Q7 d.pr ifr d.pr.length:Nat):Int)=1:=(by simpa using h);omega⟩,λh=>h.elim (λh=>by cases h.1) (λh=>by rw[h.2.2.2.2];rfl)⟩,x2⟩
             ·clear dA dB;go_wp2_with fail;go_meet;exact⟨VB.yes (λh=>h.elim (λh=>by cases h.1) (λh=>h.2.1 (Vm.o.1 (by first|rfl|trivial)))),Qg _⟩
          case rest =>
           obtain⟨⟨b135,rfl,hb135⟩,x9⟩:=hcut;have qQ:=Qa hb135;clear hb135;cases b135 with
           | true => go_wp2_with fail;go_ret;exact⟨⟨false,rfl,YX (λh=>by have:=qQ.o.2 (HPM.o h);cases this)⟩,xa.trans (xq.trans x9)⟩
           | false =>
            go_wp2_with fail;go_roundw;case rel=>exact⟨j+1,by omega,by go_num,xq.trans x9,XG.o (qQ.o.1 (by first|rfl|trivial))⟩
            case measure=>simp[intOf];omega
        ·have ax:=Qa (show j=16 by omega);have TI:¬(j:Int)<16:=by omega
         have bp5:=bp.ext xj;go_wp2_with (refine V3 (.tmp 137) rfl rfl (w.heap.size+1) 57 y rfl bp5 ?_)
         go_loopw [139] (λi wx=>∃j:Nat,j<=8/\i=.int .i64 j/\Ext w1 wx/\∀q<j,Gm d.pi (y.fk q) (y.fn q) (y.fp q)/\(y.state=3->y.fk q=0)) (λi _=>8-(intOf i).toNat);case atStart=>exact⟨0,by omega,rfl,xj,λq h=>by omega⟩
         case round =>
          clear xj bp5 TI;obtain⟨j2,hj,rfl,xj,DW⟩:=hrel;have mH:=Qa DW;clear DW;by_cases NE:j2<8
          ·have Kp:(j2:Int)<8:=by omega
           have fe:=Qa (show(Gm d.pi (y.fk j2) (y.fn j2) (y.fp j2)/\(y.state=3->y.fk j2=0))->∀q<j2+1,Gm d.pi (y.fk q) (y.fn q) (y.fp q)/\(y.state=3->y.fk q=0) fromλh q hq=>by
            by_cases e:q<j2
            ·exact mH.o q e
            ·obtain rfl:q=j2:=by omega
             exact h)
           have HFM:=Qa (show Xa m d y->Gm d.pi (y.fk j2) (y.fn j2) (y.fp j2)/\(y.state=3->y.fk j2=0) fromλh=>h.fd j2 NE);go_upto_region 19 with(refine Uo (.tmp 138) (.tmp 139) rfl rfl y j2 rfl rfl NE ?_)
           clear mH;obtain⟨ik,f9⟩:∃x,x=y.fk j2:=⟨_,rfl⟩
           obtain⟨ifn,hifn⟩:∃x,x=y.fn j2:=⟨_,rfl⟩
           obtain⟨ifp,hifp⟩:∃x,x=y.fp j2:=⟨_,rfl⟩
           have xX:=Qa (λ(h:Gm d.pi ik ifn ifp/\(y.state=3->ik=0))=>fe.o (by rw[←f9,←hifn,←hifp];exact h));have xV:=Qa (λ(h:Xa m d y)=>show Gm d.pi ik ifn ifp/\(y.state=3->ik=0) by rw[f9,hifn,hifp];exact HFM.o h);clear fe HFM;rw[←f9,←hifn,←hifp];clear f9 hifn hifp;have bq:=Qs wr 54 #[.int .i64 ik,.int .i64 ifn,.int .i64 ifp];have xq:=xj.alloc (.cells #[.int .i64 ik,.int .i64 ifn,.int .i64 ifp] 54);generalize wr.alloc (.cells #[.int .i64 ik,.int .i64 ifn,.int .i64 ifp] 54)=wq at *;have q0:wq.cell? ⟨wr.heap.size,0,none⟩=some (.int .i64 ik):=bq.cell 0;have q1:=bq.cell 1;have q2:=bq.cell 2;have bmq:=bm.ext xq;have h2:=h1.ext xq;go_cut [153] (λs wx=>VB s (Gm d.pi ik ifn ifp/\(y.state=3->ik=0))/\Ext wq wx);case first =>
            as_aux_lemma =>
             clear xX xV
             go_wp2_with (first
              | (refine Qo (.tmp 2) rfl rfl w.heap.size _ 38 rfl bmq rfl ?_)
              | (go_at_call 97;refine(HF.o _ _ _ _ h2).mono ?_;rintro e w2 ⟨⟨b2,rfl,Pt⟩,x2⟩;have ar:=Qa Pt;clear Pt;have q0':=x2.keep q0;clear q0;rcases b2 with _|_<;>rcases dead with _|_))
             ·go_meet;exact⟨VB.yes (λh=>by have:=ar.o.2 h.1;cases this),x2⟩
             ·go_meet;exact⟨VB.yes (λh=>by have:=ar.o.2 h.1;cases this),x2⟩
             ·go_meet;exact⟨VB.no ⟨ar.o.1 (by first|rfl|trivial),λh3=>absurd h3 (Vm.o.2 (by first|rfl|trivial))⟩,x2⟩
             ·go_meet;exact⟨VB.of (Uw.trans ⟨λh=>⟨ar.o.1 (by first|rfl|trivial),λ_=>h⟩,λh=>h.2 (Vm.o.1 (by first|rfl|trivial))⟩),x2⟩
           case rest =>
            obtain⟨⟨b153,rfl,hb153⟩,x9⟩:=hcut;have qR:=Qa hb153;clear hb153;cases b153 with
            | true => go_wp2_with fail;go_ret;exact⟨⟨false,rfl,YX (λh=>by have:=qR.o.2 (xV.o h);cases this)⟩,xa.trans (xq.trans x9)⟩
            | false =>
             go_wp2_with fail;go_roundw;case rel=>exact⟨j2+1,by omega,by go_num,xq.trans x9,xX.o (qR.o.1 (by first|rfl|trivial))⟩
             case measure=>simp[intOf];omega
          ·have TI:¬(j2:Int)<8:=by omega
           have HJ8:=Qa (show j2=8 by omega);go_wp2_with fail;go_ret;refine⟨⟨true,rfl,ML ?_⟩,xa.trans xj⟩;obtain⟨a1,a2,a3⟩:=ww.o.1 (by first|rfl|trivial);obtain⟨c1,c2⟩:=xH.o.1 (by first|rfl|trivial);exact⟨a1,a2,a3,xE.o.1 (by first|rfl|trivial),c1,c2,λq hq=>fh.o q (by rw[ax.o];exact hq),λq hq=>mH.o q (by rw[HJ8.o];exact hq)⟩
def ri (m:QO) (d:Qz) (e:Ending):Prop:=∃n:Int,e=.returned (.int .i64 n)/\n=Zk m d
theorem Lx {d:Qz}(hj:ZR d.bl d.pe=0):ZN d.bl d.pe=0:=by
 by_cases h0:ZN d.bl d.pe=0
 ·exact h0
 ·unfold ZR at hj;rw[QN h0]at hj;exact hj
theorem KR.voE_eq {d:Qz}{n:Int}(h:KR d n):n=ai d:=by
 by_cases Yj:V4 d
 ·rw[Ga.2 Yj];cases h with
  | drv h=>exact Lx Yj.1
  | home _ h=>exact absurd Yj.1 h
  | many _ h=>have:=Yj.2.1;omega
  | form _ _ h=>exact absurd Yj h
  | ok _=>rfl
 have Jt:ai d≠0:=λh=>Yj (Ga.1 h);unfold ai at Jt ⊢;cases h with
 | drv h=>rw[Zy h]
 | home h hj => rw[h,QY]at Jt ⊢;have hl:¬33<d.bl.length:=λhl=>hj (by unfold ZR;rw[QD (by omega),QD (by omega)]);rw[J4 hl,Zy (by omega)]
 | many hj h => have hl:33<d.bl.length:=(Yn hj).least;rw[Lx hj,QY,QM hl,QY,J4 (by omega),Zy (by omega)]
 | form hj h hn =>
  have hl:33<d.bl.length:=(Yn hj).least;rw[Lx hj,QY,QM hl,QY,QM h,QY]at Jt ⊢;by_cases h4:KD (d.bl.length-33) d.di d.di.length
  ·rw[QM h4,QY]at Jt ⊢;by_cases h5:∃I,Ji (QS d.bl d.pe d.di) I
   ·rw[QM h5]at Jt;exact absurd rfl Jt
   ·rw[J4 h5]
  ·rw[J4 h4,Zy (by omega)]
 | ok h=>exact absurd h Yj
section
variable {m:QO}{d:Qz}
theorem oG (h:¬YU m):Zk m d=2:=by
 unfold Zk Kc;rw[J4 h,Zy (show(2:Int)≠0 by decide)]
theorem oE (h1:YU m) (h:¬(1<=m.fr.n/\m.fr.n<=64)):Zk m d=6:=by
 unfold Zk Kc E2;rw[QM h1,QY,J4 h,Zy (show(6:Int)≠0 by decide),Zy (show(6:Int)≠0 by decide)]
theorem tY (h1:YU m) (h2:1<=m.fr.n/\m.fr.n<=64) (h:¬∀b∈d.fr,b.length=128):Zk m d=3:=by
 unfold Zk Kc E2;rw[QM h1,QY,QM h2,QY,J4 h,Zy (show(3:Int)≠0 by decide)]
theorem KZ (h2:1<=m.fr.n/\m.fr.n<=64) (h3:∀b∈d.fr,b.length=128):E2 m d=0:=by
 unfold E2;rw[QM h2,QY,QM h3]
theorem oI (h1:YU m) (h2:1<=m.fr.n/\m.fr.n<=64) (h3:∀b∈d.fr,b.length=128) (h:¬m.pr.n<=8):Zk m d=6:=by
 unfold Zk Kc;rw[QM h1,QY,KZ h2 h3,QY];unfold DX;rw[J4 h,Zy (show(6:Int)≠0 by decide),Zy (show(6:Int)≠0 by decide)]
theorem tf (h1:YU m) (h2:1<=m.fr.n/\m.fr.n<=64) (h3:∀b∈d.fr,b.length=128) (h4:m.pr.n<=8) (h:¬Zg m d d.pr.length):Zk m d=3:=by
 unfold Zk Kc;rw[QM h1,QY,KZ h2 h3,QY];unfold DX;rw[QM h4,QY,J4 h,Zy (show(3:Int)≠0 by decide)]
theorem oH (h1:YU m) (h2:1<=m.fr.n/\m.fr.n<=64) (h3:∀b∈d.fr,b.length=128) (h4:m.pr.n<=8) (h5:Zg m d d.pr.length) (h:¬m.pi.n<=64):Zk m d=6:=by
 unfold Zk Kc;rw[QM h1,QY,KZ h2 h3,QY];unfold DX;rw[QM h4,QY,QM h5,QY];unfold Io;rw[J4 h,Zy (show(6:Int)≠0 by decide),Zy (show(6:Int)≠0 by decide)]
theorem tZ (h1:YU m) (h2:1<=m.fr.n/\m.fr.n<=64) (h3:∀b∈d.fr,b.length=128) (h4:m.pr.n<=8) (h5:Zg m d d.pr.length) (h6:m.pi.n<=64) (h:¬Zo m d.pi d.pi.length):Zk m d=3:=by
 unfold Zk Kc;rw[QM h1,QY,KZ h2 h3,QY];unfold DX;rw[QM h4,QY,QM h5,QY];unfold Io;rw[QM h6,QY,J4 h,Zy (show(3:Int)≠0 by decide)]
theorem tg (h1:YU m) (h2:1<=m.fr.n/\m.fr.n<=64) (h3:∀b∈d.fr,b.length=128) (h4:m.pr.n<=8) (h5:Zg m d d.pr.length) (h6:m.pi.n<=64) (h7:Zo m d.pi d.pi.length) (h:¬(m.inn.length<=65536/\m.init.length<=128)):Zk m d=6:=by
 unfold Zk Kc;rw[QM h1,QY,KZ h2 h3,QY];unfold DX;rw[QM h4,QY,QM h5,QY];unfold Io;rw[QM h6,QY,QM h7,QY];unfold gO;rw[J4 h,Zy (show(6:Int)≠0 by decide)]
theorem oD (h1:YU m) (h2:1<=m.fr.n/\m.fr.n<=64) (h3:∀b∈d.fr,b.length=128) (h4:m.pr.n<=8) (h5:Zg m d d.pr.length) (h6:m.pi.n<=64) (h7:Zo m d.pi d.pi.length) (h8:m.inn.length<=65536/\m.init.length<=128):Zk m d=ai d:=by
 unfold Zk Kc;rw[QM h1,QY,KZ h2 h3,QY];unfold DX;rw[QM h4,QY,QM h5,QY];unfold Io;rw[QM h6,QY,QM h7,QY];unfold gO;rw[QM h8,QY]
end
theorem Ei (m:QO) (d:Qz) (w:World) (h:Q0 w m d) (Tm:m.pr.n<=4000) (K8:m.pi.n<=4000) :
  Calls prog 19 #[.agg m.cells] w λe w'=>ri m d e/\Ext w w':=by
 have HP:=Qa (λy w h=>BS m d y w h Tm K8);have xL:=Qa (λw h=>lC m d w h);obtain⟨mg,hf2⟩:=h.fr.strs;obtain⟨gH,hr2⟩:=h.pr;obtain⟨hi1,aD⟩:=h.pi.wrs;have GP:=h.frk.2.1;have rS:=h.prk.2.1;have f9:=h.pik.2.1;unfold maxLen at GP rS f9;have rv:=Qa mg;have HR1:=Qa gH;have HI1:=Qa hi1;have hz:=Qh;clear mg gH hi1;go_enter func19,ntmps19;go_upto_region 1 with fail;have xa:Ext w (w.alloc (.cells m.cells 38)):=(Qg _).alloc _;have bm:=Qs w 38 m.cells;generalize w.alloc (.cells m.cells 38)=w1 at *;have HM:=Qa (h.ext xa);clear h;obtain⟨k0,k1,k2,k3,k4,k5,k6,k7,k8,k9,Mb,k11,k12,k13,k14,k15,k16⟩:=XX bm;clear k0 k11 k12 k13 k14 k15 k16;go_upto_region 2 with fail;go_cut [56] (λs wx=>VB s (YU m)/\w1=wx);case first =>
  clear k4 k5 k7 k8 Mb;go_wp2_with fail
  all_goals
   go_meet
   first
    | exact⟨VB.yes (λh=>by obtain⟨⟨_,_⟩,⟨_,_⟩,_,⟨_,_⟩,⟨_,_⟩⟩:=h;omega),rfl⟩
    | exact⟨VB.of ⟨λh=>by
      simp only[qs,sn]at h;exact⟨by omega,by omega,by omega,by omega,by omega⟩,λh=>by
      obtain⟨⟨_,_⟩,⟨_,_⟩,_,⟨_,_⟩,⟨_,_⟩⟩:=h;simp only[qs,sn];omega⟩,rfl⟩
 case rest =>
 obtain⟨⟨b56,rfl,hb56⟩,rfl⟩:=hcut;have xD:=Qa hb56;clear hb56;cases b56 with
 | true => go_wp2_with fail;go_ret;exact⟨⟨2,rfl,(oG (λh=>by have:=xD.o.2 h;cases this)).symm⟩,xa⟩
 | false =>
 clear k1 k2 k3 k6 k9;have gj:=Qa (xD.o.1 rfl);go_upto_region 4 with fail;go_cut [66] (λs wx=>VB s (1<=m.fr.n/\m.fr.n<=64)/\w1=wx);case first =>
  go_wp2_with fail
  all_goals
   go_meet
   first
    | exact⟨VB.yes (λh=>by omega),rfl⟩
    | exact⟨VB.of ⟨λh=>by
      simp only[qs,sn]at h;omega,λh=>by
      simp only[qs,sn];omega⟩,rfl⟩
 case rest =>
 obtain⟨⟨b66,rfl,hb66⟩,rfl⟩:=hcut;have xG:=Qa hb66;clear hb66;cases b66 with
 | true => go_wp2_with fail;go_ret;exact⟨⟨6,rfl,(oE gj.o (λh=>by have:=xG.o.2 h;cases this)).symm⟩,xa⟩
 | false =>
 have Rq:=Qa (xG.o.1 rfl);go_wp2_with fail;obtain⟨fl,jW⟩:∃x,x=d.fr:=⟨_,rfl⟩
 rw[←jW]at hf2 rv;have HFL:=Qa jW;clear jW;generalize m.fr.A=fA at *;go_loop [70] (λi=>∃j:Nat,j<=m.fr.n/\i=.int .i64 j/\∀b∈fl.take j,b.length=128) (λi=>m.fr.n-(intOf i).toNat);case atStart=>exact⟨0,by omega,rfl,by simp⟩
 case round =>
  obtain⟨j,hj,rfl,VC⟩:=hrel;have PY:=Qa VC;clear VC;by_cases Qn:j<m.fr.n
  ·obtain⟨b,o,rfl,Qf⟩:=hf2 (by omega);have c1:=xa.keep (Qf j (by rw[←rv.o];exact Qn));have HAN:=Qa (λ(h:(fl[j]'(by rw[←rv.o];exact Qn)).length=128)=>show∀b∈fl.take (j+1),b.length=128 fromλb hb=>by
    rw[Gp (by rw[←rv.o];exact Qn)]at hb;rcases iO.1 hb with hb|hb
    ·exact PY.o b hb
    ·rw[bK.1 hb];exact h)
   have HBF:=Qa (λ(h:∀b∈d.fr,b.length=128)=>show(fl[j]'(by rw[←rv.o];exact Qn)).length=128 from h _ (by rw[←HFL.o];exact NT _));generalize fl[j]'(by rw[←rv.o];exact Qn)=s at *;have TI:(j:Int)<(m.fr.n:Int):=by omega
   clear Qf;by_cases hl:s.length=128
   ·have P8:((s.length:Int) != 128)=false:=by rw[hl];rfl
    have HAM:=Qa (HAN.o hl);clear hl;go_wp2_with fail;go_round;case rel=>exact⟨j+1,by omega,by go_num,HAM.o⟩
    case measure=>simp[intOf];omega
   ·have P8:((s.length:Int) != 128)=true:=by simp;omega
    have HX:=Qa hl;go_wp2_with fail;go_ret;exact⟨⟨3,rfl,(tY gj.o Rq.o (λh=>HX.o (HBF.o h))).symm⟩,xa⟩
  ·obtain rfl:j=m.fr.n:=by omega
   have gY:=Qa (show∀b∈d.fr,b.length=128 by
    have h:=PY.o;rw[qr (by rw[←rv.o];exact Q4 _),HFL.o]at h;exact h)
   clear PY;by_cases h8:8<m.pr.n
   ·have HX:=Qa h8;go_wp2_with fail;go_ret;exact⟨⟨6,rfl,(oI gj.o Rq.o gY.o (λh=>by have:=HX.o;omega)).symm⟩,xa⟩
   ·go_wp2_with fail;clear k4 k5 k7 k8 Mb;have HPL:=Qa (show∀k (h:k<d.pr.length),Zg m d k->Xa m d d.pr[k]->(0<k->(d.pr[k-1]'(by omega)).pid<d.pr[k].pid)->Zg m d (k+1) fromλk h h1 h2 h3 i hi f9=>by
     by_cases e:i<k
     ·exact h1 i hi e
     ·obtain rfl:i=k:=by omega
      exact⟨h2,h3⟩)
    have Qh6:=Qa (show m.pr.n<=8 by omega);have HP3:=Qa (λ(h:¬Zg m d d.pr.length)=>show(3:Int)=Zk m d from(tf gj.o Rq.o gY.o Qh6.o h).symm);have HPA:=Qa (show∀k (h:k<d.pr.length),Zg m d d.pr.length->Xa m d d.pr[k]/\(0<k->(d.pr[k-1]'(by omega)).pid<d.pr[k].pid) fromλk h hp=>hp k h h);obtain⟨l,RJ⟩:∃x,x=d.pr:=⟨_,rfl⟩
    rw[←RJ]at hr2 HR1;have HLL:=Qa RJ;clear RJ;generalize hrA:m.pr.A=A at hr2 ⊢;have HRA:=Qa hrA;clear hrA;go_loopw [85] (λi wx=>∃k:Nat,k<=m.pr.n/\i=.int .i64 k/\Ext w1 wx/\Zg m d k) (λi _=>m.pr.n-(intOf i).toNat);case atStart=>exact⟨0,by omega,rfl,Qg _,λi h hk=>by omega⟩
    case round =>
     obtain⟨k,hk,rfl,xk,hprk⟩:=hrel;have yd:=Qa hprk;clear hprk;by_cases Qn:k<m.pr.n
     ·obtain⟨b,o,rfl,Qf⟩:=hr2 (by omega);have P9:k<l.length:=by rw[←HR1.o];exact Qn
      have r1:=Ze (Z6 Qf P9) (xa.trans xk);have e0:0<k->wr.cell? ⟨b,o+(k-1)*96,none⟩=some (.int .i64 (l[k-1]'(by omega)).pid):=λh=>(xa.trans xk).keep (Z6 Qf (k:=k-1) (by omega) 0 _ rfl);clear Qf;have Gu:(k:Int)<(m.pr.n:Int):=by omega
      have D4:=Qa (show Xa m d l[k]->(0<k->(l[k-1]'(by omega)).pid<l[k].pid)->Zg m d (k+1) from by
       have he:=HLL.o;subst he;exact HPL.o k P9 yd.o)
      have HNA:=Qa (show Zg m d d.pr.length->Xa m d l[k]/\(0<k->(l[k-1]'(by omega)).pid<l[k].pid) from by
       have he:=HLL.o;subst he;exact HPA.o k P9)
      generalize l[k]=y at *;generalize hprv:l[k-1]'(by omega)=prv at *;clear hprv
      go_upto_region 17 with(first
       | (refine QT (.tmp 88) rfl rfl b (o+k*96) y rfl r1 ?_)
       | (refine J0 (.tmp 7) (.tmp 89) rfl rfl wr.heap.size y _ 57 rfl rfl (Qs _ _ _) rfl ?_;intro w2 b2 g2))
      have z2:Ext wr w2:=((Qg wr).alloc _).grown g2 (λj e=>by cases e;exact Q4 _);have x2:=xk.trans z2;have c0:∀x:Qt w2,x.now.cell? ⟨wr.heap.size,0,none⟩=some (.int .i64 y.pid):=λx=>(b2.ext x.ext).cell 0;have k5:∀x:Qt w2,x.now.cell? ⟨w.heap.size,5,none⟩=some (.slice (some ⟨b,o,none⟩) m.pr.n m.pr.c):=λx=>by rw[←HRA.o];exact((bm.ext x2).ext x.ext).cell 5
      have rm:∀wx,(∃x:Qt w2,wx=x.now)->wx.rangeAt w.heap.size 0 m.cells.toList:=λwx ⟨x,hx⟩=>by rw[hx];exact dZ ((bm.ext x2).ext x.ext)
      have rp:∀wx,(∃x:Qt w2,wx=x.now)->wx.rangeAt wr.heap.size 0 (Qq y):=λwx ⟨x,hx⟩=>by rw[hx];exact eG (b2.ext x.ext)
      have RM:=Qa rm;have RP:=Qa rp;have fg:∀x:Qt w2,Zm (Calls prog 51 #[.agg m.cells,.agg (Qq y).toArray] x.now λe w'=>qj m d y e/\Ext x.now w'):=λx=>Qa (HP.o y _ (HM.o.ext (x2.trans x.ext)));clear r1 g2 rm rp;have E0:0<k->∀x:Qt w2,x.now.cell? ⟨b,o+(k-1)*96,none⟩=some (.int .i64 prv.pid):=λh x=>x.ext.keep (z2.keep (e0 h));clear e0;by_cases n3:0<k
      ·have d3:decide ((0:Int)<(k:Int))=true:=by simp;omega
       have E0':=E0 n3;clear E0;have E0:=E0';clear E0';have kk1:(k:Int)-1=((k-1:Nat):Int):=by omega
       have kk2:IntKind.i64.wrap ((k:Int)-1)=((k-1:Nat):Int):=by rw[Wb];omega
       have kk3:((k-1:Nat):Int)<(m.pr.n:Int):=by omega
       by_cases n4:y.pid<=prv.pid
       ·have d4:decide (y.pid<=prv.pid)=true:=Xd n4;simp only[Act.put];refine Ja 17 (by kernel_rfl) (by kernel_rfl) ?_;simp only[KG,KI,UY,KJ]
        repeat (first
         | (go_big_quiet_want;refine UQ (.tmp 1) rfl w.heap.size rfl m RM.o ?_;simp only[S_];go_big_quiet_on)
         | (go_big_quiet_want;refine WB (.tmp 7) rfl wr.heap.size rfl y RP.o ?_;simp only[S_];go_big_quiet_on)
         | go_big_quiet_step (fail))
        refine VI ?_;rintro w3 ⟨x3,rfl⟩;clear c0 k5 E0;have HX:=Qa n4;have OG:=Qa n3;go_wp2_with fail;go_ret;exact⟨⟨3,rfl,HP3.o (λh=>by have:=(HNA.o h).2 OG.o;have:=HX.o;omega)⟩,(xa.trans x2).trans x3.ext⟩
       ·have d4:decide (y.pid<=prv.pid)=false:=XI n4;simp only[Act.put];refine Ja 17 (by kernel_rfl) (by kernel_rfl) ?_;simp only[KG,KI,UY,KJ]
        repeat (first
         | (go_big_quiet_want;refine UQ (.tmp 1) rfl w.heap.size rfl m RM.o ?_;simp only[S_];go_big_quiet_on)
         | (go_big_quiet_want;refine WB (.tmp 7) rfl wr.heap.size rfl y RP.o ?_;simp only[S_];go_big_quiet_on)
         | go_big_quiet_step (fail))
        refine VI ?_;rintro w3 ⟨x3,rfl⟩;clear c0 k5 E0;have HLT:=Qa (show prv.pid<y.pid by omega);go_wp2_with (go_at_call 51;refine(fg x3).o.mono ?_;rintro e w4 ⟨⟨b4,rfl,hb4⟩,x4⟩;have gV:=Qa hb4;clear hb4;rcases b4 with _|_)
        ·go_ret;exact⟨⟨3,rfl,HP3.o (λh=>by have:=gV.o.2 (HNA.o h).1;cases this)⟩,((xa.trans x2).trans x3.ext).trans x4⟩
        ·go_roundw;case rel=>exact⟨k+1,by omega,by go_num,(x2.trans x3.ext).trans x4,D4.o (gV.o.1 (by first|rfl|trivial)) (λ_=>HLT.o)⟩
         case measure=>simp[intOf];omega
      ·have d3:decide ((0:Int)<(k:Int))=false:=by simp;omega
       simp only[Act.put];refine Ja 17 (by kernel_rfl) (by kernel_rfl) ?_;simp only[KG,KI,UY,KJ]
       repeat (first
        | (go_big_quiet_want;refine UQ (.tmp 1) rfl w.heap.size rfl m RM.o ?_;simp only[S_];go_big_quiet_on)
        | (go_big_quiet_want;refine WB (.tmp 7) rfl wr.heap.size rfl y RP.o ?_;simp only[S_];go_big_quiet_on)
        | go_big_quiet_step (fail))
       refine VI ?_;rintro w3 ⟨x3,rfl⟩;clear c0 k5 E0;go_wp2_with (go_at_call 51;refine(fg x3).o.mono ?_;rintro e w4 ⟨⟨b4,rfl,hb4⟩,x4⟩;have gV:=Qa hb4;clear hb4;rcases b4 with _|_)
       ·go_ret;exact⟨⟨3,rfl,HP3.o (λh=>by have:=gV.o.2 (HNA.o h).1;cases this)⟩,((xa.trans x2).trans x3.ext).trans x4⟩
       ·go_roundw;case rel=>exact⟨k+1,by omega,by go_num,(x2.trans x3.ext).trans x4,D4.o (gV.o.1 (by first|rfl|trivial)) (λh=>absurd h n3)⟩
        case measure=>simp[intOf];omega
     ·obtain rfl:k=m.pr.n:=by omega
      have Ar:=Qa (show Zg m d d.pr.length by
       have h:=yd.o;rw[HR1.o,HLL.o]at h;exact h)
      have XG:=Qa (show m.pr.n<=8 by omega);have q8:wr.cell? ⟨w.heap.size,8,none⟩=some (.slice m.pi.A m.pi.n m.pi.c):=(bm.ext xk).cell 8;by_cases h64:64<m.pi.n
      ·have HX:=Qa h64;go_wp2_with fail;go_ret;exact⟨⟨6,rfl,(oH gj.o Rq.o gY.o XG.o Ar.o (λh=>by have:=HX.o;omega)).symm⟩,xa.trans xk⟩
      ·go_wp2_with fail;clear q8;generalize wr=w5 at *;have Qh5:=Qa (show∀k (h:k<d.pi.length),Zo m d.pi k->(1<=d.pi[k].1/\d.pi[k].1<m.newPipe/\d.pi[k].2.length<=64)->(0<k->(d.pi[k-1]'(by omega)).1<d.pi[k].1)->Zo m d.pi (k+1) fromλk h h1 h2 h3 i hi f9=>by
        by_cases e:i<k
        ·exact h1 i hi e
        ·obtain rfl:i=k:=by omega
         exact⟨h2.1,h2.2.1,h2.2.2,h3⟩)
       have sS:=Qa (show m.pi.n<=64 by omega);have yi:=Qa (λ(h:¬Zo m d.pi d.pi.length)=>show(3:Int)=Zk m d from(tZ gj.o Rq.o gY.o XG.o Ar.o sS.o h).symm);have HQA:=Qa (show∀k (h:k<d.pi.length),Zo m d.pi d.pi.length->1<=d.pi[k].1/\d.pi[k].1<m.newPipe/\d.pi[k].2.length<=64/\(0<k->(d.pi[k-1]'(by omega)).1<d.pi[k].1) fromλk h hp=>hp k h h);obtain⟨pl,XS⟩:∃x,x=d.pi:=⟨_,rfl⟩
       rw[←XS]at aD HI1;have sT:=Qa XS;clear XS;go_loopw [118] (λi wx=>∃k:Nat,k<=m.pi.n/\i=.int .i64 k/\Ext w1 wx/\Zo m d.pi k) (λi _=>m.pi.n-(intOf i).toNat);case atStart=>exact⟨0,by omega,rfl,xk,λi h hk=>by omega⟩
       case round =>
        clear xk;obtain⟨k,hk,rfl,xk,hpik⟩:=hrel;have ya:=Qa hpik;clear hpik;by_cases Qn:k<m.pi.n
        ·obtain⟨b,o,hA,Qf⟩:=aD (by omega);have P9:k<pl.length:=by rw[←HI1.o];exact Qn
         have e1:=(xa.trans xk).keep (Qf k P9).1;have e2:=(xa.trans xk).keep (Qf k P9).2;have e0:0<k->wr.cell? ⟨b,o+(k-1)*2,none⟩=some (.int .i64 (pl[k-1]'(by omega)).1):=λh=>(xa.trans xk).keep (Qf (k-1) (by omega)).1;have r8:wr.cell? ⟨w.heap.size,8,none⟩=some (.slice m.pi.A m.pi.n m.pi.c):=(bm.ext xk).cell 8;have r9:wr.cell? ⟨w.heap.size,9,none⟩=some (.int .i64 m.newPipe):=(bm.ext xk).cell 9;rw[hA]at r8;clear Qf;have Gu:(k:Int)<(m.pi.n:Int):=by omega
         have yO:=Qa (show(1<=pl[k].1/\pl[k].1<m.newPipe/\pl[k].2.length<=64)->(0<k->(pl[k-1]'(by omega)).1<pl[k].1)->Zo m d.pi (k+1) from by
          have he:=sT.o;subst he;exact Qh5.o k P9 ya.o)
         have gi:=Qa (show Zo m d.pi d.pi.length->1<=pl[k].1/\pl[k].1<m.newPipe/\pl[k].2.length<=64/\(0<k->(pl[k-1]'(by omega)).1<pl[k].1) from by
          have he:=sT.o;subst he;exact HQA.o k P9)
         generalize pl[k]=y at *;generalize hprv:pl[k-1]'(by omega)=prv at *;clear hprv;go_upto_region 25 with fail;have E1:(wr.alloc (.cells #[.int .i64 y.1,.string (Qb y.2)] 95)).cell? ⟨w.heap.size,8,none⟩=some (.slice (some ⟨b,o,none⟩) m.pi.n m.pi.c):=((Qg wr).alloc _).keep r8;have E9:(wr.alloc (.cells #[.int .i64 y.1,.string (Qb y.2)] 95)).cell? ⟨w.heap.size,9,none⟩=some (.int .i64 m.newPipe):=((Qg wr).alloc _).keep r9;have E0:0<k->(wr.alloc (.cells #[.int .i64 y.1,.string (Qb y.2)] 95)).cell? ⟨b,o+(k-1)*2,none⟩=some (.int .i64 prv.1):=λh=>((Qg wr).alloc _).keep (e0 h);clear e0 e1 e2 r8 r9;by_cases n0:y.1<1
         ·have d0:decide (y.1<1)=true:=Xd n0;have HX:=Qa n0;clear E0;go_quiet (fail);go_wp2_with fail;go_ret;exact⟨⟨3,rfl,yi.o (λh=>by have:=gi.o h;have:=HX.o;omega)⟩,(xa.trans xk).trans (((Qg wr).alloc _).drewN _)⟩
         ·have d0:decide (y.1<1)=false:=XI n0;by_cases n1:m.newPipe<=y.1
          ·have d1:decide (m.newPipe<=y.1)=true:=Xd n1;have HX:=Qa n1;clear E0;go_quiet (fail);go_wp2_with fail;go_ret;exact⟨⟨3,rfl,yi.o (λh=>by have:=gi.o h;have:=HX.o;omega)⟩,(xa.trans xk).trans (((Qg wr).alloc _).drewN _)⟩
          ·have d1:decide (m.newPipe<=y.1)=false:=XI n1;by_cases n3:0<k
           ·have d3:decide ((0:Int)<(k:Int))=true:=by simp;omega
            have E0':=E0 n3;have kk1:(k:Int)-1=((k-1:Nat):Int):=by omega
            have kk2:IntKind.i64.wrap ((k:Int)-1)=((k-1:Nat):Int):=by rw[Wb];omega
            have kk3:((k-1:Nat):Int)<(m.pi.n:Int):=by omega
            clear E0;by_cases n4:y.1<=prv.1
            ·have d4:decide (y.1<=prv.1)=true:=Xd n4;have HX:=Qa n4;have OG:=Qa n3;go_quiet (fail);go_wp2_with fail;go_ret;exact⟨⟨3,rfl,yi.o (λh=>by have:=gi.o h;have:=this.2.2.2 OG.o;have:=HX.o;omega)⟩,(xa.trans xk).trans (((Qg wr).alloc _).drewN _)⟩
            ·have d4:decide (y.1<=prv.1)=false:=XI n4;by_cases n2:64<y.2.length
             ·have d2:decide (64<(y.2.length:Int))=true:=by simp;omega
              have HX:=Qa n2;go_quiet (fail);go_wp2_with fail;go_ret;exact⟨⟨3,rfl,yi.o (λh=>by have:=gi.o h;have:=HX.o;omega)⟩,(xa.trans xk).trans (((Qg wr).alloc _).drewN _)⟩
             ·have d2:decide (64<(y.2.length:Int))=false:=by simp;omega
              have Rs:=Qa (yO.o ⟨by omega,by omega,by omega⟩ (λ_=>by omega));go_quiet (fail);go_wp2_with fail;go_roundw;case rel=>exact⟨k+1,by omega,by go_num,(xk.alloc _).drewN _,Rs.o⟩
              case measure=>simp[intOf];omega
           ·have d3:decide ((0:Int)<(k:Int))=false:=by simp;omega
            clear E0;by_cases n2:64<y.2.length
            ·have d2:decide (64<(y.2.length:Int))=true:=by simp;omega
             have HX:=Qa n2;go_quiet (fail);go_wp2_with fail;go_ret;exact⟨⟨3,rfl,yi.o (λh=>by have:=gi.o h;have:=HX.o;omega)⟩,(xa.trans xk).trans (((Qg wr).alloc _).drewN _)⟩
            ·have d2:decide (64<(y.2.length:Int))=false:=by simp;omega
             have Rs:=Qa (yO.o ⟨by omega,by omega,by omega⟩ (λh=>absurd h n3));go_quiet (fail);go_wp2_with fail;go_roundw;case rel=>exact⟨k+1,by omega,by go_num,(xk.alloc _).drewN _,Rs.o⟩
             case measure=>simp[intOf];omega
        ·obtain rfl:k=m.pi.n:=by omega
         have vR:=Qa (show Zo m d.pi d.pi.length by
          have h:=ya.o;rw[HI1.o,sT.o]at h;exact h)
         obtain⟨k0,k1,k2,k3,k4,k5,k6,k7,k8,k9,Mb,k11,k12,k13,k14,k15,k16⟩:=XX (bm.ext xk);have Ry:=bm.ext xk;clear k0 k1 k2 k3 k4 k5 k6 k8 k9 k11 k12 k13 k14 k15 k16;go_upto_region 28 with fail;go_cut [165] (λs wx=>VB s (m.inn.length<=65536/\m.init.length<=128)/\wr=wx);case first =>
          go_wp2_with fail
          all_goals
           go_meet
           first
            | exact⟨VB.yes (λh=>by omega),rfl⟩
            | exact⟨VB.of ⟨λh=>by
              simp only[qs,sn]at h;omega,λh=>by
              simp only[qs,sn];omega⟩,rfl⟩
         case rest =>
          obtain⟨⟨b165,rfl,hb165⟩,rfl⟩:=hcut;have qS:=Qa hb165;clear hb165;cases b165 with
          | true => go_wp2_with fail;go_ret;exact⟨⟨6,rfl,(tg gj.o Rq.o gY.o XG.o Ar.o sS.o vR.o (λh=>by have:=qS.o.2 h;cases this)).symm⟩,xa.trans xk⟩
          | false =>
           clear k7 Mb
           go_wp2_with (first
            | (refine Qo (.tmp 1) rfl rfl w.heap.size _ 38 rfl Ry rfl ?_)
            | (go_at_call 52;refine(xL.o _ (HM.o.ext xk)).mono ?_;rintro e w6 ⟨⟨n6,rfl,hn6⟩,x6⟩;have HN6:=Qa hn6;clear hn6))
           go_ret;refine⟨⟨n6,rfl,?_⟩,(xa.trans xk).trans x6⟩;rw[oD gj.o Rq.o gY.o XG.o Ar.o sS.o vR.o (qS.o.1 (by first|rfl|trivial))];exact HN6.o.voE_eq
theorem eX (A:Option Addr) (n c:Nat) (v:List (List UInt8)) (I:Int) (w:World) (hv:Strs w A n v) (hg:Ji v I) :
  Calls prog 148 #[.slice A n c] w λe w'=>e=.returned (.int .i64 (3+(I+1)/2))/\Ext w w':=by
 have HO:=Qa (λw h=>MG A n c v I w h hg);go_enter func148,ntmps148
 go_wp2_with (first
  | (go_at_call 99;refine(HO.o _ hv).mono ?_;rintro e w1 ⟨rfl,x1⟩;rw[Xr])
  | (refine QC (.tmp 3) (.tmp 8) rfl rfl w1.heap.size _ [0,0,0,0,0,0] 144 rfl rfl (Qs _ _ _) rfl rfl ?_;intro w2 b2 g2;have x2:Ext w w2:=(x1.alloc _).grown g2 (λk e=>by cases e;exact x1.size);have c5:w2.cell? ⟨w1.heap.size,5,none⟩=some (.int .i64 (3+(I+1)/2)):=b2.cell 5))
 go_ret;exact⟨rfl,x2⟩
def K4 (v:List (List UInt8)) (I b:Int):Int:=if Lu v I b then b else 0
theorem eh (A:Option Addr) (n c:Nat) (v:List (List UInt8)) (I b:Int) (w:World) (hn:n=v.length) :
  Calls prog 203 #[.slice A n c,.int .i64 (3+(I+1)/2),.int .i64 b] w λe w'=>e=.returned (.int .i64 (K4 v I b))/\w=w':=by
 subst hn;unfold K4 Lu;by_cases h1:b<3+(I+1)/2
 ·rw[XI (by omega:¬3+(I+1)/2<=b)];generalize 3+(I+1)/2=d at *;go_enter func203,ntmps203;go_wp2_with fail;go_ret;exact⟨rfl,rfl⟩
 ·rw[Xd (by omega:3+(I+1)/2<=b)];generalize 3+(I+1)/2=d at *;by_cases h2:(v.length:Int)<=b
  ·rw[XI (by omega:¬b<(v.length:Int))];go_enter func203,ntmps203;go_wp2_with fail;go_ret;exact⟨rfl,rfl⟩
  ·rw[Xd (by omega:b<(v.length:Int))];go_enter func203,ntmps203;go_wp2_with fail;go_ret;exact⟨rfl,rfl⟩
theorem IU (s:List UInt8) (i:Nat) (w:World) (h:i+1<s.length) (h2:s.length<=1000) :
  Calls prog 204 #[.string (Qb s),.int .i64 i] w λe w'=>e=.returned (.int .i64 (QW s i 2))/\Ext w w':=by
 have hz:=Qh;have H:=Qa (rG s i h);have t1:(i:Int)<(s.length:Int):=by omega
 have t2:(i:Int)+1<(s.length:Int):=by omega
 have t3:((i:Int)+1).toNat=i+1:=by omega
 have a0:(Qb s)[i]'(by rw[Qh];omega)=s[i]:=rfl;have a1:(Qb s)[i+1]'(by rw[Qh];omega)=s[i+1]:=rfl;have b0:=s[i].toNat_lt;have b1:=s[i+1].toNat_lt;generalize s[i]=p at *;generalize s[i+1]=q at *;have w0:IntKind.i64.wrap (p.toNat:Int)=p.toNat:=ON _ (by omega);have w1:IntKind.i64.wrap (q.toNat:Int)=q.toNat:=ON _ (by omega);go_enter func204,ntmps204;go_wp2_with fail;refine Qk (by kernel_rfl) (by kernel_rfl) ?_;repeat (go_big_quiet_step (fail))
 refine VI ?_;rintro w2 ⟨x,rfl⟩;go_wp2_with fail;go_ret;exact⟨by rw[H.o];rfl,x.ext⟩
theorem Kl {P:Program}{ops:Array Oper}{rest:List Oper}{o:Oper}{a:Act}{w:World}{Q:Exit->Act->World->Prop}(T:TypeId) (x:Operand) (J7:o.guard=none) (ho:o.op=.box T x) (cs:Array Value) (hx:a.eval x=.agg cs)
  (hK:∀w',Box w' w.heap.size T cs->Ext w w'->w'.heap.size=w.heap.size+1->wpList P ops Q rest (a.put o.dst (.pointer (some ⟨w.heap.size,0,none⟩))) w'):wpList P ops Q (o::rest) a w:=by
 refine DU J7 λK KM=>?_;have h:=hK (w.alloc (.cells cs T)) (Qs _ _ _) ((Qg w).alloc _) (YB _ _);unfold Oper.wp execOp;simp only[ho,hx];have e:(Instr.box T (.agg cs)).run P w=.ok (.pointer (some ⟨w.heap.size,0,none⟩)) (w.alloc (.cells cs T)):=by simp[Instr.box,newVar,newRow,newObj,Value.cells];rfl
 simp only[Ny,e,Mm];exact KM _ _ h
theorem Wr {w:World}{g:Nat}{x:List Int}(h:Box w g 121 (Qj x)) (hx:x.length=12) {k:Nat}(hk:k<12):w.cell? ⟨g,k,none⟩=some (.int .i64 (x.getD k 0)):=by
 refine(h.cell k).trans ?_;simp[Qj,List.getD,hx,hk]
theorem fD (x:List Int) (w:World) (hx:x.length=12) :
  Calls prog 149 #[.agg (Qj x)] w λe w'=>e=.returned (.int .i64 (JL x))/\Ext w w':=by
 have HX:=Qa hx;unfold JL;have HC:=Qa (λw g (h:Box w g 121 (Qj x))=>Wr h hx (k:=3) (by omega));generalize x.getD 3 0=sz at *;go_enter func149,ntmps149;by_cases h:(8960:Int)<sz
 ·rw[show min sz 8960=8960 by omega];go_wp2_with (refine Kl _ (.tmp 0) rfl rfl _ rfl ?_;intro w1 b1 x1 z1;have c3:=HC.o _ _ b1)
  go_ret;exact⟨rfl,x1⟩
 ·rw[show min sz 8960=sz by omega];go_wp2_with (refine Kl _ (.tmp 0) rfl rfl _ rfl ?_;intro w1 b1 x1 z1;have c3:=HC.o _ _ b1)
  go_ret;exact⟨rfl,x1⟩
def MW (v:List (List UInt8)) (I:Int) (x:List Int) (k:Nat):Int:=K4 v I (Uf v I x k)
theorem qB (A:Option Addr) (n c:Nat) (v:List (List UInt8)) (I:Int) (x:List Int) (k:Nat) (w:World) (hv:Strs w A n v) (hg:Ji v I) (hx:x.length=12) (hk:k<70) :
  Calls prog 150 #[.slice A n c,.int .i64 (3+(I+1)/2),.agg (Qj x),.int .i64 (k:Int)] w λe w'=>e=.returned (.int .i64 (MW v I x k))/\Ext w w':=by
 have HX:=Qa hx;have HG:=Qa (λb w=>eh A n c v I b w hv.1);have XS:=Jg hg.plan;by_cases h6:k<6
 ·have HN:=Qa (show MW v I x k=K4 v I (x.getD (4+k) 0) by unfold MW Uf;rw[QN h6]);rw[HN.o];have HC:=Qa (λw g (h:Box w g 121 (Qj x))=>Wr h hx (k:=4+k) (by omega));generalize x.getD (4+k) 0=ind at *;have d6:decide ((k:Int)<6)=true:=Xd (by omega);have Y6:(k:Int)<6:=by omega
  clear XS hg hv HN hx;generalize 3+(I+1)/2=d at *;go_enter func150,ntmps150
  go_wp2_with (first
   | (refine Kl _ (.tmp 2) rfl rfl _ rfl ?_;intro w1 b1 x1 z1;have c3:=HC.o _ _ b1)
   | (go_at_call 203;refine(HG.o _ _).mono ?_;rintro e w2 ⟨rfl,rfl⟩))
  go_ret;exact⟨rfl,x1⟩
 ·have d6:decide ((k:Int)<6)=false:=XI (by omega);have Y6:¬(k:Int)<6:=by omega
  have HC:=Qa (λw g (h:Box w g 121 (Qj x))=>Wr h hx (k:=10) (by omega));have HD:=Qa (show MW v I x k=K4 v I (if Lu v I (x.getD 10 0) then QW (v.getD (x.getD 10 0).toNat []) (2*(k-6)) 2 else 0) by unfold MW Uf;rw[QD h6]);generalize x.getD 10 0=ind at *;cases hi:Lu v I ind with
  | false =>
   have HN:=Qa (show MW v I x k=0 by
    rw[HD.o,hi];unfold K4;have:Lu v I 0=false:=by unfold Lu;rw[XI (by omega)];rfl
    simp[this])
   have h0:K4 v I ind=0:=by unfold K4;rw[hi];rfl
   rw[HN.o];have HZ:=Qa h0;clear XS hg hv HN hi h0 HD;generalize 3+(I+1)/2=d at *;go_enter func150,ntmps150
   go_wp2_with (first
    | (refine Kl _ (.tmp 2) rfl rfl _ rfl ?_;intro w1 b1 x1 z1;have c3:=HC.o _ _ b1)
    | (go_at_call 203;refine(HG.o _ _).mono ?_;rintro e w2 ⟨rfl,rfl⟩;rw[HZ.o]))
   go_ret;exact⟨rfl,x1⟩
  | true =>
   obtain⟨Vy,Pt⟩:=Ws hi;obtain⟨q,rfl⟩:∃q:Nat,ind=(q:Int):=⟨ind.toNat,by omega⟩
   obtain⟨rfl,Y7⟩:=hv;obtain⟨b,o,rfl,Qf⟩:=Y7 (by omega);have hql:q<v.length:=by omega
   have Gt:(v.getD q []).length=128:=Yo hg hql;have hcq:w.cell? ⟨b,o+q,none⟩=some (.string (Qb (v.getD q []))):=WT Qf hql;have HN:=Qa (show MW v I x k=K4 v I (QW (v.getD q []) (2*(k-6)) 2) by
    rw[HD.o,hi,QN rfl,mU])
   have hz:K4 v I (q:Int)=(q:Int):=by unfold K4;rw[hi];rfl
   have HZ:=Qa hz;rw[HN.o];have hqi:(q:Int)<(v.length:Int):=by omega
   have wT:((q:Int)==0)=false:=by simp;omega
   obtain⟨z,hkz⟩:∃z,k=z+6:=⟨k-6,by omega⟩
   subst hkz;have HT:=Qa (λw=>show Calls prog 204 #[.string (Qb (v.getD q [])),.int .i64 (2*(z:Int))] w λe w'=>e=.returned (.int .i64 (QW (v.getD q []) (2*(z+6-6)) 2))/\Ext w w' from by
    have:=IU (v.getD q []) (2*z) w (by omega) (by omega);rw[show((2*z:Nat):Int)=2*(z:Int) by omega]at this;rw[show z+6-6=z by omega];exact this)
   have t1:IntKind.i64.wrap (((z+6:Nat):Int)-6)=(z:Int):=by rw[Wb];omega
   have t2:IntKind.i64.wrap (2*(z:Int))=2*(z:Int):=by rw[Wb];omega
   generalize QW (v.getD q []) (2*(z+6-6)) 2=num at *;generalize v.getD q []=bl at *;clear XS hg HN HD hi hz Vy Pt Y7 Qf;generalize 3+(I+1)/2=d at *;go_enter func150,ntmps150
   go_wp2_with (first
    | (refine Kl _ (.tmp 2) rfl rfl _ rfl ?_;intro w1 b1 x1 z1;have c3:=HC.o _ _ b1;have cq:=x1.keep hcq)
    | (go_at_call 203;refine(HG.o _ _).mono ?_;rintro e w2 ⟨rfl,rfl⟩;try rw[HZ.o])
    | (go_at_call 204;refine(HT.o _).mono ?_;rintro e w3 ⟨rfl,x3⟩))
   go_ret;exact⟨rfl,x1.trans x3⟩
theorem bV {v:List (List UInt8)}{I:Int}{x:List Int}{k:Nat}(hg:Ji v I) (h:VT v I x k= -1):MW v I x k=0:=by
 have hp:=Jg hg.plan;unfold VT at h;unfold MW K4;split
 ·rename_i c;rw[QN c]at h;have:=Ws c;omega
 ·rfl
theorem iW {v:List (List UInt8)}{I:Int}{x:List Int}{k:Nat}(h:VT v I x k≠-1):MW v I x k=VT v I x k:=by
 unfold VT at h ⊢;unfold MW K4;split
 ·rfl
 ·rename_i c;rw[QD c]at h;exact absurd rfl h
theorem Qc9 (w:World) (c:UInt8):Box (w.alloc (.cells #[.int .u8 (c.toNat:Int)] 5)) w.heap.size 5 #[.int .u8 (c.toNat:Int)]:=Qs _ _ _
theorem PQ {ops:Array Oper}{rest:List Oper}{o:Oper}{a:Act}{w:World}{Q:Exit->Act->World->Prop}{B g n:Nat}{u:Value}{l:List UInt8}{y:UInt8}(J7:o.guard=none) (sl x:Operand)
  (ho:o.op=.call { callee:=.builtin .append,args:=#[sl,x],argTypes:=#[167,167] }) (hs:a.eval sl=u) (hx:a.eval x=.slice (some ⟨g,0,none⟩) 1 1)
  (h0:w.ownsRow B 5 1 u n (Jd l)) (hb:Box w g 5 #[.int .u8 (y.toNat:Int)]) (hn:n<=1000000) (hB:B<=w.heap.size)
  (hK:∀u' w',w'.ownsRow B 5 1 u' (n+1) (Jd (l++[y]))->w.grownBy w' u.ownBlock->wpList prog ops Q rest (a.put o.dst u') w'):wpList prog ops Q (o::rest) a w:=by
 refine DU J7 λK KM=>?_;obtain⟨i,hi,hz,h1,h2⟩:=AW Wj;obtain⟨v',w',hr,ho2,hg,_,_⟩:=nU (P:=prog) w B 167 o.type 5 i _ 1 1 underlying167 hi hz h1 h2 rfl (by decide) u n (Jd l) h0 ⟨g,0,none⟩ 1 1 [.int .u8 (y.toNat:Int)] rfl (λj u hj=>by
  have ha:(⟨g,0,none⟩:Addr).add j=⟨g,j,none⟩:=by unfold Addr.add;split<;>simp_all
  rw[ha,hb.cell j];simpa using hj) (λu hu=>by rcases(by simpa using hu:u=.int .u8 (y.toNat:Int)) with rfl;rfl) (by unfold maxLen;omega) (by omega) hB
 unfold Oper.wp execOp;simp only[ho,resolve,invoke,builtin,Ny,Fb,Mm,bO,P4,Gz,hs,hx,hr];exact KM _ _ (hK v' w' (by rw[show Jd (l++[y])=Jd l++[.int .u8 (y.toNat:Int)] by simp[Jd]];exact ho2) hg)
theorem Bg {w:World}{base size n:Nat}{e:TypeId}{v:Value}{xs:List Value}(h:w.ownsRow base e size v n xs) (hn:0<n):∃g c,v=.slice (some ⟨g,0,none⟩) n c:=by
 rcases h.2 with⟨rfl,h0⟩|⟨g,cap,cur,rfl,_⟩
 ·omega
 ·exact⟨_,_,rfl⟩
theorem cJ {w:World}{base n g cap:Nat}{l:List UInt8}(h:w.ownsRow base 5 1 (.slice (some ⟨g,0,none⟩) n cap) n (Jd l)):(convert 167 9 (.slice (some ⟨g,0,none⟩) n cap)).run prog w=.ok (.string (Qb l)) w:=by
 have hl:l.length=n:=by have:=h.1;simpa[Jd]using this
 subst hl;refine We6 w 167 9 5 ⟨g,0,none⟩ cap l underlying167 underlying5 underlying9 (λj hj=>?_);have ha:(⟨g,0,none⟩:Addr).add j=⟨g,j,none⟩:=by unfold Addr.add;split<;>simp_all
 rw[ha,h.cellAt j (by simpa using hj)];simp[Jd,hj]
theorem fC (A:Option Addr) (n c:Nat) (v:List (List UInt8)) (I k off size:Int) (w:World) (hv:Strs w A n v) (hg:Ji v I) (Vz:1<=k) (KN:k<=I) (ho:off<=9223372036854775807) (hs:size<=9223372036854775807) :
  Calls prog 76 #[.slice A n c,.int .i64 k,.int .i64 off,.int .i64 size] w λe w'=>e=.returned (.tuple #[.string (Qb (Ha v I k off size).1),.int .i64 (Ha v I k off size).2])/\Ext w w':=by
 have HG:=Qa (λw h=>Nf A n c v I k w h hg Vz KN);have HD:=Qa (λw h=>eX A n c v I w h hg);have HX:=Qa (XU v k);have HV:=Qa hv;by_cases SE:off<0\/size<0
 ·have HP:=Qa (show Ha v I k off size=([],1) by unfold Ha;rw[QN SE]);rw[HP.o];generalize QI v k=x at *;clear hv hg HD HP;by_cases h1:off<0
  ·clear SE;go_enter func76,ntmps76
   go_wp2_with (first
    | (go_at_call 74;refine(HG.o _ HV.o).mono ?_;rintro e w1 ⟨rfl,x1⟩)
    | (refine QR (.tmp 10) (.tmp 20) rfl rfl w1.heap.size _ Qy 121 rfl rfl (Qs _ _ _) HX.o rfl ?_;intro w2 b2 g2))
   go_ret2;exact⟨rfl,(x1.alloc _).grown g2 (λk e=>by cases e;exact x1.size)⟩
  ·have h2:size<0:=by omega
   clear SE;go_enter func76,ntmps76
   go_wp2_with (first
    | (go_at_call 74;refine(HG.o _ HV.o).mono ?_;rintro e w1 ⟨rfl,x1⟩)
    | (refine QR (.tmp 10) (.tmp 20) rfl rfl w1.heap.size _ Qy 121 rfl rfl (Qs _ _ _) HX.o rfl ?_;intro w2 b2 g2))
   go_ret2;exact⟨rfl,(x1.alloc _).grown g2 (λk e=>by cases e;exact x1.size)⟩
 ·obtain⟨o,rfl⟩:∃o:Nat,off=(o:Int):=⟨off.toNat,by omega⟩
  obtain⟨z,rfl⟩:∃z:Nat,size=(z:Int):=⟨size.toNat,by omega⟩
  rw[PE hg];have HA:=Qa (λj w h (hj:j<70)=>qB A n c v I (QI v k) j w h hg HX.o hj);have HS:=Qa (λw=>fD (QI v k) w HX.o);have vY:=Qa (show JL (QI v k)<=8960 by unfold JL;omega);have HHo:=Qa (λ(j:Nat) (h:VT v I (QI v k) j= -1)=>bV hg h);have HHa:=Qa (λ(j:Nat) (h:VT v I (QI v k) j≠-1)=>iW h);have OD:=Qa (λ(j:Nat) (h:VT v I (QI v k) j≠-1)=>Ws (iX h));have XS:=Jg hg.plan;have HBl:=Qa (λ(q:Nat) (h:q<v.length)=>Yo hg h);have HBy:=Qa (λ(i:Nat)=>show Fg v I (QI v k) i=if VT v I (QI v k) (i/128)= -1 then 0 else (v.getD (VT v I (QI v k) (i/128)).toNat []).getD (i%128) 0 from rfl);have HSu:=Qa (λm=>Cx v I (QI v k) o m);have HL:=Qa (λm=>Ux v I (QI v k) o m);have H0:=Qa (show Z4 v I (QI v k) o 0=[] from rfl);obtain⟨rfl,Y7⟩:=hv;obtain⟨b,oo,rfl,Qf⟩:=Y7 (by omega);have HC:=Qa (λ(q:Nat) (h:q<v.length)=>WT Qf h);generalize hx:QI v k=x at *;generalize JL x=sz at *;have VD:=vY.o;obtain⟨M,hM⟩:∃M,min z (sz-(o:Int)).toNat=M:=⟨_,rfl⟩
  rw[hM];have HM:=Qa hM;have Qos:¬(o:Int)<0:=by omega
  have Qot:¬(z:Int)<0:=by omega
  clear hg SE Y7 Qf hx hM;go_enter func76,ntmps76
  go_upto_region 6 with(first
   | (go_at_call 74;refine(HG.o _ HV.o).mono ?_;rintro e w1 ⟨rfl,x1⟩)
   | (refine QR (.tmp 10) (.tmp 20) rfl rfl w1.heap.size _ Qy 121 rfl rfl (Qs _ _ _) HX.o rfl ?_;intro w2 b2 g2))
  have x2:Ext w w2:=(x1.alloc _).grown g2 (λk e=>by cases e;exact x1.size);have JP:=Ig (base:=w.heap.size) (Qs w2 5 #[]) (n:=0) rfl x2.size (by unfold maxLen;omega);have x3:=x2.alloc (.cells #[] 5);rw[show((#[]:Array Value).toList)=[] from rfl]at JP;have rX:=JP;have b3:=b2.ext ((Qg w2).alloc (.cells #[] 5));clear x1 g2 HG b2;generalize w1.heap.size=g1 at *
  go_upto_region 9 with(first
   | (go_at_call 148;refine(HD.o _ (HV.o.ext x3)).mono ?_;rintro e w4 ⟨rfl,x4⟩))
  have x5:=x3.trans x4;have b5:=b3.ext x4;have XD:=Qc rX x4;clear x3 x4 b3 JP rX x2 HD;go_loopw [12,14] (λu t wx=>∃m:Nat,m<=M/\t=.int .i64 ((o+m:Nat):Int)/\Ext w wx/\Box wx g1 121 (Qj x)/\wx.ownsRow w.heap.size 5 1 u m (Jd (Z4 v I x o m))/\∃g5 c5,u=.slice (some ⟨g5,0,none⟩) m c5) (λ_ t _=>o+M-(intOf t).toNat);case atStart=>exact⟨0,by omega,rfl,x5,b5,by rw[H0.o];exact XD,_,_,rfl⟩
  case round =>
   obtain⟨m,hm,rfl,xm,bm,om,g5,c5,rfl⟩:=hrel;have hMM:=HM.o;clear x5 b5 XD;by_cases Qn:m<M
   ·have hi1:((o+m:Nat):Int)<sz:=by omega
    have aD:(m:Int)<(z:Int):=by omega
    have mF:=Qa (HA.o ((o+m)/128));obtain⟨j,hj⟩:∃j,(o+m)/128=j:=⟨_,rfl⟩
    obtain⟨r,hr⟩:∃r,(o+m)%128=r:=⟨_,rfl⟩
    rw[hj]at mF;have Qbd:j<70:=by omega
    have ms:=Qa (HBy.o (o+m));rw[hj,hr]at ms;have t1:((o:Int)+(m:Int))/128=(j:Int):=by omega
    have t2:((o:Int)+(m:Int))%128=(r:Int):=by omega
    have hwx:=xm.size;have nk:=QX om bm (by decide);by_cases hh:VT v I x j= -1
    ·have HZ:=HHo.o j hh;rw[HZ]at mF;rw[QN hh]at ms;have HN:=Qa (show Z4 v I x o (m+1)=Z4 v I x o m++[0] by rw[HSu.o,ms.o]);clear hh HZ ms HA HHo HHa OD HBl HC HBy hMM hj hr
     go_wp2_with (first
      | (refine Xh (.tmp 10) rfl rfl g1 _ 121 rfl bm HX.o ?_)
      | (refine Xh (.tmp 10) rfl rfl g1 _ 121 rfl (bm.ext x6) HX.o ?_)
      | (go_at_call 149;refine(HS.o _).mono ?_;rintro e w6 ⟨rfl,x6⟩)
      | (go_at_call 150;refine(mF.o _ (HV.o.ext (xm.trans x6)) Qbd).mono ?_;rintro e w7 ⟨rfl,x7⟩;have hs7:=(x6.trans x7).size)
      | (at_builtin;refine PQ (B:=w.heap.size) (y:=0) rfl _ _ rfl rfl rfl (Qc om ((x6.trans x7).alloc _)) (Qc9 w7 0) (by omega) (by simp;omega) ?_;intro u8 w8 own8 g8))
     have x8:Ext w w8:=(((xm.trans x6).trans x7).alloc _).grown g8 (λj e=>QU om e);have b8:=((bm.ext (x6.trans x7)).ext ((Qg w7).alloc (.cells #[.int .u8 0] 5))).grown g8 nk;go_roundw;case rel=>exact⟨m+1,by omega,by go_num,x8,b8,by rw[HN.o];exact own8,Bg own8 (by omega)⟩
     case measure=>simp[intOf];omega
    ·have HZ:=HHa.o j hh;obtain⟨q1,q2⟩:=OD.o j hh;rw[HZ]at mF;rw[QD hh]at ms;obtain⟨q,hq⟩:∃q:Nat,VT v I x j=(q:Int):=⟨(VT v I x j).toNat,by omega⟩
     rw[hq]at mF ms q1 q2;rw[mU]at ms;have Gt:=HBl.o q (by omega);have hcq:=HC.o q (by omega);have hr8:r<128:=by omega
     generalize v.getD q []=bl at *;obtain⟨y,hy⟩:∃y,bl.getD r 0=y:=⟨_,rfl⟩
     have pE:r<(Qb bl).size:=by rw[Qh,Gt];exact hr8
     have hyi:(Qb bl)[r]'pE=y:=by rw[←hy,Yb,ZX (by omega)];rfl
     have jk:(r:Int)<(bl.length:Int):=by omega
     have hsz8:(Qb bl).size=128:=by rw[Qh,Gt]
     have HN:=Qa (show Z4 v I x o (m+1)=Z4 v I x o m++[y] by rw[HSu.o,ms.o,hy]);have q0:(0:Int)<(q:Int):=by omega
     have hz:=Qh;clear hh HZ ms HA HHo HHa OD HBl HC HBy hMM hj hr hq hy
     go_wp2_with (first
      | (refine Xh (.tmp 10) rfl rfl g1 _ 121 rfl bm HX.o ?_)
      | (refine Xh (.tmp 10) rfl rfl g1 _ 121 rfl (bm.ext x6) HX.o ?_)
      | (go_at_call 149;refine(HS.o _).mono ?_;rintro e w6 ⟨rfl,x6⟩)
      | (go_at_call 150;refine(mF.o _ (HV.o.ext (xm.trans x6)) Qbd).mono ?_;rintro e w7 ⟨rfl,x7⟩;have hs7:=(x6.trans x7).size;have cq7:=((xm.trans x6).trans x7).keep hcq)
      | (at_builtin;refine PQ (B:=w.heap.size) (y:=y) rfl _ _ rfl rfl rfl (Qc om ((x6.trans x7).alloc _)) (Qc9 w7 y) (by omega) (by simp;omega) ?_;intro u8 w8 own8 g8))
     have x8:Ext w w8:=(((xm.trans x6).trans x7).alloc _).grown g8 (λj e=>QU om e);have b8:=((bm.ext (x6.trans x7)).ext ((Qg w7).alloc (.cells #[.int .u8 (y.toNat:Int)] 5))).grown g8 nk;go_roundw;case rel=>exact⟨m+1,by omega,by go_num,x8,b8,by rw[HN.o];exact own8,Bg own8 (by omega)⟩
     case measure=>simp[intOf];omega
   ·have hM2:m=M:=by omega
    subst hM2;have Ll:sz<=(o:Int)+(m:Int)\/((o:Int)+(m:Int)<sz/\(z:Int)<=(m:Int)):=by omega
    clear hMM HA HHo HHa OD HBl HC HBy HSu HM Qn;have HCv:=Qa (λw' (h:Ext wr w')=>cJ (Qc om h));clear om;rcases Ll with h1|⟨h1,h2⟩
    ·go_wp2_with (first
      | (refine Xh (.tmp 10) rfl rfl g1 _ 121 rfl bm HX.o ?_)
      | (go_at_call 149;refine(HS.o _).mono ?_;rintro e w6 ⟨rfl,x6⟩;have hcv:=HCv.o _ x6))
     go_ret2;exact⟨rfl,xm.trans x6⟩
    ·go_wp2_with (first
      | (refine Xh (.tmp 10) rfl rfl g1 _ 121 rfl bm HX.o ?_)
      | (go_at_call 149;refine(HS.o _).mono ?_;rintro e w6 ⟨rfl,x6⟩;have hcv:=HCv.o _ x6))
     go_ret2;exact⟨rfl,xm.trans x6⟩
end Go.Proofs.YtfaplefkakpgcaaGreatDoor
namespace Go.Proofs.YtfaplefkakpgcaaGreatDoor
open Go.Proofs.Tryz
open Go.ChangeShapes Go.WideShapes Go.ChangeAt Go.RowKit
theorem Om {m:Int}(h:(Lit.int .u32 m).wf=true):0<=m/\m<4294967296:=by
 unfold Lit.wf at h;simp only[Vg,MS,show IntKind.u32.min=0 from rfl,show IntKind.u32.max=4294967295 from rfl]at h;omega
theorem Oo {m:Int}(h:(Lit.int .u64 m).wf=true):0<=m/\m<18446744073709551616:=by
 unfold Lit.wf at h;simp only[Vg,MS,show IntKind.u64.min=0 from rfl,show IntKind.u64.max=18446744073709551615 from rfl]at h;omega
theorem lx {m:Int}(h:(Lit.int .i64 m).wf=true):Up m:=by
 unfold Lit.wf at h;simp only[Vg,MS,show IntKind.i64.min= -9223372036854775808 from rfl,show IntKind.i64.max=9223372036854775807 from rfl]at h;exact⟨by omega,by omega⟩
def nQ (y:QF):Prop:=(∀i<16,0<=y.reg i/\y.reg i<4294967296)/\(0<=y.pc/\y.pc<4294967296)/\(0<=y.code/\y.code<4294967296)/\(0<=y.num/\y.num<18446744073709551616)
section
variable {H:Type}{enc:TypeId × Value->H}{w:World}{base:Nat}{spare:Nat->Bool}{held:Bool}
theorem kY:(List.range 17).all (λi=>(Zl prog 6 57).contains (3+i,45))=true:=by kernel_rfl
theorem pk (a:QF) {i:Nat}(hi:i<16):(Qq a)[3+i]? =some (.int .u32 (a.reg i)):=by
 have e:(Qq a).drop 3=(List.range 16).map (λi=>.int .u32 (a.reg i))++([.int .u32 a.pc]++(List.range 16).flatMap (Kf a)++(List.range 8).flatMap (GH a)++[.bool a.mask,.int .u32 a.code,.int .i64 a.why,.int .u64 a.num]):=rfl;rw[←EM,e,iM (by simp;exact hi)];simp[hi]
theorem uo {m:Nat}{cs:List Value}{y:DataW H × List MemPlace}(hl:cs.length=96) (h:DataW.trod enc prog w base spare held m 57 cs=some y):∃a:{ a:QF // nQ a },cs=Qq a.1:=by
 obtain⟨a,rfl⟩:=Qcv hl h;refine⟨⟨a,λi hi=>?_,?_,?_,?_⟩,rfl⟩
 ·obtain⟨n,e,k⟩:=Ub (n:=6) (o:=3+i) underlying45 (Rj.1 kY i (Mo.2 (by omega))) h (by omega);rw[pk a hi]at e;injection e with e;injection e with _ e;rw[e];exact Om k
 ·obtain⟨n,e,k⟩:=Ub (n:=6) (o:=19) underlying45 (by kernel_rfl) h (by omega);have e2:n=a.pc:=by
   have e3:some (Value.int .u32 a.pc)=some (.int .u32 n):=e;injection e3 with e3;injection e3 with _ e3;exact e3.symm
  rw[←e2];exact Om k
 ·obtain⟨n,e,k⟩:=Ub (n:=6) (o:=93) underlying45 (by kernel_rfl) h (by omega);have e2:n=a.code:=by
   have e3:some (Value.int .u32 a.code)=some (.int .u32 n):=e;injection e3 with e3;injection e3 with _ e3;exact e3.symm
  rw[←e2];exact Om k
 ·obtain⟨n,e,k⟩:=Ub (n:=6) (o:=95) underlying31 (by kernel_rfl) h (by omega);have e2:n=a.num:=by
   have e3:some (Value.int .u64 a.num)=some (.int .u64 n):=e;injection e3 with e3;injection e3 with _ e3;exact e3.symm
  rw[←e2];exact Oo k
instance prWfInh:Inhabited { a:QF // nQ a }:=⟨⟨default,λ_ _=>⟨Int.le_refl _,(by decide:(0:Int)<4294967296)⟩,⟨Int.le_refl _,(by decide:(0:Int)<4294967296)⟩,⟨Int.le_refl _,(by decide:(0:Int)<4294967296)⟩,⟨Int.le_refl _,(by decide:(0:Int)<18446744073709551616)⟩⟩⟩
theorem pv {fuel:Nat}{v:Value}{x:DataW H × List MemPlace}(h:DataW.trod enc prog w base spare held fuel 32 [v]=some x) :
  ∃(s:Sl) (l:List QF),v=.slice s.A s.n s.c/\s.ok/\Q6 Qq w s.A s.n l/\∀y∈l,nQ y:=by
 obtain⟨A,n,c,l,e,h0,h1,h2,_⟩:=DA (λa:{ a:QF // nQ a }=>Qq a.1) underlying32 pd (by omega) (λm cs y=>uo) h;refine⟨⟨A,n,c⟩,l.map (·.1),e,⟨h0,h1⟩,⟨h2.1.trans (by rw[AR]),λhn=>?_⟩,λy hy=>?_⟩
 ·obtain⟨b,o,k1,k2⟩:=h2.2 hn;refine⟨b,o,k1,λj v hj=>k2 j v ?_⟩;rw[←hj,List.flatMap_map]
 ·obtain⟨a,_,rfl⟩:=AV.1 hy;exact a.2
theorem pN {fuel:Nat}{cs:List Value}{x:DataW H × List MemPlace}(hl:cs.length=17) (h:DataW.trod enc prog w base spare held fuel 38 cs=some x) :
  ∃(m:QO) (d:Qz),cs=m.cells.toList/\Q0 w m d/\KF m d:=by
 obtain⟨c0,e0,k0⟩:=Ku (o:=0) underlying31 rfl h (by omega);obtain⟨c1,e1,_⟩:=Ku (o:=1) underlying3 rfl h (by omega);obtain⟨c2,e2,k2⟩:=Ku (o:=2) underlying3 rfl h (by omega);obtain⟨c3,e3,_⟩:=Ku (o:=3) underlying3 rfl h (by omega);obtain⟨_,v4,_,e4,h4⟩:=VZ (o:=4) underlying22 rfl h (by omega);obtain⟨_,v5,_,e5,h5⟩:=VZ (o:=5) underlying32 rfl h (by omega);obtain⟨c6,e6,_⟩:=Ku (o:=6) underlying3 rfl h (by omega);obtain⟨c7,e7,k7⟩:=LE (o:=7) rfl h (by omega);obtain⟨_,v8,_,e8,h8⟩:=VZ (o:=8) underlying33 rfl h (by omega);obtain⟨c9,e9,_⟩:=Ku (o:=9) underlying3 rfl h (by omega);obtain⟨c10,e10,Mb⟩:=LE (o:=10) rfl h (by omega);obtain⟨c11,e11⟩:=kA (o:=11) rfl h (by omega);obtain⟨fx,e12,k12⟩:=Ku (o:=12) underlying31 rfl h (by omega);obtain⟨_,v13,_,e13,h13⟩:=VZ (o:=13) underlying22 rfl h (by omega);obtain⟨_,v14,_,e14,oZ⟩:=VZ (o:=14) underlying34 rfl h (by omega);obtain⟨c15,e15,k15⟩:=Ku (o:=15) underlying3 rfl h (by omega);obtain⟨_,v16,_,e16,fy⟩:=VZ (o:=16) underlying34 rfl h (by omega);obtain⟨s4,l4,rfl,o4,r4⟩:=MK h4;obtain⟨s5,l5,rfl,o5,r5,f5⟩:=pv h5;obtain⟨s8,l8,rfl,o8,r8⟩:=ui h8;obtain⟨s13,l13,rfl,o13,r13⟩:=MK h13;obtain⟨s14,l14,rfl,o14,r14⟩:=l9 oZ;obtain⟨s16,l16,rfl,o16,ky⟩:=l9 fy;refine⟨⟨c0,c1,c2,c3,s4,s5,c6,c7,s8,c9,c10,c11,fx,s13,s14,c15,s16⟩,⟨l4,l5,l8,l13,l14,l16⟩,?_,⟨r4,r5,r8,r13,r14,ky,o4,o5,o8,o13,o14,o16,k7,Mb,k15⟩,⟨Oo k0,Oo k12,lx k15,lx k2,f5⟩⟩;rw[uW hl];simp only[List.range,List.range.loop,P4,Gz,ZP e0,ZP e1,ZP e2,ZP e3,ZP e4,ZP e5,ZP e6,ZP e7,ZP e8,ZP e9,ZP e10,ZP e11,ZP e12,ZP e13,ZP e14,ZP e15,ZP e16];rfl
end
end Go.Proofs.YtfaplefkakpgcaaGreatDoor
