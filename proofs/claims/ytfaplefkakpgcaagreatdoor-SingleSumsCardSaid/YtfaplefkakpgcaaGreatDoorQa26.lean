import Derived.Test.YtfaplefkakpgcaaGreatDoorQa24
set_option linter.unusedVariables false
set_option linter.unusedSimpArgs false
set_option maxHeartbeats 32000000
set_option maxRecDepth 100000
namespace Go.Proofs.YtfaplefkakpgcaaGreatDoor
open Go.Proofs.Tryz
open Go.RowKit
theorem MH (m:Q1) (d:QL) (w:World) (hi:Jg w m d) (h:YR m d) :
  Calls prog 17 #[.agg m.cells] w λe w'=>e=.returned (.int .i64 0)/\Ext w w':=by
 have H1:=Qa (λw=>Ex m w h.rest.nums);have H2:=Qa (λw hi=>Ba m d w hi h.rest.frn h.rest.fr);have H3:=Qa (λw hi=>OH m d w hi h.rest.prn (Y6 h.rest.pin (by decide)) h.rest.pr h.rest.frn.2);have H4:=Qa (λw hi=>Ox m d w hi h.rest.pin h.rest.pi);have H5:=Qa (λw=>aI m w h.rest.texts);have H6:=Qa (λw hi=>AJ m d w hi h.disk);have x0:=(Qf w).alloc (.cells m.cells 38);have bm:=QA w 38 m.cells;have HM:=Qa (hi.ext x0);clear h hi;go_enter func17,ntmps17;go_upto_region 1 with fail;generalize w.alloc (.cells m.cells 38)=w1 at *;generalize w.heap.size=G at *;go_upto_region 2 with fail;have xm:Ext w1 (w1.alloc (.cells #[.func (.func 44) #[] #[],.func (.func 45) #[] #[],.func (.func 46) #[] #[],.func (.func 47) #[] #[],.func (.func 48) #[] #[],.func (.func 49) #[] #[]] 44)):=(Qf _).alloc _;have bf:=QA w1 44 #[.func (.func 44) #[] #[],.func (.func 45) #[] #[],.func (.func 46) #[] #[],.func (.func 47) #[] #[],.func (.func 48) #[] #[],.func (.func 49) #[] #[]];have Hg:=bm.ext xm;have js:=Qa (HM.o.ext xm);have xx:=x0.trans xm;generalize hw2:w1.alloc _=w2 at *;generalize w1.heap.size=G1 at *;clear hw2 bm HM x0 xm;go_loopw [8] (λi wx=>∃k:Nat,k<=6/\i=.int .i64 k/\Ext w2 wx) (λi _=>6-(intOf i).toNat);case atStart=>exact⟨0,by omega,rfl,Qf _⟩
 case round =>
  obtain⟨k,hk,rfl,xk⟩:=hrel;have DK:=Hg.ext xk;have Se:=bf.ext xk;have ju:=Qa (js.o.ext xk);by_cases Qo:k<6
  ·have Vf:(k:Int)<6:=by omega
   have HX:=Qa xk;clear xk Hg bf js;rcases(by omega:k=0\/k=1\/k=2\/k=3\/k=4\/k=5) with h0|h0|h0|h0|h0|h0
   ·have hf:wr.cell? ⟨G1,k,none⟩=some (.func (.func 44) #[] #[]):=by rw[h0];exact Se.cell 0
    clear h0 Se
    go_wp2_with (first
     | (refine QI (.tmp 1) rfl rfl G _ _ rfl DK rfl ?_)
     | (go_at_call 44;refine(H1.o _).mono ?_;rintro e w3 ⟨rfl,x3⟩))
    go_roundw;case rel=>exact⟨k+1,by omega,by go_num,HX.o.trans x3⟩
    case measure=>simp[intOf];omega
   ·have hf:wr.cell? ⟨G1,k,none⟩=some (.func (.func 45) #[] #[]):=by rw[h0];exact Se.cell 1
    clear h0 Se
    go_wp2_with (first
     | (refine QI (.tmp 1) rfl rfl G _ _ rfl DK rfl ?_)
     | (go_at_call 45;refine(H2.o _ ju.o).mono ?_;rintro e w3 ⟨rfl,x3⟩))
    go_roundw;case rel=>exact⟨k+1,by omega,by go_num,HX.o.trans x3⟩
    case measure=>simp[intOf];omega
   ·have hf:wr.cell? ⟨G1,k,none⟩=some (.func (.func 46) #[] #[]):=by rw[h0];exact Se.cell 2
    clear h0 Se
    go_wp2_with (first
     | (refine QI (.tmp 1) rfl rfl G _ _ rfl DK rfl ?_)
     | (go_at_call 46;refine(H3.o _ ju.o).mono ?_;rintro e w3 ⟨rfl,x3⟩))
    go_roundw;case rel=>exact⟨k+1,by omega,by go_num,HX.o.trans x3⟩
    case measure=>simp[intOf];omega
   ·have hf:wr.cell? ⟨G1,k,none⟩=some (.func (.func 47) #[] #[]):=by rw[h0];exact Se.cell 3
    clear h0 Se
    go_wp2_with (first
     | (refine QI (.tmp 1) rfl rfl G _ _ rfl DK rfl ?_)
     | (go_at_call 47;refine(H4.o _ ju.o).mono ?_;rintro e w3 ⟨rfl,x3⟩))
    go_roundw;case rel=>exact⟨k+1,by omega,by go_num,HX.o.trans x3⟩
    case measure=>simp[intOf];omega
   ·have hf:wr.cell? ⟨G1,k,none⟩=some (.func (.func 48) #[] #[]):=by rw[h0];exact Se.cell 4
    clear h0 Se
    go_wp2_with (first
     | (refine QI (.tmp 1) rfl rfl G _ _ rfl DK rfl ?_)
     | (go_at_call 48;refine(H5.o _).mono ?_;rintro e w3 ⟨rfl,x3⟩))
    go_roundw;case rel=>exact⟨k+1,by omega,by go_num,HX.o.trans x3⟩
    case measure=>simp[intOf];omega
   ·have hf:wr.cell? ⟨G1,k,none⟩=some (.func (.func 49) #[] #[]):=by rw[h0];exact Se.cell 5
    clear h0 Se
    go_wp2_with (first
     | (refine QI (.tmp 1) rfl rfl G _ _ rfl DK rfl ?_)
     | (go_at_call 49;refine(H6.o _ ju.o).mono ?_;rintro e w3 ⟨rfl,x3⟩))
    go_roundw;case rel=>exact⟨k+1,by omega,by go_num,HX.o.trans x3⟩
    case measure=>simp[intOf];omega
  ·have Kk:¬(k:Int)<6:=by omega
   go_wp2_with fail;go_ret;exact⟨rfl,xx.trans xk⟩
def gj (l:List QN) (pid:Int) (e:Ending):Prop:=∃b,e=.returned (.bool b)/\(b=true↔VC l pid)
def mB (l:List Zs) (id:Int) (e:Ending):Prop:=∃(y:Zs) (b:Bool),e=.returned (.tuple #[.agg #[.int .i64 y.1,.string (Qb y.2)],.bool b])/\(b=true↔∃z∈l,z.1=id)
def FdR (l:List Zs) (k n p:Int) (e:Ending):Prop:=∃b,e=.returned (.bool b)/\(b=true↔FH l k n p)
def Kp {α:Type} (f:α->Prop) (l:List α) (k:Nat):Prop:=∀(i:Nat) (h:i<l.length),i<k->¬f l[i]
theorem Kp.zero {α:Type} {f:α->Prop}{l:List α}:Kp f l 0:=λ_ _ h=>absurd h (Nat.not_lt_zero _)
theorem Kp.next {α:Type} {f:α->Prop}{l:List α}{k:Nat}(h:Kp f l k) (hk:k<l.length) (hn:¬f l[k]):Kp f l (k+1):=λi hi Br=>by
 by_cases e:i<k
 ·exact h i hi e
 ·obtain rfl:i=k:=by omega
  exact hn
theorem Kp.all {α:Type} {f:α->Prop}{l:List α}(h:Kp f l l.length):¬∃y∈l,f y:=λ⟨y,hy,hf⟩=>by
 obtain⟨i,hi,rfl⟩:=aj hy;exact h i hi hi hf
theorem ZT {p:Prop}(h:¬p):(false=true↔p):=⟨λe=>(by cases e),λe=>absurd e h⟩
theorem Tv {p:Prop}(h:p):(true=true↔p):=⟨λ_=>h,λ_=>rfl⟩
theorem I8 (m:Q1) (l:List QN) (pid:Int) (w:World) (h:Q8 QJ w m.pr.A m.pr.n l) (hpk:m.pr.n<=4000) :
  Calls prog 96 #[.agg m.cells,.int .i64 pid] w λe w'=>gj l pid e/\Ext w w':=by
 obtain⟨Mi,hp2⟩:=h;have xa:Ext w (w.alloc (.cells m.cells 38)):=(Qf _).alloc _;have ba:=QA w 38 m.cells;have q5:(w.alloc (.cells m.cells 38)).cell? ⟨w.heap.size,5,none⟩=some (.slice m.pr.A m.pr.n m.pr.c):=ba.cell 5;go_enter func96,ntmps96;go_wp2_with fail;clear q5 ba;generalize w.alloc (.cells m.cells 38)=w1 at *;try rw[Mi]
 rw[Mi]at hpk;have bL:=Qa Mi;clear Mi;generalize m.pr.A=A at *;go_loopw [6,10] (λ_ i wx=>∃k:Nat,k<=l.length/\i=.int .i64 k/\Ext w wx/\Kp (λy:QN=>y.pid=pid/\(y.state=1\/y.state=2)) l k) (λ_ i _=>l.length-(intOf i).toNat);case atStart=>exact⟨0,by omega,rfl,xa,Kp.zero⟩
 case round =>
  obtain⟨k,hk,rfl,xk,hnk⟩:=hrel;have ae:=Qa hnk;clear hnk;by_cases Qo:k<l.length
  ·obtain⟨b,o,rfl,Qd⟩:=hp2 (by rw[bL.o];omega);have r1:=Z9 (XC Qd Qo) xk;clear Qd;have Vf:(k:Int)<(l.length:Int):=by omega
   have HL:=Qa (show l[k].pid=pid->(l[k].state=1\/l[k].state=2)->VC l pid fromλh1 h2=>⟨l[k],FM Qo,h1,h2⟩);have gY:=Qa (λh=>ae.o.next Qo h);clear ae;generalize l[k]=y at *
   go_upto_region 4 with(first
    | (refine Zk (.tmp 12) rfl rfl b (o+k*96) y rfl r1 ?_)
    | (refine VA (.tmp 6) (.tmp 13) rfl rfl wr.heap.size y _ 57 rfl rfl (QA _ _ _) rfl ?_;intro w2 b2 g2))
   have x2:Ext w w2:=(xk.alloc _).grown g2 (λj e=>by cases e;exact xk.size);have c0:w2.cell? ⟨wr.heap.size,0,none⟩=some (.int .i64 y.pid):=b2.cell 0;have c2:w2.cell? ⟨wr.heap.size,2,none⟩=some (.int .i64 y.state):=b2.cell 2;clear g2 r1 b2;rcases UK (y.pid==pid) with d1|d1
   ·rcases UK (y.state==1) with d2|d2
    ·have HD:=Qa (HL.o (by simpa using d1) (.inl (by simpa using d2)));go_wp2_with fail;go_ret;exact⟨⟨true,rfl,Tv HD.o⟩,x2⟩
    ·rcases UK (y.state==2) with d3|d3
     ·have HD:=Qa (HL.o (by simpa using d1) (.inr (by simpa using d3)));go_wp2_with fail;go_ret;exact⟨⟨true,rfl,Tv HD.o⟩,x2⟩
     ·have gX:=Qa (gY.o (λh=>by
       rcases h.2 with e|e
       ·rw[e]at d2;simp at d2
       ·rw[e]at d3;simp at d3))
      go_wp2_with fail;go_roundw;case rel=>exact⟨k+1,by omega,by go_num,x2,gX.o⟩
      case measure=>simp[intOf];omega
   ·have gX:=Qa (gY.o (λh=>by rw[h.1]at d1;simp at d1));go_wp2_with fail;go_roundw;case rel=>exact⟨k+1,by omega,by go_num,x2,gX.o⟩
    case measure=>simp[intOf];omega
  ·obtain rfl:k=l.length:=by omega
   go_wp2_with fail;go_ret;exact⟨⟨false,rfl,ZT (λh=>ae.o.all h)⟩,xk⟩
theorem aR (m:Q1) (l:List QN) (fr:Int) (w:World) (h:Q8 QJ w m.pr.A m.pr.n l) (hn:m.pr.n<=4000) :
  Calls prog 81 #[.agg m.cells,.int .i64 fr] w λe w'=>e=.returned (.int .i64 (JV l fr l.length))/\Ext w w':=by
 obtain⟨Mi,hp2⟩:=h;have xa:Ext w (w.alloc (.cells m.cells 38)):=(Qf _).alloc _;have ba:=QA w 38 m.cells;have q5:(w.alloc (.cells m.cells 38)).cell? ⟨w.heap.size,5,none⟩=some (.slice m.pr.A m.pr.n m.pr.c):=ba.cell 5;go_enter func81,ntmps81;go_wp2_with fail;clear q5 ba;generalize w.alloc (.cells m.cells 38)=w1 at *;try rw[Mi]
 rw[Mi]at hn;have bL:=Qa Mi;clear Mi;generalize m.pr.A=A at *;go_loopw [5,13] (λt i wx=>∃(k:Nat),k<=l.length/\i=.int .i64 k/\t=.int .i64 (JV l fr k)/\JV l fr k<=16*k/\Ext w wx) (λ_ i _=>l.length-(intOf i).toNat);case atStart=>exact⟨0,by omega,rfl,rfl,by simp[JV],xa⟩
 case round =>
  obtain⟨k,hk,rfl,rfl,hz,xk⟩:=hrel;by_cases Qo:k<l.length
  ·obtain⟨b,o,rfl,Qd⟩:=hp2 (by rw[bL.o];omega);have r1:=Z9 (XC Qd Qo) xk;clear Qd;have Vf:(k:Int)<(l.length:Int):=by omega
   have HU:=Qa (show JV l fr (k+1)=JV l fr k+Yk l[k] fr 16 by
    rw[JV,ZG,JZ Qo];rfl)
   generalize l[k]=y at *;generalize JV l fr k=z at *
   go_wp2_with (first
    | (refine Zk (.tmp 15) rfl rfl b (o+k*96) y rfl r1 ?_)
    | (refine VA (.tmp 7) (.tmp 16) rfl rfl wr.heap.size y _ 57 rfl rfl (QA _ _ _) rfl ?_;intro w2 b2 g2;have x2:Ext w w2:=(xk.alloc _).grown g2 (λj e=>by cases e;exact xk.size))
    | (refine X3 (.tmp 17) rfl rfl wr.heap.size 57 y rfl b2 ?_))
   go_loopw [5,19] (λt i wx=>∃(j:Nat),j<=16/\i=.int .i64 j/\t=.int .i64 ((z+Yk y fr j:Nat):Int)/\Yk y fr j<=j/\Ext w wx) (λ_ i _=>16-(intOf i).toNat);case atStart=>exact⟨0,by omega,rfl,rfl,by simp[Yk],x2⟩
   case round =>
    clear r1 b2 g2 xk x2;obtain⟨j,hj,rfl,rfl,hz2,xj⟩:=hrel;by_cases Nf:j<16
    ·have Gd:(j:Int)<16:=by omega
     have HC:=Qa (show Yk y fr (j+1)=Yk y fr j+(if y.pis j=true/\y.pfr j=fr then 1 else 0) from rfl);generalize Yk y fr j=c at *;cases e1:y.pis j with
     | false =>
      have Pt:=Qa (HC.o.trans (by rw[e1,Qr (λh=>by cases h.1)]))
      go_wp2_with (first
       | (refine YN (.tmp 18) (.tmp 19) rfl rfl y j rfl rfl Nf ?_;rw[e1]))
      go_roundw;case rel=>exact⟨j+1,by omega,by go_num,by rw[Pt.o];rfl,by rw[Pt.o];omega,xj.alloc _⟩
      case measure=>simp[intOf];omega
     | true =>
      rcases UK (y.pfr j==fr) with e2|e2
      ·have Pt:=Qa (HC.o.trans (by rw[Qv ⟨e1,by simpa using e2⟩]))
       go_wp2_with (first
        | (refine YN (.tmp 18) (.tmp 19) rfl rfl y j rfl rfl Nf ?_;rw[e1]))
       go_roundw;case rel=>exact⟨j+1,by omega,by go_num,by rw[Pt.o];go_num,by rw[Pt.o];omega,xj.alloc _⟩
       case measure=>simp[intOf];omega
      ·have Pt:=Qa (HC.o.trans (by rw[Qr (λh=>by simp[h.2]at e2)]))
       go_wp2_with (first
        | (refine YN (.tmp 18) (.tmp 19) rfl rfl y j rfl rfl Nf ?_;rw[e1]))
       go_roundw;case rel=>exact⟨j+1,by omega,by go_num,by rw[Pt.o];rfl,by rw[Pt.o];omega,xj.alloc _⟩
       case measure=>simp[intOf];omega
    ·have UU:¬(j:Int)<16:=by omega
     have HJ:=Qa (show j=16 by omega);go_wp2_with fail;go_roundw;case rel=>exact⟨k+1,by omega,by go_num,by rw[HU.o,←HJ.o],by rw[HU.o];have h1:=hz2;rw[HJ.o]at h1;omega,xj⟩
     case measure=>simp[intOf];omega
  ·obtain rfl:k=l.length:=by omega
   go_wp2_with fail;go_ret;exact⟨by rfl,xk⟩
theorem OX (m:Q1) (l:List Zs) (id:Int) (w:World) (h:Fr w m.pi.A m.pi.n l) (hpk:m.pi.n<=4000) :
  Calls prog 167 #[.agg m.cells,.int .i64 id] w λe w'=>mB l id e/\Ext w w':=by
 obtain⟨Mi,hp2⟩:=h;have xa:Ext w (w.alloc (.cells m.cells 38)):=(Qf _).alloc _;have ba:=(QA w 38 m.cells).ext ((Qf _).alloc (.cells #[.int .i64 0,.string ⟨#[]⟩] 95));have q8:((w.alloc (.cells m.cells 38)).alloc (.cells #[.int .i64 0,.string ⟨#[]⟩] 95)).cell? ⟨w.heap.size,8,none⟩=some (.slice m.pi.A m.pi.n m.pi.c):=ba.cell 8;have b4:Box ((w.alloc (.cells m.cells 38)).alloc (.cells #[.int .i64 0,.string ⟨#[]⟩] 95)) (w.heap.size+1) 95 #[.int .i64 0,.string ⟨#[]⟩]:=by have:=QA (w.alloc (.cells m.cells 38)) 95 #[.int .i64 0,.string ⟨#[]⟩];rw[Ki]at this;exact this
 have jn:=xa.alloc (.cells #[.int .i64 0,.string ⟨#[]⟩] 95);go_enter func167,ntmps167;go_wp2_with fail;clear q8 ba xa;generalize ((w.alloc (.cells m.cells 38)).alloc (.cells #[.int .i64 0,.string ⟨#[]⟩] 95))=w1 at *;try rw[Mi]
 rw[Mi]at hpk;have bL:=Qa Mi;clear Mi;generalize m.pi.A=A at *;go_loopw [7,11] (λ_ i wx=>∃(k:Nat),k<=l.length/\i=.int .i64 k/\Ext w wx/\Box wx (w.heap.size+1) 95 #[.int .i64 0,.string ⟨#[]⟩]/\Kp (λy:Zs=>y.1=id) l k) (λ_ i _=>l.length-(intOf i).toNat);case atStart=>exact⟨0,by omega,rfl,jn,b4,Kp.zero⟩
 case round =>
  obtain⟨k,hk,rfl,xk,bk,hnk⟩:=hrel;have ae:=Qa hnk;clear hnk;by_cases Qo:k<l.length
  ·obtain⟨b,o,rfl,Qd⟩:=hp2 (by rw[bL.o];omega);have e1:=xk.keep (Qd k Qo).1;have e2:=xk.keep (Qd k Qo).2;clear Qd;have Vf:(k:Int)<(l.length:Int):=by omega
   have HL:=Qa (show l[k].1=id->∃z∈l,z.1=id fromλh1=>⟨l[k],FM Qo,h1⟩);have gY:=Qa (λh=>ae.o.next Qo h);clear ae;generalize l[k]=y at *;have uo:=bk.ext ((Qf wr).alloc (.cells #[.int .i64 y.1,.string (Qb y.2)] 95));rcases UK (y.1==id) with d1|d1
   ·have HD:=Qa (HL.o (by simpa using d1))
    go_wp2_with (first
     | (refine Pk (.tmp 4) (.tmp 19) rfl rfl (w.heap.size+1) y.1 (Qb y.2) _ 95 rfl rfl uo rfl ?_;intro w2 b2 g2;have x2:Ext w w2:=(xk.alloc _).grown g2 (λj e=>by cases e;omega)))
    exact ZD (v:=.tuple #[.agg #[.int .i64 y.1,.string (Qb y.2)],.bool true]) (Qn Tryz.results167 _ _ _ _ _ _ _ rfl rfl b2 underlying95 rfl RA) rfl ⟨⟨_,_,rfl,Tv HD.o⟩,x2⟩
   ·have gX:=Qa (gY.o (λh=>by rw[h]at d1;simp at d1));go_wp2_with fail;go_roundw;case rel=>exact⟨k+1,by omega,by go_num,xk.alloc _,uo,gX.o⟩
    case measure=>simp[intOf];omega
  ·obtain rfl:k=l.length:=by omega
   go_wp2_with (first
    | (refine Pk (.tmp 4) (.tmp 21) rfl rfl (w.heap.size+1) 0 ⟨#[]⟩ _ 95 rfl rfl bk rfl ?_;intro w2 b2 g2;have x2:Ext w w2:=xk.grown g2 (λj e=>by cases e;omega)))
   exact ZD (v:=.tuple #[.agg #[.int .i64 0,.string ⟨#[]⟩],.bool false]) (Qn Tryz.results167 _ _ _ _ _ _ _ rfl rfl b2 underlying95 rfl RA) rfl ⟨⟨(0,[]),_,rfl,ZT (λh=>ae.o.all h)⟩,x2⟩
theorem FY {l:List Zs}{k n p:Int}(hk:k<=2) (hn:n≠0) (h:FH l k n p):False:=by
 rcases h with⟨_,h,_⟩|⟨h,_⟩|⟨h,_⟩<;>omega
theorem La {l:List Zs}{k n p:Int}(hk:k=0\/k=1\/k=2) (hn:n=0):((p==0)=true↔FH l k n p):=by
 constructor
 ·intro h;exact .inl ⟨hk,hn,by simpa using h⟩
 ·intro h;rcases h with⟨_,_,h⟩|⟨h,_⟩|⟨h,_⟩
  ·simpa using h
  ·omega
  ·omega
theorem Wm {l:List Zs}{n p:Int}(h:FH l 3 n p):1<=n/\n<=64/\0<=p/\p<=8960:=by
 rcases h with⟨h,_⟩|⟨_,h⟩|⟨h,_⟩
 ·omega
 ·exact h
 ·omega
theorem Th {l:List Zs}{k n p:Int}(hk:k=4\/k=5) (h:FH l k n p):p=0/\∃z∈l,z.1=n:=by
 rcases h with⟨h,_⟩|⟨h,_⟩|⟨_,h⟩
 ·omega
 ·omega
 ·exact h
theorem cY {l:List Zs}{k n p:Int}(hk:¬(k=0\/k=1\/k=2\/k=3\/k=4\/k=5)) (h:FH l k n p):False:=by
 rcases h with⟨h,_⟩|⟨h,_⟩|⟨h,_⟩<;>omega
theorem jT (m:Q1) (l:List Zs) (k n p:Int) (w:World) (h:Fr w m.pi.A m.pi.n l) (hpk:m.pi.n<=4000) :
  Calls prog 97 #[.agg m.cells,.agg #[.int .i64 k,.int .i64 n,.int .i64 p]] w λe w'=>FdR l k n p e/\Ext w w':=by
 have xa:Ext w ((w.alloc (.cells m.cells 38)).alloc (.cells #[.int .i64 k,.int .i64 n,.int .i64 p] 54)):=((Qf _).alloc _).alloc _;have ba:=(QA w 38 m.cells).ext ((Qf _).alloc (.cells #[.int .i64 k,.int .i64 n,.int .i64 p] 54));have HP:=Qa (λid w h=>OX m l id w h hpk);have h2:=h.ext xa;have bf:=QA (w.alloc (.cells m.cells 38)) 54 #[.int .i64 k,.int .i64 n,.int .i64 p];rw[Ki]at bf;clear h;go_enter func97,ntmps97
 go_upto_region 2 with(first
  | (refine QI (.tmp 2) rfl rfl w.heap.size _ 38 rfl ba rfl ?_)
  | (go_at_call 167;refine(HP.o _ _ h2).mono ?_;rintro e w1 ⟨⟨y,b1,rfl,ZS⟩,x1⟩;have rd:=(bf.ext x1).ext ((Qf w1).alloc (.cells #[.int .i64 y.1,.string (Qb y.2)] 95));have f0:=rd.cell 0;have f1:=rd.cell 1;have f2:=rd.cell 2;have xw:=(xa.trans x1).alloc (.cells #[.int .i64 y.1,.string (Qb y.2)] 95);have HB:=Qa ZS;clear ZS))
 rcases(by omega:k=0\/k=1\/k=2\/k=3\/k=4\/k=5\/(k≠0/\k≠1/\k≠2/\k≠3/\k≠4/\k≠5)) with rfl|rfl|rfl|rfl|rfl|rfl|⟨h0,h1,h2,h3,h4,h5⟩
 ·rcases UK (n==0) with d1|d1<;>go_wp2_with fail
  all_goals
   go_ret;exact⟨⟨_,rfl,by first|exact ZT (λh=>FY (by omega) (by simpa using d1) h)|exact La (by omega) (by simpa using d1)⟩,xw⟩
 ·rcases UK (n==0) with d1|d1<;>go_wp2_with fail
  all_goals
   go_ret;exact⟨⟨_,rfl,by first|exact ZT (λh=>FY (by omega) (by simpa using d1) h)|exact La (by omega) (by simpa using d1)⟩,xw⟩
 ·rcases UK (n==0) with d1|d1<;>go_wp2_with fail
  all_goals
   go_ret;exact⟨⟨_,rfl,by first|exact ZT (λh=>FY (by omega) (by simpa using d1) h)|exact La (by omega) (by simpa using d1)⟩,xw⟩
 ·rcases UK (decide (1<=n)) with d1|d1
  ·rcases UK (decide (n<=64)) with d2|d2
   ·rcases UK (decide (0<=p)) with d3|d3
    ·go_wp2_with fail;go_ret;exact⟨⟨_,rfl,λh=>.inr (.inl ⟨rfl,VY d1,VY d2,VY d3,VY h⟩),λh=>Ve (Wm h).2.2.2⟩,xw⟩
    ·go_wp2_with fail;go_ret;exact⟨⟨false,rfl,ZT (λh=>SI d3 (Wm h).2.2.1)⟩,xw⟩
   ·go_wp2_with fail;go_ret;exact⟨⟨false,rfl,ZT (λh=>SI d2 (Wm h).2.1)⟩,xw⟩
  ·go_wp2_with fail;go_ret;exact⟨⟨false,rfl,ZT (λh=>SI d1 (Wm h).1)⟩,xw⟩
 ·rcases UK (p==0) with d1|d1
  ·go_wp2_with fail;go_ret;exact⟨⟨b1,rfl,λh=>.inr (.inr ⟨by omega,by simpa using d1,HB.o.1 h⟩),λh=>HB.o.2 (Th (by omega) h).2⟩,xw⟩
  ·go_wp2_with fail;go_ret;exact⟨⟨false,rfl,ZT (λh=>by have:=(Th (by omega) h).1;rw[this]at d1;simp at d1)⟩,xw⟩
 ·rcases UK (p==0) with d1|d1
  ·go_wp2_with fail;go_ret;exact⟨⟨b1,rfl,λh=>.inr (.inr ⟨by omega,by simpa using d1,HB.o.1 h⟩),λh=>HB.o.2 (Th (by omega) h).2⟩,xw⟩
  ·go_wp2_with fail;go_ret;exact⟨⟨false,rfl,ZT (λh=>by have:=(Th (by omega) h).1;rw[this]at d1;simp at d1)⟩,xw⟩
 ·have e0:(k==0)=false:=by simpa using h0
  have e1:(k==1)=false:=by simpa using h1
  have e2:(k==2)=false:=by simpa using h2
  have e3:(k==3)=false:=by simpa using h3
  have e4:(k==4)=false:=by simpa using h4
  have e5:(k==5)=false:=by simpa using h5
  have H05:=Qa (show¬(k=0\/k=1\/k=2\/k=3\/k=4\/k=5) by omega);clear h0 h1 h2 h3 h4 h5;go_wp2_with fail;go_ret;exact⟨⟨false,rfl,ZT (λh=>cY H05.o h)⟩,xw⟩
def ey (m:Q1) (d:QL) (y:QN) (e:Ending):Prop:=∃b,e=.returned (.bool b)/\(b=true↔Yy m d y)
def Y4 (v:Value) (p:Prop):Prop:=∃b,v=.bool b/\(b=false↔p)
theorem Y4.yes {p:Prop}(h:¬p):Y4 (.bool true) p:=⟨true,rfl,λe=>(by cases e),λk=>absurd k h⟩
theorem Y4.of {b:Bool}{p:Prop}(h:b=false↔p):Y4 (.bool b) p:=⟨b,rfl,h⟩
theorem Y4.no {p:Prop}(h:p):Y4 (.bool false) p:=⟨false,rfl,λ_=>h,λ_=>rfl⟩
theorem VF {a:Int}:((a != 0)=false)↔a=0:=by simp
theorem GR (m:Q1) (d:QL) (y:QN) (w:World) (h:Jg w m d) (Eh:m.pr.n<=4000) (Kz:m.pi.n<=4000) :
  Calls prog 51 #[.agg m.cells,.agg (QJ y).toArray] w λe w'=>ey m d y e/\Ext w w':=by
 have HL:=Qa (λid w (h:Jg w m d)=>I8 m d.pr id w h.pr Eh);have HU:=Qa (λid w (h:Jg w m d)=>aR m d.pr id w h.pr Eh);have HF:=Qa (λk n p w (h:Jg w m d)=>jT m d.pi k n p w h.pi.wrs Kz);go_enter func51,ntmps51;go_upto_region 1 with fail;have xa:Ext w ((w.alloc (.cells m.cells 38)).alloc (.cells (QJ y).toArray 57)):=((Qf _).alloc _).alloc _;have bm:=(QA w 38 m.cells).ext ((Qf _).alloc (.cells (QJ y).toArray 57));have bp:=QA (w.alloc (.cells m.cells 38)) 57 (QJ y).toArray;rw[Ki]at bp;generalize (w.alloc (.cells m.cells 38)).alloc (.cells (QJ y).toArray 57)=w1 at *;have h1:=h.ext xa;have cf:∀wx,Ext w1 wx->wx.cell? ⟨w.heap.size+1,0,none⟩=some (.int .i64 y.pid)/\wx.cell? ⟨w.heap.size+1,1,none⟩=some (.int .i64 y.parent)/\wx.cell? ⟨w.heap.size+1,2,none⟩=some (.int .i64 y.state)/\wx.cell? ⟨w.heap.size+1,3,none⟩=some (.int .u32 (y.reg 0))/\wx.cell? ⟨w.heap.size+1,93,none⟩=some (.int .u32 y.code)/\wx.cell? ⟨w.heap.size+1,94,none⟩=some (.int .i64 y.why)/\wx.cell? ⟨w.heap.size+1,95,none⟩=some (.int .u64 y.num)/\wx.cell? ⟨w.heap.size,6,none⟩=some (.int .i64 m.next)/\wx.cell? ⟨w.heap.size,4,none⟩=some (.slice m.fr.A m.fr.n m.fr.c):=λwx x => ⟨(bp.ext x).cell 0,(bp.ext x).cell 1,(bp.ext x).cell 2,(bp.ext x).cell 3,(bp.ext x).cell 93,(bp.ext x).cell 94,(bp.ext x).cell 95,(bm.ext x).cell 6,(bm.ext x).cell 4⟩
 have CF:=Qa cf;clear cf;obtain⟨p0,p1,p2,p3,p93,p94,p95,m6,m4⟩:=CF.o _ (Qf w1);go_upto_region 3 with fail;generalize Wp:(y.state==3)=dead at *;generalize Rc:(y.state==2)=waits at *;have YU:=Qa (show(dead=true->y.state=3)/\(dead=false->y.state≠3) from⟨λh=>by rw[h]at Wp;simpa using Wp,λh=>by rw[h]at Wp;simpa using Wp⟩);have bW:=Qa (show(waits=true->y.state=2)/\(waits=false->y.state≠2) from⟨λh=>by rw[h]at Rc;simpa using Rc,λh=>by rw[h]at Rc;simpa using Rc⟩);clear Wp Rc;go_cut [47] (λs wx=>Y4 s ((1<=y.pid/\y.pid<m.next)/\(y.state=1\/y.state=2\/y.state=3)/\y.reg 0=0)/\w1=wx);case first =>
  as_aux_lemma =>
   have d1:=UK (decide (y.pid<1));have d2:=UK (decide (m.next<=y.pid));have d3:=UK (y.state != 1);clear p1 p93 p94 p95 m4;rcases d1 with d1|d1
   ·have HX:=Qa (VY d1);clear d2 d3;go_wp2_with fail;go_meet;exact⟨Y4.yes (λh=>by have:=h.1;have:=HX.o;omega),rfl⟩
   ·rcases d2 with d2|d2
    ·have HX:=Qa (VY d2);clear d3;go_wp2_with fail;go_meet;exact⟨Y4.yes (λh=>by have:=h.1;have:=HX.o;omega),rfl⟩
    ·have gb:=Qa (show 1<=y.pid/\y.pid<m.next by have:=SI d1;have:=SI d2;omega);rcases d3 with d3|d3
     ·have rG:=Qa (show y.state≠1 by simpa using d3);cases waits
      ·cases dead
       ·go_wp2_with fail;go_meet;exact⟨Y4.yes (λh=>by
         rcases h.2.1 with e|e|e
         ·exact rG.o e
         ·exact bW.o.2 (by first|rfl|trivial) e
         ·exact YU.o.2 (by first|rfl|trivial) e),rfl⟩
       ·go_wp2_with fail;go_meet;exact⟨Y4.of (VF.trans ⟨λh=>⟨gb.o,.inr (.inr (YU.o.1 (by first|rfl|trivial))),h⟩,λh=>h.2.2⟩),rfl⟩
      ·go_wp2_with fail;go_meet;exact⟨Y4.of (VF.trans ⟨λh=>⟨gb.o,.inr (.inl (bW.o.1 (by first|rfl|trivial))),h⟩,λh=>h.2.2⟩),rfl⟩
     ·have rG:=Qa (show y.state=1 by simpa using d3);go_wp2_with fail;go_meet;exact⟨Y4.of (VF.trans ⟨λh=>⟨gb.o,.inl rG.o,h⟩,λh=>h.2.2⟩),rfl⟩
 case rest =>
  obtain⟨⟨b47,rfl,hb47⟩,rfl⟩:=hcut;have kp:=Qa hb47;clear hb47;cases b47 with
  | true => go_wp2_with fail;go_ret;exact⟨⟨false,rfl,ZT (λh=>by have:=kp.o.2 ⟨h.pid,h.state,h.reg⟩;cases this)⟩,xa⟩
  | false =>
   go_upto_region 5 with fail;go_cut [60] (λs wx=>Y4 s (VC d.pr y.parent\/(y.state≠3/\y.parent=0))/\Ext w1 wx);case first =>
    as_aux_lemma =>
     clear p0 p2 p3 p93 p94 p95 m6 m4
     go_wp2_with (first
      | (refine QI (.tmp 2) rfl rfl w.heap.size _ 38 rfl bm rfl ?_)
      | (go_at_call 96;refine(HL.o _ _ h1).mono ?_;rintro e w2 ⟨⟨b2,rfl,Kj⟩,x2⟩;have Ct:=Qa Kj;clear Kj;have p1':=x2.keep p1;clear p1;rcases b2 with _|_<;>rcases dead with _|_))
     ·go_meet;exact⟨Y4.of (VF.trans ⟨λh=>.inr ⟨YU.o.2 (by first|rfl|trivial),h⟩,λh=>h.elim (λh=>by have:=Ct.o.2 h;cases this) (λh=>h.2)⟩),x2⟩
     ·go_meet;exact⟨Y4.yes (λh=>h.elim (λh=>by have:=Ct.o.2 h;cases this) (λh=>h.1 (YU.o.1 (by first|rfl|trivial)))),x2⟩
     ·go_meet;exact⟨Y4.no (.inl (Ct.o.1 (by first|rfl|trivial))),x2⟩
     ·go_meet;exact⟨Y4.no (.inl (Ct.o.1 (by first|rfl|trivial))),x2⟩
   case rest =>
    obtain⟨⟨b60,rfl,hb60⟩,x5⟩:=hcut;have kr:=Qa hb60;clear hb60;clear p0 p1 p2 p3 p93 p94 p95 m6 m4;obtain⟨p0,p1,p2,p3,p93,p94,p95,m6,m4⟩:=CF.o _ x5;cases b60 with
    | true => go_wp2_with fail;go_ret;exact⟨⟨false,rfl,ZT (λh=>by have:=kr.o.2 h.par;cases this)⟩,xa.trans x5⟩
    | false =>
     go_upto_region 7 with fail;go_cut [93] (λs wx=>Y4 s (((y.state=2/\1<=y.why/\y.why<=5)\/(y.state≠2/\y.why=0/\y.num=0))/\(y.state=3\/y.code=0))/\wc=wx);case first =>
      as_aux_lemma =>
       have d1:=UK (y.why != 0);have d2:=UK (decide (y.why<0));have d3:=UK (decide (5<y.why));have d4:=UK (y.num != 0);clear p0 p1 p2 p3 m6 m4;cases waits
       ·rcases d1 with d1|d1
        ·have HX:=Qa (show y.why≠0 by simpa using d1);clear d2 d3 d4;go_wp2_with fail;go_meet;exact⟨Y4.yes (λh=>h.1.elim (λh=>bW.o.2 (by first|rfl|trivial) h.1) (λh=>HX.o h.2.1)),rfl⟩
        ·have ew:=Qa (show y.why=0 by simpa using d1);rcases d2 with d2|d2
         ·have HX:=Qa (VY d2);clear d3 d4;go_wp2_with fail;go_meet;exact⟨Y4.yes (λ_=>by have:=ew.o;have:=HX.o;omega),rfl⟩
         ·rcases d3 with d3|d3
          ·have HX:=Qa (VY d3);clear d4;go_wp2_with fail;go_meet;exact⟨Y4.yes (λ_=>by have:=ew.o;have:=HX.o;omega),rfl⟩
          ·rcases d4 with d4|d4
           ·have HX:=Qa (show y.num≠0 by simpa using d4);go_wp2_with fail;go_meet;exact⟨Y4.yes (λh=>h.1.elim (λh=>bW.o.2 (by first|rfl|trivial) h.1) (λh=>HX.o h.2.2)),rfl⟩
           ·have pN:=Qa (show y.num=0 by simpa using d4);cases dead
            ·go_wp2_with fail;go_meet;exact⟨Y4.of (VF.trans ⟨λh=>⟨.inr ⟨bW.o.2 (by first|rfl|trivial),ew.o,pN.o⟩,.inr h⟩,λh=>h.2.elim (λe=>absurd e (YU.o.2 (by first|rfl|trivial))) id⟩),rfl⟩
            ·go_wp2_with fail;go_meet;exact⟨Y4.no ⟨.inr ⟨bW.o.2 (by first|rfl|trivial),ew.o,pN.o⟩,.inl (YU.o.1 (by first|rfl|trivial))⟩,rfl⟩
       ·rcases d1 with d1|d1
        ·have ew:=Qa (show y.why≠0 by simpa using d1);rcases d2 with d2|d2
         ·have HX:=Qa (VY d2);clear d3 d4;go_wp2_with fail;go_meet;exact⟨Y4.yes (λh=>h.1.elim (λh=>by have:=HX.o;omega) (λh=>ew.o h.2.1)),rfl⟩
         ·have jy:=Qa (SI d2);rcases d3 with d3|d3
          ·have HX:=Qa (VY d3);clear d4;go_wp2_with fail;go_meet;exact⟨Y4.yes (λh=>h.1.elim (λh=>by have:=HX.o;omega) (λh=>ew.o h.2.1)),rfl⟩
          ·have HW2:=Qa (SI d3);clear d4;have uk:=Qa (show 1<=y.why/\y.why<=5 by have:=ew.o;have:=jy.o;have:=HW2.o;omega);cases dead
           ·go_wp2_with fail;go_meet;exact⟨Y4.of (VF.trans ⟨λh=>⟨.inl ⟨bW.o.1 (by first|rfl|trivial),uk.o⟩,.inr h⟩,λh=>h.2.elim (λe=>absurd e (YU.o.2 (by first|rfl|trivial))) id⟩),rfl⟩
           ·go_wp2_with fail;go_meet;exact⟨Y4.no ⟨.inl ⟨bW.o.1 (by first|rfl|trivial),uk.o⟩,.inl (YU.o.1 (by first|rfl|trivial))⟩,rfl⟩
        ·have HX:=Qa (show y.why=0 by simpa using d1);clear d2 d3 d4;go_wp2_with fail;go_meet;exact⟨Y4.yes (λh=>h.1.elim (λh=>by have:=HX.o;omega) (λh=>h.1 (bW.o.1 (by first|rfl|trivial)))),rfl⟩
     case rest =>
      obtain⟨⟨b93,rfl,hb93⟩,rfl⟩:=hcut;have ku:=Qa hb93;clear hb93;cases b93 with
      | true => go_wp2_with fail;go_ret;exact⟨⟨false,rfl,ZT (λh=>by have:=ku.o.2 ⟨h.why,h.code⟩;cases this)⟩,xa.trans x5⟩
      | false =>
       clear p0 p1 p2 p3 p93 p94 p95 m6 m4;have mh:=bp.ext x5;go_wp2_with (refine X3 (.tmp 94) rfl rfl (w.heap.size+1) 57 y rfl mh ?_)
       go_loopw [96] (λi wx=>∃j:Nat,j<=16/\i=.int .i64 j/\Ext w1 wx/\∀q<j,Uw m d y q) (λi _=>16-(intOf i).toNat);case atStart=>exact⟨0,by omega,rfl,x5,λq h=>by omega⟩
       case round =>
        clear x5 mh;obtain⟨j,hj,rfl,xj,ng⟩:=hrel;have jv:=Qa ng;clear ng;by_cases Nf:j<16
        ·have Gd:(j:Int)<16:=by omega
         have YQ:=Qa (show Uw m d y j->∀q<j+1,Uw m d y q fromλh q hq=>by
          by_cases e:q<j
          ·exact jv.o q e
          ·obtain rfl:q=j:=by omega
           exact h)
         have pR:=Qa (show Yy m d y->Uw m d y j fromλh=>h.page j Nf);unfold Uw at YQ pR;go_upto_region 12 with(refine YN (.tmp 95) (.tmp 96) rfl rfl y j rfl rfl Nf ?_)
         clear jv;generalize y.pis j=ia at *;generalize y.pwr j=iw at *;generalize y.pfr j=ifr at *;have bq:=QA wr 50 #[.bool ia,.bool iw,.int .i64 ifr];have xq:=xj.alloc (.cells #[.bool ia,.bool iw,.int .i64 ifr] 50);generalize wr.alloc (.cells #[.bool ia,.bool iw,.int .i64 ifr] 50)=wq at *;have q0:=bq.cell 0;have q1:=bq.cell 1;have q2:=bq.cell 2;go_cut [9] (λs wx=>(∃b,s=.bool b/\(b=true↔ia=false/\iw=false/\ifr=0))/\wq=wx);case first =>
          as_aux_lemma =>
           clear YQ pR;cases ia<;>cases iw<;>go_wp2_with fail
           all_goals
            go_meet;exact⟨⟨_,rfl,by first|(simp;done)|(simp_all;done)|omega⟩,rfl⟩
         case rest =>
          obtain⟨⟨b9,rfl,hb9⟩,rfl⟩:=hcut;have tn:=Qa hb9;clear hb9;have m4:=(CF.o _ xq).2.2.2.2.2.2.2.2;have rh:=bm.ext xq;have h2:=h1.ext xq;go_upto_region 13 with fail;go_cut [135] (λs wx=>Y4 s ((ia=false/\iw=false/\ifr=0)\/(ia=true/\y.state≠3/\0<=ifr/\ifr<(m.fr.n:Int)/\JV d.pr ifr d.pr.length=1))/\Ext wq wx);case first =>
           as_aux_lemma =>
            clear YQ pR;have dA:=UK (decide (ifr<0));have dB:=UK (decide ((m.fr.n:Int)<=ifr));cases ia
            ·clear dA dB;cases b9
             ·go_wp2_with fail;go_meet;exact⟨Y4.yes (λh=>h.elim (λh=>by have:=tn.o.2 h;cases this) (λh=>by cases h.1)),Qf _⟩
             ·go_wp2_with fail;go_meet;exact⟨Y4.no (.inl (tn.o.1 (by first|rfl|trivial))),Qf _⟩
            ·cases dead
             ·rcases dA with dA|dA
              ·have HX:=Qa (VY dA);clear dB;go_wp2_with fail;go_meet;exact⟨Y4.yes (λh=>h.elim (λh=>by cases h.1) (λh=>by have:=HX.o;omega)),Qf _⟩
              ·have HA:=Qa (SI dA);rcases dB with dB|dB
               ·have HX:=Qa (VY dB);go_wp2_with fail;go_meet;exact⟨Y4.yes (λh=>h.elim (λh=>by cases h.1) (λh=>by have:=HX.o;omega)),Qf _⟩
               ·have HBb:=Qa (SI dB)
                go_wp2_with (first
                 | (refine Y2 (.tmp 2) rfl rfl w.heap.size m 38 rfl rh ?_)
                 | (go_at_call 81;refine(HU.o _ _ h2).mono ?_;rintro e w2 ⟨rfl,x2⟩))
                go_meet;exact⟨Y4.of ⟨λh=>.inr ⟨by first|rfl|trivial,YU.o.2 (by first|rfl|trivial),by have:=HA.o;omega,by have:=HBb.o;omega,by have h':((JV d.pr ifr d.pr.length:Nat):Int)=1:=(by simpa using h);omega⟩,λh=>h.elim (λh=>by cases h.1) (λh=>by rw[h.2.2.2.2];rfl)⟩,x2⟩
             ·clear dA dB;go_wp2_with fail;go_meet;exact⟨Y4.yes (λh=>h.elim (λh=>by cases h.1) (λh=>h.2.1 (YU.o.1 (by first|rfl|trivial)))),Qf _⟩
          case rest =>
           obtain⟨⟨b135,rfl,hb135⟩,x9⟩:=hcut;have ea:=Qa hb135;clear hb135;cases b135 with
           | true => go_wp2_with fail;go_ret;exact⟨⟨false,rfl,ZT (λh=>by have:=ea.o.2 (pR.o h);cases this)⟩,xa.trans (xq.trans x9)⟩
           | false =>
            go_wp2_with fail;go_roundw;case rel=>exact⟨j+1,by omega,by go_num,xq.trans x9,YQ.o (ea.o.1 (by first|rfl|trivial))⟩
            case measure=>simp[intOf];omega
        ·have gV:=Qa (show j=16 by omega);have UU:¬(j:Int)<16:=by omega
         have mh:=bp.ext xj;go_wp2_with (refine NA (.tmp 137) rfl rfl (w.heap.size+1) 57 y rfl mh ?_)
         go_loopw [139] (λi wx=>∃j:Nat,j<=8/\i=.int .i64 j/\Ext w1 wx/\∀q<j,FH d.pi (y.fk q) (y.fn q) (y.fp q)/\(y.state=3->y.fk q=0)) (λi _=>8-(intOf i).toNat);case atStart=>exact⟨0,by omega,rfl,xj,λq h=>by omega⟩
         case round =>
          clear xj mh UU;obtain⟨j2,hj,rfl,xj,hfd⟩:=hrel;have lH:=Qa hfd;clear hfd;by_cases Nf:j2<8
          ·have Gd:(j2:Int)<8:=by omega
           have ef:=Qa (show(FH d.pi (y.fk j2) (y.fn j2) (y.fp j2)/\(y.state=3->y.fk j2=0))->∀q<j2+1,FH d.pi (y.fk q) (y.fn q) (y.fp q)/\(y.state=3->y.fk q=0) fromλh q hq=>by
            by_cases e:q<j2
            ·exact lH.o q e
            ·obtain rfl:q=j2:=by omega
             exact h)
           have tx:=Qa (show Yy m d y->FH d.pi (y.fk j2) (y.fn j2) (y.fp j2)/\(y.state=3->y.fk j2=0) fromλh=>h.fd j2 Nf);go_upto_region 19 with(refine Nz (.tmp 138) (.tmp 139) rfl rfl y j2 rfl rfl Nf ?_)
           clear lH;obtain⟨ik,Br⟩:∃x,x=y.fk j2:=⟨_,rfl⟩
           obtain⟨ifn,hifn⟩:∃x,x=y.fn j2:=⟨_,rfl⟩
           obtain⟨ifp,hifp⟩:∃x,x=y.fp j2:=⟨_,rfl⟩
           have lK:=Qa (λ(h:FH d.pi ik ifn ifp/\(y.state=3->ik=0))=>ef.o (by rw[←Br,←hifn,←hifp];exact h));have lJ:=Qa (λ(h:Yy m d y)=>show FH d.pi ik ifn ifp/\(y.state=3->ik=0) by rw[Br,hifn,hifp];exact tx.o h);clear ef tx;rw[←Br,←hifn,←hifp];clear Br hifn hifp;have bq:=QA wr 54 #[.int .i64 ik,.int .i64 ifn,.int .i64 ifp];have xq:=xj.alloc (.cells #[.int .i64 ik,.int .i64 ifn,.int .i64 ifp] 54);generalize wr.alloc (.cells #[.int .i64 ik,.int .i64 ifn,.int .i64 ifp] 54)=wq at *;have q0:wq.cell? ⟨wr.heap.size,0,none⟩=some (.int .i64 ik):=bq.cell 0;have q1:=bq.cell 1;have q2:=bq.cell 2;have rh:=bm.ext xq;have h2:=h1.ext xq;go_cut [153] (λs wx=>Y4 s (FH d.pi ik ifn ifp/\(y.state=3->ik=0))/\Ext wq wx);case first =>
            as_aux_lemma =>
             clear lK lJ
             go_wp2_with (first
              | (refine QI (.tmp 2) rfl rfl w.heap.size _ 38 rfl rh rfl ?_)
              | (go_at_call 97;refine(HF.o _ _ _ _ h2).mono ?_;rintro e w2 ⟨⟨b2,rfl,Kj⟩,x2⟩;have Ct:=Qa Kj;clear Kj;have q0':=x2.keep q0;clear q0;rcases b2 with _|_<;>rcases dead with _|_))
             ·go_meet;exact⟨Y4.yes (λh=>by have:=Ct.o.2 h.1;cases this),x2⟩
             ·go_meet;exact⟨Y4.yes (λh=>by have:=Ct.o.2 h.1;cases this),x2⟩
             ·go_meet;exact⟨Y4.no ⟨Ct.o.1 (by first|rfl|trivial),λh3=>absurd h3 (YU.o.2 (by first|rfl|trivial))⟩,x2⟩
             ·go_meet;exact⟨Y4.of (VF.trans ⟨λh=>⟨Ct.o.1 (by first|rfl|trivial),λ_=>h⟩,λh=>h.2 (YU.o.1 (by first|rfl|trivial))⟩),x2⟩
           case rest =>
            obtain⟨⟨b153,rfl,hb153⟩,x9⟩:=hcut;have eb:=Qa hb153;clear hb153;cases b153 with
            | true => go_wp2_with fail;go_ret;exact⟨⟨false,rfl,ZT (λh=>by have:=eb.o.2 (lJ.o h);cases this)⟩,xa.trans (xq.trans x9)⟩
            | false =>
             go_wp2_with fail;go_roundw;case rel=>exact⟨j2+1,by omega,by go_num,xq.trans x9,lK.o (eb.o.1 (by first|rfl|trivial))⟩
             case measure=>simp[intOf];omega
          ·have UU:¬(j2:Int)<8:=by omega
           have HJ8:=Qa (show j2=8 by omega);go_wp2_with fail;go_ret;refine⟨⟨true,rfl,Tv ?_⟩,xa.trans xj⟩;obtain⟨a1,a2,a3⟩:=kp.o.1 (by first|rfl|trivial);obtain⟨c1,c2⟩:=ku.o.1 (by first|rfl|trivial);exact⟨a1,a2,a3,kr.o.1 (by first|rfl|trivial),c1,c2,λq hq=>jv.o q (by rw[gV.o];exact hq),λq hq=>lH.o q (by rw[HJ8.o];exact hq)⟩
section
variable {P:Program}{C:World->Prop}{o:Oper}{a:Act}{K:Act->Prop}
theorem KL (ty:TypeId) (x:Operand) (h:o.op=.load ty x) (b i:Nat) (hx:a.eval x=.pointer (some ⟨b,i,none⟩)) (cs:List Value) (d:TypeDesc) (hc:∀w,C w->w.rangeAt b i cs)
  (hu:P.underlying ty=some d) (hd:d.isRow=true) (hi:(P.info? ty).map (·.size)=some cs.length) (hk:K (a.put o.dst (.agg cs.toArray))):o.quiet P a C K :=
 ⟨_,λw hw=>by
  unfold Oper.quietAt execOp;simp only[h,hx,Instr.loadAt,Instr.sureAddr,WW,Fp,MZ,run_loadVar_mid w b i ty cs d (hc w hw) hu hd hi];exact⟨rfl,rfl⟩,hk⟩
end
theorem BV {w:World}{g:Nat}{t:TypeId}{m:Q1}(h:Box w g t m.cells):w.rangeAt g 0 m.cells.toList:=λj v hj=>by
 rw[Ux];exact(h.cell j).trans (by rw[←hj];simp)
theorem Ag {w:World}{g:Nat}{t:TypeId}{p:QN}(h:Box w g t (QJ p).toArray):w.rangeAt g 0 (QJ p):=λj v hj=>by
 rw[Ux];exact(h.cell j).trans (by rw[←hj];simp)
section
variable {C:World->Prop}{o:Oper}{a:Act}{K:Act->Prop}
theorem VP (x:Operand) (h:o.op=.load 38 x) (b:Nat) (hx:a.eval x=.pointer (some ⟨b,0,none⟩)) (m:Q1) (hc:∀w,C w->w.rangeAt b 0 m.cells.toList) (hk:K (a.put o.dst (.agg m.cells))):o.quiet prog a C K :=
 KL _ x h b 0 hx _ _ hc underlying38 rfl Tn hk
theorem KK (x:Operand) (h:o.op=.load 57 x) (b:Nat) (hx:a.eval x=.pointer (some ⟨b,0,none⟩)) (p:QN) (hc:∀w,C w->w.rangeAt b 0 (QJ p)) (hk:K (a.put o.dst (.agg (QJ p).toArray))):o.quiet prog a C K :=
 KL _ x h b 0 hx _ _ hc underlying57 rfl (by rw[Zo];exact RH) hk
end
def mA (m:Q1) (y:QN) (j:Nat):Prop :=
 (y.pis j=false/\y.pwr j=false/\y.pfr j=0)\/(y.pis j=true/\y.state≠3/\0<=y.pfr j/\y.pfr j<(m.fr.n:Int))
def oR (l:List QN) (k:Nat):Int:=if 0<k then (l.getD (k-1) default).pid else 0
theorem J3.at {m:Q1}{d:QL}(h:J3 m d d.pr.length) {k:Nat}(hk:k<d.pr.length):Yy m d (d.pr.getD k default)/\oR d.pr k<(d.pr.getD k default).pid:=by
 obtain⟨h1,h2⟩:=h k hk hk;have e:d.pr.getD k default=d.pr[k]:=by rw[ZG,JZ hk];rfl
 rw[e];refine⟨h1,?_⟩;unfold oR;split
 ·rename_i h0;rw[ZG,JZ (by omega)];exact h2 h0
 ·have:=h1.pid.1;omega
theorem Uw.w {m:Q1}{d:QL}{y:QN}{j:Nat}(h:Uw m d y j):mA m y j:=h.elim .inl λh=>.inr ⟨h.1,h.2.1,h.2.2.1,h.2.2.2.1⟩
noncomputable def UP (p:Prop) (c:Int):Int:=@ite Int p (Classical.propDecidable p) 0 c
theorem QC {p:Prop}(h:p) (c:Int):UP p c=0:=Qv h
theorem ZI {p:Prop}(h:¬p) (c:Int):UP p c=c:=Qr h
theorem Vk {p:Prop}{c:Int}(hc:c≠0):UP p c=0↔p:=⟨λh=>by
 rcases Classical.em p with hp|hp
 ·exact hp
 ·rw[ZI hp]at h;exact absurd h hc,λh=>QC h c⟩
def FD (a b:Int):Int:=if a=0 then b else a
theorem Gt {a b:Int}:FD a b=0↔a=0/\b=0:=by unfold FD;split<;>simp_all
theorem XA {a:Int}(h:a≠0) (b:Int):FD a b=a:=Qr h
theorem Jh (b:Int):FD 0 b=b:=Qv rfl
noncomputable def Rs (m:Q1):Int:=UP (Yx m) 2
noncomputable def kL (m:Q1) (d:QL):Int:=FD (UP (1<=m.fr.n/\m.fr.n<=64) 6) (UP (∀b∈d.fr,b.length=128) 3)
noncomputable def fm (m:Q1) (d:QL):Int:=FD (UP (m.pr.n<=8) 6) (UP (J3 m d d.pr.length) 3)
noncomputable def kZ (m:Q1) (d:QL):Int:=FD (UP (m.pi.n<=64) 6) (UP (ZX m d.pi d.pi.length) 3)
noncomputable def qR (m:Q1):Int:=UP (m.inn.length<=65536/\m.init.length<=128) 6
def Ss (n:Nat) (l:List Zs) (k:Nat):Prop:=∀(i:Nat) (h:i<l.length),i<k->0<=l[i].1/\l[i].1<(n:Int)/\l[i].2.length=128/\(0<i->(l[i-1]'(by omega)).1<l[i].1)
noncomputable def jj (d:QL):Int:=FD (J4 d.bl d.pe) (FD (UP (33<d.bl.length) 3) (FD (UP (d.di.length<=32) 6) (FD (UP (Ss (d.bl.length-33) d.di d.di.length) 3) (UP (∃I,Ji (QH d.bl d.pe d.di) I) 3))))
noncomputable def Xu (m:Q1) (d:QL):Int:=FD (Rs m) (FD (kL m d) (FD (fm m d) (FD (kZ m d) (FD (qR m) (jj d)))))
theorem R9 {d:QL}:jj d=0↔Y5 d:=by
 unfold jj Y5;simp only[Gt,Vk (show(3:Int)≠0 by omega),Vk (show(6:Int)≠0 by omega)];unfold Za;constructor
 ·rintro⟨h1,h2,h3,h4,h5⟩;exact⟨by rw[Qr (by omega),Qr (by omega)],h3,λi h=>h4 i h h,h5⟩
 ·rintro⟨h1,h3,h4,h5⟩;split at h1
  ·exact absurd h1 ‹_›
  ·split at h1
   ·cases h1
   ·exact⟨Decidable.of_not_not ‹_›,by omega,h3,λi h _=>h4 i h,h5⟩
theorem CM {m:Q1}{d:QL}:Xu m d=0↔YR m d:=by
 unfold Xu Rs kL fm kZ qR;simp only[Gt,Vk (show(2:Int)≠0 by omega),Vk (show(3:Int)≠0 by omega),Vk (show(6:Int)≠0 by omega),R9];constructor
 ·rintro⟨h1,⟨h2,h3⟩,⟨h4,h5⟩,⟨h6,h7⟩,h8,h9⟩;exact⟨⟨h1,h2,h3,h4,h5,h6,h7,h8⟩,h9⟩
 ·rintro⟨⟨h1,h2,h3,h4,h5,h6,h7,h8⟩,h9⟩;exact⟨h1,⟨h2,h3⟩,⟨h4,h5⟩,⟨h6,h7⟩,h8,h9⟩
def gE (m:Q1) (d:QL) (e:Ending):Prop:=∃n:Int,e=.returned (.int .i64 n)/\(n=0->YR m d)
def gF (m:Q1) (d:QL) (e:Ending):Prop:=∃n:Int,e=.returned (.int .i64 n)/\n=Xu m d
theorem Rm {d:QL}(hj:Za d.bl d.pe=0):J4 d.bl d.pe=0:=by
 by_cases h0:J4 d.bl d.pe=0
 ·exact h0
 ·unfold Za at hj;rw[Qv h0]at hj;exact hj
theorem Vg.voE_eq {d:QL}{n:Int}(h:Vg d n):n=jj d:=by
 by_cases ZL:Y5 d
 ·rw[R9.2 ZL];cases h with
  | drv h=>exact Rm ZL.1
  | home _ h=>exact absurd ZL.1 h
  | many _ h=>have:=ZL.2.1;omega
  | form _ _ h=>exact absurd ZL h
  | ok _=>rfl
 have QY:jj d≠0:=λh=>ZL (R9.1 h);unfold jj at QY ⊢;cases h with
 | drv h=>rw[XA h]
 | home h hj => rw[h,Jh]at QY ⊢;have hl:¬33<d.bl.length:=λhl=>hj (by unfold Za;rw[Qr (by omega),Qr (by omega)]);rw[ZI hl,XA (by omega)]
 | many hj h => have hl:33<d.bl.length:=(Zw hj).least;rw[Rm hj,Jh,QC hl,Jh,ZI (by omega),XA (by omega)]
 | form hj h hn =>
  have hl:33<d.bl.length:=(Zw hj).least;rw[Rm hj,Jh,QC hl,Jh,QC h,Jh]at QY ⊢;by_cases h4:Ss (d.bl.length-33) d.di d.di.length
  ·rw[QC h4,Jh]at QY ⊢;by_cases h5:∃I,Ji (QH d.bl d.pe d.di) I
   ·rw[QC h5]at QY;exact absurd rfl QY
   ·rw[ZI h5]
  ·rw[ZI h4,XA (by omega)]
 | ok h=>exact absurd h ZL
section
variable {m:Q1}{d:QL}
theorem cJ (h:¬Yx m):Xu m d=2:=by
 unfold Xu Rs;rw[ZI h,XA (show(2:Int)≠0 by decide)]
theorem cI (h1:Yx m) (h:¬(1<=m.fr.n/\m.fr.n<=64)):Xu m d=6:=by
 unfold Xu Rs kL;rw[QC h1,Jh,ZI h,XA (show(6:Int)≠0 by decide),XA (show(6:Int)≠0 by decide)]
theorem iM (h1:Yx m) (h2:1<=m.fr.n/\m.fr.n<=64) (h:¬∀b∈d.fr,b.length=128):Xu m d=3:=by
 unfold Xu Rs kL;rw[QC h1,Jh,QC h2,Jh,ZI h,XA (show(3:Int)≠0 by decide)]
theorem Vm (h2:1<=m.fr.n/\m.fr.n<=64) (h3:∀b∈d.fr,b.length=128):kL m d=0:=by
 unfold kL;rw[QC h2,Jh,QC h3]
theorem cL (h1:Yx m) (h2:1<=m.fr.n/\m.fr.n<=64) (h3:∀b∈d.fr,b.length=128) (h:¬m.pr.n<=8):Xu m d=6:=by
 unfold Xu Rs;rw[QC h1,Jh,Vm h2 h3,Jh];unfold fm;rw[ZI h,XA (show(6:Int)≠0 by decide),XA (show(6:Int)≠0 by decide)]
theorem iO (h1:Yx m) (h2:1<=m.fr.n/\m.fr.n<=64) (h3:∀b∈d.fr,b.length=128) (h4:m.pr.n<=8) (h:¬J3 m d d.pr.length):Xu m d=3:=by
 unfold Xu Rs;rw[QC h1,Jh,Vm h2 h3,Jh];unfold fm;rw[QC h4,Jh,ZI h,XA (show(3:Int)≠0 by decide)]
theorem cK (h1:Yx m) (h2:1<=m.fr.n/\m.fr.n<=64) (h3:∀b∈d.fr,b.length=128) (h4:m.pr.n<=8) (h5:J3 m d d.pr.length) (h:¬m.pi.n<=64):Xu m d=6:=by
 unfold Xu Rs;rw[QC h1,Jh,Vm h2 h3,Jh];unfold fm;rw[QC h4,Jh,QC h5,Jh];unfold kZ;rw[ZI h,XA (show(6:Int)≠0 by decide),XA (show(6:Int)≠0 by decide)]
theorem iN (h1:Yx m) (h2:1<=m.fr.n/\m.fr.n<=64) (h3:∀b∈d.fr,b.length=128) (h4:m.pr.n<=8) (h5:J3 m d d.pr.length) (h6:m.pi.n<=64) (h:¬ZX m d.pi d.pi.length):Xu m d=3:=by
 unfold Xu Rs;rw[QC h1,Jh,Vm h2 h3,Jh];unfold fm;rw[QC h4,Jh,QC h5,Jh];unfold kZ;rw[QC h6,Jh,ZI h,XA (show(3:Int)≠0 by decide)]
theorem iP (h1:Yx m) (h2:1<=m.fr.n/\m.fr.n<=64) (h3:∀b∈d.fr,b.length=128) (h4:m.pr.n<=8) (h5:J3 m d d.pr.length) (h6:m.pi.n<=64) (h7:ZX m d.pi d.pi.length) (h:¬(m.inn.length<=65536/\m.init.length<=128)):Xu m d=6:=by
 unfold Xu Rs;rw[QC h1,Jh,Vm h2 h3,Jh];unfold fm;rw[QC h4,Jh,QC h5,Jh];unfold kZ;rw[QC h6,Jh,QC h7,Jh];unfold qR;rw[ZI h,XA (show(6:Int)≠0 by decide)]
theorem cH (h1:Yx m) (h2:1<=m.fr.n/\m.fr.n<=64) (h3:∀b∈d.fr,b.length=128) (h4:m.pr.n<=8) (h5:J3 m d d.pr.length) (h6:m.pi.n<=64) (h7:ZX m d.pi d.pi.length) (h8:m.inn.length<=65536/\m.init.length<=128):Xu m d=jj d:=by
 unfold Xu Rs;rw[QC h1,Jh,Vm h2 h3,Jh];unfold fm;rw[QC h4,Jh,QC h5,Jh];unfold kZ;rw[QC h6,Jh,QC h7,Jh];unfold qR;rw[QC h8,Jh]
end
theorem An (m:Q1) (d:QL) (w:World) (h:Jg w m d) (Eh:m.pr.n<=4000) (Kz:m.pi.n<=4000) :
  Calls prog 19 #[.agg m.cells] w λe w'=>gF m d e/\Ext w w':=by
 have HP:=Qa (λy w h=>GR m d y w h Eh Kz);have jp:=Qa (λw h=>OL m d w h);obtain⟨nM,sX⟩:=h.fr.strs;obtain⟨iu,ni⟩:=h.pr;obtain⟨sd,kR⟩:=h.pi.wrs;have dK:=h.frk.2.1;have tG:=h.prk.2.1;have Br:=h.pik.2.1;unfold maxLen at dK tG Br;have gP:=Qa nM;have rD:=Qa iu;have qh:=Qa sd;have hz:=Qh;clear nM iu sd;go_enter func19,ntmps19;go_upto_region 1 with fail;have xa:Ext w (w.alloc (.cells m.cells 38)):=(Qf _).alloc _;have bm:=QA w 38 m.cells;generalize w.alloc (.cells m.cells 38)=w1 at *;have HM:=Qa (h.ext xa);clear h;obtain⟨k0,k1,k2,k3,k4,k5,k6,k7,k8,k9,k10,k11,BF,I2,bE,k15,k16⟩:=Vs bm;clear k0 k11 BF I2 bE k15 k16;go_upto_region 2 with fail;go_cut [56] (λs wx=>Y4 s (Yx m)/\w1=wx);case first =>
  clear k4 k5 k7 k8 k10;go_wp2_with fail
  all_goals
   go_meet
   first
    | exact⟨Y4.yes (λh=>by obtain⟨⟨_,_⟩,⟨_,_⟩,_,⟨_,_⟩,⟨_,_⟩⟩:=h;omega),rfl⟩
    | exact⟨Y4.of ⟨λh=>by
      simp only[fJ,fC]at h;exact⟨by omega,by omega,by omega,by omega,by omega⟩,λh=>by
      obtain⟨⟨_,_⟩,⟨_,_⟩,_,⟨_,_⟩,⟨_,_⟩⟩:=h;simp only[fJ,fC];omega⟩,rfl⟩
 case rest =>
 obtain⟨⟨b56,rfl,hb56⟩,rfl⟩:=hcut;have kq:=Qa hb56;clear hb56;cases b56 with
 | true => go_wp2_with fail;go_ret;exact⟨⟨2,rfl,(cJ (λh=>by have:=kq.o.2 h;cases this)).symm⟩,xa⟩
 | false =>
 clear k1 k2 k3 k6 k9;have ep:=Qa (kq.o.1 rfl);go_upto_region 4 with fail;go_cut [66] (λs wx=>Y4 s (1<=m.fr.n/\m.fr.n<=64)/\w1=wx);case first =>
  go_wp2_with fail
  all_goals
   go_meet
   first
    | exact⟨Y4.yes (λh=>by omega),rfl⟩
    | exact⟨Y4.of ⟨λh=>by
      simp only[fJ,fC]at h;omega,λh=>by
      simp only[fJ,fC];omega⟩,rfl⟩
 case rest =>
 obtain⟨⟨b66,rfl,hb66⟩,rfl⟩:=hcut;have kt:=Qa hb66;clear hb66;cases b66 with
 | true => go_wp2_with fail;go_ret;exact⟨⟨6,rfl,(cI ep.o (λh=>by have:=kt.o.2 h;cases this)).symm⟩,xa⟩
 | false =>
 have FJ:=Qa (kt.o.1 rfl);go_wp2_with fail;obtain⟨fl,fY⟩:∃x,x=d.fr:=⟨_,rfl⟩
 rw[←fY]at sX gP;have tw:=Qa fY;clear fY;generalize m.fr.A=fA at *;go_loop [70] (λi=>∃j:Nat,j<=m.fr.n/\i=.int .i64 j/\∀b∈fl.take j,b.length=128) (λi=>m.fr.n-(intOf i).toNat);case atStart=>exact⟨0,by omega,rfl,by simp⟩
 case round =>
  obtain⟨j,hj,rfl,UR⟩:=hrel;have N0:=Qa UR;clear UR;by_cases Qo:j<m.fr.n
  ·obtain⟨b,o,rfl,Qd⟩:=sX (by omega);have c1:=xa.keep (Qd j (by rw[←gP.o];exact Qo));have HAN:=Qa (λ(h:(fl[j]'(by rw[←gP.o];exact Qo)).length=128)=>show∀b∈fl.take (j+1),b.length=128 fromλb hb=>by
    rw[FL (by rw[←gP.o];exact Qo)]at hb;rcases SN.1 hb with hb|hb
    ·exact N0.o b hb
    ·rw[SJ.1 hb];exact h)
   have HBF:=Qa (λ(h:∀b∈d.fr,b.length=128)=>show(fl[j]'(by rw[←gP.o];exact Qo)).length=128 from h _ (by rw[←tw.o];exact FM _));generalize fl[j]'(by rw[←gP.o];exact Qo)=s at *;have UU:(j:Int)<(m.fr.n:Int):=by omega
   clear Qd;by_cases hl:s.length=128
   ·have Fw:((s.length:Int) != 128)=false:=by rw[hl];rfl
    have HAM:=Qa (HAN.o hl);clear hl;go_wp2_with fail;go_round;case rel=>exact⟨j+1,by omega,by go_num,HAM.o⟩
    case measure=>simp[intOf];omega
   ·have Fw:((s.length:Int) != 128)=true:=by simp;omega
    have HX:=Qa hl;go_wp2_with fail;go_ret;exact⟨⟨3,rfl,(iM ep.o FJ.o (λh=>HX.o (HBF.o h))).symm⟩,xa⟩
  ·obtain rfl:j=m.fr.n:=by omega
   have jq:=Qa (show∀b∈d.fr,b.length=128 by
    have h:=N0.o;rw[AX (by rw[←gP.o];exact QW _),tw.o]at h;exact h)
   clear N0;by_cases h8:8<m.pr.n
   ·have HX:=Qa h8;go_wp2_with fail;go_ret;exact⟨⟨6,rfl,(cL ep.o FJ.o jq.o (λh=>by have:=HX.o;omega)).symm⟩,xa⟩
   ·go_wp2_with fail;clear k4 k5 k7 k8 k10;have HPL:=Qa (show∀k (h:k<d.pr.length),J3 m d k->Yy m d d.pr[k]->(0<k->(d.pr[k-1]'(by omega)).pid<d.pr[k].pid)->J3 m d (k+1) fromλk h h1 h2 h3 i hi Br=>by
     by_cases e:i<k
     ·exact h1 i hi e
     ·obtain rfl:i=k:=by omega
      exact⟨h2,h3⟩)
    have qz:=Qa (show m.pr.n<=8 by omega);have qw:=Qa (λ(h:¬J3 m d d.pr.length)=>show(3:Int)=Xu m d from(iO ep.o FJ.o jq.o qz.o h).symm);have HPA:=Qa (show∀k (h:k<d.pr.length),J3 m d d.pr.length->Yy m d d.pr[k]/\(0<k->(d.pr[k-1]'(by omega)).pid<d.pr[k].pid) fromλk h hp=>hp k h h);obtain⟨l,Bs⟩:∃x,x=d.pr:=⟨_,rfl⟩
    rw[←Bs]at ni rD;have qq:=Qa Bs;clear Bs;generalize hrA:m.pr.A=A at ni ⊢;have uS:=Qa hrA;clear hrA;go_loopw [85] (λi wx=>∃k:Nat,k<=m.pr.n/\i=.int .i64 k/\Ext w1 wx/\J3 m d k) (λi _=>m.pr.n-(intOf i).toNat);case atStart=>exact⟨0,by omega,rfl,Qf _,λi h hk=>by omega⟩
    case round =>
     obtain⟨k,hk,rfl,xk,hprk⟩:=hrel;have le:=Qa hprk;clear hprk;by_cases Qo:k<m.pr.n
     ·obtain⟨b,o,rfl,Qd⟩:=ni (by omega);have Tj:k<l.length:=by rw[←rD.o];exact Qo
      have r1:=Z9 (XC Qd Tj) (xa.trans xk);have e0:0<k->wr.cell? ⟨b,o+(k-1)*96,none⟩=some (.int .i64 (l[k-1]'(by omega)).pid):=λh=>(xa.trans xk).keep (XC Qd (k:=k-1) (by omega) 0 _ rfl);clear Qd;have Fv:(k:Int)<(m.pr.n:Int):=by omega
      have gY:=Qa (show Yy m d l[k]->(0<k->(l[k-1]'(by omega)).pid<l[k].pid)->J3 m d (k+1) from by
       have he:=qq.o;subst he;exact HPL.o k Tj le.o)
      have qv:=Qa (show J3 m d d.pr.length->Yy m d l[k]/\(0<k->(l[k-1]'(by omega)).pid<l[k].pid) from by
       have he:=qq.o;subst he;exact HPA.o k Tj)
      generalize l[k]=y at *;generalize hprv:l[k-1]'(by omega)=prv at *;clear hprv
      go_upto_region 17 with(first
       | (refine Zk (.tmp 88) rfl rfl b (o+k*96) y rfl r1 ?_)
       | (refine VA (.tmp 7) (.tmp 89) rfl rfl wr.heap.size y _ 57 rfl rfl (QA _ _ _) rfl ?_;intro w2 b2 g2))
      have z2:Ext wr w2:=((Qf wr).alloc _).grown g2 (λj e=>by cases e;exact QW _);have x2:=xk.trans z2;have c0:∀x:Qg w2,x.now.cell? ⟨wr.heap.size,0,none⟩=some (.int .i64 y.pid):=λx=>(b2.ext x.ext).cell 0;have k5:∀x:Qg w2,x.now.cell? ⟨w.heap.size,5,none⟩=some (.slice (some ⟨b,o,none⟩) m.pr.n m.pr.c):=λx=>by rw[←uS.o];exact((bm.ext x2).ext x.ext).cell 5
      have rm:∀wx,(∃x:Qg w2,wx=x.now)->wx.rangeAt w.heap.size 0 m.cells.toList:=λwx ⟨x,hx⟩=>by rw[hx];exact BV ((bm.ext x2).ext x.ext)
      have rp:∀wx,(∃x:Qg w2,wx=x.now)->wx.rangeAt wr.heap.size 0 (QJ y):=λwx ⟨x,hx⟩=>by rw[hx];exact Ag (b2.ext x.ext)
      have RM:=Qa rm;have RP:=Qa rp;have bM:∀x:Qg w2,Zv (Calls prog 51 #[.agg m.cells,.agg (QJ y).toArray] x.now λe w'=>ey m d y e/\Ext x.now w'):=λx=>Qa (HP.o y _ (HM.o.ext (x2.trans x.ext)));clear r1 g2 rm rp;have E0:0<k->∀x:Qg w2,x.now.cell? ⟨b,o+(k-1)*96,none⟩=some (.int .i64 prv.pid):=λh x=>x.ext.keep (z2.keep (e0 h));clear e0;by_cases n3:0<k
      ·have d3:decide ((0:Int)<(k:Int))=true:=by simp;omega
       have pC:=E0 n3;clear E0;have E0:=pC;clear pC;have kk1:(k:Int)-1=((k-1:Nat):Int):=by omega
       have kk2:IntKind.i64.wrap ((k:Int)-1)=((k-1:Nat):Int):=by rw[ZU];omega
       have kk3:((k-1:Nat):Int)<(m.pr.n:Int):=by omega
       by_cases n4:y.pid<=prv.pid
       ·have d4:decide (y.pid<=prv.pid)=true:=Ve n4;simp only[Act.put];refine Qc 17 (by kernel_rfl) (by kernel_rfl) ?_;simp only[Yh,Yt,YB,Yu]
        repeat (first
         | (go_big_quiet_want;refine VP (.tmp 1) rfl w.heap.size rfl m RM.o ?_;simp only[S_];go_big_quiet_on)
         | (go_big_quiet_want;refine KK (.tmp 7) rfl wr.heap.size rfl y RP.o ?_;simp only[S_];go_big_quiet_on)
         | go_big_quiet_step (fail))
        refine Y7 ?_;rintro w3 ⟨x3,rfl⟩;clear c0 k5 E0;have HX:=Qa n4;have lw:=Qa n3;go_wp2_with fail;go_ret;exact⟨⟨3,rfl,qw.o (λh=>by have:=(qv.o h).2 lw.o;have:=HX.o;omega)⟩,(xa.trans x2).trans x3.ext⟩
       ·have d4:decide (y.pid<=prv.pid)=false:=XI n4;simp only[Act.put];refine Qc 17 (by kernel_rfl) (by kernel_rfl) ?_;simp only[Yh,Yt,YB,Yu]
        repeat (first
         | (go_big_quiet_want;refine VP (.tmp 1) rfl w.heap.size rfl m RM.o ?_;simp only[S_];go_big_quiet_on)
         | (go_big_quiet_want;refine KK (.tmp 7) rfl wr.heap.size rfl y RP.o ?_;simp only[S_];go_big_quiet_on)
         | go_big_quiet_step (fail))
        refine Y7 ?_;rintro w3 ⟨x3,rfl⟩;clear c0 k5 E0;have HLT:=Qa (show prv.pid<y.pid by omega);go_wp2_with (go_at_call 51;refine(bM x3).o.mono ?_;rintro e w4 ⟨⟨b4,rfl,DW⟩,x4⟩;have gJ:=Qa DW;clear DW;rcases b4 with _|_)
        ·go_ret;exact⟨⟨3,rfl,qw.o (λh=>by have:=gJ.o.2 (qv.o h).1;cases this)⟩,((xa.trans x2).trans x3.ext).trans x4⟩
        ·go_roundw;case rel=>exact⟨k+1,by omega,by go_num,(x2.trans x3.ext).trans x4,gY.o (gJ.o.1 (by first|rfl|trivial)) (λ_=>HLT.o)⟩
         case measure=>simp[intOf];omega
      ·have d3:decide ((0:Int)<(k:Int))=false:=by simp;omega
       simp only[Act.put];refine Qc 17 (by kernel_rfl) (by kernel_rfl) ?_;simp only[Yh,Yt,YB,Yu]
       repeat (first
        | (go_big_quiet_want;refine VP (.tmp 1) rfl w.heap.size rfl m RM.o ?_;simp only[S_];go_big_quiet_on)
        | (go_big_quiet_want;refine KK (.tmp 7) rfl wr.heap.size rfl y RP.o ?_;simp only[S_];go_big_quiet_on)
        | go_big_quiet_step (fail))
       refine Y7 ?_;rintro w3 ⟨x3,rfl⟩;clear c0 k5 E0;go_wp2_with (go_at_call 51;refine(bM x3).o.mono ?_;rintro e w4 ⟨⟨b4,rfl,DW⟩,x4⟩;have gJ:=Qa DW;clear DW;rcases b4 with _|_)
       ·go_ret;exact⟨⟨3,rfl,qw.o (λh=>by have:=gJ.o.2 (qv.o h).1;cases this)⟩,((xa.trans x2).trans x3.ext).trans x4⟩
       ·go_roundw;case rel=>exact⟨k+1,by omega,by go_num,(x2.trans x3.ext).trans x4,gY.o (gJ.o.1 (by first|rfl|trivial)) (λh=>absurd h n3)⟩
        case measure=>simp[intOf];omega
     ·obtain rfl:k=m.pr.n:=by omega
      have jw:=Qa (show J3 m d d.pr.length by
       have h:=le.o;rw[rD.o,qq.o]at h;exact h)
      have YQ:=Qa (show m.pr.n<=8 by omega);have q8:wr.cell? ⟨w.heap.size,8,none⟩=some (.slice m.pi.A m.pi.n m.pi.c):=(bm.ext xk).cell 8;by_cases h64:64<m.pi.n
      ·have HX:=Qa h64;go_wp2_with fail;go_ret;exact⟨⟨6,rfl,(cK ep.o FJ.o jq.o YQ.o jw.o (λh=>by have:=HX.o;omega)).symm⟩,xa.trans xk⟩
      ·go_wp2_with fail;clear q8;generalize wr=w5 at *;have qx:=Qa (show∀k (h:k<d.pi.length),ZX m d.pi k->(1<=d.pi[k].1/\d.pi[k].1<m.newPipe/\d.pi[k].2.length<=64)->(0<k->(d.pi[k-1]'(by omega)).1<d.pi[k].1)->ZX m d.pi (k+1) fromλk h h1 h2 h3 i hi Br=>by
        by_cases e:i<k
        ·exact h1 i hi e
        ·obtain rfl:i=k:=by omega
         exact⟨h2.1,h2.2.1,h2.2.2,h3⟩)
       have gZ:=Qa (show m.pi.n<=64 by omega);have lf:=Qa (λ(h:¬ZX m d.pi d.pi.length)=>show(3:Int)=Xu m d from(iN ep.o FJ.o jq.o YQ.o jw.o gZ.o h).symm);have HQA:=Qa (show∀k (h:k<d.pi.length),ZX m d.pi d.pi.length->1<=d.pi[k].1/\d.pi[k].1<m.newPipe/\d.pi[k].2.length<=64/\(0<k->(d.pi[k-1]'(by omega)).1<d.pi[k].1) fromλk h hp=>hp k h h);obtain⟨pl,Uz⟩:∃x,x=d.pi:=⟨_,rfl⟩
       rw[←Uz]at kR qh;have ga:=Qa Uz;clear Uz;go_loopw [118] (λi wx=>∃k:Nat,k<=m.pi.n/\i=.int .i64 k/\Ext w1 wx/\ZX m d.pi k) (λi _=>m.pi.n-(intOf i).toNat);case atStart=>exact⟨0,by omega,rfl,xk,λi h hk=>by omega⟩
       case round =>
        clear xk;obtain⟨k,hk,rfl,xk,hpik⟩:=hrel;have la:=Qa hpik;clear hpik;by_cases Qo:k<m.pi.n
        ·obtain⟨b,o,hA,Qd⟩:=kR (by omega);have Tj:k<pl.length:=by rw[←qh.o];exact Qo
         have e1:=(xa.trans xk).keep (Qd k Tj).1;have e2:=(xa.trans xk).keep (Qd k Tj).2;have e0:0<k->wr.cell? ⟨b,o+(k-1)*2,none⟩=some (.int .i64 (pl[k-1]'(by omega)).1):=λh=>(xa.trans xk).keep (Qd (k-1) (by omega)).1;have r8:wr.cell? ⟨w.heap.size,8,none⟩=some (.slice m.pi.A m.pi.n m.pi.c):=(bm.ext xk).cell 8;have r9:wr.cell? ⟨w.heap.size,9,none⟩=some (.int .i64 m.newPipe):=(bm.ext xk).cell 9;rw[hA]at r8;clear Qd;have Fv:(k:Int)<(m.pi.n:Int):=by omega
         have lW:=Qa (show(1<=pl[k].1/\pl[k].1<m.newPipe/\pl[k].2.length<=64)->(0<k->(pl[k-1]'(by omega)).1<pl[k].1)->ZX m d.pi (k+1) from by
          have he:=ga.o;subst he;exact qx.o k Tj la.o)
         have Sy:=Qa (show ZX m d.pi d.pi.length->1<=pl[k].1/\pl[k].1<m.newPipe/\pl[k].2.length<=64/\(0<k->(pl[k-1]'(by omega)).1<pl[k].1) from by
          have he:=ga.o;subst he;exact HQA.o k Tj)
         generalize pl[k]=y at *;generalize hprv:pl[k-1]'(by omega)=prv at *;clear hprv;go_upto_region 25 with fail;have E1:(wr.alloc (.cells #[.int .i64 y.1,.string (Qb y.2)] 95)).cell? ⟨w.heap.size,8,none⟩=some (.slice (some ⟨b,o,none⟩) m.pi.n m.pi.c):=((Qf wr).alloc _).keep r8;have E9:(wr.alloc (.cells #[.int .i64 y.1,.string (Qb y.2)] 95)).cell? ⟨w.heap.size,9,none⟩=some (.int .i64 m.newPipe):=((Qf wr).alloc _).keep r9;have E0:0<k->(wr.alloc (.cells #[.int .i64 y.1,.string (Qb y.2)] 95)).cell? ⟨b,o+(k-1)*2,none⟩=some (.int .i64 prv.1):=λh=>((Qf wr).alloc _).keep (e0 h);clear e0 e1 e2 r8 r9;by_cases n0:y.1<1
         ·have d0:decide (y.1<1)=true:=Ve n0;have HX:=Qa n0;clear E0;go_quiet (fail);go_wp2_with fail;go_ret;exact⟨⟨3,rfl,lf.o (λh=>by have:=Sy.o h;have:=HX.o;omega)⟩,(xa.trans xk).trans (((Qf wr).alloc _).drewN _)⟩
         ·have d0:decide (y.1<1)=false:=XI n0;by_cases n1:m.newPipe<=y.1
          ·have d1:decide (m.newPipe<=y.1)=true:=Ve n1;have HX:=Qa n1;clear E0;go_quiet (fail);go_wp2_with fail;go_ret;exact⟨⟨3,rfl,lf.o (λh=>by have:=Sy.o h;have:=HX.o;omega)⟩,(xa.trans xk).trans (((Qf wr).alloc _).drewN _)⟩
          ·have d1:decide (m.newPipe<=y.1)=false:=XI n1;by_cases n3:0<k
           ·have d3:decide ((0:Int)<(k:Int))=true:=by simp;omega
            have pC:=E0 n3;have kk1:(k:Int)-1=((k-1:Nat):Int):=by omega
            have kk2:IntKind.i64.wrap ((k:Int)-1)=((k-1:Nat):Int):=by rw[ZU];omega
            have kk3:((k-1:Nat):Int)<(m.pi.n:Int):=by omega
            clear E0;by_cases n4:y.1<=prv.1
            ·have d4:decide (y.1<=prv.1)=true:=Ve n4;have HX:=Qa n4;have lw:=Qa n3;go_quiet (fail);go_wp2_with fail;go_ret;exact⟨⟨3,rfl,lf.o (λh=>by have:=Sy.o h;have:=this.2.2.2 lw.o;have:=HX.o;omega)⟩,(xa.trans xk).trans (((Qf wr).alloc _).drewN _)⟩
            ·have d4:decide (y.1<=prv.1)=false:=XI n4;by_cases n2:64<y.2.length
             ·have d2:decide (64<(y.2.length:Int))=true:=by simp;omega
              have HX:=Qa n2;go_quiet (fail);go_wp2_with fail;go_ret;exact⟨⟨3,rfl,lf.o (λh=>by have:=Sy.o h;have:=HX.o;omega)⟩,(xa.trans xk).trans (((Qf wr).alloc _).drewN _)⟩
             ·have d2:decide (64<(y.2.length:Int))=false:=by simp;omega
              have Sx:=Qa (lW.o ⟨by omega,by omega,by omega⟩ (λ_=>by omega));go_quiet (fail);go_wp2_with fail;go_roundw;case rel=>exact⟨k+1,by omega,by go_num,(xk.alloc _).drewN _,Sx.o⟩
              case measure=>simp[intOf];omega
           ·have d3:decide ((0:Int)<(k:Int))=false:=by simp;omega
            clear E0;by_cases n2:64<y.2.length
            ·have d2:decide (64<(y.2.length:Int))=true:=by simp;omega
             have HX:=Qa n2;go_quiet (fail);go_wp2_with fail;go_ret;exact⟨⟨3,rfl,lf.o (λh=>by have:=Sy.o h;have:=HX.o;omega)⟩,(xa.trans xk).trans (((Qf wr).alloc _).drewN _)⟩
            ·have d2:decide (64<(y.2.length:Int))=false:=by simp;omega
             have Sx:=Qa (lW.o ⟨by omega,by omega,by omega⟩ (λh=>absurd h n3));go_quiet (fail);go_wp2_with fail;go_roundw;case rel=>exact⟨k+1,by omega,by go_num,(xk.alloc _).drewN _,Sx.o⟩
             case measure=>simp[intOf];omega
        ·obtain rfl:k=m.pi.n:=by omega
         have uP:=Qa (show ZX m d.pi d.pi.length by
          have h:=la.o;rw[qh.o,ga.o]at h;exact h)
         obtain⟨k0,k1,k2,k3,k4,k5,k6,k7,k8,k9,k10,k11,BF,I2,bE,k15,k16⟩:=Vs (bm.ext xk);have DK:=bm.ext xk;clear k0 k1 k2 k3 k4 k5 k6 k8 k9 k11 BF I2 bE k15 k16;go_upto_region 28 with fail;go_cut [165] (λs wx=>Y4 s (m.inn.length<=65536/\m.init.length<=128)/\wr=wx);case first =>
          go_wp2_with fail
          all_goals
           go_meet
           first
            | exact⟨Y4.yes (λh=>by omega),rfl⟩
            | exact⟨Y4.of ⟨λh=>by
              simp only[fJ,fC]at h;omega,λh=>by
              simp only[fJ,fC];omega⟩,rfl⟩
         case rest =>
          obtain⟨⟨b165,rfl,hb165⟩,rfl⟩:=hcut;have ec:=Qa hb165;clear hb165;cases b165 with
          | true => go_wp2_with fail;go_ret;exact⟨⟨6,rfl,(iP ep.o FJ.o jq.o YQ.o jw.o gZ.o uP.o (λh=>by have:=ec.o.2 h;cases this)).symm⟩,xa.trans xk⟩
          | false =>
           clear k7 k10
           go_wp2_with (first
            | (refine QI (.tmp 1) rfl rfl w.heap.size _ 38 rfl DK rfl ?_)
            | (go_at_call 52;refine(jp.o _ (HM.o.ext xk)).mono ?_;rintro e w6 ⟨⟨n6,rfl,hn6⟩,x6⟩;have HN6:=Qa hn6;clear hn6))
           go_ret;refine⟨⟨n6,rfl,?_⟩,(xa.trans xk).trans x6⟩;rw[cH ep.o FJ.o jq.o YQ.o jw.o gZ.o uP.o (ec.o.1 (by first|rfl|trivial))];exact HN6.o.voE_eq
theorem Ao (m:Q1) (d:QL) (w:World) (h:Jg w m d) (Eh:m.pr.n<=4000) (Kz:m.pi.n<=4000) :
  Calls prog 19 #[.agg m.cells] w λe w'=>gE m d e/\Ext w w' :=
 (An m d w h Eh Kz).mono λe w' ⟨⟨n,e,hn⟩,x⟩=>⟨⟨n,e,λh0=>CM.1 (by rw[←hn];exact h0)⟩,x⟩
end Go.Proofs.YtfaplefkakpgcaaGreatDoor
namespace Go.Proofs.YtfaplefkakpgcaaGreatDoor
open Go.Proofs.Tryz
open Go.ChangeShapes Go.WideShapes Go.ChangeAt Go.RowKit
theorem Dj {m:Int}(h:(Lit.int .u32 m).wf=true):0<=m/\m<4294967296:=by
 unfold Lit.wf at h;simp only[VB,Cw,show IntKind.u32.min=0 from rfl,show IntKind.u32.max=4294967295 from rfl]at h;omega
theorem Dk {m:Int}(h:(Lit.int .u64 m).wf=true):0<=m/\m<18446744073709551616:=by
 unfold Lit.wf at h;simp only[VB,Cw,show IntKind.u64.min=0 from rfl,show IntKind.u64.max=18446744073709551615 from rfl]at h;omega
theorem aY {m:Int}(h:(Lit.int .i64 m).wf=true):Pu m:=by
 unfold Lit.wf at h;simp only[VB,Cw,show IntKind.i64.min= -9223372036854775808 from rfl,show IntKind.i64.max=9223372036854775807 from rfl]at h;exact⟨by omega,by omega⟩
def bY (y:QN):Prop:=(∀i<16,0<=y.reg i/\y.reg i<4294967296)/\(0<=y.pc/\y.pc<4294967296)/\(0<=y.code/\y.code<4294967296)/\(0<=y.num/\y.num<18446744073709551616)
section
variable {H:Type}{enc:TypeId × Value->H}{w:World}{base:Nat}{spare:Nat->Bool}{held:Bool}
theorem OD:(List.range 17).all (λi=>(JE prog 6 57).contains (3+i,45))=true:=by kernel_rfl
theorem eA (a:QN) {i:Nat}(hi:i<16):(QJ a)[3+i]? =some (.int .u32 (a.reg i)):=by
 have e:(QJ a).drop 3=(List.range 16).map (λi=>.int .u32 (a.reg i))++([.int .u32 a.pc]++(List.range 16).flatMap (WG a)++(List.range 8).flatMap (cU a)++[.bool a.mask,.int .u32 a.code,.int .i64 a.why,.int .u64 a.num]):=rfl;rw[←Fm,e,AW (by simp;exact hi)];simp[hi]
theorem jQ {m:Nat}{cs:List Value}{y:DataW H × List MemPlace}(hl:cs.length=96) (h:DataW.trod enc prog w base spare held m 57 cs=some y):∃a:{ a:QN // bY a },cs=QJ a.1:=by
 obtain⟨a,rfl⟩:=oT hl h;refine⟨⟨a,λi hi=>?_,?_,?_,?_⟩,rfl⟩
 ·obtain⟨n,e,k⟩:=Vr (n:=6) (o:=3+i) underlying45 (Pv.1 OD i (Pw.2 (by omega))) h (by omega);rw[eA a hi]at e;injection e with e;injection e with _ e;rw[e];exact Dj k
 ·obtain⟨n,e,k⟩:=Vr (n:=6) (o:=19) underlying45 (by kernel_rfl) h (by omega);have e2:n=a.pc:=by
   have e3:some (Value.int .u32 a.pc)=some (.int .u32 n):=e;injection e3 with e3;injection e3 with _ e3;exact e3.symm
  rw[←e2];exact Dj k
 ·obtain⟨n,e,k⟩:=Vr (n:=6) (o:=93) underlying45 (by kernel_rfl) h (by omega);have e2:n=a.code:=by
   have e3:some (Value.int .u32 a.code)=some (.int .u32 n):=e;injection e3 with e3;injection e3 with _ e3;exact e3.symm
  rw[←e2];exact Dj k
 ·obtain⟨n,e,k⟩:=Vr (n:=6) (o:=95) underlying31 (by kernel_rfl) h (by omega);have e2:n=a.num:=by
   have e3:some (Value.int .u64 a.num)=some (.int .u64 n):=e;injection e3 with e3;injection e3 with _ e3;exact e3.symm
  rw[←e2];exact Dk k
instance prWfInh:Inhabited { a:QN // bY a }:=⟨⟨default,λ_ _=>⟨Int.le_refl _,(by decide:(0:Int)<4294967296)⟩,⟨Int.le_refl _,(by decide:(0:Int)<4294967296)⟩,⟨Int.le_refl _,(by decide:(0:Int)<4294967296)⟩,⟨Int.le_refl _,(by decide:(0:Int)<18446744073709551616)⟩⟩⟩
theorem eD {fuel:Nat}{v:Value}{x:DataW H × List MemPlace}(h:DataW.trod enc prog w base spare held fuel 32 [v]=some x) :
  ∃(s:Sl) (l:List QN),v=.slice s.A s.n s.c/\s.ok/\Q8 QJ w s.A s.n l/\∀y∈l,bY y:=by
 obtain⟨A,n,c,l,e,h0,h1,h2,_⟩:=LJ (λa:{ a:QN // bY a }=>QJ a.1) underlying32 dv (by omega) (λm cs y=>jQ) h;refine⟨⟨A,n,c⟩,l.map (·.1),e,⟨h0,h1⟩,⟨h2.1.trans (by rw[Fo]),λhn=>?_⟩,λy hy=>?_⟩
 ·obtain⟨b,o,k1,k2⟩:=h2.2 hn;refine⟨b,o,k1,λj v hj=>k2 j v ?_⟩;rw[←hj,List.flatMap_map]
 ·obtain⟨a,_,rfl⟩:=Pq.1 hy;exact a.2
theorem da {fuel:Nat}{cs:List Value}{x:DataW H × List MemPlace}(hl:cs.length=17) (h:DataW.trod enc prog w base spare held fuel 38 cs=some x) :
  ∃(m:Q1) (d:QL),cs=m.cells.toList/\Jg w m d/\MX m d:=by
 obtain⟨c0,e0,k0⟩:=XT (o:=0) underlying31 rfl h (by omega);obtain⟨c1,e1,_⟩:=XT (o:=1) underlying3 rfl h (by omega);obtain⟨c2,e2,k2⟩:=XT (o:=2) underlying3 rfl h (by omega);obtain⟨c3,e3,_⟩:=XT (o:=3) underlying3 rfl h (by omega);obtain⟨_,v4,_,e4,h4⟩:=Xq (o:=4) underlying22 rfl h (by omega);obtain⟨_,v5,_,e5,h5⟩:=Xq (o:=5) underlying32 rfl h (by omega);obtain⟨c6,e6,_⟩:=XT (o:=6) underlying3 rfl h (by omega);obtain⟨c7,e7,k7⟩:=Rp (o:=7) rfl h (by omega);obtain⟨_,v8,_,e8,h8⟩:=Xq (o:=8) underlying33 rfl h (by omega);obtain⟨c9,e9,_⟩:=XT (o:=9) underlying3 rfl h (by omega);obtain⟨c10,e10,k10⟩:=Rp (o:=10) rfl h (by omega);obtain⟨c11,e11⟩:=Od (o:=11) rfl h (by omega);obtain⟨Fs,mo,BF⟩:=XT (o:=12) underlying31 rfl h (by omega);obtain⟨_,v13,_,e13,h13⟩:=Xq (o:=13) underlying22 rfl h (by omega);obtain⟨_,v14,_,e14,h14⟩:=Xq (o:=14) underlying34 rfl h (by omega);obtain⟨c15,e15,k15⟩:=XT (o:=15) underlying3 rfl h (by omega);obtain⟨_,v16,_,e16,h16⟩:=Xq (o:=16) underlying34 rfl h (by omega);obtain⟨s4,l4,rfl,o4,r4⟩:=Cm h4;obtain⟨s5,l5,rfl,o5,r5,f5⟩:=eD h5;obtain⟨s8,l8,rfl,o8,r8⟩:=jN h8;obtain⟨s13,l13,rfl,o13,r13⟩:=Cm h13;obtain⟨s14,l14,rfl,o14,r14⟩:=aa h14;obtain⟨s16,l16,rfl,o16,kh⟩:=aa h16;refine⟨⟨c0,c1,c2,c3,s4,s5,c6,c7,s8,c9,c10,c11,Fs,s13,s14,c15,s16⟩,⟨l4,l5,l8,l13,l14,l16⟩,?_,⟨r4,r5,r8,r13,r14,kh,o4,o5,o8,o13,o14,o16,k7,k10,k15⟩,⟨Dk k0,Dk BF,aY k15,aY k2,f5⟩⟩;rw[jF hl];simp only[List.range,List.range.loop,FN,Cy,JP e0,JP e1,JP e2,JP e3,JP e4,JP e5,JP e6,JP e7,JP e8,JP e9,JP e10,JP e11,JP mo,JP e13,JP e14,JP e15,JP e16];rfl
end
end Go.Proofs.YtfaplefkakpgcaaGreatDoor
