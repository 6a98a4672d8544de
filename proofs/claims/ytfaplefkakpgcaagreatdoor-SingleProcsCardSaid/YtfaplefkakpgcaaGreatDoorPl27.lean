import Derived.Test.YtfaplefkakpgcaaGreatDoorPl25
set_option linter.unusedVariables false
set_option linter.unusedSimpArgs false
set_option maxHeartbeats 32000000
set_option maxRecDepth 100000
namespace Go.Proofs.YtfaplefkakpgcaaGreatDoor
open Go.Proofs.Tryz
open Go.RowKit
theorem kZ (A:Option Addr) (n c:Nat) (l:List QF) (g:Nat) (p:QF) (w:World) (hv:Q6 Qq w A n l) (hn:n<=4000) (hb:Box w g 57 (Qq p).toArray) (hy:¬XM l p.parent) :
  Calls prog 206 #[.slice A n c,.func (.func 160) #[] #[.pointer (some ⟨g,0,none⟩)]] w λe w'=>e=.returned (.int .i64 (-1))/\Ext w w':=by
 have HP:=Qa (λq w h=>Pz q p g w h);obtain⟨rfl,Y7⟩:=hv;have HY:=Qa hy;clear hy;go_enter func206,ntmps206;go_wp2_with fail;go_loopw [8] (λi wx=>∃k:Nat,k<=l.length/\i=.int .i64 k/\Ext w wx) (λi _=>l.length-(intOf i).toNat);case atStart=>exact⟨0,by omega,rfl,Qg _⟩
 case round =>
  obtain⟨k,hk,rfl,xk⟩:=hrel;by_cases Qn:k<l.length
  ·obtain⟨b,o,rfl,Qf⟩:=Y7 (by omega);have r1:=Ze (Z6 Qf Qn) xk;have Y6:(k:Int)<(l.length:Int):=by omega
   have N0:=hb.ext xk;have hd:(l[k].pid==p.parent&&(l[k].state==1||l[k].state==2))=false:=by rw[Bool.eq_false_iff];intro h;simp only[Vg,iQ,ng]at h;exact HY.o ⟨_,NT Qn,h.1,h.2⟩
   generalize l[k]=y at *;clear Qf
   go_wp2_with (first
    | (refine QT (.tmp 14) rfl rfl b (o+k*96) y rfl r1 ?_)
    | (go_at_call 160;refine(HP.o _ _ N0).mono ?_;rintro e w2 ⟨rfl,x2⟩))
   go_roundw;case rel=>exact⟨k+1,by omega,by go_num,xk.trans x2⟩
   case measure=>simp[intOf];omega
  ·have Vq:¬(k:Int)<(l.length:Int):=by omega
   go_wp2_with fail;go_ret;exact⟨rfl,xk⟩
theorem eH (A:Option Addr) (n c:Nat) (l:List QF) (g:Nat) (p:QF) (w:World) (hv:Q6 Qq w A n l) (hn:n<=4000) (hb:Box w g 57 (Qq p).toArray) (hy:¬XM l p.parent) :
  Calls prog 159 #[.slice A n c,.func (.func 160) #[] #[.pointer (some ⟨g,0,none⟩)]] w λe w'=>e=.returned (.bool false)/\Ext w w':=by
 have HP:=Qa (λw h1 h2=>kZ A n c l g p w h1 hn h2 hy);go_enter func159,ntmps159;go_wp2_with (go_at_call 206;refine(HP.o _ hv hb).mono ?_;rintro e w2 ⟨rfl,x2⟩)
 go_ret;exact⟨rfl,x2⟩
theorem dw (m:QO) (d:Qz) (y:QF) (w:World) (hi:Q0 w m d) (hn:m.pr.n<=4000) (Kq:y.state=1\/y.state=2\/y.state=3) (h:¬iG d y) :
  Calls prog 91 #[.agg m.cells,.agg (Qq y).toArray] w λe w'=>e=.returned (.bool false)/\Ext w w':=by
 have ou:∀(fn:Fn) (first cap:Array Value) (w:World),(Instr.makeFunc fn first cap).run prog w=.ok (.func fn first cap) w:=λ_ _ _ _=>rfl;have HL:=Qa (λw=>Vv y w);have x0:=((Qg w).alloc (.cells m.cells 38)).alloc (.cells (Qq y).toArray 57);have bm:=(Qs w 38 m.cells).ext ((Qg _).alloc (.cells (Qq y).toArray 57));have bp:=Qs (w.alloc (.cells m.cells 38)) 57 (Qq y).toArray;rw[YB]at bp;have HR:=Qa (hi.pr.ext x0);have h1:¬XM d.pr y.parent:=λh2=>h (.inl h2);have h2:y.parent≠0\/(y.state==1||y.state==2)=false:=by
  by_cases e:y.parent=0
  ·right;have:y.state=3:=by
    rcases Kq with h3|h3|h3
    ·exact absurd (Mp ⟨by omega,e⟩) h
    ·exact absurd (Mp ⟨by omega,e⟩) h
    ·exact h3
   rw[this];rfl
  ·exact .inl e
 clear h hi Kq;go_enter func91,ntmps91;go_upto_region 1 with fail;generalize (w.alloc (.cells m.cells 38)).alloc (.cells (Qq y).toArray 57)=w1 at *;generalize w.heap.size=G at *;have c1:w1.cell? ⟨G+1,1,none⟩=some (.int .i64 y.parent):=bp.cell 1;have HC:=Qa (λw h1 h2 hy=>eH m.pr.A m.pr.n m.pr.c d.pr (G+1) y w h1 hn h2 hy);have q5:∀wx,Ext w1 wx->wx.cell? ⟨G,5,none⟩=some (.slice m.pr.A m.pr.n m.pr.c):=λwx x=>(bm.ext x).cell 5;have HQ:=Qa q5;clear q5;have HY:=Qa h1;clear h1;rcases VS (y.parent==0) with e1|e1
 ·have h3:(y.state==1||y.state==2)=false:=by
   rcases h2 with h2|h2
   ·exact absurd (by simpa using e1) h2
   ·exact h2
  clear h2
  go_wp2_with (first
   | (refine ZD (.tmp 3) rfl rfl (G+1) y 57 rfl bp ?_)
   | (go_at_call 158;refine(HL.o _).mono ?_;rintro e w2 ⟨rfl,x2⟩;have q5:=HQ.o _ x2)
   | (go_at_call 159;refine(HC.o _ (HR.o.ext x2) (bp.ext x2) HY.o).mono ?_;rintro e w3 ⟨rfl,x3⟩))
  go_ret;exact⟨rfl,(x0.trans x2).trans x3⟩
 ·clear h2;have q5:=HQ.o _ (Qg _)
  go_wp2_with (first
   | (go_at_call 159;refine(HC.o _ HR.o bp HY.o).mono ?_;rintro e w3 ⟨rfl,x3⟩))
  go_ret;exact⟨rfl,x0.trans x3⟩
theorem DH (m:QO) (d:Qz) (y:QF) (w:World) (hi:Q0 w m d) (hn:m.pr.n<=4000) (Kq:y.state=1\/y.state=2\/y.state=3) :
  Calls prog 91 #[.agg m.cells,.agg (Qq y).toArray] w λe w'=>bI e (iG d y)/\Ext w w':=by
 by_cases h:iG d y
 ·exact(LO m d y w hi hn Kq h).mono (λe w' k=>⟨k.1▸bI.yes h,k.2⟩)
 ·exact(dw m d y w hi hn Kq h).mono (λe w' k=>⟨k.1▸bI.no h,k.2⟩)
def Y9 (l:List QF) (k j:Nat) (D:DataW Unit):Prop:=∀fr:Nat,(Ml l k j (fr:Int)->D.atKey (.int .i64 (fr:Int)) (.lit (.bool false))=.lit (.bool true))/\(¬Ml l k j (fr:Int)->D.atKey (.int .i64 (fr:Int)) (.lit (.bool false))=.lit (.bool false))
theorem Y9.zero (l:List QF):Y9 l 0 0 (.map []):=λfr=>⟨λh=>absurd h kE,λ_=>rfl⟩
theorem Y9.proc {l:List QF}{k:Nat}{D:DataW Unit}(h:Y9 l k 16 D):Y9 l (k+1) 0 D:=λfr=>⟨λhm=>(h fr).1 (C7.1 hm),λhm=>(h fr).2 (λh2=>hm (C7.2 h2))⟩
theorem Y9.skip {l:List QF}{k j:Nat}{D:DataW Unit}(h:Y9 l k j D) (hi:(l.getD k default).pis j=false):Y9 l k (j+1) D:=λfr=>⟨λhm=>(h fr).1 ((C8 hi).1 hm),λhm=>(h fr).2 (λh2=>hm ((C8 hi).2 h2))⟩
theorem Y9.put {l:List QF}{k j f:Nat}{D:DataW Unit}(h:Y9 l k j D) (hD:Maps.IsMap D) (hi:(l.getD k default).pis j=true) (hf:(l.getD k default).pfr j=(f:Int)) (hk:WideAt.IsKeyLit (.int .i64 (f:Int))):Y9 l k (j+1) (D.put (.int .i64 (f:Int)) (.lit (.bool true))):=λfr=>by
 by_cases e:fr=f
 ·subst e;refine⟨λ_=>Maps.atKey_put_same hD hk _ _,λhm=>?_⟩;exact absurd ((LG hi).2 (.inr hf.symm)) hm
 ·have Jt:Lit.int .i64 (fr:Int)≠.int .i64 (f:Int):=λh=>by injection h with _ h;omega
  rw[Maps.atKey_put_other Jt];refine⟨λhm=>(h fr).1 ?_,λhm=>(h fr).2 (λh2=>hm ((LG hi).2 (.inl h2)))⟩;rcases(LG hi).1 hm with h2|h2
  ·exact h2
  ·rw[hf]at h2;omega
theorem ii (w:World):(zeroValue 4).run prog w=.ok (.bool false) w:=by kernel_rfl
theorem Uc {w:World}(b n k:Nat) (D:DataW Unit) (q:Bool) (Zb:w.ownsMap prog 3 (plainElem prog 4) b n D) (h1:k<=100000) (Az:D.atKey (.int .i64 (k:Int)) (.lit (.bool false))=.lit (.bool q)) :
  (Instr.lookup 125 (.map (some b)) (.int .i64 (k:Int)) false).run prog w=.ok (.bool q) w:=by
 have hk:=UF k h1;obtain⟨v,ps,hrun,hv⟩:=Zb.lookup V8 underlying125 (ii w) (zd:=.lit (.bool false)) (zp:=[]) (plainElem_bool underlying4 false) hk;rw[Az]at hv;obtain rfl:v=.bool q:=by
  unfold plainElem at hv;rw[underlying4]at hv;split at hv
  ·injection hv with hv;injection hv with hv _;injection hv with hv;injection hv with hv;rw[←hv]
  ·split at hv<;>cases hv
  ·split at hv<;>cases hv
  ·cases hv
 exact hrun
theorem R3 {w:World}{b o:Nat}{l:List QF}(hc:∀j v,(l.flatMap Qq)[j]? =some v->w.cell? ⟨b,o+j,none⟩=some v) {k:Nat}(hk:k<l.length):w.rangeAt b (o+k*96) (Qq (l.getD k default)):=by
 rw[Yb,ZX hk];exact Z6 hc hk
def YP (l:List QF) (k:Nat):Int:=if 0<k then (l.getD (k-1) default).pid else 0
theorem SO {m:QO}{d:Qz}{k:Nat}(h:Zg m d d.pr.length) (hk:k<d.pr.length):Xa m d (d.pr.getD k default)/\decide ((d.pr.getD k default).pid<=YP d.pr k)=false:=by
 obtain⟨h1,h2⟩:=h k hk hk;have e:d.pr.getD k default=d.pr[k]:=by rw[Yb,ZX hk];rfl
 rw[e];refine⟨h1,XI ?_⟩;unfold YP;split
 ·rename_i h0;have:=h2 h0;rw[Yb,ZX (by omega)];show¬d.pr[k].pid<=(d.pr[k-1]'(by omega)).pid;omega
 ·have:=h1.pid.1;omega
theorem kl (m:QO) (d:Qz) (w:World) (hi:Q0 w m d) (hn:m.pr.n<=8) (U1:m.pi.n<=4000) (hp:Zg m d d.pr.length) (Mx:m.fr.n<=64) :
  Calls prog 46 #[.agg m.cells] w λe w'=>e=.returned (.int .i64 0)/\Ext w w':=by
 have mJ:=Qa (λy w h=>cQ m d y w h);have nM:=Qa (λy w hi h=>dx m d y w hi (by omega) h);have xZ:=Qa (λk n p w hi h h0=>O4 m d k n p w hi (by omega) h h0);have x0:=(Qg w).alloc (.cells m.cells 38);have bm:=Qs w 38 m.cells;have HM:=Qa (hi.ext x0);obtain⟨MA,Y7⟩:=hi.pr;have P2:=Qa Y7;have P1:=Qa MA;clear Y7 MA;have f1:decide (8<(m.pr.n:Int))=false:=by simp;omega
 have HP:=Qa (λk hk=>SO (k:=k) hp hk);clear hp;have ov:=λw=>run_makeMap (P:=prog) 125 w;go_enter func46,ntmps46;go_upto_region 1 with fail;generalize w.alloc (.cells m.cells 38)=w1 at *;have k5:w1.cell? ⟨w.heap.size,5,none⟩=some (.slice m.pr.A m.pr.n m.pr.c):=bm.cell 5;go_upto_region 4 with fail;clear ov f1 k5;have xm:=x0.alloc (.map #[] 0);have Gr:=bm.ext ((Qg w1).alloc (.map #[] 0));have vO:=Qa (HM.o.ext ((Qg w1).alloc (.map #[] 0)));have dE:(w1.alloc (.map #[] 0)).ownsMap prog 3 (plainElem (H:=Unit) prog 4) w1.heap.size 0 (.map []):=World.ownsMap_made w1 prog 3 _;have hMB:(w1.alloc (.map #[] 0)).heap[w1.heap.size]? =some (.map #[] 0):=World.alloc_heap_new w1 _;have hlm:w.heap.size<w1.heap.size:=bm.lt;generalize w1.alloc (.map #[] 0)=w2 at *;generalize hBm:w1.heap.size=Bm at *;generalize hG:w.heap.size=G at *;have k5:w2.cell? ⟨G,5,none⟩=some (.slice m.pr.A m.pr.n m.pr.c):=Gr.cell 5;clear bm;go_upto_region 6 with fail;clear k5;have Rn:m.pr.n=d.pr.length:=P1.o;have gJ:=P2.o;clear P2;generalize hrA:m.pr.A=A at gJ ⊢;generalize Tm:m.pr.n=pn at gJ ⊢;have HRA:=Qa hrA;obtain rfl:d.pr.length=pn:=by omega
 have hn8:d.pr.length<=8:=by omega
 clear hrA Tm Rn hn;go_loopw [4,19] (λs i wx=>∃k:Nat,k<=d.pr.length/\i=.int .i64 k/\s=.int .i64 (YP d.pr k)/\(∃D,wx.ownsMap prog 3 (plainElem (H:=Unit) prog 4) Bm (16*k) D/\Y9 d.pr k 0 D)/\w2.grownBy wx (some Bm)) (λ_ i _=>d.pr.length-(intOf i).toNat);case atStart=>exact⟨0,by omega,rfl,rfl,⟨.map [],dE,Y9.zero _⟩,XQ _ _⟩
 case round =>
  obtain⟨k,hk,rfl,rfl,⟨D,Zb,CM⟩,hg⟩:=hrel;have xk:Ext w wr:=xm.grown hg (λj e=>by cases e;omega);have Ry:=Gr.grown hg (by intro e;injection e with e;omega);have qZ:=Qa (hi.ext xk);have HG:=Qa hg;clear hg;by_cases Qn:k<d.pr.length
  ·obtain⟨b,o,rfl,Qf⟩:=gJ (by omega);have r1:=Ze (R3 Qf Qn) xk;obtain⟨hpo,hlast⟩:=HP.o k Qn;have Y6:(k:Int)<(d.pr.length:Int):=by omega
   have HLN:=Qa (show YP d.pr (k+1)=(d.pr.getD k default).pid by unfold YP;rw[QN (by omega),We1]);have Qk2:=hpo.pid;have hnx:decide (m.next<=(d.pr.getD k default).pid)=false:=XI (by omega);have yc:=Qa hpo;have qY:=Qa CM;have sL:=Qa (λ(j:Nat) (fr:Int) h1 h2 h3=>pQ (l:=d.pr) (k:=k) (j:=j) (fr:=fr) Qn h1 h2 h3);have AK:=Qa (λ(j:Nat) (D:DataW Unit) (h:Y9 d.pr k j D) hi=>h.skip hi);have MN:=Qa (λ(j f:Nat) (D:DataW Unit) (h:Y9 d.pr k j D) hD hi hf hk=>h.put (f:=f) hD hi hf hk);have gh:=Qa (λ(D:DataW Unit) (h:Y9 d.pr k 16 D)=>h.proc);clear Qf hpo Qk2 CM;generalize YP d.pr k=last at *;generalize d.pr.getD k default=y at *
   go_upto_region 8 with(first
    | (refine QT (.tmp 21) rfl rfl b (o+k*96) y rfl r1 ?_)
    | (refine J0 (.tmp 6) (.tmp 22) rfl rfl wr.heap.size y _ 57 rfl rfl (Qs _ _ _) rfl ?_;intro w3 b3 g3))
   have x3:Ext wr w3:=((Qg wr).alloc _).grown g3 (λj e=>by cases e;exact Q4 _);have Ao:=xk.trans x3;have OU:=Ry.ext x3;have Ke:=Yd Zb x3;have sB:=Qa (JF HG.o x3);have hMk:Bm<wr.heap.size:=Zb.lt;clear g3 r1 Zb x3 Ry xk qZ;generalize wr.heap.size=P3 at *;have c0:w3.cell? ⟨P3,0,none⟩=some (.int .i64 y.pid):=b3.cell 0;have q6:w3.cell? ⟨G,6,none⟩=some (.int .i64 m.next):=OU.cell 6
   go_upto_region 10 with(first
    | (refine ZD (.tmp 6) rfl rfl P3 y 57 rfl b3 ?_)
    | (go_at_call 90;refine(mJ.o _ _ yc.o).mono ?_;rintro e w4 ⟨rfl,x4⟩;have b4:=b3.ext x4;have nu:=OU.ext x4)
    | (refine Jz (.tmp 1) rfl rfl G m 38 rfl nu ?_)
    | (refine ZD (.tmp 6) rfl rfl P3 y 57 rfl b4 ?_)
    | (go_at_call 91;refine(nM.o _ _ (hi.ext (Ao.trans x4)) yc.o).mono ?_;rintro e w5 ⟨rfl,x5⟩))
   have b5:=b4.ext x5;have bm5:=nu.ext x5;have gQ:=x4.trans x5;have XD:=Yd Ke gQ;have HG5:=Qa (JF sB.o gQ);have xx5:=Ao.trans gQ;have hP5:=b5.lt;have hPm:P3≠Bm:=by omega
   have e0:w5.cell? ⟨P3,0,none⟩=some (.int .i64 y.pid):=b5.cell 0;have fh:=Qa yc.o.page;have mH:=Qa yc.o.fd;clear x4 x5 gQ b3 b4 OU nu c0 q6 Ke Ao hlast hnx HG sB yc mJ nM
   go_upto_region 12 with(first
    | (refine Zs (.tmp 47) rfl rfl P3 57 y rfl b5 ?_))
   clear e0;go_loopw [49] (λi wx=>∃j:Nat,j<=16/\i=.int .i64 j/\(∃D,wx.ownsMap prog 3 (plainElem (H:=Unit) prog 4) Bm (16*k+j) D/\Y9 d.pr k j D)/\w5.grownBy wx (some Bm)) (λi _=>16-(intOf i).toNat);case atStart=>exact⟨0,by omega,rfl,⟨D,XD,qY.o⟩,XQ _ _⟩
   case round =>
    clear XD;obtain⟨j,hj,rfl,⟨D2,UK,Pw⟩,My⟩:=hrel;have Nq:=Qa Pw;have EJ:=Qa My;have b6:=b5.grown My (by intro e;injection e with e;omega);have bm6:=bm5.grown My (by intro e;injection e with e;omega);have mE:Ext w wr:=xx5.grown My (λj e=>by cases e;omega);clear Pw My;by_cases NE:j<16
    ·have Kp:(j:Int)<16:=by omega
     have Ma:=fh.o j NE;have hms:=λfr=>sL.o j fr NE;have hmp:=λf=>MN.o j f D2 Nq.o UK.isMap;have hsk:=AK.o j D2 Nq.o;clear sL;go_upto_region 14 with(refine ZV (.tmp 48) (.tmp 49) rfl rfl y j rfl rfl NE ?_)
     unfold KV at Ma;generalize hia:y.pis j=ia at *;generalize hiw:y.pwr j=iw at *;generalize hif:y.pfr j=ifr at *;have xq:Ext wr (wr.alloc (.cells #[.bool ia,.bool iw,.int .i64 ifr] 50)):=(Qg _).alloc _;have bq:=Qs wr 50 #[.bool ia,.bool iw,.int .i64 ifr];have LN:=UK.alloc (.cells #[.bool ia,.bool iw,.int .i64 ifr] 50);have b7:=b6.ext xq;have nw:=bm6.ext xq;have hQm:wr.heap.size≠Bm:=by have:=UK.lt;omega
     generalize wr.alloc (.cells #[.bool ia,.bool iw,.int .i64 ifr] 50)=wq at *;have q0:=bq.cell 0;have q1:=bq.cell 1;have q2:=bq.cell 2;rcases Ma with⟨rfl,rfl,rfl⟩|⟨rfl,mj,wO,mg,hus⟩
     ·clear hmp hms;go_wp2_with fail;go_roundw;case rel=>exact⟨j+1,by omega,by go_num,⟨D2,LN.mono (by omega),hsk rfl⟩,JF EJ.o xq⟩
      case measure=>simp[intOf];omega
     ·obtain⟨f,rfl⟩:∃f:Nat,ifr=(f:Int):=⟨ifr.toNat,by omega⟩
      have Az:=(Nq.o f).2 (hms _ rfl rfl hus);have f7:f<=100000:=by omega
      have yL:=Qa (hmp f rfl rfl (V8.key (UF f f7)));have d2:y.state=3->False:=mj;have s3:(y.state==3)=false:=by simpa using mj
      have s4:decide ((f:Int)<0)=false:=XI (by omega);have s5:decide ((m.fr.n:Int)<=(f:Int))=false:=XI (by omega);have s6:decide (m.fr.n<=f)=false:=XI (by omega);have c2:wq.cell? ⟨P3,2,none⟩=some (.int .i64 y.state):=b7.cell 2;have c4:wq.cell? ⟨G,4,none⟩=some (.slice m.fr.A m.fr.n m.fr.c):=nw.cell 4;have P9:=Uc Bm (16*k+j) f D2 false LN f7 Az;clear hmp hms hsk mj d2 hus wO mg Az
      go_wp2_with (first
       | (at_mapUpdate;refine Wfj _ rfl _ _ _ 125 rfl 3 4 V8 underlying125 (plainElem (H:=Unit) prog 4) Bm (16*k+j) _ rfl LN (by unfold maxLen;omega) _ _ (.int .i64 (f:Int)) rfl rfl (UF f f7) (.lit (.bool true)) [] (plainElem_bool underlying4 true) ?_;intro w8 own8 hg8))
      go_roundw;case rel=>exact⟨j+1,by omega,by go_num,⟨_,own8,yL.o⟩,XR (JF EJ.o xq) hg8 (λj e=>.inr e)⟩
      case measure=>simp[intOf];omega
    ·have Qbe:¬(j:Int)<16:=by omega
     have ax:=Qa (show j=16 by omega);have sK:=Qa (show Y9 d.pr k 16 D2 by rw[←ax.o];exact Nq.o);clear MN AK sL fh Nq;have xo:=Qa (XR HG5.o EJ.o (λj e=>.inr e))
     go_upto_region 22 with(first
      | (refine V3 (.tmp 84) rfl rfl P3 57 y rfl b6 ?_))
     generalize hwz:wr=wz at *;clear hwz;go_loopw [86] (λi wx=>∃j:Nat,j<=8/\i=.int .i64 j/\Ext wz wx) (λi _=>8-(intOf i).toNat);case atStart=>exact⟨0,by omega,rfl,Qg _⟩
     case round =>
      obtain⟨j,hj,rfl,xj⟩:=hrel;by_cases NE:j<8
      ·have Kp:(j:Int)<8:=by omega
       obtain⟨DW,TH⟩:=mH.o j NE;go_upto_region 24 with(refine Uo (.tmp 85) (.tmp 86) rfl rfl y j rfl rfl NE ?_)
       generalize y.fk j=ik at *;generalize y.fn j=ifn at *;generalize y.fp j=ifp at *;have xq:Ext wr (wr.alloc (.cells #[.int .i64 ik,.int .i64 ifn,.int .i64 ifp] 54)):=(Qg _).alloc _;have bq:=Qs wr 54 #[.int .i64 ik,.int .i64 ifn,.int .i64 ifp];have xz:=xj.trans xq;generalize wr.alloc (.cells #[.int .i64 ik,.int .i64 ifn,.int .i64 ifp] 54)=wq at *;have q0:wq.cell? ⟨wr.heap.size,0,none⟩=some (.int .i64 ik):=bq.cell 0;have q1:=bq.cell 1;have q2:=bq.cell 2;have c2:wq.cell? ⟨P3,2,none⟩=some (.int .i64 y.state):=(b6.ext xz).cell 2;have nw:=bm6.ext xz;have HMq:=Qa (hi.ext (mE.trans xz));clear bq xq;by_cases CL:ik=0
       ·have hz:ifn=0/\ifp=0:=by
         rcases DW with⟨_,h1,h2⟩|⟨h,_⟩|⟨h,_⟩
         ·exact⟨h1,h2⟩
         ·omega
         ·omega
        obtain⟨rfl,rfl⟩:=hz;subst CL;clear DW TH;go_wp2_with fail;go_roundw;case rel=>exact⟨j+1,by omega,by go_num,xz⟩
        case measure=>simp[intOf];omega
       ·have mj:(y.state==3)=false:=by
         have:y.state≠3:=λh=>CL (TH h);simpa using this
        have Vz:(ik==0)=false:=by simpa using CL
        have gZ:=Qa DW;have HK0:=Qa CL;clear DW TH CL
        go_wp2_with (first
         | (refine Jz (.tmp 1) rfl rfl G m 38 rfl nw ?_)
         | (go_at_call 92;refine(xZ.o _ _ _ _ HMq.o gZ.o HK0.o).mono ?_;rintro e w9 ⟨rfl,x9⟩))
        go_roundw;case rel=>exact⟨j+1,by omega,by go_num,xz.trans x9⟩
        case measure=>simp[intOf];omega
      ·have Qkn:¬(j:Int)<8:=by omega
       go_wp2_with fail;go_roundw;case rel=>exact⟨k+1,by omega,by go_num,by rw[HLN.o],⟨D2,(Yd UK xj).mono (by omega),gh.o _ sK.o⟩,JF xo.o xj⟩
       case measure=>simp[intOf];omega
  ·obtain rfl:k=d.pr.length:=by omega
   go_wp2_with fail;go_ret;exact⟨rfl,xk⟩
theorem jC {d:Qz}{y:QF}{j:Nat}(h1:y.fk j=0) (h2:y.fn j=0) (h3:y.fp j=0):rj d y j:=⟨.inl ⟨.inl h1,h2,h3⟩,λ_=>h1⟩
theorem ki (m:QO) (d:Qz) (w:World) (hi:Q0 w m d) (hn:m.pr.n<=8) (U1:m.pi.n<=4000) (Xz:¬Zg m d d.pr.length) (Mx:m.fr.n<=64) :
  Calls prog 46 #[.agg m.cells] w λe w'=>e=.returned (.int .i64 3)/\Ext w w':=by
 have mJ:=Qa (λy w=>BZ y w);have nM:=Qa (λy w hi h=>DH m d y w hi (by omega) h);have xZ:=Qa (λk n p w hi h h0=>O4 m d k n p w hi (by omega) h h0);have xe:=Qa (λk n p w hi h=>oU m d k n p w hi (by omega) h);have x0:=(Qg w).alloc (.cells m.cells 38);have bm:=Qs w 38 m.cells;have HM:=Qa (hi.ext x0);obtain⟨MA,Y7⟩:=hi.pr;have P2:=Qa Y7;have P1:=Qa MA;clear Y7 MA;have f1:decide (8<(m.pr.n:Int))=false:=by simp;omega
 have WM:=Qa (λh:Wh m d d.pr.length=>Xz h.all);clear Xz;have ov:=λw=>run_makeMap (P:=prog) 125 w;go_enter func46,ntmps46;go_upto_region 1 with fail;generalize w.alloc (.cells m.cells 38)=w1 at *;have k5:w1.cell? ⟨w.heap.size,5,none⟩=some (.slice m.pr.A m.pr.n m.pr.c):=bm.cell 5;go_upto_region 4 with fail;clear ov f1 k5;have xm:=x0.alloc (.map #[] 0);have Gr:=bm.ext ((Qg w1).alloc (.map #[] 0));have vO:=Qa (HM.o.ext ((Qg w1).alloc (.map #[] 0)));have dE:(w1.alloc (.map #[] 0)).ownsMap prog 3 (plainElem (H:=Unit) prog 4) w1.heap.size 0 (.map []):=World.ownsMap_made w1 prog 3 _;have hMB:(w1.alloc (.map #[] 0)).heap[w1.heap.size]? =some (.map #[] 0):=World.alloc_heap_new w1 _;have hlm:w.heap.size<w1.heap.size:=bm.lt;generalize w1.alloc (.map #[] 0)=w2 at *;generalize hBm:w1.heap.size=Bm at *;generalize hG:w.heap.size=G at *;have k5:w2.cell? ⟨G,5,none⟩=some (.slice m.pr.A m.pr.n m.pr.c):=Gr.cell 5;clear bm;go_upto_region 6 with fail;clear k5;have Rn:m.pr.n=d.pr.length:=P1.o;have gJ:=P2.o;clear P2;generalize hrA:m.pr.A=A at gJ ⊢;generalize Tm:m.pr.n=pn at gJ ⊢;have HRA:=Qa hrA;obtain rfl:d.pr.length=pn:=by omega
 have hn8:d.pr.length<=8:=by omega
 clear hrA Tm Rn hn;go_loopw [4,19] (λs i wx=>∃k:Nat,k<=d.pr.length/\i=.int .i64 k/\s=.int .i64 (YP d.pr k)/\(∃D,wx.ownsMap prog 3 (plainElem (H:=Unit) prog 4) Bm (16*k) D/\Y9 d.pr k 0 D)/\w2.grownBy wx (some Bm)/\Wh m d k) (λ_ i _=>d.pr.length-(intOf i).toNat);case atStart=>exact⟨0,by omega,rfl,rfl,⟨.map [],dE,Y9.zero _⟩,XQ _ _,Wh.zero m d⟩
 case round =>
  obtain⟨k,hk,rfl,rfl,⟨D,Zb,CM⟩,hg,hrw⟩:=hrel;have xk:Ext w wr:=xm.grown hg (λj e=>by cases e;omega);have Ry:=Gr.grown hg (by intro e;injection e with e;omega);have qZ:=Qa (hi.ext xk);have HG:=Qa hg;have qe:=Qa hrw;clear hg hrw;by_cases Qn:k<d.pr.length
  ·obtain⟨b,o,rfl,Qf⟩:=gJ (by omega);have r1:=Ze (R3 Qf Qn) xk;have Y6:(k:Int)<(d.pr.length:Int):=by omega
   have HLN:=Qa (show YP d.pr (k+1)=(d.pr.getD k default).pid by unfold YP;rw[QN (by omega),We1]);have qY:=Qa CM;have AK:=Qa (λ(j:Nat) (D:DataW Unit) (h:Y9 d.pr k j D) hi=>h.skip hi);have MN:=Qa (λ(j f:Nat) (D:DataW Unit) (h:Y9 d.pr k j D) hD hi hf hk=>h.put (f:=f) hD hi hf hk);have gh:=Qa (λ(D:DataW Unit) (h:Y9 d.pr k 16 D)=>h.proc);have HPZ:=Qa (Wf.zero qe.o);have XG:=Qa (λ(j:Nat) (h:Wf m d.pr k j) hp hm=>h.next hp hm);have Ym:=Qa (λhp hl hu=>qe.o.next hp hl hu);have gd:=Qa (show 0<=YP d.pr k from by
    unfold YP;split
    ·rename_i h0;have:=(qe.o.1 (k-1) (by omega) (by omega)).1.pid.1;omega
    ·omega)
   have HPP:=Qa (show eB d.pr k=YP d.pr k from rfl);clear Qf CM qe;generalize hpw:Wf m d.pr k=PW at *;generalize YP d.pr k=last at *;have hpu:∀j,PW j->(∀i,i<j->Pk m (d.pr.getD k default) i)/\∀fr,Q7 d.pr fr k+Zw (d.pr.getD k default) fr j<=1:=λj h=>by rw[←hpw]at h;exact h
   have HPU:=Qa hpu;have yJ:=Qa (λ(j:Nat) (fr:Int)=>show Ml d.pr k j fr\/¬Ml d.pr k j fr from Classical.em _);clear hpu hpw;generalize d.pr.getD k default=y at *
   go_upto_region 8 with(first
    | (refine QT (.tmp 21) rfl rfl b (o+k*96) y rfl r1 ?_)
    | (refine J0 (.tmp 6) (.tmp 22) rfl rfl wr.heap.size y _ 57 rfl rfl (Qs _ _ _) rfl ?_;intro w3 b3 g3))
   have x3:Ext wr w3:=((Qg wr).alloc _).grown g3 (λj e=>by cases e;exact Q4 _);have Ao:=xk.trans x3;have OU:=Ry.ext x3;have Ke:=Yd Zb x3;have sB:=Qa (JF HG.o x3);have hMk:Bm<wr.heap.size:=Zb.lt;clear g3 r1 Zb x3 Ry xk qZ;generalize wr.heap.size=P3 at *;have c0:w3.cell? ⟨P3,0,none⟩=some (.int .i64 y.pid):=b3.cell 0;have q6:w3.cell? ⟨G,6,none⟩=some (.int .i64 m.next):=OU.cell 6;by_cases RL:y.pid<=last
   ·have Qbt:decide (y.pid<=last)=true:=Xd RL;go_wp2_with fail;go_ret;exact⟨rfl,Ao⟩
   have Qbt:decide (y.pid<=last)=false:=XI RL;by_cases N1:m.next<=y.pid
   ·have Qbu:decide (m.next<=y.pid)=true:=Xd N1;clear RL;go_wp2_with fail;go_ret;exact⟨rfl,Ao⟩
   have Qbu:decide (m.next<=y.pid)=false:=XI N1;have bE:=Qa (show(1<=y.pid/\y.pid<m.next)/\last<y.pid from by have:=gd.o;omega);clear RL N1;by_cases hF:Tq y;case neg =>
    have xe:=Qa hF;clear hF
    go_wp2_with (first
     | (refine ZD (.tmp 6) rfl rfl P3 y 57 rfl b3 ?_)
     | (go_at_call 90;refine(mJ.o _ _).mono ?_;rintro e w4 ⟨hB,x4⟩;obtain rfl:=hB.out_no xe.o;clear hB))
    go_ret;exact⟨rfl,Ao.trans x4⟩
   have DS:=Qa hF;clear hF;by_cases hP:iG d y;case neg =>
    have yg:=Qa hP;clear hP
    go_wp2_with (first
     | (refine ZD (.tmp 6) rfl rfl P3 y 57 rfl b3 ?_)
     | (go_at_call 90;refine(mJ.o _ _).mono ?_;rintro e w4 ⟨hB,x4⟩;obtain rfl:=hB.out_yes DS.o;clear hB;have b4:=b3.ext x4;have nu:=OU.ext x4)
     | (refine Jz (.tmp 1) rfl rfl G m 38 rfl nu ?_)
     | (refine ZD (.tmp 6) rfl rfl P3 y 57 rfl b4 ?_)
     | (go_at_call 91;refine(nM.o _ _ (hi.ext (Ao.trans x4)) DS.o.1).mono ?_;rintro e w5 ⟨hB,x5⟩;obtain rfl:=hB.out_no yg.o;clear hB))
    go_ret;exact⟨rfl,(Ao.trans x4).trans x5⟩
   have Ar:=Qa hP;clear hP
   go_upto_region 10 with(first
    | (refine ZD (.tmp 6) rfl rfl P3 y 57 rfl b3 ?_)
    | (go_at_call 90;refine(mJ.o _ _).mono ?_;rintro e w4 ⟨hB,x4⟩;obtain rfl:=hB.out_yes DS.o;clear hB;have b4:=b3.ext x4;have nu:=OU.ext x4)
    | (refine Jz (.tmp 1) rfl rfl G m 38 rfl nu ?_)
    | (refine ZD (.tmp 6) rfl rfl P3 y 57 rfl b4 ?_)
    | (go_at_call 91;refine(nM.o _ _ (hi.ext (Ao.trans x4)) DS.o.1).mono ?_;rintro e w5 ⟨hB,x5⟩;obtain rfl:=hB.out_yes Ar.o;clear hB))
   have b5:=b4.ext x5;have bm5:=nu.ext x5;have gQ:=x4.trans x5;have XD:=Yd Ke gQ;have HG5:=Qa (JF sB.o gQ);have xx5:=Ao.trans gQ;have hP5:=b5.lt;have hPm:P3≠Bm:=by omega
   have e0:w5.cell? ⟨P3,0,none⟩=some (.int .i64 y.pid):=b5.cell 0;clear x4 x5 gQ b3 b4 OU nu c0 q6 Ke Ao Qbt Qbu HG sB mJ nM
   go_upto_region 12 with(first
    | (refine Zs (.tmp 47) rfl rfl P3 57 y rfl b5 ?_))
   clear e0;go_loopw [49] (λi wx=>∃j:Nat,j<=16/\i=.int .i64 j/\(∃D,wx.ownsMap prog 3 (plainElem (H:=Unit) prog 4) Bm (16*k+j) D/\Y9 d.pr k j D)/\w5.grownBy wx (some Bm)/\PW j) (λi _=>16-(intOf i).toNat);case atStart=>exact⟨0,by omega,rfl,⟨D,XD,qY.o⟩,XQ _ _,HPZ.o⟩
   case round =>
    clear XD;obtain⟨j,hj,rfl,⟨D2,UK,Pw⟩,My,hpwj⟩:=hrel;have Nq:=Qa Pw;have EJ:=Qa My;have HPW:=Qa hpwj;have b6:=b5.grown My (by intro e;injection e with e;omega);have bm6:=bm5.grown My (by intro e;injection e with e;omega);have mE:Ext w wr:=xx5.grown My (λj e=>by cases e;omega);clear Pw My hpwj;by_cases NE:j<16
    ·have Kp:(j:Int)<16:=by omega
     have sM:=Qa (λf=>MN.o j f D2 Nq.o UK.isMap);have AN:=Qa (AK.o j D2 Nq.o);have qc:=Qa (XG.o j HPW.o);have Y1:(y.pis j=false/\((y.pwr j=false/\y.pfr j=0/\Pk m y j)\/(y.pwr j=true\/(y.pfr j==0)=false)))\/(y.pis j=true/\((y.state==3)=true\/((y.state==3)=false/\(decide (y.pfr j<0)=true\/(decide (y.pfr j<0)=false/\(decide ((m.fr.n:Int)<=y.pfr j)=true\/(decide ((m.fr.n:Int)<=y.pfr j)=false/\Pk m y j/\(Ml d.pr k j (y.pfr j)\/¬Ml d.pr k j (y.pfr j))))))))):=by
      cases hc:y.pis j
      ·left;refine⟨rfl,?_⟩;cases Lk:y.pwr j
       ·by_cases h0:y.pfr j=0
        ·exact .inl ⟨rfl,h0,.inl ⟨hc,Lk,h0⟩⟩
        ·exact .inr (.inr (by simpa using h0))
       ·exact .inr (.inl rfl)
      ·right;refine⟨rfl,?_⟩;by_cases h3:y.state=3
       ·exact .inl (by simpa using h3)
       ·refine .inr ⟨by simpa using h3,?_⟩;by_cases h4:y.pfr j<0
        ·exact .inl (Xd h4)
        ·refine .inr ⟨XI h4,?_⟩;by_cases h5:(m.fr.n:Int)<=y.pfr j
         ·exact .inl (Xd h5)
         ·exact .inr ⟨XI h5,.inr ⟨hc,h3,by omega,by omega⟩,yJ.o _ _⟩
     go_upto_region 14 with(refine ZV (.tmp 48) (.tmp 49) rfl rfl y j rfl rfl NE ?_)
     have yM:=Qa (λf:Nat=>Nq.o f);have DY:=Qa Y1;clear Y1 Nq;have Y1:=DY.o;clear DY;generalize hpp:Pk m y j=PP at *;generalize hia:y.pis j=ia at *;generalize hiw:y.pwr j=iw at *;generalize hif:y.pfr j=ifr at *;clear hpp hia hiw hif;have xq:Ext wr (wr.alloc (.cells #[.bool ia,.bool iw,.int .i64 ifr] 50)):=(Qg _).alloc _;have bq:=Qs wr 50 #[.bool ia,.bool iw,.int .i64 ifr];have LN:=UK.alloc (.cells #[.bool ia,.bool iw,.int .i64 ifr] 50);have b7:=b6.ext xq;have nw:=bm6.ext xq;have hQm:wr.heap.size≠Bm:=by have:=UK.lt;omega
     generalize wr.alloc (.cells #[.bool ia,.bool iw,.int .i64 ifr] 50)=wq at *;have q0:=bq.cell 0;have q1:=bq.cell 1;have q2:=bq.cell 2;rcases Y1 with⟨rfl,⟨rfl,rfl,Ma⟩|jS⟩|⟨rfl,mj|⟨mj,h4|⟨h4,h5|⟨h5,Ma,hmt⟩⟩⟩⟩
     ·have fh:=Qa Ma;clear Ma;go_wp2_with fail;go_roundw;case rel=>exact⟨j+1,by omega,by go_num,⟨D2,LN.mono (by omega),AN.o rfl⟩,JF EJ.o xq,qc.o fh.o (λh=>by cases h)⟩
      case measure=>simp[intOf];omega
     ·rcases jS with rfl|hb
      ·go_wp2_with fail;go_ret;exact⟨rfl,mE.trans xq⟩
      ·cases iw<;>go_wp2_with fail
       all_goals
        go_ret;exact⟨rfl,mE.trans xq⟩
     ·have c2:wq.cell? ⟨P3,2,none⟩=some (.int .i64 y.state):=b7.cell 2;go_wp2_with fail;go_ret;exact⟨rfl,mE.trans xq⟩
     ·have c2:wq.cell? ⟨P3,2,none⟩=some (.int .i64 y.state):=b7.cell 2;go_wp2_with fail;go_ret;exact⟨rfl,mE.trans xq⟩
     ·have c2:wq.cell? ⟨P3,2,none⟩=some (.int .i64 y.state):=b7.cell 2;have c4:wq.cell? ⟨G,4,none⟩=some (.slice m.fr.A m.fr.n m.fr.c):=nw.cell 4;go_wp2_with fail;go_ret;exact⟨rfl,mE.trans xq⟩
     ·have wO:0<=ifr:=by have:=bJ h4;omega
      obtain⟨f,rfl⟩:∃f:Nat,ifr=(f:Int):=⟨ifr.toNat,by omega⟩
      have mg:(f:Int)<(m.fr.n:Int):=by have:=bJ h5;omega
      have f7:f<=100000:=by omega
      have c2:wq.cell? ⟨P3,2,none⟩=some (.int .i64 y.state):=b7.cell 2;have c4:wq.cell? ⟨G,4,none⟩=some (.slice m.fr.A m.fr.n m.fr.c):=nw.cell 4;have s4:decide ((f:Int)<0)=false:=h4;have s6:decide (m.fr.n<=f)=false:=XI (by omega);have fh:=Qa Ma;rcases hmt with hmt|hmt
      ·have P9:=Uc Bm (16*k+j) f D2 true LN f7 ((yM.o f).1 hmt);clear hmt Ma wO mg;go_wp2_with fail;go_ret;exact⟨rfl,mE.trans xq⟩
      ·have P9:=Uc Bm (16*k+j) f D2 false LN f7 ((yM.o f).2 hmt);have HNM:=Qa hmt;have yL:=Qa (sM.o f rfl rfl (V8.key (UF f f7)));clear hmt Ma wO mg
       go_wp2_with (first
        | (at_mapUpdate;refine Wfj _ rfl _ _ _ 125 rfl 3 4 V8 underlying125 (plainElem (H:=Unit) prog 4) Bm (16*k+j) _ rfl LN (by unfold maxLen;omega) _ _ (.int .i64 (f:Int)) rfl rfl (UF f f7) (.lit (.bool true)) [] (plainElem_bool underlying4 true) ?_;intro w8 own8 hg8))
       go_roundw;case rel=>exact⟨j+1,by omega,by go_num,⟨_,own8,yL.o⟩,XR (JF EJ.o xq) hg8 (λj e=>.inr e),qc.o fh.o (λ_=>HNM.o)⟩
       case measure=>simp[intOf];omega
    ·have Qbe:¬(j:Int)<16:=by omega
     have ax:=Qa (show j=16 by omega);have sK:=Qa (show Y9 d.pr k 16 D2 by rw[←ax.o];exact Nq.o);have sU:=Qa (HPU.o 16 (by rw[←ax.o];exact HPW.o));clear MN AK Nq yJ HPW HPU XG HPZ;have xo:=Qa (XR HG5.o EJ.o (λj e=>.inr e));have yj:=Qa (λ(hf:gT d y 8)=>Ym.o ⟨bE.o.1,DS.o,Ar.o,λi hi=>sU.o.1 i hi,hf⟩ (by rw[HPP.o];exact bE.o.2) sU.o.2);clear Ym sU
     go_upto_region 22 with(first
      | (refine V3 (.tmp 84) rfl rfl P3 57 y rfl b6 ?_))
     generalize hwz:wr=wz at *;clear hwz;go_loopw [86] (λi wx=>∃j:Nat,j<=8/\i=.int .i64 j/\Ext wz wx/\gT d y j) (λi _=>8-(intOf i).toNat);case atStart=>exact⟨0,by omega,rfl,Qg _,λi hi=>absurd hi (zT _)⟩
     case round =>
      obtain⟨j,hj,rfl,xj,hfj⟩:=hrel;have HFJ:=Qa hfj;clear hfj;by_cases NE:j<8
      ·have Kp:(j:Int)<8:=by omega
       have vM:=Qa (λh=>HFJ.o.next (j:=j) h);have Y1:(y.fk j=0/\y.fn j=0/\y.fp j=0/\rj d y j)\/((y.fk j≠0\/y.fn j≠0\/y.fp j≠0)/\((y.state==3)=true\/((y.state==3)=false/\((Gm d.pi (y.fk j) (y.fn j) (y.fp j)/\y.fk j≠0/\rj d y j)\/¬Gm d.pi (y.fk j) (y.fn j) (y.fp j))))):=by
        by_cases hz:y.fk j=0/\y.fn j=0/\y.fp j=0
        ·exact .inl ⟨hz.1,hz.2.1,hz.2.2,jC hz.1 hz.2.1 hz.2.2⟩
        ·refine .inr ⟨by omega,?_⟩;by_cases h3:y.state=3
         ·exact .inl (by simpa using h3)
         ·refine .inr ⟨by simpa using h3,?_⟩;by_cases hp:Gm d.pi (y.fk j) (y.fn j) (y.fp j)
          ·refine .inl ⟨hp,λh0=>?_,hp,λh=>absurd h h3⟩;rcases hp with⟨_,h4,h5⟩|⟨h4,_⟩|⟨h4,_⟩<;>omega
          ·exact .inr hp
       have DY:=Qa Y1;clear Y1;go_upto_region 24 with(refine Uo (.tmp 85) (.tmp 86) rfl rfl y j rfl rfl NE ?_)
       have Y1:=DY.o;clear DY;generalize rj d y j=FW at *;generalize y.fk j=ik at *;generalize y.fn j=ifn at *;generalize y.fp j=ifp at *;have xq:Ext wr (wr.alloc (.cells #[.int .i64 ik,.int .i64 ifn,.int .i64 ifp] 54)):=(Qg _).alloc _;have bq:=Qs wr 54 #[.int .i64 ik,.int .i64 ifn,.int .i64 ifp];have xz:=xj.trans xq;generalize wr.alloc (.cells #[.int .i64 ik,.int .i64 ifn,.int .i64 ifp] 54)=wq at *;have q0:wq.cell? ⟨wr.heap.size,0,none⟩=some (.int .i64 ik):=bq.cell 0;have q1:=bq.cell 1;have q2:=bq.cell 2;have c2:wq.cell? ⟨P3,2,none⟩=some (.int .i64 y.state):=(b6.ext xz).cell 2;have nw:=bm6.ext xz;have HMq:=Qa (hi.ext (mE.trans xz));clear bq xq;rcases Y1 with⟨rfl,rfl,rfl,hw⟩|⟨hnz,Y1⟩
       ·have HW:=Qa hw;clear hw;go_wp2_with fail;go_roundw;case rel=>exact⟨j+1,by omega,by go_num,xz,vM.o HW.o⟩
        case measure=>simp[intOf];omega
       ·have uG:((ik==0)=false)\/(ik=0/\(ifn==0)=false)\/(ik=0/\ifn=0/\(ifp==0)=false):=by
         by_cases e1:ik=0
         ·by_cases e2:ifn=0
          ·have e3:ifp≠0:=by omega
           exact .inr (.inr ⟨e1,e2,by simpa using e3⟩)
          ·exact .inr (.inl ⟨e1,by simpa using e2⟩)
         ·exact .inl (by simpa using e1)
        clear hnz;rcases Y1 with mj|⟨mj,⟨hp,CL,hw⟩|hp⟩
        ·rcases uG with hz|⟨rfl,hz⟩|⟨rfl,rfl,hz⟩<;>go_wp2_with fail
         all_goals
          go_ret;exact⟨rfl,mE.trans xz⟩
        ·have gZ:=Qa hp;have HK0:=Qa CL;have HW:=Qa hw;have hz:(ik==0)=false:=by simpa using CL
         clear hp CL hw uG
         go_wp2_with (first
          | (refine Jz (.tmp 1) rfl rfl G m 38 rfl nw ?_)
          | (go_at_call 92;refine(xZ.o _ _ _ _ HMq.o gZ.o HK0.o).mono ?_;rintro e w9 ⟨rfl,x9⟩))
         go_roundw;case rel=>exact⟨j+1,by omega,by go_num,xz.trans x9,vM.o HW.o⟩
         case measure=>simp[intOf];omega
        ·have gZ:=Qa hp;clear hp
         rcases uG with hz|⟨rfl,hz⟩|⟨rfl,rfl,hz⟩<;>go_wp2_with (first
          | (refine Jz (.tmp 1) rfl rfl G m 38 rfl nw ?_)
          | (go_at_call 92;refine(xe.o _ _ _ _ HMq.o gZ.o).mono ?_;rintro e w9 ⟨rfl,x9⟩))
         all_goals
          go_ret;exact⟨rfl,(mE.trans xz).trans x9⟩
      ·have Qkn:¬(j:Int)<8:=by omega
       have HJ8:=Qa (show j=8 by omega);have Qig:=Qa (yj.o (by rw[←HJ8.o];exact HFJ.o));clear yj HFJ;go_wp2_with fail;go_roundw;case rel=>exact⟨k+1,by omega,by go_num,by rw[HLN.o],⟨D2,(Yd UK xj).mono (by omega),gh.o _ sK.o⟩,JF xo.o xj,Qig.o⟩
       case measure=>simp[intOf];omega
  ·exfalso;obtain rfl:k=d.pr.length:=by omega
   exact WM.o qe.o
theorem B3 (m:QO) (d:Qz) (w:World) (hi:Q0 w m d) (U1:m.pi.n<=4000) (Mx:m.fr.n<=64) :
  Calls prog 46 #[.agg m.cells] w λe w'=>e=.returned (.int .i64 (DX m d))/\Ext w w':=by
 unfold DX;by_cases h:m.pr.n<=8;case neg =>
  rw[J4 h,Zy (by omega)];have x0:=(Qg w).alloc (.cells m.cells 38);have bm:=Qs w 38 m.cells;clear hi;have f2:decide (8<(m.pr.n:Int))=true:=by simp;omega
  clear h;go_enter func46,ntmps46;go_upto_region 1 with fail;generalize w.alloc (.cells m.cells 38)=w1 at *;have k8:w1.cell? ⟨w.heap.size,5,none⟩=some (.slice m.pr.A m.pr.n m.pr.c):=bm.cell 5;go_wp2_with fail;go_ret;exact⟨rfl,x0⟩
 rw[QM h,QY];by_cases hp:Zg m d d.pr.length
 ·rw[QM hp];exact kl m d w hi h U1 hp Mx
 ·rw[J4 hp];exact ki m d w hi h U1 hp Mx
theorem uU {d:Qz}(h:ZN d.bl d.pe=0) (hl:33<d.bl.length):ZR d.bl d.pe=0:=by
 unfold ZR;rw[QD (by omega),QD (by omega)]
theorem pV (A:Option Addr) (n c:Nat) (v:List (List UInt8)) (w:World) (hv:Strs w A n v) (hnk:n<=9223372036854775807) (hg:¬∃I,Ji v I) :
  Calls prog 94 #[.slice A n c] w λe w'=>e=.returned (.tuple #[JJ,.int .i64 3])/\Ext w w' :=
 (O9 A n c v w hv hnk).mono λe w' ⟨h,x⟩=>⟨by
  rcases h with⟨I,hI,_⟩|h
  ·exact absurd ⟨I,hI⟩ hg
  ·exact h,x⟩
theorem DI (m:QO) (d:Qz) (w:World) (hi:Q0 w m d) :
  Calls prog 49 #[.agg m.cells] w λe w'=>e=.returned (.int .i64 (ai d))/\Ext w w':=by
 obtain⟨N,hN⟩:∃N,N=ai d:=⟨_,rfl⟩
 rw[←hN];have HN:=Qa hN;have HC:=Qa (λw h1 h2=>M6 m.bl.A m.pe.A m.bl.n m.bl.c m.pe.n m.pe.c m.dleft d.bl d.pe w h1 h2 (YQ hi.pek.2.1));have HH:=Qa (λw h1 h2=>CO m.bl.A m.pe.A m.bl.n m.bl.c m.pe.n m.pe.c m.dleft d.bl d.pe w h1 h2 (YQ hi.pek.2.1) hi.blk.2.2);have x0:=(Qg w).alloc (.cells m.cells 38);have bm:=Qs w 38 m.cells;have HM:=Qa (hi.ext x0);obtain⟨hd1,hd2⟩:=hi.di.wrs;have av:=Qa hd1;have HV:=Qa (show QS d.bl d.pe d.di=d.di.foldl Z5 (Jl d.bl d.pe) from rfl);clear hN hi hd1;go_enter func49,ntmps49;go_upto_region 1 with fail;generalize w.alloc (.cells m.cells 38)=w1 at *;by_cases hd:ZN d.bl d.pe=0;case neg =>
  have AL:=Qa (show N=ZN d.bl d.pe by rw[HN.o];unfold ai;exact Zy hd _);generalize ZN d.bl d.pe=n at *;have hn:(n != 0)=true:=by simpa using hd
  clear hd
  go_wp2_with (first
   | (refine Tk (.tmp 10) rfl rfl w.heap.size m 38 rfl bm ?_)
   | (go_at_call 93;refine(HC.o _ HM.o.bl.strs HM.o.pe.wrs).mono ?_;rintro e w2 ⟨rfl,x2⟩))
  go_ret;exact⟨by rw[AL.o];rfl,x0.trans x2⟩
 have Rs:=Qa (show N=GX (Xo (33<d.bl.length) 3) (GX (Xo (d.di.length<=32) 6) (GX (Xo (KD (d.bl.length-33) d.di d.di.length) 3) (Xo (∃I,Ji (QS d.bl d.pe d.di) I) 3))) by rw[HN.o];unfold ai;rw[hd];exact QY _);rw[hd]at HC;clear HN
 go_upto_region 4 with(first
  | (refine Tk (.tmp 10) rfl rfl w.heap.size m 38 rfl bm ?_)
  | (go_at_call 93;refine(HC.o _ HM.o.bl.strs HM.o.pe.wrs).mono ?_;rintro e w2 ⟨rfl,x2⟩))
 have Gr:=bm.ext x2;have xx2:=x0.trans x2
 go_upto_region 5 with(first
  | (refine Tk (.tmp 16) rfl rfl w.heap.size m 38 rfl Gr ?_)
  | (go_at_call 50;refine(HH.o _ (HM.o.ext x2).bl.strs (HM.o.ext x2).pe.wrs).mono ?_;rintro e w3 ⟨A1,c1,rfl,x3,Z2⟩))
 have OU:=Gr.ext x3;have Ao:=xx2.trans x3;have hGw:w.heap.size<w2.heap.size:=Gr.lt;have wH:w3.cell? ⟨w.heap.size,16,none⟩=some (.slice m.di.A m.di.n m.di.c):=OU.cell 16;have rW:=Q8 Z2 (base':=w.heap.size) (by omega);clear bm Gr x2 x3 xx2 Z2 HC HH x0;by_cases hl33:33<d.bl.length;case neg =>
  have hh:Jl d.bl d.pe=[]:=by
   have hj:ZR d.bl d.pe=2:=by unfold ZR;rw[QD (by omega),QN (by omega)]
   unfold Jl;rw[QN (by rw[hj];decide)]
  have AL:=Qa (show N=3 by rw[Rs.o,J4 hl33,Zy (by omega)]);rw[hh];clear hl33 hd hh rW wH;go_wp2_with fail;go_ret;exact⟨by rw[AL.o];rfl,Ao⟩
 have hj:=uU hd hl33;have YW:=YO hj;have Yj:=Yn hj;have uD:=Yj.least;have hH33:0<(Jl d.bl d.pe).length:=by omega
 have HHL:=Qa YW;have aG:(Jl d.bl d.pe).length<=1000:=by have:=Yj.most;omega
 rw[QM hl33,QY,←YW]at Rs;clear hj Yj YW uD hd hl33;have HDE:=Qa (show KD (Jl d.bl d.pe).length d.di d.di.length->∀(k:Nat) (h:k<d.di.length),d.di[k].1<((Jl d.bl d.pe).length:Int)/\d.di[k].2.length=128/\(if 0<k then (d.di.getD (k-1) default).1 else (-1:Int))<d.di[k].1 fromλh k hk=>by
  obtain⟨h1,h2,h3,h4⟩:=h k hk hk;refine⟨h2,h3,?_⟩;split
  ·rename_i h0;rw[Yb,ZX (by omega)];exact h4 h0
  ·omega)
 have HG:=Qa (iz (∃I,Ji (QS d.bl d.pe d.di) I) 3);generalize Jl d.bl d.pe=H at *;have hH0:((H.length:Int)==0)=false:=by rw[Wes];omega
 have Rn:m.di.n=d.di.length:=av.o;by_cases h32:d.di.length<=32;case neg =>
  have d32:decide (32<(m.di.n:Int))=true:=by simp;omega
  have AL:=Qa (show N=6 by rw[Rs.o,J4 h32,Zy (by omega)]);have d33:decide (32<(d.di.length:Int))=true:=by simp;omega
  clear h32;go_wp2_with fail;go_ret;exact⟨by rw[AL.o];rfl,Ao⟩
 have d32:decide (32<(m.di.n:Int))=false:=by simp;omega
 rw[QM h32,QY]at Rs;have HE1:=Qa (λh:¬KD H.length d.di d.di.length=>show N=3 by rw[Rs.o,J4 h,Zy (by omega)]);have D0:=Qa (λh:KD H.length d.di d.di.length=>show N=Xo (∃I,Ji (QS d.bl d.pe d.di) I) 3 by rw[Rs.o,QM h,QY]);have d33:decide (32<(d.di.length:Int))=false:=by simp;omega
 clear Rs;go_upto_region 11 with fail;clear d32 d33 hH0 wH;have vJ:=Qa (λk=>JM (d.di.take k) H);have HTk:=Qa (λk (h:k<d.di.length)=>Xp h H);have qV:=Qa (show∀k,KD H.length d.di k->(h:k<d.di.length)->0<=d.di[k].1->d.di[k].1<(H.length:Int)->d.di[k].2.length=128->(0<k->(d.di.getD (k-1) default).1<d.di[k].1)->KD H.length d.di (k+1) fromλk h hk h1 h2 h3 h4 i hi f9=>by
  by_cases e:i<k
  ·exact h i hi e
  ·obtain rfl:i=k:=by omega
   refine⟨h1,h2,h3,λh0=>?_⟩;have:=h4 h0;rw[Yb,ZX (by omega)]at this;exact this)
 have HD0:=Qa (show∀k,KD H.length d.di k->0<k->(h:k-1<d.di.length)->0<=(d.di.getD (k-1) default).1 fromλk h h0 hk=>by
  rw[Yb,ZX hk];exact(h (k-1) hk (by omega)).1)
 generalize hDK:KD H.length d.di=DK at *;have HDz:=Qa (show DK 0 by rw[←hDK];exactλi h hk=>by omega);clear hDK HHL;rw[HV.o]at D0 HG;generalize Xo (∃I,Ji (d.di.foldl Z5 H) I) 3=NG at *;clear HV;generalize d.di=l at *;generalize hdA:m.di.A=dA at hd2 ⊢;generalize cy:m.di.n=dn at hd2 Rn ⊢;clear hdA cy av;subst Rn;go_loopw [5,29] (λs i wx=>∃k:Nat,k<=l.length/\i=.int .i64 k/\s=.int .i64 (if 0<k then (l.getD (k-1) default).1 else -1)/\Ext w wx/\wx.ownsRow w.heap.size 9 1 (.slice A1 H.length c1) H.length (Q5 ((l.take k).foldl Z5 H))/\DK k) (λ_ i _=>l.length-(intOf i).toNat);case atStart=>exact⟨0,by omega,rfl,rfl,Ao,rW,HDz.o⟩
 case round =>
  obtain⟨k,hk,rfl,rfl,xk,ok,hdk⟩:=hrel;have xM:=Qa hdk;clear hdk;by_cases Qn:k<l.length
  ·obtain⟨b2,o2,rfl,Qf⟩:=hd2 (by omega);have e1:=xk.keep (Qf k Qn).1;have e2:=xk.keep (Qf k Qn).2;have HT:=Qa (HTk.o k Qn);have OE:=Qa (vJ.o k);have HN:=Qa (show(if 0<k+1 then (l.getD (k+1-1) default).1 else -1)=l[k].1 by
    rw[QN (by omega),We1,Yb,ZX Qn];rfl)
   have Y6:(k:Int)<(l.length:Int):=by omega
   have hz:=Qh;have gd:=Qa (show -1<=(if 0<k then (l.getD (k-1) default).1 else (-1:Int)) from by
    split
    ·rename_i h0;have:=HD0.o k xM.o h0 (by omega);omega
    ·omega)
   have qc:=Qa (show 0<=l[k].1->l[k].1<(H.length:Int)->l[k].2.length=128->(if 0<k then (l.getD (k-1) default).1 else (-1:Int))<l[k].1->DK (k+1) fromλh1 h2 h3 h4=>qV.o k xM.o Qn h1 h2 h3 (λh0=>by rw[QN h0]at h4;exact h4));have HX:=Qa (show¬(l[k].1<(H.length:Int)/\l[k].2.length=128/\(if 0<k then (l.getD (k-1) default).1 else (-1:Int))<l[k].1)->N=3 fromλh=>HE1.o (λh2=>h (HDE.o h2 k Qn)));clear Qf;generalize (if 0<k then (l.getD (k-1) default).1 else (-1:Int))=last at *;generalize l[k]=y at *;generalize (l.take k).foldl Z5 H=W at *;have xz:=xk.alloc (.cells #[.int .i64 y.1,.string (Qb y.2)] 92);by_cases g1:y.1<=last
   ·have g1':decide (y.1<=last)=true:=Xd g1;have AL:=Qa (HX.o (λh=>by omega));clear g1;go_wp2_with fail;go_ret;exact⟨by rw[AL.o];rfl,xz⟩
   have g1':decide (y.1<=last)=false:=XI g1;by_cases g2:(H.length:Int)<=y.1
   ·have g2':decide ((H.length:Int)<=y.1)=true:=Xd g2;have AL:=Qa (HX.o (λh=>by omega));clear g1 g2;go_wp2_with fail;go_ret;exact⟨by rw[AL.o];rfl,xz⟩
   have g2':decide ((H.length:Int)<=y.1)=false:=XI g2;by_cases g3:y.2.length=128;case neg =>
    have g3':((y.2.length:Int) != 128)=true:=by simp;omega
    have AL:=Qa (HX.o (λh=>by omega));clear g1 g2 g3;go_wp2_with fail;go_ret;exact⟨by rw[AL.o];rfl,xz⟩
   have g3':((y.2.length:Int) != 128)=false:=by rw[g3];rfl
   have h0:0<=y.1:=by have:=gd.o;omega
   have sR:=Qa (qc.o h0 (by omega) g3 (by omega));clear qc HX g3 g1;obtain⟨y1,y2⟩:=y;simp only at h0 g2 g1' g2' g3' e1 e2 HN sR;obtain⟨q,rfl⟩:∃q:Nat,y1=q:=⟨y1.toNat,by omega⟩
   have pC:q<H.length:=by omega
   have hqI:(q:Int)<(H.length:Int):=by omega
   have TZ:=Qc ok ((Qg wr).alloc (.cells #[.int .i64 (q:Int),.string (Qb y2)] 92));have HY:=Qa (show Z5 W ((q:Int),y2)=W.set q y2 by unfold Z5;simp only;rw[QN (by have:=OE.o;omega)];rfl);obtain⟨g,cap,hgc,hg,_⟩:=Strs.own' ok (by omega);injection hgc with rP _ hgc;subst rP;subst hgc;have kc:(wr.alloc (.cells #[.int .i64 (q:Int),.string (Qb y2)] 92)).cell? ⟨g,q,none⟩=some (.string (Qb (W.getD q []))):=(TZ.cellAt q (by omega)).trans (by have:=OE.o;simp[Q5,this,pC,Yb]);have kf:=TZ.frozenAt q;clear h0 g2;go_wp2_with fail;go_roundw;case rel=>exact⟨k+1,by omega,by go_num,by rw[HN.o],(xk.alloc _).setCell hg _,by rw[HT.o,HY.o];exact UL TZ _,sR.o⟩
   case measure=>simp[intOf];omega
  ·have Vq:¬(k:Int)<(l.length:Int):=by omega
   obtain rfl:k=l.length:=by omega
   rw[Ri]at ok;have hVl:(l.foldl Z5 H).length=H.length:=JM _ _;have Mk:=Qa (D0.o xM.o);generalize l.foldl Z5 H=V at *;rw[←hVl]at ok ⊢;have hs:=GA ok;have hVk:V.length<=9223372036854775807:=by omega
   clear hVl HTk vJ ok HE1 D0;by_cases hg:∃I,Ji V I
   ·have AL:=Qa (Mk.o.trans (HG.o.1 hg));obtain⟨I,hI⟩:=hg;have HGI:=Qa hI;clear hI
    go_wp2_with (first
     | (go_at_call 94;refine(Dl _ _ _ _ I _ hs HGI.o).mono ?_;rintro e w6 ⟨rfl,x6⟩)
     | (rw[Xr];refine QC (.tmp 8) (.tmp 62) rfl rfl w6.heap.size _ [0,0,0,0,0,0] 144 rfl rfl (Qs _ _ _) rfl rfl ?_;intro w7 b7 g7))
    all_goals
     go_ret;exact⟨by rw[AL.o];rfl,((xk.trans x6).alloc _).grown g7 (λj e=>by cases e;exact(xk.trans x6).size)⟩
   ·have AL:=Qa (Mk.o.trans (HG.o.2 hg));have HGI:=Qa hg;clear hg
    go_wp2_with (first
     | (go_at_call 94;refine(pV _ _ _ _ _ hs hVk HGI.o).mono ?_;rintro e w6 ⟨rfl,x6⟩)
     | (rw[Ue];refine QC (.tmp 8) (.tmp 62) rfl rfl w6.heap.size _ [0,0,0,0,0,0] 144 rfl rfl (Qs _ _ _) rfl rfl ?_;intro w7 b7 g7))
    all_goals
     go_ret;exact⟨by rw[AL.o];rfl,((xk.trans x6).alloc _).grown g7 (λj e=>by cases e;exact(xk.trans x6).size)⟩
theorem GZ (m:QO) (w:World) :
  Calls prog 44 #[.agg m.cells] w λe w'=>e=.returned (.int .i64 (Kc m))/\Ext w w':=by
 have HE:=Qa (iz (YU m) 2);unfold Kc;generalize Xo (YU m) 2=N at *;have x0:=(Qg w).alloc (.cells m.cells 38);have bm:=Qs w 38 m.cells;go_enter func44,ntmps44;go_upto_region 1 with fail;generalize w.alloc (.cells m.cells 38)=w1 at *;obtain⟨k0,k1,k2,k3,k4,k5,k6,k7,k8,k9,Mb,k11,k12,k13,k14,k15,k16⟩:=XX bm;clear k0 k4 k5 k7 k8 Mb k11 k12 k13 k14 k15 k16 bm;go_wp2_with fail
 all_goals
  go_ret;refine⟨?_,x0⟩
  first
   | (rw[HE.o.1 ⟨⟨by omega,by omega⟩,⟨by omega,by omega⟩,by omega,⟨by omega,by omega⟩,⟨by omega,by omega⟩⟩];rfl)
   | (rw[HE.o.2 (λh=>by obtain⟨⟨a1,a2⟩,⟨b1,b2⟩,c1,⟨d1,d2⟩,⟨e1,e2⟩⟩:=h;omega)];rfl)
theorem B7 (m:QO) (w:World) :
  Calls prog 48 #[.agg m.cells] w λe w'=>e=.returned (.int .i64 (gO m))/\Ext w w':=by
 have HE:=Qa (iz (m.inn.length<=65536/\m.init.length<=128) 6);unfold gO;generalize Xo (m.inn.length<=65536/\m.init.length<=128) 6=N at *;have x0:=(Qg w).alloc (.cells m.cells 38);have bm:=Qs w 38 m.cells;have hz:=Qh;go_enter func48,ntmps48;go_upto_region 1 with fail;generalize w.alloc (.cells m.cells 38)=w1 at *;obtain⟨k0,k1,k2,k3,k4,k5,k6,k7,k8,k9,Mb,k11,k12,k13,k14,k15,k16⟩:=XX bm;clear k0 k1 k2 k3 k4 k5 k6 k8 k9 k11 k12 k13 k14 k15 k16 bm;go_wp2_with fail
 all_goals
  go_ret;refine⟨?_,x0⟩
  first
   | (rw[HE.o.1 ⟨by omega,by omega⟩];rfl)
   | (rw[HE.o.2 (λh=>by omega)];rfl)
theorem DG (m:QO) (d:Qz) (w:World) (hi:Q0 w m d) :
  Calls prog 45 #[.agg m.cells] w λe w'=>e=.returned (.int .i64 (E2 m d))/\Ext w w':=by
 unfold E2;by_cases h:1<=m.fr.n/\m.fr.n<=64;case neg =>
  rw[J4 h,Zy (by omega)];have x0:=(Qg w).alloc (.cells m.cells 38);have bm:=Qs w 38 m.cells;clear hi;by_cases h1:1<=m.fr.n
  ·have f1:decide ((m.fr.n:Int)<1)=false:=by simp;omega
   have f2:decide (64<(m.fr.n:Int))=true:=by simp;omega
   clear h h1;go_enter func45,ntmps45;go_upto_region 1 with fail;generalize w.alloc (.cells m.cells 38)=w1 at *;obtain⟨k0,k1,k2,k3,k4,k5,k6,k7,k8,k9,Mb,k11,k12,k13,k14,k15,k16⟩:=XX bm;clear k0 k1 k2 k3 k5 k6 k7 k8 k9 Mb k11 k12 k13 k14 k15 k16 bm;go_wp2_with fail;go_ret;exact⟨rfl,x0⟩
  ·have f1:decide ((m.fr.n:Int)<1)=true:=by simp;omega
   clear h h1;go_enter func45,ntmps45;go_upto_region 1 with fail;generalize w.alloc (.cells m.cells 38)=w1 at *;obtain⟨k0,k1,k2,k3,k4,k5,k6,k7,k8,k9,Mb,k11,k12,k13,k14,k15,k16⟩:=XX bm;clear k0 k1 k2 k3 k5 k6 k7 k8 k9 Mb k11 k12 k13 k14 k15 k16 bm;go_wp2_with fail;go_ret;exact⟨rfl,x0⟩
 rw[QM h,QY];have HE:=Qa (iz (∀b∈d.fr,b.length=128) 3);generalize Xo (∀b∈d.fr,b.length=128) 3=N at *;have x0:=(Qg w).alloc (.cells m.cells 38);have bm:=Qs w 38 m.cells;obtain⟨MA,Y7⟩:=hi.fr.strs;clear hi;obtain⟨a1,a2⟩:=h;have hz:=Qh;have f1:decide ((m.fr.n:Int)<1)=false:=by simp;omega
 have f2:decide (64<(m.fr.n:Int))=false:=by simp;omega
 have P1:=Qa MA;clear MA;go_enter func45,ntmps45;go_upto_region 1 with fail;generalize w.alloc (.cells m.cells 38)=w1 at *;obtain⟨k0,k1,k2,k3,k4,k5,k6,k7,k8,k9,Mb,k11,k12,k13,k14,k15,k16⟩:=XX bm;clear k0 k1 k2 k3 k5 k6 k7 k8 k9 Mb k11 k12 k13 k14 k15 k16 bm;go_wp2_with fail;clear f1 f2 k4;generalize d.fr=l at *;generalize m.fr.A=A at *;generalize m.fr.n=n at *;obtain rfl:n=l.length:=P1.o;go_loop [18] (λi=>∃k:Nat,k<=l.length/\i=.int .i64 k/\∀(j:Nat) (h:j<l.length),j<k->l[j].length=128) (λi=>l.length-(intOf i).toNat);case atStart=>exact⟨0,by omega,rfl,λj h h2=>by omega⟩
 case round =>
  obtain⟨k,hk,rfl,VC⟩:=hrel;have HA:=Qa VC;clear VC;by_cases Qn:k<l.length
  ·obtain⟨b,o,rfl,Qf⟩:=Y7 (by omega);have e1:=x0.keep (Qf k Qn);have Y6:(k:Int)<(l.length:Int):=by omega
   by_cases hl:l[k].length=128
   ·have P8:((l[k].length:Int) != 128)=false:=by rw[hl];rfl
    have HN:=Qa (show∀(j:Nat) (h:j<l.length),j<k+1->l[j].length=128 fromλj hj h2=>by
     by_cases e:j<k
     ·exact HA.o j hj e
     ·obtain rfl:j=k:=by omega
      exact hl)
    clear Qf hl;generalize l[k]=y at *;go_wp2_with fail;go_round;case rel=>exact⟨k+1,by omega,by go_num,HN.o⟩
    case measure=>simp[intOf];omega
   ·have P8:((l[k].length:Int) != 128)=true:=by simp;omega
    have HN:=Qa (HE.o.2 (λh=>hl (h _ (NT Qn))));clear Qf hl;generalize l[k]=y at *;go_wp2_with fail;go_ret;exact⟨by rw[HN.o];rfl,x0⟩
  ·obtain rfl:k=l.length:=by omega
   have HN:=Qa (HE.o.1 (λb hb=>by
    obtain⟨j,hj,rfl⟩:=Fd hb;exact HA.o j hj hj))
   go_wp2_with fail;go_ret;exact⟨by rw[HN.o];rfl,x0⟩
theorem B2 (m:QO) (d:Qz) (w:World) (hi:Q0 w m d) :
  Calls prog 47 #[.agg m.cells] w λe w'=>e=.returned (.int .i64 (Io m d))/\Ext w w':=by
 unfold Io;by_cases h:m.pi.n<=64;case neg =>
  rw[J4 h,Zy (by omega)];have x0:=(Qg w).alloc (.cells m.cells 38);have bm:=Qs w 38 m.cells;clear hi;have f2:decide (64<(m.pi.n:Int))=true:=by simp;omega
  clear h;go_enter func47,ntmps47;go_upto_region 1 with fail;generalize w.alloc (.cells m.cells 38)=w1 at *;have k8:w1.cell? ⟨w.heap.size,8,none⟩=some (.slice m.pi.A m.pi.n m.pi.c):=bm.cell 8;go_wp2_with fail;go_ret;exact⟨rfl,x0⟩
 rw[QM h,QY];have HE:=Qa (iz (Zo m d.pi d.pi.length) 3);generalize Xo (Zo m d.pi d.pi.length) 3=N at *;have x0:=(Qg w).alloc (.cells m.cells 38);have bm:=Qs w 38 m.cells;obtain⟨MA,Y7⟩:=hi.pi.wrs;clear hi;have hz:=Qh;have f2:decide (64<(m.pi.n:Int))=false:=by simp;omega
 have P1:=Qa MA;clear MA;go_enter func47,ntmps47;go_upto_region 1 with fail;generalize w.alloc (.cells m.cells 38)=w1 at *;have k8:w1.cell? ⟨w.heap.size,8,none⟩=some (.slice m.pi.A m.pi.n m.pi.c):=bm.cell 8;have k9:∀wx,Ext w1 wx->wx.cell? ⟨w.heap.size,9,none⟩=some (.int .i64 m.newPipe):=λwx x=>(bm.ext x).cell 9;have K9:=Qa k9;clear k9 bm;go_wp2_with fail;clear f2 k8;have XG:=Qa (show∀k,Zo m d.pi k->(h:k<d.pi.length)->1<=d.pi[k].1->d.pi[k].1<m.newPipe->d.pi[k].2.length<=64->(0<k->(d.pi.getD (k-1) default).1<d.pi[k].1)->Zo m d.pi (k+1) fromλk h hk h1 h2 h3 h4 i hi f9=>by
  by_cases e:i<k
  ·exact h i hi e
  ·obtain rfl:i=k:=by omega
   refine⟨h1,h2,h3,λh0=>?_⟩;have:=h4 h0;rw[Yb,ZX (by omega)]at this;exact this)
 have Ap:=Qa (show∀k,Zo m d.pi k->0<k->(h:k-1<d.pi.length)->1<=(d.pi.getD (k-1) default).1 fromλk h h0 hk=>by
  rw[Yb,ZX hk];exact(h (k-1) hk (by omega)).1)
 have gt:=Qa (show∀(k:Nat) (h:k<d.pi.length),Zo m d.pi d.pi.length->1<=d.pi[k].1/\d.pi[k].1<m.newPipe/\d.pi[k].2.length<=64/\(if 0<k then (d.pi.getD (k-1) default).1 else (0:Int))<d.pi[k].1 fromλk hk h=>by
  obtain⟨h1,h2,h3,h4⟩:=h k hk hk;refine⟨h1,h2,h3,?_⟩;split
  ·rename_i h0;rw[Yb,ZX (by omega)];exact h4 h0
  ·omega)
 generalize hPK:Zo m d.pi=PK at *;have HPz:=Qa (show PK 0 by rw[←hPK];exactλi h hk=>by omega);clear hPK;generalize hl:d.pi=l at *;clear hl;generalize m.pi.A=A at *;generalize m.pi.n=n at *;obtain rfl:n=l.length:=P1.o;go_loopw [3,13] (λs i wx=>∃k:Nat,k<=l.length/\i=.int .i64 k/\s=.int .i64 (if 0<k then (l.getD (k-1) default).1 else 0)/\Ext w1 wx/\PK k) (λ_ i _=>l.length-(intOf i).toNat);case atStart=>exact⟨0,by omega,rfl,rfl,Qg _,HPz.o⟩
 case round =>
  obtain⟨k,hk,rfl,rfl,xk,mi⟩:=hrel;have vS:=Qa mi;clear mi;by_cases Qn:k<l.length
  ·obtain⟨b,o,rfl,Qf⟩:=Y7 (by omega);have e1:=(x0.trans xk).keep (Qf k Qn).1;have e2:=(x0.trans xk).keep (Qf k Qn).2;have Y6:(k:Int)<(l.length:Int):=by omega
   have g4:l[k]=l.getD k default:=by rw[Yb,ZX Qn];rfl
   have G4:=Qa g4;have gd:=Qa (show 0<=(if 0<k then (l.getD (k-1) default).1 else (0:Int)) from by
    split
    ·rename_i h0;have:=Ap.o k vS.o h0 (by omega);omega
    ·omega)
   have qc:=Qa (show 1<=l[k].1->l[k].1<m.newPipe->l[k].2.length<=64->(if 0<k then (l.getD (k-1) default).1 else (0:Int))<l[k].1->PK (k+1) fromλh1 h2 h3 h4=>XG.o k vS.o Qn h1 h2 h3 (λh0=>by rw[QN h0]at h4;exact h4));have HPX:=Qa (gt.o k Qn);generalize (if 0<k then (l.getD (k-1) default).1 else (0:Int))=last at *;have xz:=xk.alloc (.cells #[.int .i64 l[k].1,.string (Qb l[k].2)] 95);have k9:=K9.o _ xz;clear Qf g4;generalize l[k]=y at *;by_cases g1:y.1<=last
   ·have g1':decide (y.1<=last)=true:=Xd g1;have HN:=Qa (HE.o.2 (λh=>by have:=HPX.o h;omega));clear g1;go_wp2_with fail;go_ret;exact⟨by rw[HN.o];rfl,x0.trans xz⟩
   have g1':decide (y.1<=last)=false:=XI g1;by_cases g2:m.newPipe<=y.1
   ·have g2':decide (m.newPipe<=y.1)=true:=Xd g2;have HN:=Qa (HE.o.2 (λh=>by have:=HPX.o h;omega));clear g1 g2;go_wp2_with fail;go_ret;exact⟨by rw[HN.o];rfl,x0.trans xz⟩
   have g2':decide (m.newPipe<=y.1)=false:=XI g2;by_cases g3:64<y.2.length
   ·have g3':decide (64<(y.2.length:Int))=true:=by simp;omega
    have HN:=Qa (HE.o.2 (λh=>by have:=HPX.o h;omega));clear g1 g2 g3;go_wp2_with fail;go_ret;exact⟨by rw[HN.o];rfl,x0.trans xz⟩
   have g3':decide (64<(y.2.length:Int))=false:=by simp;omega
   have sR:=Qa (qc.o (by have:=gd.o;omega) (by omega) (by omega) (by omega));clear g1 g2 g3 qc;go_wp2_with fail;go_roundw;case rel=>exact⟨k+1,by omega,by go_num,by rw[QN (by omega),We1,←G4.o],xz,sR.o⟩
   case measure=>simp[intOf];omega
  ·obtain rfl:k=l.length:=by omega
   have HN:=Qa (HE.o.1 vS.o);go_wp2_with fail
   all_goals
    go_ret;exact⟨by rw[HN.o];rfl,x0.trans xk⟩
noncomputable def Xg (m:QO) (d:Qz):Nat->Int
 | 0=>Kc m
 | 1=>E2 m d
 | 2=>DX m d
 | 3=>Io m d
 | 4=>gO m
 | _=>ai d
theorem cG {m:QO}{d:Qz}{k:Nat}(hk:k<6) (h:∀j,j<k->Xg m d j=0) (h0:Xg m d k≠0):Zk m d=Xg m d k:=by
 unfold Zk;rcases(by omega:k=0\/k=1\/k=2\/k=3\/k=4\/k=5) with rfl|rfl|rfl|rfl|rfl|rfl
 ·exact Zy h0 _
 ·rw[show Kc m=0 from h 0 (by omega),QY];exact Zy h0 _
 ·rw[show Kc m=0 from h 0 (by omega),QY,show E2 m d=0 from h 1 (by omega),QY];exact Zy h0 _
 ·rw[show Kc m=0 from h 0 (by omega),QY,show E2 m d=0 from h 1 (by omega),QY,show DX m d=0 from h 2 (by omega),QY];exact Zy h0 _
 ·rw[show Kc m=0 from h 0 (by omega),QY,show E2 m d=0 from h 1 (by omega),QY,show DX m d=0 from h 2 (by omega),QY,show Io m d=0 from h 3 (by omega),QY];exact Zy h0 _
 ·rw[show Kc m=0 from h 0 (by omega),QY,show E2 m d=0 from h 1 (by omega),QY,show DX m d=0 from h 2 (by omega),QY,show Io m d=0 from h 3 (by omega),QY,show gO m=0 from h 4 (by omega),QY];rfl
theorem iq {m:QO}{d:Qz}(h:∀j,j<6->Xg m d j=0):Zk m d=0:=by
 unfold Zk;rw[show Kc m=0 from h 0 (by omega),QY,show E2 m d=0 from h 1 (by omega),QY,show DX m d=0 from h 2 (by omega),QY,show Io m d=0 from h 3 (by omega),QY,show gO m=0 from h 4 (by omega),QY];exact h 5 (by omega)
theorem tq {m:QO}{d:Qz}(h:E2 m d=0):m.fr.n<=64:=by
 unfold E2 at h;exact((VX (show(6:Int)≠0 by omega)).1 (Uh.1 h).1).2
theorem Hm (m:QO) (d:Qz) (w:World) (hi:Q0 w m d) (U1:m.pi.n<=4000) :
  Calls prog 17 #[.agg m.cells] w λe w'=>e=.returned (.int .i64 (Zk m d))/\Ext w w':=by
 have H1:=Qa (λw=>GZ m w);have H2:=Qa (λw hi=>DG m d w hi);have H3:=Qa (λw hi h=>B3 m d w hi U1 h);have H4:=Qa (λw hi=>B2 m d w hi);have H5:=Qa (λw=>B7 m w);have H6:=Qa (λw hi=>DI m d w hi);have HS:=Qa (λk hk=>cG (m:=m) (d:=d) (k:=k) hk);have HA:=Qa (iq (m:=m) (d:=d));have HN:=Qa (show∀k,(∀j,j<k->Xg m d j=0)->Xg m d k=0->∀j,j<k+1->Xg m d j=0 fromλk h h0 j hj=>by
  by_cases e:j<k
  ·exact h j e
  ·obtain rfl:j=k:=by omega
   exact h0)
 have x0:=(Qg w).alloc (.cells m.cells 38);have bm:=Qs w 38 m.cells;have HM:=Qa (hi.ext x0);clear hi;go_enter func17,ntmps17;go_upto_region 1 with fail;generalize w.alloc (.cells m.cells 38)=w1 at *;generalize w.heap.size=G at *;go_upto_region 2 with fail;have xm:Ext w1 (w1.alloc (.cells #[.func (.func 44) #[] #[],.func (.func 45) #[] #[],.func (.func 46) #[] #[],.func (.func 47) #[] #[],.func (.func 48) #[] #[],.func (.func 49) #[] #[]] 44)):=(Qg _).alloc _;have bf:=Qs w1 44 #[.func (.func 44) #[] #[],.func (.func 45) #[] #[],.func (.func 46) #[] #[],.func (.func 47) #[] #[],.func (.func 48) #[] #[],.func (.func 49) #[] #[]];have Gr:=bm.ext xm;have vO:=Qa (HM.o.ext xm);have xx:=x0.trans xm;generalize uJ:w1.alloc _=w2 at *;generalize w1.heap.size=G1 at *;clear uJ bm HM x0 xm;generalize hce:Zk m d=cE at *;have gX:=Qa hce;clear hce;go_loopw [8] (λi wx=>∃k:Nat,k<=6/\i=.int .i64 k/\Ext w2 wx/\∀j,j<k->Xg m d j=0) (λi _=>6-(intOf i).toNat);case atStart=>exact⟨0,by omega,rfl,Qg _,λj h=>by omega⟩
 case round =>
  obtain⟨k,hk,rfl,xk,Kq⟩:=hrel;have U6:=Qa Kq;clear Kq;have Ry:=Gr.ext xk;have fw:=bf.ext xk;have qZ:=Qa (vO.o.ext xk);by_cases Qn:k<6
  ·have Y6:(k:Int)<6:=by omega
   have HX:=Qa xk;clear xk Gr bf vO;rcases(by omega:k=0\/k=1\/k=2\/k=3\/k=4\/k=5) with h0|h0|h0|h0|h0|h0
   ·have hf:wr.cell? ⟨G1,k,none⟩=some (.func (.func 44) #[] #[]):=by rw[h0];exact fw.cell 0
    have HE:=Qa (show Kc m=Xg m d k by rw[h0];rfl);have AN:=Qa (λh=>(HS.o k Qn U6.o h).symm);have gk:=Qa (HN.o k U6.o);have DZ:=Qa (H1.o wr);clear h0 fw;generalize Xg m d k=sE at *;generalize Kc m=nE at *;by_cases hz:nE=0
    ·have Rt:=Qa (gk.o (HE.o.symm.trans hz));subst hz
     go_wp2_with (first
      | (refine Qo (.tmp 1) rfl rfl G _ _ rfl Ry rfl ?_)
      | (go_at_call 44;refine(DZ.o).mono ?_;rintro e w3 ⟨rfl,x3⟩))
     go_roundw;case rel=>exact⟨k+1,by omega,by go_num,HX.o.trans x3,Rt.o⟩
     case measure=>simp[intOf];omega
    ·have Da:(nE != 0)=true:=by simpa using hz
     have Rt:=Qa (show nE=cE from HE.o.trans (AN.o (λh=>hz (HE.o.trans h))));clear hz
     go_wp2_with (first
      | (refine Qo (.tmp 1) rfl rfl G _ _ rfl Ry rfl ?_)
      | (go_at_call 44;refine(DZ.o).mono ?_;rintro e w3 ⟨rfl,x3⟩))
     go_ret;exact⟨congrArg (λx=>Ending.returned (Value.int .i64 x)) (Rt.o.trans gX.o.symm),(xx.trans HX.o).trans x3⟩
   ·have hf:wr.cell? ⟨G1,k,none⟩=some (.func (.func 45) #[] #[]):=by rw[h0];exact fw.cell 1
    have HE:=Qa (show E2 m d=Xg m d k by rw[h0];rfl);have AN:=Qa (λh=>(HS.o k Qn U6.o h).symm);have gk:=Qa (HN.o k U6.o);have DZ:=Qa (H2.o wr qZ.o);clear h0 fw;generalize Xg m d k=sE at *;generalize E2 m d=nE at *;by_cases hz:nE=0
    ·have Rt:=Qa (gk.o (HE.o.symm.trans hz));subst hz
     go_wp2_with (first
      | (refine Qo (.tmp 1) rfl rfl G _ _ rfl Ry rfl ?_)
      | (go_at_call 45;refine(DZ.o).mono ?_;rintro e w3 ⟨rfl,x3⟩))
     go_roundw;case rel=>exact⟨k+1,by omega,by go_num,HX.o.trans x3,Rt.o⟩
     case measure=>simp[intOf];omega
    ·have Da:(nE != 0)=true:=by simpa using hz
     have Rt:=Qa (show nE=cE from HE.o.trans (AN.o (λh=>hz (HE.o.trans h))));clear hz
     go_wp2_with (first
      | (refine Qo (.tmp 1) rfl rfl G _ _ rfl Ry rfl ?_)
      | (go_at_call 45;refine(DZ.o).mono ?_;rintro e w3 ⟨rfl,x3⟩))
     go_ret;exact⟨congrArg (λx=>Ending.returned (Value.int .i64 x)) (Rt.o.trans gX.o.symm),(xx.trans HX.o).trans x3⟩
   ·have hf:wr.cell? ⟨G1,k,none⟩=some (.func (.func 46) #[] #[]):=by rw[h0];exact fw.cell 2
    have HE:=Qa (show DX m d=Xg m d k by rw[h0];rfl);have AN:=Qa (λh=>(HS.o k Qn U6.o h).symm);have gk:=Qa (HN.o k U6.o);have DZ:=Qa (H3.o wr qZ.o (tq (U6.o 1 (by omega))));clear h0 fw;generalize Xg m d k=sE at *;generalize DX m d=nE at *;by_cases hz:nE=0
    ·have Rt:=Qa (gk.o (HE.o.symm.trans hz));subst hz
     go_wp2_with (first
      | (refine Qo (.tmp 1) rfl rfl G _ _ rfl Ry rfl ?_)
      | (go_at_call 46;refine(DZ.o).mono ?_;rintro e w3 ⟨rfl,x3⟩))
     go_roundw;case rel=>exact⟨k+1,by omega,by go_num,HX.o.trans x3,Rt.o⟩
     case measure=>simp[intOf];omega
    ·have Da:(nE != 0)=true:=by simpa using hz
     have Rt:=Qa (show nE=cE from HE.o.trans (AN.o (λh=>hz (HE.o.trans h))));clear hz
     go_wp2_with (first
      | (refine Qo (.tmp 1) rfl rfl G _ _ rfl Ry rfl ?_)
      | (go_at_call 46;refine(DZ.o).mono ?_;rintro e w3 ⟨rfl,x3⟩))
     go_ret;exact⟨congrArg (λx=>Ending.returned (Value.int .i64 x)) (Rt.o.trans gX.o.symm),(xx.trans HX.o).trans x3⟩
   ·have hf:wr.cell? ⟨G1,k,none⟩=some (.func (.func 47) #[] #[]):=by rw[h0];exact fw.cell 3
    have HE:=Qa (show Io m d=Xg m d k by rw[h0];rfl);have AN:=Qa (λh=>(HS.o k Qn U6.o h).symm);have gk:=Qa (HN.o k U6.o);have DZ:=Qa (H4.o wr qZ.o);clear h0 fw;generalize Xg m d k=sE at *;generalize Io m d=nE at *;by_cases hz:nE=0
    ·have Rt:=Qa (gk.o (HE.o.symm.trans hz));subst hz
     go_wp2_with (first
      | (refine Qo (.tmp 1) rfl rfl G _ _ rfl Ry rfl ?_)
      | (go_at_call 47;refine(DZ.o).mono ?_;rintro e w3 ⟨rfl,x3⟩))
     go_roundw;case rel=>exact⟨k+1,by omega,by go_num,HX.o.trans x3,Rt.o⟩
     case measure=>simp[intOf];omega
    ·have Da:(nE != 0)=true:=by simpa using hz
     have Rt:=Qa (show nE=cE from HE.o.trans (AN.o (λh=>hz (HE.o.trans h))));clear hz
     go_wp2_with (first
      | (refine Qo (.tmp 1) rfl rfl G _ _ rfl Ry rfl ?_)
      | (go_at_call 47;refine(DZ.o).mono ?_;rintro e w3 ⟨rfl,x3⟩))
     go_ret;exact⟨congrArg (λx=>Ending.returned (Value.int .i64 x)) (Rt.o.trans gX.o.symm),(xx.trans HX.o).trans x3⟩
   ·have hf:wr.cell? ⟨G1,k,none⟩=some (.func (.func 48) #[] #[]):=by rw[h0];exact fw.cell 4
    have HE:=Qa (show gO m=Xg m d k by rw[h0];rfl);have AN:=Qa (λh=>(HS.o k Qn U6.o h).symm);have gk:=Qa (HN.o k U6.o);have DZ:=Qa (H5.o wr);clear h0 fw;generalize Xg m d k=sE at *;generalize gO m=nE at *;by_cases hz:nE=0
    ·have Rt:=Qa (gk.o (HE.o.symm.trans hz));subst hz
     go_wp2_with (first
      | (refine Qo (.tmp 1) rfl rfl G _ _ rfl Ry rfl ?_)
      | (go_at_call 48;refine(DZ.o).mono ?_;rintro e w3 ⟨rfl,x3⟩))
     go_roundw;case rel=>exact⟨k+1,by omega,by go_num,HX.o.trans x3,Rt.o⟩
     case measure=>simp[intOf];omega
    ·have Da:(nE != 0)=true:=by simpa using hz
     have Rt:=Qa (show nE=cE from HE.o.trans (AN.o (λh=>hz (HE.o.trans h))));clear hz
     go_wp2_with (first
      | (refine Qo (.tmp 1) rfl rfl G _ _ rfl Ry rfl ?_)
      | (go_at_call 48;refine(DZ.o).mono ?_;rintro e w3 ⟨rfl,x3⟩))
     go_ret;exact⟨congrArg (λx=>Ending.returned (Value.int .i64 x)) (Rt.o.trans gX.o.symm),(xx.trans HX.o).trans x3⟩
   ·have hf:wr.cell? ⟨G1,k,none⟩=some (.func (.func 49) #[] #[]):=by rw[h0];exact fw.cell 5
    have HE:=Qa (show ai d=Xg m d k by rw[h0];rfl);have AN:=Qa (λh=>(HS.o k Qn U6.o h).symm);have gk:=Qa (HN.o k U6.o);have DZ:=Qa (H6.o wr qZ.o);clear h0 fw;generalize Xg m d k=sE at *;generalize ai d=nE at *;by_cases hz:nE=0
    ·have Rt:=Qa (gk.o (HE.o.symm.trans hz));subst hz
     go_wp2_with (first
      | (refine Qo (.tmp 1) rfl rfl G _ _ rfl Ry rfl ?_)
      | (go_at_call 49;refine(DZ.o).mono ?_;rintro e w3 ⟨rfl,x3⟩))
     go_roundw;case rel=>exact⟨k+1,by omega,by go_num,HX.o.trans x3,Rt.o⟩
     case measure=>simp[intOf];omega
    ·have Da:(nE != 0)=true:=by simpa using hz
     have Rt:=Qa (show nE=cE from HE.o.trans (AN.o (λh=>hz (HE.o.trans h))));clear hz
     go_wp2_with (first
      | (refine Qo (.tmp 1) rfl rfl G _ _ rfl Ry rfl ?_)
      | (go_at_call 49;refine(DZ.o).mono ?_;rintro e w3 ⟨rfl,x3⟩))
     go_ret;exact⟨congrArg (λx=>Ending.returned (Value.int .i64 x)) (Rt.o.trans gX.o.symm),(xx.trans HX.o).trans x3⟩
  ·have Vq:¬(k:Int)<6:=by omega
   have tz:cE=0:=HA.o (λj hj=>U6.o j (by omega));have vG:=Qa tz;clear tz;go_wp2_with fail;go_ret;exact⟨congrArg (λx=>Ending.returned (Value.int .i64 x)) (vG.o.symm.trans gX.o.symm),xx.trans xk⟩
theorem Mu {α:Type} {l:List α}{p:α->Bool}{k:Nat}(hk:k<l.length) (hp:p l[k]=true) (Xz:∀(j:Nat) (h:j<l.length),j<k->p l[j]=false):l.find? p=some l[k] :=
 List.find?_eq_some_iff_getElem.2 ⟨hp,k,hk,rfl,λj hj=>by rw[Xz j (by omega) hj];rfl⟩
theorem kW {y:QF}:(prog.info? 57).map (·.size)=some (Qq y).toArray.size:=by kernel_rfl
theorem dv (y:QF) (w:World) :
  Calls prog 35 #[.agg (Jw y).toArray] w λe w'=>e=.returned (.int .i64 (QL y 16))/\Ext w w':=by
 have x0:=(Qg w).alloc (.cells (Jw y).toArray 52);have b0:=Qs w 52 (Jw y).toArray;go_enter func35,ntmps35;go_upto_region 1 with fail;change Code.wp _ _ _ _ (w.alloc (.cells (Jw y).toArray 52));generalize w.alloc (.cells (Jw y).toArray 52)=w1 at *;go_upto_region 3 with(refine J2 _ _ rfl rfl w.heap.size (Jw y).toArray 52 _ rfl b0 underlying52 rfl (by exact Ni) ?_)
 clear b0;go_loopw [3,7] (λs i wx=>∃j:Nat,j<=16/\i=.int .i64 j/\s=.int .i64 (QL y j)/\Ext w1 wx) (λ_ i _=>16-(intOf i).toNat);case atStart=>exact⟨0,by omega,rfl,rfl,Qg _⟩
 case round =>
  obtain⟨j,hj,rfl,rfl,xj⟩:=hrel;by_cases Qn:j<16
  ·have Kp:(j:Int)<16:=by omega
   have HC:=Qa (show QL y (j+1)=QL y j+(if y.pis j=true then 1 else 0) from rfl);have HB:=Qa (show QL y j<=j from by
    clear HC Kp Qn hj xj;induction j with
    | zero=>exact Q4 _
    | succ j ih=>rw[QL];split<;>omega)
   go_upto_region 5 with(refine ZV (.tmp 6) (.tmp 7) rfl rfl y j rfl rfl Qn ?_)
   have xz:=xj.alloc (.cells #[.bool (y.pis j),.bool (y.pwr j),.int .i64 (y.pfr j)] 50);have bq:=Qs wr 50 #[.bool (y.pis j),.bool (y.pwr j),.int .i64 (y.pfr j)];have GO:QL y j<=16:=by have:=HB.o;omega
   generalize QL y j=cj at *;generalize y.pis j=ia at *;generalize y.pwr j=iw at *;generalize y.pfr j=ifr at *;generalize wr.alloc (.cells #[.bool ia,.bool iw,.int .i64 ifr] 50)=wq at *;have q0:wq.cell? ⟨wr.heap.size,0,none⟩=some (.bool ia):=bq.cell 0;cases ia
   ·go_wp2_with fail;go_roundw;case rel=>exact⟨j+1,by omega,by go_num,by rw[HC.o];rfl,xz⟩
    case measure=>simp[intOf];omega
   ·go_wp2_with fail;go_roundw;case rel=>exact⟨j+1,by omega,by go_num,by rw[HC.o];go_num,xz⟩
    case measure=>simp[intOf];omega
  ·obtain rfl:j=16:=by omega
   go_wp2_with fail;go_ret;exact⟨rfl,x0.trans xj⟩
theorem SW (m:QO) (d:Qz) (pid:Int) (w:World) (hi:Q0 w m d) (Tm:m.pr.n<=1000) :
  Calls prog 33 #[.agg m.cells,.int .i64 pid] w λe w'=>e=.returned (.tuple #[.agg (Qq ((Zc d.pr pid).getD JK)).toArray,.bool (Zc d.pr pid).isSome])/\Ext w w':=by
 have x0:=((Qg w).alloc (.cells m.cells 38)).alloc (.cells (Qq JK).toArray 57);have bm:=(Qs w 38 m.cells).ext ((Qg _).alloc (.cells (Qq JK).toArray 57));have bp:=Qs (w.alloc (.cells m.cells 38)) 57 (Qq JK).toArray;rw[YB]at bp;obtain⟨MA,Y7⟩:=hi.pr;have P1:=Qa MA;clear hi MA;obtain⟨LP,hLP⟩:∃LP,LP=Zc d.pr pid:=⟨_,rfl⟩
 rw[←hLP];have yD:=Qa hLP;clear hLP;go_enter func33,ntmps33;go_upto_region 1 with fail;change Code.wp _ _ _ _ ((w.alloc (.cells m.cells 38)).alloc (.cells (Qq JK).toArray 57));generalize (w.alloc (.cells m.cells 38)).alloc (.cells (Qq JK).toArray 57)=w1 at *;obtain⟨G,hG⟩:∃G,G=w.heap.size:=⟨_,rfl⟩
 rw[←hG]at bm bp ⊢;have HG:=Qa hG;clear hG;have k5:w1.cell? ⟨G,5,none⟩=some (.slice m.pr.A m.pr.n m.pr.c):=bm.cell 5;go_upto_region 2 with fail;clear k5 bm;have Rn:m.pr.n=d.pr.length:=P1.o;generalize m.pr.A=A at *;generalize m.pr.n=pn at *;subst Rn;have HF:=Qa (λk (hk:k<d.pr.length)=>Mu (l:=d.pr) (p:=λp=>p.pid==pid&&(p.state==1||p.state==2)) hk);have sQ:=Qa (λ(h:∀(j:Nat) (hj:j<d.pr.length),j<d.pr.length->(d.pr[j].pid==pid&&(d.pr[j].state==1||d.pr[j].state==2))=false)=>show Zc d.pr pid=none from We3.2 (λp hp=>by
  obtain⟨j,hj,rfl⟩:=Fd hp;rw[h j hj hj];decide))
 have yC:=Qa (show Zc d.pr pid=d.pr.find? (λp=>p.pid==pid&&(p.state==1||p.state==2)) from rfl);generalize d.pr=l at *;go_loopw [11] (λi wx=>∃k:Nat,k<=l.length/\i=.int .i64 k/\Ext w1 wx/\∀(j:Nat) (h:j<l.length),j<k->(l[j].pid==pid&&(l[j].state==1||l[j].state==2))=false) (λi _=>l.length-(intOf i).toNat);case atStart=>exact⟨0,by omega,rfl,Qg _,λj h h2=>by omega⟩
 case round =>
  obtain⟨k,hk,rfl,xk,Xz⟩:=hrel;have WM:=Qa Xz;clear Xz;have wG:=bp.ext xk;by_cases Qn:k<l.length
  ·obtain⟨b,o,rfl,Qf⟩:=Y7 (by omega);have r1:=Ze (Z6 Qf Qn) (x0.trans xk);have Y6:(k:Int)<(l.length:Int):=by omega
   have Mk:=Qa (show(l[k].pid==pid&&(l[k].state==1||l[k].state==2))=false->∀(j:Nat) (h:j<l.length),j<k+1->(l[j].pid==pid&&(l[j].state==1||l[j].state==2))=false fromλh j hj hjk=>by
    by_cases e:j<k
    ·exact WM.o j hj e
    ·obtain rfl:j=k:=by omega
     exact h)
   have vL:=Qa (show(l[k].pid==pid&&(l[k].state==1||l[k].state==2))=true->LP=some l[k] fromλh=>by rw[yD.o,yC.o];exact HF.o k Qn h WM.o);clear Qf WM HF sQ;generalize l[k]=y at *
   go_upto_region 4 with(first
    | (refine QT (.tmp 13) rfl rfl b (o+k*96) y rfl r1 ?_)
    | (refine J0 (.tmp 7) (.tmp 14) rfl rfl wr.heap.size y _ 57 rfl rfl (Qs _ _ _) rfl ?_;intro w3 b3 g3))
   have x3:Ext wr w3:=((Qg wr).alloc _).grown g3 (λj e=>by cases e;exact Q4 _);have bp3:=wG.ext x3;have c0:w3.cell? ⟨wr.heap.size,0,none⟩=some (.int .i64 y.pid):=b3.cell 0;have c2:w3.cell? ⟨wr.heap.size,2,none⟩=some (.int .i64 y.state):=b3.cell 2;clear g3 r1 wG bp;rcases VS (y.pid==pid) with h1|h1
   ·rcases VS (y.state==1) with h2|h2
    ·have HL:=Qa (vL.o (by rw[h1,h2];rfl))
     go_wp2_with (first
      | (refine QT (.tmp 7) rfl rfl wr.heap.size 0 y rfl (Je b3) ?_)
      | (refine J0 (.tmp 4) (.tmp 29) rfl rfl (G+1) y _ 57 rfl rfl bp3 rfl ?_;intro w4 b4 g4))
     refine Jv (Qd rfl _ _ (G+1) _ _ _ _ rfl rfl b4 underlying57 rfl kW) rfl ⟨by rw[HL.o];rfl,((x0.trans xk).trans x3).grown g4 (λj e=>by cases e;rw[←HG.o];exact WQ _)⟩
    ·rcases VS (y.state==2) with h3|h3
     ·have HL:=Qa (vL.o (by rw[h1,h2,h3];rfl))
      go_wp2_with (first
       | (refine QT (.tmp 7) rfl rfl wr.heap.size 0 y rfl (Je b3) ?_)
       | (refine J0 (.tmp 4) (.tmp 29) rfl rfl (G+1) y _ 57 rfl rfl bp3 rfl ?_;intro w4 b4 g4))
      refine Jv (Qd rfl _ _ (G+1) _ _ _ _ rfl rfl b4 underlying57 rfl kW) rfl ⟨by rw[HL.o];rfl,((x0.trans xk).trans x3).grown g4 (λj e=>by cases e;rw[←HG.o];exact WQ _)⟩
     ·have HL:=Qa (Mk.o (by rw[h1,h2,h3];rfl));go_wp2_with fail;go_roundw;case rel=>exact⟨k+1,by omega,by go_num,xk.trans x3,HL.o⟩
      case measure=>simp[intOf];omega
   ·have HL:=Qa (Mk.o (by rw[h1];rfl));go_wp2_with fail;go_roundw;case rel=>exact⟨k+1,by omega,by go_num,xk.trans x3,HL.o⟩
    case measure=>simp[intOf];omega
  ·obtain rfl:k=l.length:=by omega
   have HL:=Qa (show LP=none from yD.o.trans (sQ.o (λj h _=>WM.o j h h)));clear WM HF sQ;go_wp2_with (refine J0 (.tmp 4) (.tmp 31) rfl rfl (G+1) JK _ 57 rfl rfl wG rfl ?_;intro w4 b4 g4)
   refine Jv (Qd rfl _ _ (G+1) _ _ _ _ rfl rfl b4 underlying57 rfl kW) rfl ⟨by rw[HL.o];rfl,(x0.trans xk).grown g4 (λj e=>by cases e;rw[←HG.o];exact WQ _)⟩
theorem FG {l:List QF}{j:Nat}(h:Q7 l (j:Int) l.length=0):Jc (j+1) l=Jc j l++[j]:=by
 unfold Jc;rw[mR,List.filter_append];simp[h]
theorem CE {l:List QF}{j:Nat}(h:Q7 l (j:Int) l.length≠0):Jc (j+1) l=Jc j l:=by
 unfold Jc;rw[mR,List.filter_append];simp[h]
theorem TG (n:Nat) (l:List QF):(Jc n l).length<=n:=YR (List.length_filter_le _ _) (Fc mT)
def Yc (n:Nat) (l:List QF):List Int:=(Jc n l).map λf:Nat=>(f:Int)
theorem K0 (n:Nat) (l:List QF):(Yc n l).length=(Jc n l).length:=by unfold Yc;rw[AR]
theorem aN {l:List QF}{f:Int}:Ml l l.length 0 f↔Q7 l f l.length≠0:=by
 unfold Ml;rw[Zw];omega
theorem jI (m:QO) (d:Qz) (w:World) (hi:Q0 w m d) (h:Z3 m d) :
  Calls prog 34 #[.agg m.cells] w λe w'=>∃u,e=.returned u/\Ext w w'/\w'.ownsRow w.heap.size 3 1 u (Jc m.fr.n d.pr).length (Vr (Yc m.fr.n d.pr)):=by
 have x0:=(Qg w).alloc (.cells m.cells 38);have bm:=Qs w 38 m.cells;obtain⟨MA,Y7⟩:=hi.pr;have P2:=Qa Y7;have P1:=Qa MA;have hn:=h.rest.prn;have Mx:=h.rest.frn.2;have fh:=Qa (show∀k (hk:k<d.pr.length) j,j<16->KV m d (d.pr.getD k default) j fromλk hk j hj=>by
  have e:d.pr.getD k default=d.pr[k]:=by rw[Yb,ZX hk];rfl
  rw[e];exact(h.rest.pr k hk hk).1.page j hj)
 clear Y7 MA h hi;have ov:=λw=>run_makeMap (P:=prog) 125 w;go_enter func34,ntmps34;go_upto_region 1 with fail;generalize w.alloc (.cells m.cells 38)=w1 at *;go_upto_region 2 with fail;clear ov;have xm:=x0.alloc (.map #[] 0);have Gr:=bm.ext ((Qg w1).alloc (.map #[] 0));have dE:(w1.alloc (.map #[] 0)).ownsMap prog 3 (plainElem (H:=Unit) prog 4) w1.heap.size 0 (.map []):=World.ownsMap_made w1 prog 3 _;have hlm:w.heap.size<w1.heap.size:=bm.lt;generalize w1.alloc (.map #[] 0)=w2 at *;generalize hBm:w1.heap.size=Bm at *;generalize hG:w.heap.size=G at *;have HGe:=Qa hG;have k5:w2.cell? ⟨G,5,none⟩=some (.slice m.pr.A m.pr.n m.pr.c):=Gr.cell 5;clear bm;go_upto_region 3 with fail;clear k5;have Rn:m.pr.n=d.pr.length:=P1.o;have gJ:=P2.o;clear P2;generalize hrA:m.pr.A=A at gJ ⊢;generalize Tm:m.pr.n=pn at gJ ⊢;obtain rfl:d.pr.length=pn:=by omega
 have hn8:d.pr.length<=8:=by omega
 clear hrA Tm Rn hn;go_loopw [14] (λi wx=>∃k:Nat,k<=d.pr.length/\i=.int .i64 k/\(∃D,wx.ownsMap prog 3 (plainElem (H:=Unit) prog 4) Bm (16*k) D/\Y9 d.pr k 0 D)/\w2.grownBy wx (some Bm)) (λi _=>d.pr.length-(intOf i).toNat);case atStart=>exact⟨0,by omega,rfl,⟨.map [],dE,Y9.zero _⟩,XQ _ _⟩
 case round =>
  obtain⟨k,hk,rfl,⟨D,Zb,CM⟩,hg⟩:=hrel;have xk:Ext w wr:=xm.grown hg (λj e=>by cases e;omega);have Ry:=Gr.grown hg (by intro e;injection e with e;omega);have HG:=Qa hg;have qY:=Qa CM;clear hg CM;by_cases Qn:k<d.pr.length
  ·obtain⟨b,o,rfl,Qf⟩:=gJ (by omega);have r1:=Ze (R3 Qf Qn) xk;have Y6:(k:Int)<(d.pr.length:Int):=by omega
   have AK:=Qa (λ(j:Nat) (D:DataW Unit) (h:Y9 d.pr k j D) hi=>h.skip hi);have MN:=Qa (λ(j f:Nat) (D:DataW Unit) (h:Y9 d.pr k j D) hD hi hf hk=>h.put (f:=f) hD hi hf hk);have gh:=Qa (λ(D:DataW Unit) (h:Y9 d.pr k 16 D)=>h.proc);have As:=Qa (fh.o k Qn);clear Qf;generalize d.pr.getD k default=y at *
   go_upto_region 5 with(first
    | (refine QT (.tmp 16) rfl rfl b (o+k*96) y rfl r1 ?_)
    | (refine J0 (.tmp 5) (.tmp 17) rfl rfl wr.heap.size y _ 57 rfl rfl (Qs _ _ _) rfl ?_;intro w3 b3 g3))
   have x3:Ext wr w3:=((Qg wr).alloc _).grown g3 (λj e=>by cases e;exact Q4 _);have Ao:=xk.trans x3;have Ke:=Yd Zb x3;have sB:=Qa (JF HG.o x3);have hMk:Bm<wr.heap.size:=Zb.lt;clear g3 r1 Zb x3 Ry xk HG;generalize wr.heap.size=P3 at *;go_upto_region 6 with(refine Zs (.tmp 18) rfl rfl P3 57 y rfl b3 ?_)
   go_loopw [20] (λi wx=>∃j:Nat,j<=16/\i=.int .i64 j/\(∃D,wx.ownsMap prog 3 (plainElem (H:=Unit) prog 4) Bm (16*k+j) D/\Y9 d.pr k j D)/\w3.grownBy wx (some Bm)) (λi _=>16-(intOf i).toNat);case atStart=>exact⟨0,by omega,rfl,⟨D,Ke,qY.o⟩,XQ _ _⟩
   case round =>
    clear Ke qY;obtain⟨j,hj,rfl,⟨D2,UK,Pw⟩,My⟩:=hrel;have Nq:=Qa Pw;have EJ:=Qa My;clear Pw My;by_cases NE:j<16
    ·have Kp:(j:Int)<16:=by omega
     have sM:=Qa (λf=>MN.o j f D2 Nq.o UK.isMap);have AN:=Qa (AK.o j D2 Nq.o);have Ma:=As.o j NE;go_upto_region 8 with(refine ZV (.tmp 19) (.tmp 20) rfl rfl y j rfl rfl NE ?_)
     unfold KV at Ma;generalize hia:y.pis j=ia at *;generalize hiw:y.pwr j=iw at *;generalize hif:y.pfr j=ifr at *;have Y1:(ia=false)\/(ia=true/\0<=ifr/\ifr<(m.fr.n:Int)):=by
      rcases Ma with h|h
      ·exact .inl h.1
      ·exact .inr ⟨h.1,h.2.2.1,h.2.2.2.1⟩
     clear Ma hia hiw hif;have xq:Ext wr (wr.alloc (.cells #[.bool ia,.bool iw,.int .i64 ifr] 50)):=(Qg _).alloc _;have bq:=Qs wr 50 #[.bool ia,.bool iw,.int .i64 ifr];have LN:=UK.alloc (.cells #[.bool ia,.bool iw,.int .i64 ifr] 50);generalize wr.alloc (.cells #[.bool ia,.bool iw,.int .i64 ifr] 50)=wq at *;have q0:wq.cell? ⟨wr.heap.size,0,none⟩=some (.bool ia):=bq.cell 0;have q2:wq.cell? ⟨wr.heap.size,2,none⟩=some (.int .i64 ifr):=bq.cell 2;rcases Y1 with rfl|⟨rfl,wO,mg⟩
     ·go_wp2_with fail;go_roundw;case rel=>exact⟨j+1,by omega,by go_num,⟨D2,LN.mono (by omega),AN.o rfl⟩,JF EJ.o xq⟩
      case measure=>simp[intOf];omega
     ·obtain⟨f,rfl⟩:∃f:Nat,ifr=(f:Int):=⟨ifr.toNat,by omega⟩
      have f7:f<=100000:=by omega
      have yL:=Qa (sM.o f rfl rfl (V8.key (UF f f7)));clear wO mg
      go_wp2_with (first
       | (at_mapUpdate;refine Wfj _ rfl _ _ _ 125 rfl 3 4 V8 underlying125 (plainElem (H:=Unit) prog 4) Bm (16*k+j) _ rfl LN (by unfold maxLen;omega) _ _ (.int .i64 (f:Int)) rfl rfl (UF f f7) (.lit (.bool true)) [] (plainElem_bool underlying4 true) ?_;intro w8 own8 hg8))
      go_roundw;case rel=>exact⟨j+1,by omega,by go_num,⟨_,own8,yL.o⟩,XR (JF EJ.o xq) hg8 (λj e=>.inr e)⟩
      case measure=>simp[intOf];omega
    ·obtain rfl:j=16:=by omega
     have xo:=Qa (XR sB.o EJ.o (λj e=>.inr e));go_wp2_with fail;go_roundw;case rel=>exact⟨k+1,by omega,by go_num,⟨D2,UK.mono (by omega),gh.o _ Nq.o⟩,xo.o⟩
     case measure=>simp[intOf];omega
  ·obtain rfl:k=d.pr.length:=by omega
   clear gJ Qn;have k4:wr.cell? ⟨G,4,none⟩=some (.slice m.fr.A m.fr.n m.fr.c):=Ry.cell 4;go_upto_region 14 with fail;clear k4 Gr Ry xm dE
   have HMe:=Qa (λf:Nat=>show(Q7 d.pr (f:Int) d.pr.length≠0->D.atKey (.int .i64 (f:Int)) (.lit (.bool false))=.lit (.bool true))/\(Q7 d.pr (f:Int) d.pr.length=0->D.atKey (.int .i64 (f:Int)) (.lit (.bool false))=.lit (.bool false)) from
    ⟨λh=>(qY.o f).1 (aN.2 h),λh=>(qY.o f).2 (λh2=>aN.1 h2 h)⟩)
   generalize hus:(λf:Nat=>Q7 d.pr (f:Int) d.pr.length)=us at *;have HFy:=Qa (λj (h:us j=0)=>show Yc (j+1) d.pr=Yc j d.pr++[(j:Int)] from by
    subst hus;unfold Yc;rw[FG h,bS];rfl)
   have xe:=Qa (λj (h:us j≠0)=>show Yc (j+1) d.pr=Yc j d.pr from by
    subst hus;unfold Yc;rw[CE h])
   have yK:=Qa (λf:Nat=>show(us f≠0->D.atKey (.int .i64 (f:Int)) (.lit (.bool false))=.lit (.bool true))/\(us f=0->D.atKey (.int .i64 (f:Int)) (.lit (.bool false))=.lit (.bool false)) from by
    subst hus;exact HMe.o f)
   have xZ:=Qa (λj=>show(Yc j d.pr).length<=j from by rw[K0];exact TG j d.pr);have vK:=Qa (show Yc 0 d.pr=[] from rfl);have HFe:=Qa (K0 m.fr.n d.pr);clear HMe hus;have hxg:G<=wr.heap.size:=by have:=xk.size;omega
   have HXk:=Qa xk;clear xk;generalize hfN:(λj=>Yc j d.pr)=fN at *;have fe:=Qa hfN;generalize hwz:wr=wz at *;generalize hfr:m.fr.n=fn at *;have xY:=Qa hfr;clear hwz hfr;go_loopw [8,33] (λu i wx=>∃j:Nat,j<=fn/\i=.int .i64 j/\Ext wz wx/\wx.ownsRow wz.heap.size 3 1 u (Yc j d.pr).length (Vr (Yc j d.pr))) (λ_ i _=>fn-(intOf i).toNat);case atStart=>exact⟨0,by omega,rfl,Qg _,EN _ _ _ _⟩
   case round =>
    obtain⟨j,hj,rfl,xj,own⟩:=hrel;have uP:=xj.size;by_cases Qn:j<fn
    ·have Kp:(j:Int)<(fn:Int):=by omega
     have YW:=xZ.o j;have Qct:=Yd Zb xj;have HY:=Qa (HFy.o j);have HN:=Qa (xe.o j);by_cases hz:us j=0
     ·have P9:=Uc Bm (16*d.pr.length) j D false Qct (by omega) ((yK.o j).2 hz);have HYz:=Qa (HY.o hz);clear hz;generalize Yc j d.pr=L at *;have Qlj:=Qc own ((Qg wr).alloc (.cells #[.int .i64 (j:Int)] 3));have hsA:wz.heap.size<=(wr.alloc (.cells #[.int .i64 (j:Int)] 3)).heap.size:=by have:=((Qg wr).alloc (.cells #[.int .i64 (j:Int)] 3)).size;omega
      go_wp2_with (refine UV rfl _ _ rfl rfl rfl Qlj (Qs _ _ _) (by omega) hsA ?_;intro u' w4 Yr g4)
      go_roundw;case rel=>exact⟨j+1,by omega,by go_num,(xj.alloc _).grown g4 (λq e=>QU own e),by rw[HYz.o,VL];exact Yr⟩
      case measure=>simp[intOf];omega
     ·have P9:=Uc Bm (16*d.pr.length) j D true Qct (by omega) ((yK.o j).1 hz);have Rt:=Qa (HN.o hz);clear hz;go_wp2_with fail;go_roundw;case rel=>exact⟨j+1,by omega,by go_num,xj,by rw[Rt.o];exact own⟩
      case measure=>simp[intOf];omega
    ·obtain rfl:j=fn:=by omega
     go_wp2_with fail;go_ret;refine⟨_,rfl,HXk.o.trans xj,?_⟩;have Nt:w.heap.size<=wz.heap.size:=by have:=HGe.o;omega
     have:=Q8 own Nt;rw[xY.o,←K0];exact this
section
variable {P:Program}{C:World->Prop}{o:Oper}{a:Act}{K:Act->Prop}
theorem Kg (ty:TypeId) (x:Operand) (h:o.op=.load ty x) (b i:Nat) (hx:a.eval x=.pointer (some ⟨b,i,none⟩)) (cs:List Value) (d:TypeDesc) (hc:∀w,C w->w.rangeAt b i cs)
  (hu:P.underlying ty=some d) (hd:d.isRow=true) (hi:(P.info? ty).map (·.size)=some cs.length) (hk:K (a.put o.dst (.agg cs.toArray))):o.quiet P a C K :=
 ⟨_,λw hw=>by
  unfold Oper.quietAt execOp;simp only[h,hx,Instr.loadAt,Instr.sureAddr,Ny,Fb,Mm,run_loadVar_mid w b i ty cs d (hc w hw) hu hd hi];exact⟨rfl,rfl⟩,hk⟩
end
theorem dZ {w:World}{g:Nat}{t:TypeId}{m:QO}(h:Box w g t m.cells):w.rangeAt g 0 m.cells.toList:=λj v hj=>by
 rw[Nz];exact(h.cell j).trans (by rw[←hj];simp)
theorem eG {w:World}{g:Nat}{t:TypeId}{p:QF}(h:Box w g t (Qq p).toArray):w.rangeAt g 0 (Qq p):=λj v hj=>by
 rw[Nz];exact(h.cell j).trans (by rw[←hj];simp)
section
variable {C:World->Prop}{o:Oper}{a:Act}{K:Act->Prop}
theorem UQ (x:Operand) (h:o.op=.load 38 x) (b:Nat) (hx:a.eval x=.pointer (some ⟨b,0,none⟩)) (m:QO) (hc:∀w,C w->w.rangeAt b 0 m.cells.toList) (hk:K (a.put o.dst (.agg m.cells))):o.quiet prog a C K :=
 Kg _ x h b 0 hx _ _ hc underlying38 rfl Vi hk
theorem WB (x:Operand) (h:o.op=.load 57 x) (b:Nat) (hx:a.eval x=.pointer (some ⟨b,0,none⟩)) (p:QF) (hc:∀w,C w->w.rangeAt b 0 (Qq p)) (hk:K (a.put o.dst (.agg (Qq p).toArray))):o.quiet prog a C K :=
 Kg _ x h b 0 hx _ _ hc underlying57 rfl (by rw[Q2];exact R0) hk
end
end Go.Proofs.YtfaplefkakpgcaaGreatDoor
