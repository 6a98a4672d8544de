import Derived.Test.YtfaplefkakpgcaaGreatDoorQa24
import Derived.Recover
import Derived.Great.BuildSlice
import Derived.Defers
import Derived.Test.YtfaplefkakpgcaaGreatDoorQa21
set_option linter.unusedVariables false
set_option linter.unusedSimpArgs false
set_option maxHeartbeats 32000000
set_option maxRecDepth 100000
namespace Go.Proofs.YtfaplefkakpgcaaGreatDoor
open Go.Proofs.Tryz
open Go.RowKit
structure RB (w W:World) (mb kb:Nat) (m:Q1):Prop where
 box:Box W mb 38 m.cells
 okb:Box W kb 4 #[.bool false]
 ext:Ext w W
 ne:mb≠kb
 lm:w.heap.size<=mb
 lk:w.heap.size<=kb
namespace RB
variable {w W W':World}{mb kb xb:Nat}{m:Q1}{L:List (List UInt8)}
theorem more (h:RB w W mb kb m) (x:Ext W W'):RB w W' mb kb m:=⟨h.box.ext x,h.okb.ext x,h.ext.trans x,h.ne,h.lm,h.lk⟩
theorem call (h:RB w W mb kb m) (c:Qq W xb L) (b:But xb W W') (hx:w.heap.size<=xb):RB w W' mb kb m:=by
 obtain⟨A,n,d,k1,_,_⟩:=c;exact⟨b.box h.box (h.box.apart k1 (by decide)),b.box h.okb (h.okb.apart k1 (by decide)),b.past h.ext hx,h.ne,h.lm,h.lk⟩
theorem grown {B z n:Nat}{u:Value}{xs:List Value}{t:TypeId}(h:RB w W mb kb m) (o:W.ownsRow B t z u n xs) (g:W.grownBy W' u.ownBlock) (h1:t≠38) (h2:t≠4) (hB:w.heap.size<=B):RB w W' mb kb m :=
 ⟨h.box.grown g (Jz o h.box h1),h.okb.grown g (Jz o h.okb h2),h.ext.grown g (λk e=>Y6 hB (Jc o e)),h.ne,h.lm,h.lk⟩
theorem but (h:RB w W mb kb m) (b:But mb W W') (m':Q1) (hb:Box W' mb 38 m'.cells):RB w W' mb kb m' :=
 ⟨hb,b.box h.okb (Fq h.ne),b.past h.ext h.lm,h.ne,h.lm,h.lk⟩
end RB
theorem Qq.apart {w w':World}{b b':Nat}{L:List (List UInt8)}{T:TypeId}{cs:Array Value}(h:Qq w b L) (hb:Box w b' T cs) (ht:253≠T):b≠b':=by
 obtain⟨A,n,d,k1,_,_⟩:=h;exact k1.apart hb ht
section
variable {ops:Array Oper}{rest:List Oper}{o:Oper}{a:Act}{w0 W:World}{Q:Exit->Act->World->Prop}{mb kb:Nat}{m:Q1}
theorem Fi (S:RB w0 W mb kb m) (m':Q1) (T:TypeId) (x z:Operand) (Q7:o.guard=none) (ho:o.op=.store T x z) (i:Nat) (v:Value) (hx:a.eval x=.pointer (some ⟨mb,i,none⟩)) (hy:a.eval z=v) (hv:v.oneCell'=true)
  (hi:(prog.info? T).map (·.size)=some 1) (Qo:i<17) (he:m.cells.setIfInBounds i v=m'.cells)
  (hK:∀W',RB w0 W' mb kb m'->But mb W W'->wpList prog ops Q rest (a.put o.dst undef) W'):wpList prog ops Q (o::rest) a W :=
 Z5 T x z Q7 ho mb i v _ _ _ hx hy hv hi S.box Qo he (λW' b d=>hK W' (S.but d m' b) d)
theorem C5 (y:QN):Instr.fill (λi=>some (i*96,96)) ((Array.range (1*96)).map ((Value.agg (QJ Du).toArray).cells[·%(Value.agg (QJ Du).toArray).cells.size]!)) [(0,.agg (QJ y).toArray)]=some (QJ y).toArray:=by kernel_rfl
theorem PJ (x:Operand) (Q7:o.guard=none) (ho:o.op=.buildSlice 32 1 #[(0,x)]) (y:QN) (hx:a.eval x=.agg (QJ y).toArray)
  (hK:wpList prog ops Q rest (a.put o.dst (.slice (some ⟨W.heap.size,0,none⟩) 1 1)) (W.alloc (.cells (QJ y).toArray 57))):wpList prog ops Q (o::rest) a W:=by
 obtain⟨i,hi,hz,h1,h2⟩:=SQ OB;refine wpList_buildSlice Q7 32 57 1 #[(0,x)] ho (QJ y).toArray i _ underlying32 hi hz (by rw[h1];decide) (by rw[h1];decide) ?_ hK;rw[h1];have e:((#[(0,x)]:Array (Nat × Operand)).map λ(i,x)=>(i,a.eval x)).toList=[(0,.agg (QJ y).toArray)]:=by simp[hx]
 rw[e];exact C5 y
theorem We {S E:TypeId}{zv:Value}{z bytes B g n:Nat}{u:Value}{xs:List Value}(y:List Value) (hu:prog.underlying S=some (.slice E)) (hinf:(prog.info? E).map (λi=>(i.zero,i.size,i.bytes))=some (some zv,z,bytes)) (hz0:0<z) (hzc:zv.cells.size=z)
  (hyl:y.length=z) (hyo:∀v∈y,v.oneCell'=true) (qD:bytes<=1000) (Q7:o.guard=none) (sl x:Operand)
  (ho:o.op=.call { callee:=.builtin .append,args:=#[sl,x],argTypes:=#[S,S] }) (hs:a.eval sl=u) (hx:a.eval x=.slice (some ⟨g,0,none⟩) 1 1)
  (h0:W.ownsRow B E z u n xs) (hb:Box W g E y.toArray) (hn:n<=1000000000) (hB:B<=W.heap.size)
  (hK:∀u' W',W'.ownsRow B E z u' (n+1) (xs++y)->W.grownBy W' u.ownBlock->wpList prog ops Q rest (a.put o.dst u') W'):wpList prog ops Q (o::rest) a W:=by
 refine DC Q7 λK Ky=>?_;obtain⟨i,hi,hz,h1,h2⟩:=SQ hinf;obtain⟨v',w',hr,ho2,hg,_,_⟩:=mM (P:=prog) W B S o.type E i zv z bytes hu hi hz h1 h2 hzc hz0 u n xs h0 ⟨g,0,none⟩ 1 1 y (by omega) (λj u hj=>by
  have ha:(⟨g,0,none⟩:Addr).add j=⟨g,j,none⟩:=by unfold Addr.add;split<;>simp_all
  rw[ha,hb.cell j];simpa using hj) hyo (by unfold maxLen;omega) (by
   have h3:(n+1)*bytes<=(n+1)*1000:=Nat.mul_le_mul_left _ qD;omega) hB
 unfold Oper.wp execOp;simp only[ho,resolve,invoke,builtin,WW,Fp,MZ,fG,FN,Cy,hs,hx,hr];exact Ky _ _ (hK v' w' ho2 hg)
end
theorem Ms {w:World}{B z n:Nat}{e:TypeId}{u:Value}{xs:List Value}(h:w.ownsRow B e z u n xs):∀g,u.ownBlock=some g->∃c fz,w.heap[g]? =some (.cells c e fz):=by
 intro g hg;rcases h.2 with⟨rfl,_⟩|⟨g',cap,cur,rfl,_,hgg,_⟩
 ·simp[Value.ownBlock]at hg
 ·simp[Value.ownBlock]at hg;subst hg;exact⟨cur,_,hgg⟩
theorem KH {w w':World}{B B' z z' n n':Nat}{e e':TypeId}{u u':Value}{xs xs':List Value}(h:w.ownsRow B e z u n xs) (h':w.ownsRow B' e' z' u' n' xs') (QY:e≠e') (hg:w.grownBy w' u'.ownBlock):w'.ownsRow B e z u n xs:=by
 refine h.kept hg ?_;cases hu:u.ownBlock with
 | none=>exact .inl rfl
 | some g => refine .inr (λe2=>?_);obtain⟨c,fz,h1⟩:=Ms h g hu;obtain⟨c',fz',h2⟩:=Ms h' g e2.symm;rw[h1]at h2;injection h2 with h2;injection h2 with _ h2 _;exact QY h2
structure Rk (ST:World->Prop) (xb kc ka B z:Nat) (T:TypeId) (k:Nat) (W W':World):Prop where
 st:ST W->ST W'
 cur:k≠kc->∀L,Qq W xb L->Qq W' xb L
 own:k≠ka->∀u n xs,W.ownsRow B T z u n xs->W'.ownsRow B T z u n xs
 box:k≠ka->∀g cs,Box W g T cs->Box W' g T cs
namespace Rk
variable {ST:World->Prop}{xb kc ka B z k:Nat}{T:TypeId}{W W':World}
theorem same:Rk ST xb kc ka B z T k W W:=⟨id,λ_ _ h=>h,λ_ _ _ _ h=>h,λ_ _ _ h=>h⟩
theorem ofExt (hS:ST W->ST W') (x:Ext W W'):Rk ST xb kc ka B z T k W W':=⟨hS,λ_ _ h=>h.ext x,λ_ _ _ _ h=>Qe h x,λ_ _ _ h=>h.ext x⟩
theorem take {L:List (List UInt8)}(hS:ST W->ST W') (c:Qq W xb L) (b:But xb W W') (hT:T≠253):Rk ST xb kc ka B z T kc W W' :=
 ⟨hS,λh=>absurd rfl h,λ_ _ _ _ h=>c.own b h hT,λ_ g cs h=>by
  obtain⟨A,n,d,k1,_,_⟩:=c;exact b.box h (h.apart k1 hT)⟩
theorem app {n:Nat}{u:Value}{xs:List Value}(hS:ST W->ST W') (o:W.ownsRow B T z u n xs) (g:W.grownBy W' u.ownBlock) (h1:9≠T) (h2:T≠253):Rk ST xb kc ka B z T ka W W' :=
 ⟨hS,λ_ _ h=>h.grown g o h1 h2,λh=>absurd rfl h,λh=>absurd rfl h⟩
end Rk
theorem TG (p q:Addr) (w:World) :
  CallsD prog 124 #[.pointer (some p),.pointer (some q)] .returning w λe u' w'=>e=.returned (.tuple #[])/\u'=.returning/\w'=w:=by
 refine callsD_of_wpS func124 rfl λc₀ cs hu=>?_;apply wpS_seq;apply wpS_region;simp[wpOpsS,go_sem,recoverD,hu,ntmps124,Exit.thenS];refine wpS_of_wp ?_;simp only[ah,ak,aq,kA,an,Cx,DB,List.set_cons_zero,mL];go_wp2_with fail;cases c₀;simp_all [bodyPostS,results,Tryz.results124]
abbrev Ju:Q1:=⟨0,0,0,0,Jr,Jr,0,[],Jr,0,[],false,0,Jr,Jr,0,Jr⟩
theorem Oa:Ju.cells.all (·.oneCell')=true:=by kernel_rfl
theorem Ro:(prog.info? 38).map (·.size)=some Ju.cells.size:=by kernel_rfl
theorem TF (mb kb:Nat) (w:World) (cs:Array Value) (x:Bool) (hb:Box w mb 38 cs) (hs:cs.size=17) (hk:Box w kb 4 #[.bool x]) (older:List PanicEntry) :
  CallsD prog 124 #[.pointer (some ⟨mb,0,none⟩),.pointer (some ⟨kb,0,none⟩)] (.panicking ({ v:=SW,recovered:=false }::older)) w λe u' w' => e=.returned (.tuple #[])/\u'=.panicking ({ v:=SW,recovered:=true }::older)/\Box w' mb 38 Ju.cells/\Box w' kb 4 #[.bool false]/\∀w0,Ext w0 w->w0.heap.size<=mb->w0.heap.size<=kb->Ext w0 w':=by
 refine callsD_of_wpS func124 rfl λc₀ cs hu=>?_;apply wpS_seq;apply wpS_region;simp[wpOpsS,go_sem,recoverD,hu,ntmps124,Exit.thenS];refine wpS_of_wp ?_;simp only[ah,ak,aq,kA,an,Cx,DB,List.set_cons_zero,mL];have hta:∀w (z:TypeId),(Instr.typeAssert (.iface 183 (.agg #[])) z 183 true).run prog w=.ok (.tuple #[.agg #[],.bool true]) w:=λ_ _=>rfl;go_upto_region 5 with fail;have xw:Ext w (w.alloc (.cells #[] 183)):=(Qf w).alloc _;have ZS:=hb.ext xw;have Y9:=hk.ext xw;have QY:kb≠mb:=hk.apart hb (by decide);generalize w.alloc (.cells #[] 183)=w1 at *;go_upto_region 5 with fail;go_wp2_with (refine JD (.tmp 0) (.tmp 16) rfl rfl mb Ju _ _ rfl rfl ZS hs ?_;intro w2 b2 g2;have k2:=Y9.grown g2 (λe=>QY (L0 e));have f2:w2.frozen? ⟨kb,0,none⟩=false:=k2.frozen 0;have c2:w2.cell? ⟨kb,0,none⟩=some (.bool x):=k2.cell 0)
 have K1:Box (w2.setCell ⟨kb,0,none⟩ (.bool false)) kb 4 #[.bool false]:=k2.set 0 (.bool false);have K2:Box (w2.setCell ⟨kb,0,none⟩ (.bool false)) mb 38 Ju.cells:=((But.refl kb w2).setCell 0 (.bool false)).box b2 (λe=>QY e.symm);have K3:∀w0,Ext w0 w->w0.heap.size<=mb->w0.heap.size<=kb->Ext w0 (w2.setCell ⟨kb,0,none⟩ (.bool false)):=λw0 x h1 h2=>((x.trans xw).grown g2 (λj e=>by cases e;exact h1)).setCell h2 _;generalize w2.setCell ⟨kb,0,none⟩ (.bool false)=w3 at *;clear hta hk hb Y9 ZS b2 k2 g2 f2 c2 xw hs QY;simp[bodyPostS,results,Tryz.results124];exact⟨K2,K1,K3⟩
theorem Xi {tmps:Array Value}(w:World) (mb kb:Nat) (m:Q1) (b:Bool) (h2:tmps.getD 2 undef=.pointer (some ⟨mb,0,none⟩)) (h3:tmps.getD 3 undef=.pointer (some ⟨kb,0,none⟩)) (h:Box w mb 38 m.cells) (k:Box w kb 4 #[.bool b]) :
  (results Tryz.f68 tmps).run prog w=.ok (.tuple #[.agg m.cells,.bool b]) w:=by
 have h2':tmps[2]?.getD undef=.pointer (some ⟨mb,0,none⟩):=by simpa using h2
 have px:tmps[3]?.getD undef=.pointer (some ⟨kb,0,none⟩):=by simpa using h3
 have c0:w.cell? ⟨kb,0,none⟩=some (.bool b):=k.cell 0;have l2:(loadVar 4 ⟨kb,0,none⟩).run prog w=.ok (.bool b) w:=by simp[c0,go_sem]
 simp[results,Tryz.results68,h2',px,asAddr,mR w mb 38 38 m.cells (0,0) _ h underlying38 rfl Ro,l2]
theorem UE (s:List UInt8) (w:World) (h:Jm (some 16) s=none) (hs:s.length<=100000000) :
  Calls prog 68 #[.string (Qb s)] w λe w'=>e=.returned (.tuple #[.agg Ju.cells,.bool false])/\Ext w w':=by
 have kV:∀(fn:Fn) (first cap:Array Value) (w:World),(Instr.makeFunc fn first cap).run prog w=.ok (.func fn first cap) w:=λ_ _ _ _=>rfl;have HO:=Qa (λw=>(KD s (some 16) w (by omega) (λn h=>by cases h;decide)).mono (λe w' k=>by
  rcases k with⟨l,b,k,_⟩|⟨_,h1,h2⟩
  ·rw[h]at k;cases k
  ·exact(⟨h1,h2⟩:e=QZ/\Ext w w')))
 clear hs;go_enter_defers func68,ntmps68;go_upto_region 2 with fail;have b1:=QA w 38 Ju.cells;have x1:Ext w (w.alloc (.cells Ju.cells 38)):=(Qf w).alloc _;have z1:(w.alloc (.cells Ju.cells 38)).heap.size=w.heap.size+1:=Ki _ _;change Code.wp _ _ _ _ ((w.alloc (.cells Ju.cells 38)).alloc (.cells #[.bool false] 4));generalize w.alloc (.cells Ju.cells 38)=wa at b1 x1 z1 ⊢;have b2:=QA wa 4 #[.bool false];rw[z1]at b2;have b3:=b1.ext ((Qf wa).alloc (.cells #[.bool false] 4));have x2:=x1.alloc (.cells #[.bool false] 4);generalize wa.alloc (.cells #[.bool false] 4)=W at b2 b3 x2 ⊢;clear b1 x1 z1;clear wa;go_wp2_with (go_at_call 125;refine(HO.o _).mono ?_;rintro e w1 ⟨he,x3⟩;simp only[QZ]at he;subst he)
 refine leaves_cons (f:=124) (args:=#[.pointer (some ⟨w.heap.size,0,none⟩),.pointer (some ⟨w.heap.size+1,0,none⟩)]) (by simp) (by simp[go_sem]) ?_;refine(TF w.heap.size (w.heap.size+1) w1 _ _ (b3.ext x3) rfl (b2.ext x3) []).mono ?_;rintro e u' w'' ⟨rfl,rfl,b5,b6,x6⟩;simp only[Leaves,settle];refine⟨_,Xi w'' w.heap.size (w.heap.size+1) Ju false rfl rfl b5 b6,rfl,x6 w (x2.trans x3) (QW _) (by omega)⟩
structure RC (w W:World) (mb kb cb:Nat) (m:Q1) (L:List (List UInt8)):Prop where
 rb:RB w W mb kb m
 cur:Qq W cb L
 lc:w.heap.size<=cb
namespace RC
variable {w W W':World}{mb kb cb xb:Nat}{m m':Q1}{L L' L2:List (List UInt8)}
theorem call (h:RC w W mb kb cb m L) (k:Qq W' cb L') (b:But cb W W'):RC w W' mb kb cb m L':=⟨h.rb.call h.cur b h.lc,k,h.lc⟩
theorem other (h:RC w W mb kb cb m L) (c:Qq W xb L2) (k:Qq W' xb L') (b:But xb W W') (hx:w.heap.size<=xb) (QY:cb≠xb):RC w W' mb kb cb m L:=⟨h.rb.call c b hx,h.cur.but b c QY,h.lc⟩
theorem more (h:RC w W mb kb cb m L) (x:Ext W W'):RC w W' mb kb cb m L:=⟨h.rb.more x,h.cur.ext x,h.lc⟩
theorem but (h:RC w W mb kb cb m L) (b:But mb W W') (r:RB w W' mb kb m'):RC w W' mb kb cb m' L:=⟨r,h.cur.butT b h.rb.box (by decide) (Qq.apart (w':=W) h.cur h.rb.box (by decide)),h.lc⟩
theorem dec (h:RC w W mb kb cb m L) (hD:JW w):∀W',But cb W W'->JW W':=λW' b=>hD.ext (b.past h.rb.ext h.lc)
end RC
section
variable {ops:Array Oper}{rest:List Oper}{o:Oper}{a:Act}{w0 W:World}{Q:Exit->Act->World->Prop}{mb kb cb:Nat}{m:Q1}{L:List (List UInt8)}
theorem JT (S:RC w0 W mb kb cb m L) (m':Q1) (T:TypeId) (x z:Operand) (Q7:o.guard=none) (ho:o.op=.store T x z) (i:Nat) (v:Value) (hx:a.eval x=.pointer (some ⟨mb,i,none⟩)) (hy:a.eval z=v) (hv:v.oneCell'=true)
  (hi:(prog.info? T).map (·.size)=some 1) (Qo:i<17) (he:m.cells.setIfInBounds i v=m'.cells)
  (hK:∀W',RC w0 W' mb kb cb m' L->But mb W W'->wpList prog ops Q rest (a.put o.dst undef) W'):wpList prog ops Q (o::rest) a W :=
 Fi S.rb m' T x z Q7 ho i v hx hy hv hi Qo he (λW' r d=>hK W' (S.but d r) d)
end
theorem ja {l:List (List UInt8)}(h:l.length=16):∃a b c d e f g i j k m n o p q r,l=[a,b,c,d,e,f,g,i,j,k,m,n,o,p,q,r]:=by
 match l,h with
 | [a,b,c,d,e,f,g,i,j,k,m,n,o,p,q,r],_=>exact⟨a,b,c,d,e,f,g,i,j,k,m,n,o,p,q,r,rfl⟩
theorem Pn {s:List UInt8}{l:List Zs}(h:JB s=some l) (w:World) (hs:s.length<=100000000) (hD:JW w) :
  Calls prog 130 #[.string (Qb s)] w λe w'=>∃A c,e=.returned (.slice A l.length c)/\w'.ownsRow w.heap.size 92 2 (.slice A l.length c) l.length (l.flatMap Yd)/\Ext w w' :=
 (KM s w hs hD).mono (λe w' k=>by
  rcases k with⟨l',u,h1,h2,h3,h4⟩|⟨h1,_⟩
  ·have h5:=L0 (h.symm.trans h1);subst h5;obtain⟨A,c,rfl⟩:=KF h3;exact⟨A,c,h2,h3,h4⟩
  ·rw[h]at h1;cases h1)
theorem db (m:Q1):m.cells.all (·.oneCell')=true:=by kernel_rfl
def fB (r:Option (Q1 × QL)) (w:World) (e':Ending) (w':World):Prop:=match r with
 | none=>e'=.returned (.tuple #[.agg Ju.cells,.bool false])/\Ext w w'
 | some (z,e)=>∃pr pi pe di:Sl,e'=.returned (.tuple #[.agg ({ z with pr:=pr,pi:=pi,pe:=pe,di:=di }:Q1).cells,.bool true])/\Ext w w'/\pr.n=e.pr.length/\pi.n=e.pi.length/\pe.n=e.pe.length/\di.n=e.di.length/\
   w'.ownsRow w.heap.size 57 96 (.slice pr.A pr.n pr.c) pr.n (e.pr.flatMap QJ)/\w'.ownsRow w.heap.size 95 2 (.slice pi.A pi.n pi.c) pi.n (e.pi.flatMap Yd)/\w'.ownsRow w.heap.size 92 2 (.slice pe.A pe.n pe.c) pe.n (e.pe.flatMap Yd)/\w'.ownsRow w.heap.size 92 2 (.slice di.A di.n di.c) di.n (e.di.flatMap Yd)
theorem MP {s:List UInt8}(h:JB s=none) (w:World) (hs:s.length<=100000000) (hD:JW w) :
  Calls prog 130 #[.string (Qb s)] w λe w'=>e=QZ/\Ext w w' :=
 (KM s w hs hD).mono (λe w' k=>by
  rcases k with⟨l',u,h1,_⟩|⟨_,h2,h3⟩
  ·rw[h]at h1;cases h1
  ·exact⟨h2,h3⟩)
theorem GL {s:List UInt8}(hP:XD s=none) (w:World) (hs:s.length<=100000000) (hD:JW w) :
  Calls prog 132 #[.string (Qb s)] w λe w'=>e=QZ/\Ext w w' :=
 (WI s w hs hD).mono (λe w' h=>⟨h.1.trans (by rw[hP];rfl),h.2⟩)
theorem Gs {s:List UInt8}{T:List (List UInt8)}(q:Jm none s=some T) (hs:s.length<=100000000):T.length<=100000000:=by
 have:=(VV s).1;unfold Jm at q;split at q
 ·injection q with q;rw[←q];omega
 ·cases q
theorem cC {α β:Type} {o o':Option α}{f:α->Option β}{r:Option β}(h:o.bind f=r) (e:o=o'):o'.bind f=r:=e▸h
theorem jG {α β:Type} {o o':Option α}{f:α->β}{r:Option β}(h:o.map f=r) (e:o=o'):o'.map f=r:=e▸h
theorem oI {α:Type} {c:Prop}[Decidable c] {a b r:α}(h:(if c then a else b)=r) (hc:c):a=r:=by rw[Qv hc]at h;exact h
theorem i8 {α:Type} {c:Prop}[Decidable c] {a r:Option α}(h:(if c then a else none)=r) (hc:¬c):r=none:=by rw[Qr hc]at h;exact h.symm
theorem Dt {s:List UInt8}{T:List (List UInt8)}(q:Jm none s=some T):JB s=ZR JG T:=by unfold JB;rw[q];rfl
theorem Al {s:List UInt8}{T:List (List UInt8)}(q:Jm none s=some T):UZ s=ZR XD T:=by unfold UZ;rw[q];rfl
theorem Ds {s:List UInt8}(q:Jm none s=none):JB s=none:=by unfold JB;rw[q];rfl
theorem Ak {s:List UInt8}(q:Jm none s=none):UZ s=none:=by unfold UZ;rw[q];rfl
theorem MO {s a b:List UInt8}(q:Jm (some 2) s=some [a,b]):JG s=(Zd a).map λn=>(n,b):=by unfold JG;rw[q];rfl
theorem Ns (tmps:Array Value) (d:Nat) (v:Value) (h2:d≠2) (h3:d≠3):results Tryz.f68 (tmps.setIfInBounds d v)=results Tryz.f68 tmps:=by
 have e2:(tmps.setIfInBounds d v)[2]?.getD undef=tmps[2]?.getD undef:=by rw[j0 h2]
 have e3:(tmps.setIfInBounds d v)[3]?.getD undef=tmps[3]?.getD undef:=by rw[j0 h3]
 simp[results,Tryz.results68,e2,e3]
theorem Ep {P:Program}{fn:Func}{tmps tmps':Array Value}{R:Ending->World->Prop}(hr:results fn tmps'=results fn tmps):∀ds u w,Leaves P fn tmps' R ds u w->Leaves P fn tmps R ds u w:=by
 intro ds;induction ds with
 | nil =>
  intro u w h;cases u with
  | returning=>simp only[Leaves]at h ⊢;rw[hr]at h;exact h
  | panicking c=>exact h
  | run=>exact h
 | cons d ds ih =>
  intro u w h;simp only[Leaves]at h ⊢;obtain⟨h1,fv,cap,f,args,e1,e2,hc⟩:=h;refine⟨h1,fv,cap,f,args,e1,e2,hc.mono ?_⟩;intro e u' w' h;cases e with
  | returned _=>exact ih _ _ h
  | panicked _=>exact ih _ _ h
  | outgrown=>exact h
theorem KN {R:Ending->World->Prop}{c:List PanicEntry}{a:Act}{w:World}{d:Nat}{v:Value}(h2:d≠2) (h3:d≠3) (h:bodyPostD prog Tryz.f68 R (.panic c) (a.put (some d) v) w):bodyPostD prog Tryz.f68 R (.panic c) a w :=
 Ep (Ns a.tmps d v h2 h3) _ _ _ h
theorem Jo {w wz:World}{mb kb:Nat}{m:Q1}{T:Array Value}(h2:T.getD 2 undef=.pointer (some ⟨mb,0,none⟩)) (h3:T.getD 3 undef=.pointer (some ⟨kb,0,none⟩)) (SZ:RB w wz mb kb m) :
  bodyPostD prog Tryz.f68 (fB none w) (.panic [{ v:=SW,recovered:=false }]) { tmps:=T,defers:=[{ target:=.fn (.func 124) #[.pointer (some ⟨mb,0,none⟩),.pointer (some ⟨kb,0,none⟩)],args:=#[] }] } wz:=by
 refine leaves_cons (f:=124) (args:=#[.pointer (some ⟨mb,0,none⟩),.pointer (some ⟨kb,0,none⟩)]) (by simp) (by simp[go_sem]) ?_;refine(TF mb kb wz _ _ SZ.box rfl SZ.okb []).mono ?_;rintro e' u' w'' ⟨rfl,rfl,b5,b6,x6⟩;simp only[Leaves,settle];exact⟨_,Xi w'' mb kb Ju false h2 h3 b5 b6,rfl,x6 w SZ.ext SZ.lm SZ.lk⟩
theorem LF (s:List UInt8) (w:World) (hs:s.length<=100000000) (hD:JW w) :
  Calls prog 68 #[.string (Qb s)] w (fB (RO s) w):=by
 generalize hR:RO s=r;cases h16:Jm (some 16) s with
 | none =>
  obtain rfl:r=none:=by unfold RO at hR;rw[h16]at hR;exact hR.symm
  exact UE s w h16 hs
 | some l =>
 obtain⟨t0,t1,t2,t3,t4,t5,t6,t7,t8,t9,t10,t11,t12,t13,t14,t15,rfl⟩:=ja (Ul h16);unfold RO at hR;rw[h16]at hR;simp only[Option.bind_some,pY,pZ]at hR;have TZ:=Z8 h16;have iX:∀t∈[t0,t1,t2,t3,t4,t5,t6,t7,t8,t9,t10,t11,t12,t13,t14,t15],t.length<=281474976710656:=λt ht=>by have:=TZ t ht;omega
 have HO:=Qa (λw=>Vv h16 w (by omega) (λn h=>by cases h;decide));have AU:=Qa (show∀t∈[t2,t3,t4,t5,t6,t7,t8,t9,t10,t11,t12,t13,t14,t15],t.length<=281474976710656 fromλt ht=>iX t (j8 (i:=2) ht));have pL:=Qa (show∀t∈[t3,t4,t5,t6,t7,t8,t9,t10,t11,t12,t13,t14,t15],t.length<=281474976710656 fromλt ht=>iX t (j8 (i:=3) ht));have qp:=Qa (show∀t∈[t4,t5,t6,t7,t8,t9,t10,t11,t12,t13,t14,t15],t.length<=281474976710656 fromλt ht=>iX t (j8 (i:=4) ht));have uG:=Qa (show∀t∈[t5,t6,t7,t8,t9,t10,t11,t12,t13,t14,t15],t.length<=281474976710656 fromλt ht=>iX t (j8 (i:=5) ht));have uH:=Qa (show∀t∈[t7,t8,t9,t10,t11,t12,t13,t14,t15],t.length<=281474976710656 fromλt ht=>iX t (j8 (i:=7) ht));have lQ:=Qa (show∀t∈[t11,t12,t13,t14,t15],t.length<=281474976710656 fromλt ht=>iX t (j8 (i:=11) ht));have li:=Qa (Y6 (TZ t12 (by simp)) hs);have lj:=Qa (Y6 (TZ t13 (by simp)) hs);have bO:=Qa (Y6 (TZ t14 (by simp)) hs);have bQ:=Qa (Y6 (TZ t15 (by simp)) hs);have YU:=Qa hD;have ZE:=Qa hR;clear hR h16 TZ iX hD hs;have kV:∀(fn:Fn) (first cap:Array Value) (w:World),(Instr.makeFunc fn first cap).run prog w=.ok (.func fn first cap) w:=λ_ _ _ _=>rfl;go_enter_defers func68,ntmps68;go_upto_region 2 with fail;have b1:=QA w 38 Ju.cells;have x1:Ext w (w.alloc (.cells Ju.cells 38)):=(Qf w).alloc _;have y1:(w.alloc (.cells Ju.cells 38)).heap.size=w.heap.size+1:=Ki _ _;change Code.wp _ _ _ _ ((w.alloc (.cells Ju.cells 38)).alloc (.cells #[.bool false] 4));generalize w.alloc (.cells Ju.cells 38)=wa at b1 x1 y1 ⊢;have b2:=QA wa 4 #[.bool false];rw[y1]at b2;have S0:RB w (wa.alloc (.cells #[.bool false] 4)) w.heap.size (w.heap.size+1) Ju:=⟨b1.ext ((Qf wa).alloc _),b2,x1.alloc _,by omega,QW _,by omega⟩
 generalize wa.alloc (.cells #[.bool false] 4)=W at S0 ⊢;clear b1 x1 y1 b2;clear wa;obtain⟨mb,hmb⟩:∃mb,mb=w.heap.size:=⟨_,rfl⟩
 obtain⟨kb,hkb⟩:∃kb,kb=mb+1:=⟨_,rfl⟩
 rw[←hmb,←hkb]at S0;rw[←hmb,←hkb];clear hmb hkb kV;go_upto_region 3 with(go_at_call 125;refine(HO.o _).mono ?_;rintro e w1 ⟨cb,rfl,Bk,US,x1⟩)
 have S:RC w w1 mb kb cb Ju [t0,t1,t2,t3,t4,t5,t6,t7,t8,t9,t10,t11,t12,t13,t14,t15]:=⟨S0.more x1,US,Y6 S0.ext.size Bk⟩
 clear S0 HO Bk US x1;by_cases h0:t0=[104,105,98,50];case neg =>
  obtain rfl:=i8 ZE.o h0;have hq:((Qb t0).toList==[104,105,98,50])=false:=by rw[Ql];simpa using h0
  clear h0 ZE
  go_wp2_with (first
   | (go_at_call 126;refine(Jd S.cur).mono ?_;rintro e w2 ⟨rfl,k2,d2⟩;have Sa:=S.call k2 d2)
   | (refine Yv _ _ _ rfl rfl mb Ju.cells _ _ rfl rfl Sa.rb.box Ro rfl Oa ?_;intro w3 b3 g3;have k3:=Sa.rb.okb.grown g3 (λe=>Sa.rb.ne (by injection e with e;exact e.symm)))
   | (refine Z5 _ _ _ rfl rfl kb 0 _ _ _ _ rfl rfl rfl LR k3 (by decide) rfl ?_;intro w4 b4 d4))
  refine leaves_cons (f:=124) (args:=#[.pointer (some ⟨mb,0,none⟩),.pointer (some ⟨kb,0,none⟩)]) (by simp) (by simp[go_sem]) ?_;refine(TG ⟨mb,0,none⟩ ⟨kb,0,none⟩ w4).mono ?_;rintro e' u' w5 ⟨rfl,rfl,rfl⟩;simp only[Leaves,settle];exact⟨_,Xi w5 mb kb Ju false rfl rfl (d4.box b3 Sa.rb.ne) b4,rfl,d4.past (Sa.rb.ext.grown g3 (λk e=>by cases e;exact Sa.rb.lm)) Sa.rb.lk⟩
 have hq:((Qb t0).toList==[104,105,98,50])=true:=by rw[Ql,h0];rfl
 replace ZE:=Qa (oI ZE.o h0);clear h0;go_upto_region 5 with(go_at_call 126;refine(Jd S.cur).mono ?_;rintro e w2 ⟨rfl,k2,d2⟩;have Sa:=S.call k2 d2)
 clear S hq k2 d2;cases e0:VL 8 t1 with
 | none =>
  obtain rfl:=QK ZE.o e0;have HN:=Qa e0;clear e0 ZE
  go_wp2_with (first
   | (go_at_call 127;refine(Wi Sa.cur (.inr rfl) HN.o).mono ?_;rintro e wz ⟨he,kz,dz⟩;simp only[QZ]at he;subst he))
  exact Jo rfl rfl ((Sa.call kz dz).rb)
 | some z0 =>
 have H1:=Qa e0;replace ZE:=Qa (Jp ZE.o e0);clear e0
 go_upto_region 6 with(first
  | (go_at_call 127;refine(K7 Sa.cur (.inr rfl) H1.o).mono ?_;rintro e w2 ⟨rfl,k2,d2⟩;have Sb:=Sa.call k2 d2)
  | (refine JT Sb (⟨z0,0,0,0,Jr,Jr,0,[],Jr,0,[],false,0,Jr,Jr,0,Jr⟩) _ _ _ rfl rfl 0 _ rfl rfl rfl aG (by decide) rfl ?_;intro w3 S1 d3))
 clear Sa Sb k2 d2 d3;cases e0:Zd t2 with
 | none =>
  obtain rfl:=QK ZE.o e0;have HN:=Qa e0;clear e0 ZE
  go_wp2_with (first
   | (go_at_call 128;refine(Yj S1.cur HN.o (S1.dec YU.o) AU.o).mono ?_;rintro e wz ⟨he,kz,dz⟩;simp only[QZ]at he;subst he))
  exact Jo rfl rfl ((S1.call kz dz).rb)
 | some z1 =>
 have H2:=Qa e0;replace ZE:=Qa (Jp ZE.o e0);clear e0;cases e0:Zd t3 with
 | none =>
  obtain rfl:=QK ZE.o e0;have HN:=Qa e0;clear e0 ZE
  go_wp2_with (first
   | (go_at_call 128;refine(Yj S2.cur HN.o (S2.dec YU.o) pL.o).mono ?_;rintro e wz ⟨he,kz,dz⟩;simp only[QZ]at he;subst he)
   | (go_at_call 128;refine(Q3 S1.cur H2.o (S1.dec YU.o) AU.o).mono ?_;rintro e w2 ⟨rfl,k2,d2⟩;have S2:=S1.call k2 d2))
  exact Jo rfl rfl ((S2.call kz dz).rb)
 | some z2 =>
 have H3:=Qa e0;replace ZE:=Qa (Jp ZE.o e0);clear e0;cases e0:Zd t4 with
 | none =>
  obtain rfl:=QK ZE.o e0;have HN:=Qa e0;clear e0 ZE
  go_wp2_with (first
   | (go_at_call 128;refine(Yj S3.cur HN.o (S3.dec YU.o) qp.o).mono ?_;rintro e wz ⟨he,kz,dz⟩;simp only[QZ]at he;subst he)
   | (go_at_call 128;refine(Q3 S2.cur H3.o (S2.dec YU.o) pL.o).mono ?_;rintro e w3 ⟨rfl,k3,d3⟩;have S3:=S2.call k3 d3)
   | (go_at_call 128;refine(Q3 S1.cur H2.o (S1.dec YU.o) AU.o).mono ?_;rintro e w2 ⟨rfl,k2,d2⟩;have S2:=S1.call k2 d2))
  exact Jo rfl rfl ((S3.call kz dz).rb)
 | some z3 =>
 have H4:=Qa e0;replace ZE:=Qa (Jp ZE.o e0);clear e0;cases e0:Zd t5 with
 | none =>
  obtain rfl:=QK ZE.o e0;have HN:=Qa e0;clear e0 ZE
  go_wp2_with (first
   | (go_at_call 128;refine(Yj S4.cur HN.o (S4.dec YU.o) uG.o).mono ?_;rintro e wz ⟨he,kz,dz⟩;simp only[QZ]at he;subst he)
   | (go_at_call 128;refine(Q3 S3.cur H4.o (S3.dec YU.o) qp.o).mono ?_;rintro e w4 ⟨rfl,k4,d4⟩;have S4:=S3.call k4 d4)
   | (go_at_call 128;refine(Q3 S2.cur H3.o (S2.dec YU.o) pL.o).mono ?_;rintro e w3 ⟨rfl,k3,d3⟩;have S3:=S2.call k3 d3)
   | (go_at_call 128;refine(Q3 S1.cur H2.o (S1.dec YU.o) AU.o).mono ?_;rintro e w2 ⟨rfl,k2,d2⟩;have S2:=S1.call k2 d2))
  exact Jo rfl rfl ((S4.call kz dz).rb)
 | some z6 =>
 have H5:=Qa e0;replace ZE:=Qa (Jp ZE.o e0);clear e0
 go_upto_region 7 with(first
  | (go_at_call 128;refine(Q3 S4.cur H5.o (S4.dec YU.o) uG.o).mono ?_;rintro e w5 ⟨rfl,k5,d5⟩;have S5:=S4.call k5 d5)
  | (go_at_call 128;refine(Q3 S3.cur H4.o (S3.dec YU.o) qp.o).mono ?_;rintro e w4 ⟨rfl,k4,d4⟩;have S4:=S3.call k4 d4)
  | (go_at_call 128;refine(Q3 S2.cur H3.o (S2.dec YU.o) pL.o).mono ?_;rintro e w3 ⟨rfl,k3,d3⟩;have S3:=S2.call k3 d3)
  | (go_at_call 128;refine(Q3 S1.cur H2.o (S1.dec YU.o) AU.o).mono ?_;rintro e w2 ⟨rfl,k2,d2⟩;have S2:=S1.call k2 d2)
  | (refine JT S5 (⟨z0,z1,0,0,Jr,Jr,0,[],Jr,0,[],false,0,Jr,Jr,0,Jr⟩) _ _ _ rfl rfl 1 _ rfl rfl rfl KS (by decide) rfl ?_;intro w6 S6 d6)
  | (refine JT S6 (⟨z0,z1,z2,0,Jr,Jr,0,[],Jr,0,[],false,0,Jr,Jr,0,Jr⟩) _ _ _ rfl rfl 2 _ rfl rfl rfl KS (by decide) rfl ?_;intro w7 S7 d7)
  | (refine JT S7 (⟨z0,z1,z2,z3,Jr,Jr,0,[],Jr,0,[],false,0,Jr,Jr,0,Jr⟩) _ _ _ rfl rfl 3 _ rfl rfl rfl KS (by decide) rfl ?_;intro w8 S8 d8)
  | (refine JT S8 (⟨z0,z1,z2,z3,Jr,Jr,z6,[],Jr,0,[],false,0,Jr,Jr,0,Jr⟩) _ _ _ rfl rfl 6 _ rfl rfl rfl KS (by decide) rfl ?_;intro w9 Sa d9))
 clear S1 S2 S3 S4 S5 S6 S7 S8 k2 k3 k4 k5 d2 d3 d4 d5 d6 d7 d8 d9
 go_upto_region 8 with(first
  | (go_at_call 126;refine(Jd Sa.cur).mono ?_;rintro e w2 ⟨rfl,k2,d2⟩;have Sb:=Sa.call k2 d2)
  | (refine JT Sb (⟨z0,z1,z2,z3,Jr,Jr,z6,t6,Jr,0,[],false,0,Jr,Jr,0,Jr⟩) _ _ _ rfl rfl 7 _ rfl rfl rfl fx (by decide) rfl ?_;intro w3 S1 d3))
 clear Sa Sb k2 d2 d3;cases e0:Zd t7 with
 | none =>
  obtain rfl:=QK ZE.o e0;have HN:=Qa e0;clear e0 ZE
  go_wp2_with (first
   | (go_at_call 128;refine(Yj S1.cur HN.o (S1.dec YU.o) uH.o).mono ?_;rintro e wz ⟨he,kz,dz⟩;simp only[QZ]at he;subst he))
  exact Jo rfl rfl ((S1.call kz dz).rb)
 | some z9 =>
 have H7:=Qa e0;replace ZE:=Qa (Jp ZE.o e0);clear e0
 go_upto_region 9 with(first
  | (go_at_call 128;refine(Q3 S1.cur H7.o (S1.dec YU.o) uH.o).mono ?_;rintro e w2 ⟨rfl,k2,d2⟩;have Sb:=S1.call k2 d2)
  | (refine JT Sb (⟨z0,z1,z2,z3,Jr,Jr,z6,t6,Jr,z9,[],false,0,Jr,Jr,0,Jr⟩) _ _ _ rfl rfl 9 _ rfl rfl rfl KS (by decide) rfl ?_;intro w3 Sa d3))
 clear S1 Sb k2 d2 d3
 go_upto_region 10 with(first
  | (go_at_call 126;refine(Jd Sa.cur).mono ?_;rintro e w2 ⟨rfl,k2,d2⟩;have Sb:=Sa.call k2 d2)
  | (refine JT Sb (⟨z0,z1,z2,z3,Jr,Jr,z6,t6,Jr,z9,t8,false,0,Jr,Jr,0,Jr⟩) _ _ _ rfl rfl 10 _ rfl rfl rfl fx (by decide) rfl ?_;intro w3 S1 d3))
 clear Sa Sb k2 d2 d3;cases e0:Vl t9 with
 | none =>
  obtain rfl:=QK ZE.o e0;have HN:=Qa e0;clear e0 ZE
  go_wp2_with (first
   | (go_at_call 129;refine(Hk S1.cur HN.o).mono ?_;rintro e wz ⟨he,kz,dz⟩;simp only[QZ]at he;subst he))
  exact Jo rfl rfl ((S1.call kz dz).rb)
 | some z11 =>
 have H9:=Qa e0;replace ZE:=Qa (Jp ZE.o e0);clear e0
 go_upto_region 11 with(first
  | (go_at_call 129;refine(PY S1.cur H9.o).mono ?_;rintro e w2 ⟨rfl,k2,d2⟩;have Sb:=S1.call k2 d2)
  | (refine JT Sb (⟨z0,z1,z2,z3,Jr,Jr,z6,t6,Jr,z9,t8,z11,0,Jr,Jr,0,Jr⟩) _ _ _ rfl rfl 11 _ rfl rfl rfl LR (by decide) rfl ?_;intro w3 Sa d3))
 clear S1 Sb k2 d2 d3;cases e0:VL 8 t10 with
 | none =>
  obtain rfl:=QK ZE.o e0;have HN:=Qa e0;clear e0 ZE
  go_wp2_with (first
   | (go_at_call 127;refine(Wi Sa.cur (.inr rfl) HN.o).mono ?_;rintro e wz ⟨he,kz,dz⟩;simp only[QZ]at he;subst he))
  exact Jo rfl rfl ((Sa.call kz dz).rb)
 | some Cs =>
 have H10:=Qa e0;replace ZE:=Qa (Jp ZE.o e0);clear e0
 go_upto_region 12 with(first
  | (go_at_call 127;refine(K7 Sa.cur (.inr rfl) H10.o).mono ?_;rintro e w2 ⟨rfl,k2,d2⟩;have Sb:=Sa.call k2 d2)
  | (refine JT Sb (⟨z0,z1,z2,z3,Jr,Jr,z6,t6,Jr,z9,t8,z11,Cs,Jr,Jr,0,Jr⟩) _ _ _ rfl rfl 12 _ rfl rfl rfl aG (by decide) rfl ?_;intro w3 S1 d3))
 clear Sa Sb k2 d2 d3;cases e0:Zd t11 with
 | none =>
  obtain rfl:=QK ZE.o e0;have HN:=Qa e0;clear e0 ZE
  go_wp2_with (first
   | (go_at_call 128;refine(Yj S1.cur HN.o (S1.dec YU.o) lQ.o).mono ?_;rintro e wz ⟨he,kz,dz⟩;simp only[QZ]at he;subst he))
  exact Jo rfl rfl ((S1.call kz dz).rb)
 | some z15 =>
 have H11:=Qa e0;replace ZE:=Qa (Jp ZE.o e0);clear e0
 go_upto_region 13 with(first
  | (go_at_call 128;refine(Q3 S1.cur H11.o (S1.dec YU.o) lQ.o).mono ?_;rintro e w2 ⟨rfl,k2,d2⟩;have Sb:=S1.call k2 d2)
  | (refine JT Sb (⟨z0,z1,z2,z3,Jr,Jr,z6,t6,Jr,z9,t8,z11,Cs,Jr,Jr,z15,Jr⟩) _ _ _ rfl rfl 15 _ rfl rfl rfl KS (by decide) rfl ?_;intro w3 Sa d3))
 clear S1 Sb k2 d2 d3;cases e0:JB t12 with
 | none =>
  obtain rfl:=QK ZE.o e0;have HN:=Qa e0;clear e0 ZE
  go_wp2_with (first
   | (go_at_call 126;refine(Jd Sa.cur).mono ?_;rintro e w2 ⟨rfl,k2,d2⟩;have S2:=Sa.call k2 d2)
   | (go_at_call 130;refine(MP HN.o _ li.o (YU.o.ext S2.rb.ext)).mono ?_;rintro e wz ⟨he,xz⟩;simp only[QZ]at he;subst he))
  exact Jo rfl rfl (S2.rb.more xz)
 | some lpe =>
 have H12:=Qa e0;replace ZE:=Qa (Jp ZE.o e0);clear e0;have rJ:=Qa (λw hD=>Pn H12.o w li.o hD)
 go_upto_region 14 with(first
  | (go_at_call 126;refine(Jd Sa.cur).mono ?_;rintro e w2 ⟨rfl,k2,d2⟩;have S2:=Sa.call k2 d2)
  | (go_at_call 130;refine(rJ.o _ (YU.o.ext S2.rb.ext)).mono ?_;rintro e w3 ⟨A1,c1,rfl,o3,x3⟩;have S3:=S2.more x3)
  | (refine JT S3 (⟨z0,z1,z2,z3,Jr,Jr,z6,t6,Jr,z9,t8,z11,Cs,Jr,⟨A1,lpe.length,c1⟩,z15,Jr⟩) _ _ _ rfl rfl 14 _ rfl rfl rfl gA (by decide) rfl ?_;intro w4 S4 d4))
 have Ut:=Zy (QX o3 d4 S3.rb.box (by decide)) S2.rb.ext.size;clear Sa S2 S3 k2 d2 o3 x3 d4;cases e0:JB t13 with
 | none =>
  obtain rfl:=QK ZE.o e0;have HN:=Qa e0;clear e0 ZE
  go_wp2_with (first
   | (go_at_call 126;refine(Jd S4.cur).mono ?_;rintro e w5 ⟨rfl,k5,d5⟩;have S5:=S4.call k5 d5)
   | (go_at_call 130;refine(MP HN.o _ lj.o (YU.o.ext S5.rb.ext)).mono ?_;rintro e wz ⟨he,xz⟩;simp only[QZ]at he;subst he))
  exact Jo rfl rfl (S5.rb.more xz)
 | some ldi =>
 have H13:=Qa e0;replace ZE:=Qa (Jp ZE.o e0);clear e0;have rK:=Qa (λw hD=>Pn H13.o w lj.o hD)
 go_upto_region 15 with(first
  | (go_at_call 126;refine(Jd S4.cur).mono ?_;rintro e w5 ⟨rfl,k5,d5⟩;have S5:=S4.call k5 d5)
  | (go_at_call 130;refine(rK.o _ (YU.o.ext S5.rb.ext)).mono ?_;rintro e w6 ⟨A2,c2,rfl,o6,x6⟩;have S6:=S5.more x6)
  | (refine JT S6 (⟨z0,z1,z2,z3,Jr,Jr,z6,t6,Jr,z9,t8,z11,Cs,Jr,⟨A1,lpe.length,c1⟩,z15,⟨A2,ldi.length,c2⟩⟩) _ _ _ rfl rfl 16 _ rfl rfl rfl gA (by decide) rfl ?_;intro w7 S7 d7))
 have UY:=Zy (QX o6 d7 S6.rb.box (by decide)) S5.rb.ext.size;replace Ut:=QX (Qe (S4.cur.own d5 Ut (by decide)) x6) d7 S6.rb.box (by decide);clear S4 S5 S6 k5 d5 o6 x6 d7;cases q0:Jm none t14 with
 | none =>
  obtain rfl:=QK ZE.o (Ds q0);have HN:=Qa q0;clear q0 ZE
  go_wp2_with (first
   | (go_at_call 126;refine(Jd S7.cur).mono ?_;rintro e w8 ⟨rfl,k8,d8⟩;have S8:=S7.call k8 d8)
   | (go_at_call 125;refine(Tp HN.o _ (by have:=bO.o;omega) (λn h=>by cases h)).mono ?_;rintro e wz ⟨he,xz⟩;simp only[QZ]at he;subst he))
  exact Jo rfl rfl (S8.rb.more xz)
 | some T14 =>
 have lY:=Qa (λw=>Vv q0 w (by have:=bO.o;omega) (λn h=>by cases h));have lF:=Qa (λt ht=>Y6 (Z8 q0 t ht) bO.o);have sK:=Gs q0 bO.o;replace ZE:=Qa (cC ZE.o (Dt q0));clear q0
 go_upto_region 16 with(first
  | (go_at_call 126;refine(Jd S7.cur).mono ?_;rintro e w8 ⟨rfl,k8,d8⟩;have S8:=S7.call k8 d8)
  | (go_at_call 125;refine(lY.o _).mono ?_;rintro e w9 ⟨pb,rfl,bB,hp9,x9⟩))
 have S9:=S8.more x9;replace Ut:=Qe (S7.cur.own d8 Ut (by decide)) x9;replace UY:=Qe (S7.cur.own d8 UY (by decide)) x9;have Bu:=Y6 S8.rb.ext.size bB;have QY:cb≠pb:=mW (ao S8.cur.lt bB);clear S7 S8 k8 d8 x9 bB;obtain⟨mm,hmm⟩:∃mm:Sl->Sl->Q1,∀pi pr,mm pi pr=⟨z0,z1,z2,z3,Jr,pr,z6,t6,pi,z9,t8,z11,Cs,Jr,⟨A1,lpe.length,c1⟩,z15,⟨A2,ldi.length,c2⟩⟩:=⟨λpi pr=>⟨z0,z1,z2,z3,Jr,pr,z6,t6,pi,z9,t8,z11,Cs,Jr,⟨A1,lpe.length,c1⟩,z15,⟨A2,ldi.length,c2⟩⟩,λ_ _=>rfl⟩
 rw[←hmm]at S9;have HS8:Zv (∀pi pr s:Sl,(mm pi pr).cells.setIfInBounds 8 (.slice s.A s.n s.c)=(mm s pr).cells):=Qa (λpi pr s=>by rw[hmm,hmm];rfl);have WP:Zv (∀pi pr s:Sl,(mm pi pr).cells.setIfInBounds 5 (.slice s.A s.n s.c)=(mm pi s).cells):=Qa (λpi pr s=>by rw[hmm,hmm];rfl);have qY:Zv (∀W pi pr,RB w W mb kb (mm pi pr)->W.cell? ⟨mb,8,none⟩=some (.slice pi.A pi.n pi.c)):=Qa (λW pi pr h=>by have:=h.box.cell 8;rw[hmm]at this;exact this);have gK:Zv (∀W pi pr,RB w W mb kb (mm pi pr)->W.cell? ⟨mb,5,none⟩=some (.slice pr.A pr.n pr.c)):=Qa (λW pi pr h=>by have:=h.box.cell 5;rw[hmm]at this;exact this);have jt:=Qa hmm;clear hmm;have pE:Zv (T14.length<=1000000000):=Qa (by omega);clear sK;go_loopw [6,7] (λ_ _ wx=>∃(q:Sl) (done:List Zs) (rest:List (List UInt8)),RC w wx mb kb cb (mm q Jr) [t15]/\Qq wx pb rest/\q.n=done.length/\wx.ownsRow w.heap.size 95 2 (.slice q.A q.n q.c) done.length (done.flatMap Yd)/\wx.ownsRow w.heap.size 92 2 (.slice A1 lpe.length c1) lpe.length (lpe.flatMap Yd)/\wx.ownsRow w.heap.size 92 2 (.slice A2 ldi.length c2) ldi.length (ldi.flatMap Yd)/\Zv (ZR JG T14=(ZR JG rest).map (done++·))/\Zv (done.length+rest.length=T14.length)/\Zv (∀x∈rest,x.length<=100000000)) (λ_ _ wx=>T14.length-BQ ((wx.cell? ⟨mb,8,none⟩).getD undef));case atStart=>exact⟨Jr,[],T14,S9,hp9,rfl,⟨rfl,.inl ⟨rfl,rfl⟩⟩,Ut,UY,Qa (UM JG T14),Qa (by simp),lF⟩
 case round =>
  clear S9 hp9 Ut UY;obtain⟨q,done,rest,S,hp,hqn,oq,Ut,UY,hA,hl,hf⟩:=hrel;have HM:=Qa (WA pb rest wr hp);cases rest with
  | cons x rest =>
   have Sn:=hf.o x LY;cases qy:Jm (some 2) x with
   | none =>
    obtain rfl:=QK ZE.o (K5 hA.o (by unfold JG;rw[qy];rfl));have Sz:=Qa (λw=>Tp qy w (by omega) (λn h=>by cases h;decide));clear qy ZE Sn hA hl hf
    go_wp2_with (first
     | (go_at_call 131;refine HM.o.mono ?_;rintro e w2 ⟨rfl,rfl⟩)
     | (go_at_call 126;refine(Jd hp).mono ?_;rintro e w2 ⟨rfl,k2,d2⟩)
     | (go_at_call 125;refine(Sz.o _).mono ?_;rintro e wz ⟨he,xz⟩;simp only[QZ]at he;subst he))
    exact Jo rfl rfl (((S.other hp k2 d2 Bu QY).more xz).rb)
   | some ly =>
   obtain⟨ta,tb,rfl⟩:=aM (Ul qy);cases ny:Zd ta with
   | none =>
    obtain rfl:=QK ZE.o (K5 hA.o (by rw[MO qy,ny];rfl));have Sz:=Qa (λw=>Vv qy w (by omega) (λn h=>by cases h;decide));have pM:=Qa (show∀t∈[ta,tb],t.length<=281474976710656 fromλt ht=>by have:=Z8 qy t ht;omega);have HN:=Qa ny;clear qy ny ZE Sn hA hl hf
    go_upto_region 18 with(first
     | (go_at_call 131;refine HM.o.mono ?_;rintro e w2 ⟨rfl,rfl⟩)
     | (go_at_call 126;refine(Jd hp).mono ?_;rintro e w2 ⟨rfl,k2,d2⟩)
     | (go_at_call 125;refine(Sz.o _).mono ?_;rintro e w3 ⟨ob,rfl,hob,Mf,x3⟩))
    have S3:=(S.other hp k2 d2 Bu QY).more x3;have Ng:=Y6 (S.other hp k2 d2 Bu QY).rb.ext.size hob;have Ll:cb≠ob:=mW (ao (S.other hp k2 d2 Bu QY).cur.lt hob);go_wp2_with (go_at_call 128;refine(Yj Mf HN.o (λW' b=>YU.o.ext (b.past S3.rb.ext Ng)) pM.o).mono ?_;rintro e wz ⟨he,kz,dz⟩;simp only[QZ]at he;subst he)
    exact Jo rfl rfl ((S3.other Mf kz dz Ng Ll).rb)
   | some n =>
   have hy:=MO qy;rw[ny]at hy;obtain⟨y,rfl,rfl⟩:∃y:Zs,y.1=n/\y.2=tb:=⟨(n,tb),rfl,rfl⟩
   replace hy:JG x=some y:=hy;have Sz:=Qa (λw=>Vv qy w (by omega) (λn h=>by cases h;decide));have pM:=Qa (show∀t∈[ta,y.2],t.length<=281474976710656 fromλt ht=>by have:=Z8 qy t ht;omega);have uJ:=Qa ny;have HY:=Qa hy;clear qy ny hy Sn
   go_upto_region 18 with(first
    | (go_at_call 131;refine HM.o.mono ?_;rintro e w2 ⟨rfl,rfl⟩)
    | (go_at_call 126;refine(Jd hp).mono ?_;rintro e w2 ⟨rfl,k2,d2⟩)
    | (go_at_call 125;refine(Sz.o _).mono ?_;rintro e w3 ⟨ob,rfl,hob,Mf,x3⟩))
   have S2:=S.other hp k2 d2 Bu QY;have S3:=S2.more x3;have vm:=k2.ext x3;replace oq:=Qe (hp.own d2 oq (by decide)) x3;replace Ut:=Qe (hp.own d2 Ut (by decide)) x3;replace UY:=Qe (hp.own d2 UY (by decide)) x3;have Ng:=Y6 S2.rb.ext.size hob;have Ll:cb≠ob:=mW (ao S2.cur.lt hob);have vl:pb≠ob:=mW (ao k2.lt hob);have qZ:=Qa (qY.o wr q Jr S.rb);clear S S2 hp k2 d2 x3 hob HM Sz;go_upto_region 19 with(go_at_call 128;refine(Q3 Mf uJ.o (λW' b=>YU.o.ext (b.past S3.rb.ext Ng)) pM.o).mono ?_;rintro e w4 ⟨rfl,k4,d4⟩)
   have S4:=S3.other Mf k4 d4 Ng Ll;have hp4:=vm.but d4 Mf vl;replace oq:=Mf.own d4 oq (by decide);replace Ut:=Mf.own d4 Ut (by decide);replace UY:=Mf.own d4 UY (by decide);clear S3 vm Mf d4 uJ pM;have LW:Zv (∀a b,Ext a b->(RC w a mb kb cb (mm q Jr) [t15]/\Qq a pb rest/\a.ownsRow w.heap.size 92 2 (.slice A1 lpe.length c1) lpe.length (lpe.flatMap Yd)/\a.ownsRow w.heap.size 92 2 (.slice A2 ldi.length c2) ldi.length (ldi.flatMap Yd))->(RC w b mb kb cb (mm q Jr) [t15]/\Qq b pb rest/\b.ownsRow w.heap.size 92 2 (.slice A1 lpe.length c1) lpe.length (lpe.flatMap Yd)/\b.ownsRow w.heap.size 92 2 (.slice A2 ldi.length c2) ldi.length (ldi.flatMap Yd))):=Qa (λa b x h=>⟨h.1.more x,h.2.1.ext x,Qe h.2.2.1 x,Qe h.2.2.2 x⟩);have dI:done.length<=1000000000:=by have:=hl.o;have:=pE.o;omega
   refine Kf 9 [[],[0],[],[],[3],[2,4],[5],[1,6],[]] (Wy [Xp (.pointer (some ⟨mb,8,none⟩)),Xp (.slice q.A q.n q.c),Xp (.int .i64 y.1),Xp (.pointer (some ⟨ob,0,none⟩)),Xp (.string (Qb y.2)),Xp (.agg #[.int .i64 y.1,.string (Qb y.2)]),OT 1 95 #[.int .i64 y.1,.string (Qb y.2)],λa u=>a.ownsRow w.heap.size 95 2 u (done.length+1) (done.flatMap Yd++Yd y),Xp (.pointer (some ⟨mb,8,none⟩))]) (λa=>RC w a mb kb cb (mm q Jr) [t15]/\Qq a pb rest/\a.ownsRow w.heap.size 92 2 (.slice A1 lpe.length c1) lpe.length (lpe.flatMap Yd)/\a.ownsRow w.heap.size 92 2 (.slice A2 ldi.length c2) ldi.length (ldi.flatMap Yd)) (λk a=>(k=4->Qq a ob [y.2])/\(k=7->a.ownsRow w.heap.size 95 2 (.slice q.A q.n q.c) done.length (done.flatMap Yd))) (Rk (λa=>RC w a mb kb cb (mm q Jr) [t15]/\Qq a pb rest/\a.ownsRow w.heap.size 92 2 (.slice A1 lpe.length c1) lpe.length (lpe.flatMap Yd)/\a.ownsRow w.heap.size 92 2 (.slice A2 ldi.length c2) ldi.length (ldi.flatMap Yd)) ob 4 7 w.heap.size 2 95) 7 [6] (by kernel_rfl) (by kernel_rfl) (by kernel_rfl) ⟨S4.more (Qf _).drew,hp4.ext (Qf _).drew,Qe Ut (Qf _).drew,Qe UY (Qf _).drew⟩ (λj=>⟨λ_=>k4.ext (Qf _).drew,λ_=>Qe oq (Qf _).drew⟩) (λk a b h r=>r.st h) (λj k a b hjk _ hp r=>⟨λhj=>r.cur (λh=>hjk (hj.trans h.symm)) _ (hp.1 hj),λhj=>r.own (λh=>hjk (hj.trans h.symm)) _ _ _ (hp.2 hj)⟩) (λj k a b u hj hjk Fu _ r h=>by
    rcases(by omega:j=0\/j=1\/j=2\/j=3\/j=4\/j=5\/j=6\/j=7\/j=8) with rfl|rfl|rfl|rfl|rfl|rfl|rfl|rfl|rfl;all_goals first|exact h|skip
    ·obtain⟨g,e1,e2⟩:=h;exact⟨g,e1,r.box (λhk=>absurd (SJ.2 rfl) (Fu hk)) _ _ e2⟩
    ·exact r.own (λhk=>hjk hk.symm) _ _ _ h) (λus=>?_)
   simp only[Yh,Yt,YB,Yu];rw[Qx];refine YA (λw' hC hP hd=>?_) ?_
   ·clear hd;refine Q4 69 rfl (by simp) rfl ?_;go_wp2_with fail;exact⟨Rk.same,rfl⟩
   simp only[S_];rw[Qx];refine YA (λw' hC hP hd=>?_) ?_
   ·have h0:=hd 0 (by simp);clear hd;generalize us 0=u0 at *;obtain rfl:u0=.pointer (some ⟨mb,8,none⟩):=h0;have q0:=qY.o w' q Jr hC.1.rb;refine Q4 70 rfl (by simp[Act.put]) rfl ?_;go_wp2_with fail;exact⟨Rk.same,rfl⟩
   simp only[S_];rw[Qx];refine YA (λw' hC hP hd=>?_) ?_
   ·clear hd;refine Q4 71 rfl (by simp[Act.put]) rfl ?_;go_wp2_with fail;exact⟨Rk.same,rfl⟩
   simp only[S_];rw[Qx];refine YA (λw' hC hP hd=>?_) ?_
   ·clear hd;refine Q4 72 rfl (by simp[Act.put]) rfl ?_;go_wp2_with fail;exact⟨Rk.same,rfl⟩
   simp only[S_];rw[Qx];refine YA (λw' hC hP hd=>?_) ?_
   ·have h3:=hd 3 (by simp);clear hd;generalize us 3=u3 at *;obtain rfl:u3=.pointer (some ⟨ob,0,none⟩):=h3;have DX:=hP.1 rfl;refine Q4 73 rfl (by simp[Act.put]) rfl ?_;go_wp2_with (go_at_call 126;refine(Jd DX).mono ?_;rintro e w2 ⟨rfl,k2,d2⟩)
    exact⟨Rk.take (λh=>⟨h.1.other DX k2 d2 Ng Ll,h.2.1.but d2 DX vl,DX.own d2 h.2.2.1 (by decide),DX.own d2 h.2.2.2 (by decide)⟩) DX d2 (by decide),rfl⟩
   simp only[S_];rw[Qx];refine YA (λw' hC hP hd=>?_) ?_
   ·have h2:=hd 2 (by simp);have h4:=hd 4 (by simp);clear hd;generalize us 2=u2 at *;generalize us 4=u4 at *;obtain rfl:u2=.int .i64 y.1:=h2;obtain rfl:u4=.string (Qb y.2):=h4;refine Q4 74 rfl (by simp[Act.put]) rfl ?_;go_wp2_with fail;exact⟨Rk.same,rfl⟩
   simp only[S_];rw[Qx];refine YA (λw' hC hP hd=>?_) ?_
   ·have h5:=hd 5 (by simp);clear hd;generalize us 5=u5 at *;obtain rfl:u5=.agg #[.int .i64 y.1,.string (Qb y.2)]:=h5;refine Q4 75 rfl (by simp[Act.put]) rfl ?_;go_wp2_with fail;exact⟨Rk.ofExt (LW.o _ _ ((Qf w').alloc _)) ((Qf w').alloc _),_,rfl,QA _ _ _⟩
   simp only[S_];rw[Qx];refine YA (λw' hC hP hd=>?_) ?_
   ·have h1:=hd 1 (by simp);have h6:=hd 6 (by simp);clear hd;generalize us 1=u1 at *;generalize us 6=u6 at *;obtain rfl:u1=.slice q.A q.n q.c:=h1;obtain⟨g6,rfl,bg6⟩:=h6;have VH:=hC.1.rb.ext.size;have ow:=hP.2 rfl;refine Q4 76 rfl (by simp[Act.put]) rfl ?_;go_wp2_with (refine We (Yd y) underlying33 jL (by decide) rfl rfl (Cq y) (by decide) rfl _ _ rfl rfl rfl ow bg6 dI VH ?_;intro u9 w9 o9 g9)
    exact⟨Rk.app (λh=>⟨⟨h.1.rb.grown ow g9 (by decide) (by decide) (QW _),h.1.cur.grown g9 ow (by decide) (by decide),h.1.lc⟩,h.2.1.grown g9 ow (by decide) (by decide),KH h.2.2.1 ow (by decide) g9,KH h.2.2.2 ow (by decide) g9⟩) ow g9 (by decide) (by decide),o9⟩
   simp only[S_];rw[Qx];refine YA (λw' hC hP hd=>?_) ?_
   ·clear hd;refine Q4 77 rfl (by simp[Act.put]) rfl ?_;go_wp2_with fail;exact⟨Rk.same,rfl⟩
   simp only[S_];rw[Qx];intro w' hC hv;have h7:=hv 7 (by omega) (by decide);have h8:=hv 8 (by omega) (by decide);clear hv;generalize us 7=u7 at *;generalize us 8=u8 at *;have o7:w'.ownsRow w.heap.size 95 2 u7 (done.length+1) (done.flatMap Yd++Yd y):=h7;obtain rfl:u8=.pointer (some ⟨mb,8,none⟩):=h8;obtain⟨A3,c3,e3⟩:=KF o7;subst e3;go_wp2_with (refine JT hC.1 (mm ⟨A3,done.length+1,c3⟩ Jr) _ _ _ rfl rfl 8 _ rfl rfl rfl oh (by decide) (HS8.o q Jr ⟨A3,done.length+1,c3⟩) ?_;intro w8 S8 d8)
   have bm:=hC.1.rb.box;have Pt:=Qa (qY.o w8 ⟨A3,done.length+1,c3⟩ Jr S8.rb);simp only[Act.put];go_roundw;case rel=>exact⟨⟨A3,done.length+1,c3⟩,done++[y],rest,S8,hC.2.1.butT d8 bm (by decide) (Qq.apart (w':=w8) hC.2.1 bm (by decide)),by simp,by rw[Kh,AY,AV,pm,SO];exact QX o7 d8 bm (by decide),QX hC.2.2.1 d8 bm (by decide),QX hC.2.2.2 d8 bm (by decide),Qa (WX hA.o HY.o),Qa (by have:=hl.o;simp only[Kh,YV,Tz]at *;omega),Qa (λt ht=>hf.o t (LX _ ht))⟩
   case measure => rw[Pt.o,qZ.o];have:=hl.o;simp only[YV]at this;simp only[BQ,SM];omega
  | nil =>
   replace ZE:=Qa (Jp ZE.o (WY hA.o));generalize done=lpi at *;have PG:wr.ownsRow w.heap.size 95 2 (.slice q.A q.n q.c) lpi.length (lpi.flatMap Yd):=oq;have ul:=Qa (show q.n=lpi.length from hqn);clear oq hqn hA hl hf pE lF lY;cases q0:Jm none t15 with
   | none =>
    obtain rfl:=Lw ZE.o (Ak q0);have HN:=Qa q0;clear q0 ZE
    go_wp2_with (first
     | (go_at_call 131;refine HM.o.mono ?_;rintro e w2 ⟨rfl,rfl⟩)
     | (go_at_call 126;refine(Jd S.cur).mono ?_;rintro e w2 ⟨rfl,k2,d2⟩;have S8:=S.call k2 d2)
     | (go_at_call 125;refine(Tp HN.o _ (by have:=bQ.o;omega) (λn h=>by cases h)).mono ?_;rintro e wz ⟨he,xz⟩;simp only[QZ]at he;subst he))
    exact Jo rfl rfl (S8.rb.more xz)
   | some T15 =>
   have lZ:=Qa (λw=>Vv q0 w (by have:=bQ.o;omega) (λn h=>by cases h));have lG:=Qa (λt ht=>Y6 (Z8 q0 t ht) bQ.o);have sL:=Gs q0 bQ.o;replace ZE:=Qa (jG ZE.o (Al q0));clear q0;have tv:Zv (T15.length<=1000000000):=Qa (by omega);clear sL
   go_upto_region 21 with(first
    | (go_at_call 131;refine HM.o.mono ?_;rintro e w2 ⟨rfl,rfl⟩)
    | (go_at_call 126;refine(Jd S.cur).mono ?_;rintro e w2 ⟨rfl,k2,d2⟩)
    | (go_at_call 125;refine(lZ.o _).mono ?_;rintro e w3 ⟨qb,rfl,Sk,Mf,x3⟩))
   have S3:=(S.rb.call S.cur d2 S.lc).more x3;have Gf:=Y6 (S.rb.call S.cur d2 S.lc).ext.size Sk;replace Ut:=Qe (S.cur.own d2 Ut (by decide)) x3;replace UY:=Qe (S.cur.own d2 UY (by decide)) x3;replace PG:=Qe (S.cur.own d2 PG (by decide)) x3;clear S hp Bu QY HM k2 d2 x3 Sk;obtain⟨wA,hwA⟩:∃v:World,v=wr:=⟨_,rfl⟩
   subst hwA;go_loopw [84] (λ_ wx=>∃(u:Sl) (done:List QN) (rest:List (List UInt8)),RB w wx mb kb (mm q u)/\Qq wx qb rest/\u.n=done.length/\wx.ownsRow w.heap.size 57 96 (.slice u.A u.n u.c) done.length (done.flatMap QJ)/\wx.ownsRow w.heap.size 92 2 (.slice A1 lpe.length c1) lpe.length (lpe.flatMap Yd)/\wx.ownsRow w.heap.size 92 2 (.slice A2 ldi.length c2) ldi.length (ldi.flatMap Yd)/\wx.ownsRow w.heap.size 95 2 (.slice q.A q.n q.c) lpi.length (lpi.flatMap Yd)/\Zv (ZR XD T15=(ZR XD rest).map (done++·))/\Zv (done.length+rest.length=T15.length)/\Zv (∀x∈rest,x.length<=100000000)) (λ_ wx=>T15.length-BQ ((wx.cell? ⟨mb,5,none⟩).getD undef));case atStart=>exact⟨Jr,[],T15,S3,Mf,rfl,⟨rfl,.inl ⟨rfl,rfl⟩⟩,Ut,UY,PG,Qa (UM XD T15),Qa (by simp),lG⟩
   case round =>
    clear S3 Mf Ut UY PG;obtain⟨u,done,rest,S,hp,Eh,oq,Ut,UY,PG,hA,hl,hf⟩:=hrel;have HM:=Qa (WA qb rest wr hp);have rR:=Qa Eh;clear Eh;cases rest with
    | cons x rest =>
     have Sn:=hf.o x LY;cases hy:XD x with
     | none =>
      obtain rfl:=Lw ZE.o (K5 hA.o hy);have rC:=Qa (λw hD=>GL hy w Sn hD);clear hy Sn ZE hA hl hf oq Ut UY PG;go_upto_region 22 with(go_at_call 131;refine HM.o.mono ?_;rintro e w2 ⟨rfl,rfl⟩)
      refine mU (by kernel_rfl) ?_;change wpAny _ _ _ _ _ _ _ (World.drew _);have Sd:=S.more (Qf wr).drew;have Bv:=hp.ext (Qf wr).drew;clear S hp;generalize World.drew wr=wd at *;have q5:=gK.o wd q u Sd;refine wpAny_take (i:=0) (v:=.pointer (some ⟨mb,5,none⟩)) rfl (by kernel_rfl) (by kernel_rfl) (by kernel_rfl) (λc a w h=>KN (by decide) (by decide) h) (DD ⟨by rfl,?_⟩) ?_
      ·intro w;go_simp
      refine wpAny_take (i:=2) (v:=.pointer (some ⟨qb,0,none⟩)) rfl (by kernel_rfl) (by kernel_rfl) (by kernel_rfl) (λc a w h=>KN (by decide) (by decide) h) (DD ⟨by rfl,?_⟩) ?_
      ·intro w;go_simp
      refine wpAny_ready (rs:=[1,3]) (by kernel_rfl) (by simp) ?_;refine gu rfl (λK hK=>?_) (gu rfl (λK hK=>?_) mX)
      ·go_simp;refine hK _ _ ?_;clear hK K;refine wpAny_ready (rs:=[3]) (by kernel_rfl) (by simp) ?_;refine gu rfl (λK hK=>?_) mX;go_simp;go_wp2_with (go_at_call 126;refine(Jd Bv).mono ?_;rintro e w2 ⟨rfl,k2,d2⟩)
       try (refine hK _ _ ?_;clear hK K)
       refine wpAny_ready (rs:=[4]) (by kernel_rfl) (by simp) ?_;refine gu rfl (λK hK=>?_) mX;go_simp;go_wp2_with (go_at_call 132;refine(rC.o _ (YU.o.ext (Sd.call Bv d2 Gf).ext)).mono ?_;rintro e wz ⟨he,xz⟩;simp only[QZ]at he;subst he)
       exact Jo rfl rfl ((Sd.call Bv d2 Gf).more xz)
      ·go_simp;go_wp2_with (go_at_call 126;refine(Jd Bv).mono ?_;rintro e w2 ⟨rfl,k2,d2⟩)
       try (refine hK _ _ ?_;clear hK K)
       have q6:=gK.o w2 q u (Sd.call Bv d2 Gf);refine wpAny_ready (rs:=[1,4]) (by kernel_rfl) (by simp) ?_;refine gu rfl (λK hK=>?_) (gu rfl (λK hK=>?_) mX)
       ·go_simp;refine hK _ _ ?_;clear hK K;refine wpAny_ready (rs:=[4]) (by kernel_rfl) (by simp) ?_;refine gu rfl (λK hK=>?_) mX;go_simp;go_wp2_with (go_at_call 132;refine(rC.o _ (YU.o.ext (Sd.call Bv d2 Gf).ext)).mono ?_;rintro e wz ⟨he,xz⟩;simp only[QZ]at he;subst he)
        exact Jo rfl rfl ((Sd.call Bv d2 Gf).more xz)
       ·go_simp;go_wp2_with (go_at_call 132;refine(rC.o _ (YU.o.ext (Sd.call Bv d2 Gf).ext)).mono ?_;rintro e wz ⟨he,xz⟩;simp only[QZ]at he;subst he)
        exact Jo rfl rfl ((Sd.call Bv d2 Gf).more xz)
     | some y =>
     have HPy:=Qa (λw hD=>LE x y w hy Sn hD);have HY:=Qa hy;have qZ:=Qa (gK.o wr q u S);clear hy Sn;go_upto_region 22 with(go_at_call 131;refine HM.o.mono ?_;rintro e w2 ⟨rfl,rfl⟩)
     have LW:Zv (∀a b,Ext a b->(RB w a mb kb (mm q u)/\a.ownsRow w.heap.size 92 2 (.slice A1 lpe.length c1) lpe.length (lpe.flatMap Yd)/\a.ownsRow w.heap.size 92 2 (.slice A2 ldi.length c2) ldi.length (ldi.flatMap Yd)/\a.ownsRow w.heap.size 95 2 (.slice q.A q.n q.c) lpi.length (lpi.flatMap Yd))->(RB w b mb kb (mm q u)/\b.ownsRow w.heap.size 92 2 (.slice A1 lpe.length c1) lpe.length (lpe.flatMap Yd)/\b.ownsRow w.heap.size 92 2 (.slice A2 ldi.length c2) ldi.length (ldi.flatMap Yd)/\b.ownsRow w.heap.size 95 2 (.slice q.A q.n q.c) lpi.length (lpi.flatMap Yd))):=Qa (λa b x h=>⟨h.1.more x,Qe h.2.1 x,Qe h.2.2.1 x,Qe h.2.2.2 x⟩);have dI:done.length<=1000000000:=by have:=hl.o;have:=tv.o;omega
     refine Kf 8 [[],[0],[],[2],[3],[4],[1,5],[]] (Wy [Xp (.pointer (some ⟨mb,5,none⟩)),Xp (.slice u.A u.n u.c),Xp (.pointer (some ⟨qb,0,none⟩)),λa u=>u=.string (Qb x)/\Qq a qb rest,Xp (.agg (QJ y).toArray),OT 1 57 (QJ y).toArray,λa u=>a.ownsRow w.heap.size 57 96 u (done.length+1) (done.flatMap QJ++QJ y),Xp (.pointer (some ⟨mb,5,none⟩))]) (λa=>RB w a mb kb (mm q u)/\a.ownsRow w.heap.size 92 2 (.slice A1 lpe.length c1) lpe.length (lpe.flatMap Yd)/\a.ownsRow w.heap.size 92 2 (.slice A2 ldi.length c2) ldi.length (ldi.flatMap Yd)/\a.ownsRow w.heap.size 95 2 (.slice q.A q.n q.c) lpi.length (lpi.flatMap Yd)) (λk a=>(k=3->Qq a qb (x::rest))/\(k=6->a.ownsRow w.heap.size 57 96 (.slice u.A u.n u.c) done.length (done.flatMap QJ))) (Rk (λa=>RB w a mb kb (mm q u)/\a.ownsRow w.heap.size 92 2 (.slice A1 lpe.length c1) lpe.length (lpe.flatMap Yd)/\a.ownsRow w.heap.size 92 2 (.slice A2 ldi.length c2) ldi.length (ldi.flatMap Yd)/\a.ownsRow w.heap.size 95 2 (.slice q.A q.n q.c) lpi.length (lpi.flatMap Yd)) qb 3 6 w.heap.size 96 57) 6 [5] (by kernel_rfl) (by kernel_rfl) (by kernel_rfl) ⟨S.more (Qf _).drew,Qe Ut (Qf _).drew,Qe UY (Qf _).drew,Qe PG (Qf _).drew⟩ (λj=>⟨λ_=>hp.ext (Qf _).drew,λ_=>Qe oq (Qf _).drew⟩) (λk a b h r=>r.st h) (λj k a b hjk _ hp r=>⟨λhj=>r.cur (λh=>hjk (hj.trans h.symm)) _ (hp.1 hj),λhj=>r.own (λh=>hjk (hj.trans h.symm)) _ _ _ (hp.2 hj)⟩) (λj k a b u hj hjk Fu _ r h=>by
      rcases(by omega:j=0\/j=1\/j=2\/j=3\/j=4\/j=5\/j=6\/j=7) with rfl|rfl|rfl|rfl|rfl|rfl|rfl|rfl;all_goals first|exact h|skip
      ·exact⟨h.1,r.cur (λhk=>hjk hk.symm) _ h.2⟩
      ·obtain⟨g,e1,e2⟩:=h;exact⟨g,e1,r.box (λhk=>absurd (SJ.2 rfl) (Fu hk)) _ _ e2⟩
      ·exact r.own (λhk=>hjk hk.symm) _ _ _ h) (λus=>?_)
     simp only[Yh,Yt,YB,Yu];rw[Qx];refine YA (λw' hC hP hd=>?_) ?_
     ·clear hd;refine Q4 83 rfl (by simp) rfl ?_;go_wp2_with fail;exact⟨Rk.same,rfl⟩
     simp only[S_];rw[Qx];refine YA (λw' hC hP hd=>?_) ?_
     ·have h0:=hd 0 (by simp);clear hd;generalize us 0=u0 at *;obtain rfl:u0=.pointer (some ⟨mb,5,none⟩):=h0;have q0:=gK.o w' q u hC.1;refine Q4 84 rfl (by simp[Act.put]) rfl ?_;go_wp2_with fail;exact⟨Rk.same,rfl⟩
     simp only[S_];rw[Qx];refine YA (λw' hC hP hd=>?_) ?_
     ·clear hd;refine Q4 85 rfl (by simp[Act.put]) rfl ?_;go_wp2_with fail;exact⟨Rk.same,rfl⟩
     simp only[S_];rw[Qx];refine YA (λw' hC hP hd=>?_) ?_
     ·have h2:=hd 2 (by simp);clear hd;generalize us 2=u2 at *;obtain rfl:u2=.pointer (some ⟨qb,0,none⟩):=h2;have DX:=hP.1 rfl;refine Q4 86 rfl (by simp[Act.put]) rfl ?_;go_wp2_with (go_at_call 126;refine(Jd DX).mono ?_;rintro e w2 ⟨rfl,k2,d2⟩)
      exact⟨Rk.take (λh=>⟨h.1.call DX d2 Gf,DX.own d2 h.2.1 (by decide),DX.own d2 h.2.2.1 (by decide),DX.own d2 h.2.2.2 (by decide)⟩) DX d2 (by decide),rfl,k2⟩
     simp only[S_];rw[Qx];refine YA (λw' hC hP hd=>?_) ?_
     ·have h3:=hd 3 (by simp);clear hd;generalize us 3=u3 at *;obtain⟨rfl,hcr⟩:=h3;refine Q4 87 rfl (by simp[Act.put]) rfl ?_;go_wp2_with (go_at_call 132;refine(HPy.o _ (YU.o.ext hC.1.ext)).mono ?_;rintro e w2 ⟨rfl,x2⟩)
      exact⟨Rk.ofExt (LW.o _ _ x2) x2,rfl⟩
     simp only[S_];rw[Qx];refine YA (λw' hC hP hd=>?_) ?_
     ·have h4:=hd 4 (by simp);clear hd;generalize us 4=u4 at *;obtain rfl:u4=.agg (QJ y).toArray:=h4;refine Q4 88 rfl (by simp[Act.put]) rfl ?_;go_wp2_with (refine PJ (.tmp 87) rfl rfl y rfl ?_)
      exact⟨Rk.ofExt (LW.o _ _ ((Qf w').alloc _)) ((Qf w').alloc _),_,rfl,QA _ _ _⟩
     simp only[S_];rw[Qx];refine YA (λw' hC hP hd=>?_) ?_
     ·have h1:=hd 1 (by simp);have h5:=hd 5 (by simp);clear hd;generalize us 1=u1 at *;generalize us 5=u5 at *;obtain rfl:u1=.slice u.A u.n u.c:=h1;obtain⟨g5,rfl,bg5⟩:=h5;have VH:=hC.1.ext.size;have ow:=hP.2 rfl;refine Q4 89 rfl (by simp[Act.put]) rfl ?_;go_wp2_with (refine We (u:=.slice u.A u.n u.c) (QJ y) underlying32 OB (by decide) rfl (Zo y) (Cg y) (by decide) rfl _ _ rfl rfl rfl ow bg5 dI VH ?_;intro u9 w9 o9 g9)
      exact⟨Rk.app (λh=>⟨h.1.grown ow g9 (by decide) (by decide) (QW _),KH h.2.1 ow (by decide) g9,KH h.2.2.1 ow (by decide) g9,KH h.2.2.2 ow (by decide) g9⟩) ow g9 (by decide) (by decide),o9⟩
     simp only[S_];rw[Qx];refine YA (λw' hC hP hd=>?_) ?_
     ·clear hd;refine Q4 90 rfl (by simp[Act.put]) rfl ?_;go_wp2_with fail;exact⟨Rk.same,rfl⟩
     simp only[S_];rw[Qx];intro w' hC hv;have h3:=hv 3 (by omega) (by decide);have h6:=hv 6 (by omega) (by decide);have h7:=hv 7 (by omega) (by decide);clear hv;generalize us 2=u2 at *;generalize us 3=u3 at *;generalize us 6=u6 at *;generalize us 7=u7 at *;obtain⟨rfl,hcr⟩:=h3;have o7:w'.ownsRow w.heap.size 57 96 u6 (done.length+1) (done.flatMap QJ++QJ y):=h6;obtain rfl:u7=.pointer (some ⟨mb,5,none⟩):=h7;obtain⟨A3,c3,e3⟩:=KF o7;subst e3;go_wp2_with (refine Fi hC.1 (mm q ⟨A3,done.length+1,c3⟩) _ _ _ rfl rfl 5 _ rfl rfl rfl ol (by decide) (WP.o q u ⟨A3,done.length+1,c3⟩) ?_;intro w8 S8 d8)
     have bm:=hC.1.box;have Pt:=Qa (gK.o w8 q ⟨A3,done.length+1,c3⟩ S8);simp only[Act.put];go_roundw;case rel=>exact⟨⟨A3,done.length+1,c3⟩,done++[y],rest,S8,hcr.butT d8 bm (by decide) (Qq.apart (w':=w8) hcr bm (by decide)),by simp,by rw[Kh,AY,AV,pm,SO];exact QX o7 d8 bm (by decide),QX hC.2.1 d8 bm (by decide),QX hC.2.2.1 d8 bm (by decide),QX hC.2.2.2 d8 bm (by decide),Qa (WX hA.o HY.o),Qa (by have:=hl.o;simp only[Kh,YV,Tz]at *;omega),Qa (λt ht=>hf.o t (LX _ ht))⟩
     case measure => rw[Pt.o,qZ.o];have:=hl.o;simp only[YV]at this;have h2:=rR.o;simp only[BQ,SM];omega
    | nil =>
     obtain rfl:=Oe ZE.o (WY hA.o);generalize done=lpr at *;have Ca:wr.ownsRow w.heap.size 57 96 (.slice u.A u.n u.c) lpr.length (lpr.flatMap QJ):=oq;have l7:=Qa (show u.n=lpr.length from rR.o);clear oq rR hA hl hf tv lG lZ ZE;have bm:=S.box
     go_wp2_with (first
      | (go_at_call 131;refine HM.o.mono ?_;rintro e w2 ⟨rfl,rfl⟩)
      | (refine XZ _ _ rfl rfl mb (mm q u).cells _ _ rfl bm underlying38 rfl Ro ?_)
      | (refine Yv _ _ _ rfl rfl mb (mm q u).cells _ _ rfl rfl bm Ro rfl (db _) ?_;intro w3 b3 g3;have k3:=S.okb.grown g3 (λe=>S.ne (by injection e with e;exact e.symm)))
      | (refine Z5 _ _ _ rfl rfl kb 0 _ _ _ _ rfl rfl rfl LR k3 (by decide) rfl ?_;intro w4 b4 d4))
     have bmf:=d4.box b3 S.ne;have bkf:=b4;have xf:=d4.past (S.ext.grown g3 (λk e=>by cases e;exact S.lm)) S.lk;have vB:=QX (Ca.kept g3 (.inr (Jz Ca bm (by decide)).symm)) d4 k3 (by decide);have vA:=QX (PG.kept g3 (.inr (Jz PG bm (by decide)).symm)) d4 k3 (by decide);have fPe:=QX (Ut.kept g3 (.inr (Jz Ut bm (by decide)).symm)) d4 k3 (by decide);have fDi:=QX (UY.kept g3 (.inr (Jz UY bm (by decide)).symm)) d4 k3 (by decide);refine leaves_cons (f:=124) (args:=#[.pointer (some ⟨mb,0,none⟩),.pointer (some ⟨kb,0,none⟩)]) (by simp) (by simp[go_sem]) ?_;refine(TG ⟨mb,0,none⟩ ⟨kb,0,none⟩ w4).mono ?_;rintro e' u' w5 ⟨rfl,rfl,rfl⟩;simp only[Leaves,settle];refine⟨_,Xi w5 mb kb (mm q u) true rfl rfl bmf bkf,⟨u,q,⟨A1,lpe.length,c1⟩,⟨A2,ldi.length,c2⟩,?_,xf,l7.o,ul.o,rfl,rfl,?_,?_,fPe,fDi⟩⟩
     ·rw[jt.o]
     ·rw[l7.o]at vB ⊢;exact vB
     ·rw[ul.o]at vA ⊢;exact vA
theorem LG (s:List UInt8) (z:Q1) (e:QL) (w:World) (h:RO s=some (z,e)) (hs:s.length<=100000000) (hD:JW w) :
  Calls prog 68 #[.string (Qb s)] w λe' w'=>∃pr pi pe di:Sl,e'=.returned (.tuple #[.agg ({ z with pr:=pr,pi:=pi,pe:=pe,di:=di }:Q1).cells,.bool true])/\Ext w w'/\pr.n=e.pr.length/\pi.n=e.pi.length/\pe.n=e.pe.length/\di.n=e.di.length/\
   w'.ownsRow w.heap.size 57 96 (.slice pr.A pr.n pr.c) pr.n (e.pr.flatMap QJ)/\w'.ownsRow w.heap.size 95 2 (.slice pi.A pi.n pi.c) pi.n (e.pi.flatMap Yd)/\w'.ownsRow w.heap.size 92 2 (.slice pe.A pe.n pe.c) pe.n (e.pe.flatMap Yd)/\w'.ownsRow w.heap.size 92 2 (.slice di.A di.n di.c) di.n (e.di.flatMap Yd) :=
 (LF s w hs hD).mono (λe' w' k=>by rw[h]at k;exact k)
theorem P9 (l:List (List UInt8)):l.flatMap FE=(l.map Qb).map Value.string:=by
 induction l with
 | nil=>rfl
 | cons s l ih=>rw[AV,ih];rfl
theorem Ua (s:Sl) (l:List (List UInt8)) (w:World) (h:Q8 FE w s.A s.n l) (hk:s.ok) (tJ:s.n<=100000) :
  Calls prog 53 #[.slice s.A s.n s.c] w λe w'=>∃A c,e=.returned (.slice A l.length c)/\w'.ownsRow w.heap.size 9 1 (.slice A l.length c) l.length (l.flatMap FE)/\Ext w w':=by
 have hn:=h.1;obtain⟨A,n,c⟩:=s;simp only at h hk tJ hn ⊢;cases A with
 | none => obtain⟨rfl,rfl⟩:=hk.1 rfl;have hl:l=[]:=bd hn.symm;subst hl;refine(Tryz.slices_Clone_string_nil 0 0 w).mono λe w' ⟨h1,h2⟩=>?_;subst h1 h2;exact⟨none,0,rfl,⟨rfl,.inl ⟨rfl,rfl⟩⟩,Qf _⟩
 | some a =>
  by_cases h0:n=0
  ·subst h0;have hl:l=[]:=bd hn.symm;subst hl;refine(Tryz.slices_Clone_string_zero a c w).mono λe w' ⟨v,h1,h2,_,h3⟩=>?_;obtain⟨A',c',rfl⟩:=KE h2;exact⟨A',c',h1,h2,h3⟩
  ·obtain⟨b,o,e1,hc⟩:=h.2 (by omega);injection e1 with e1;subst e1;refine(Tryz.slices_Clone_string b o n c (l.map Qb) w (by rw[Fo];omega) (by omega) (λj hj=>?_)).mono λe w' ⟨v,h1,h2,_,h3⟩=>?_
   ·rw[Fo]at hj;refine hc j _ ?_;rw[P9];simp[hj,ZG]
   ·rw[AX (by rw[Fo];omega),←P9]at h2;subst hn;obtain⟨A',c',rfl⟩:=KE h2;exact⟨A',c',h1,h2,h3⟩
theorem KG {w:World}{base z:Nat}{e:TypeId}{s:Sl}{xs:List Value}(h:w.ownsRow base e z (.slice s.A s.n s.c) s.n xs) (hs:s.n<=100000):s.ok:=by
 refine⟨λhA=>?_,by unfold maxLen;omega,?_⟩
 ·rcases h.2 with⟨e1,_⟩|⟨g,cap,cur,e1,_⟩
  ·injection e1 with _ e2 e3;exact⟨e2,e3⟩
  ·injection e1 with e1;rw[hA]at e1;cases e1
 ·rcases h.2 with⟨e1,_⟩|⟨g,cap,cur,e1,_,_,hc,_⟩
  ·injection e1 with _ e2 e3;omega
  ·injection e1 with _ _ e3;omega
theorem LO {m z:Q1}{d:QL}(h:YR m d) (s:WT z m) (hf:z.fr.n=m.fr.n) (hr:z.pr.n=m.pr.n) (hp:z.pi.n=m.pi.n):YR z d:=by
 refine⟨⟨⟨?_,?_,?_,?_,?_⟩,by rw[hf];exact h.rest.frn,h.rest.fr,by rw[hr];exact h.rest.prn,?_,by rw[hp];exact h.rest.pin,?_,by rw[s.inn,s.init];exact h.rest.texts⟩,h.disk⟩
 ·rw[s.quantum];exact h.rest.nums.quantum
 ·rw[s.left,s.quantum];exact h.rest.nums.left
 ·rw[s.cur];exact h.rest.nums.cur
 ·rw[s.next];exact h.rest.nums.next
 ·rw[s.newPipe];exact h.rest.nums.newPipe
 ·intro i hi hk;obtain⟨a,b⟩:=h.rest.pr i hi hk;exact⟨⟨by rw[s.next];exact a.pid,a.state,a.reg,a.par,a.why,a.code,λj hj=>by have:=a.page j hj;unfold Uw at *;rw[hf];exact this,a.fd⟩,b⟩
 ·intro i hi hk;rw[s.newPipe];exact h.rest.pi i hi hk
theorem EN {m z:Q1}{d:QL}(s:WT z m):Jy z d=Jy m d:=by
 unfold Jy V9;rw[s.clock,s.quantum,s.cur,s.left,s.next,s.init,s.newPipe,s.inn,s.fin,s.told,s.dleft]
theorem LH {m z:Q1}{d:QL}(h:Xf m d) (s:WT z m):Xf z d :=
 ⟨by rw[s.clock];exact h.clock,by rw[s.told];exact h.told,by rw[s.quantum];exact h.quantum,by rw[s.cur];exact h.cur,by rw[s.left];exact h.left,by rw[s.next];exact h.next,by rw[s.newPipe];exact h.newPipe,by rw[s.dleft];exact h.dleft,
  by rw[s.init];exact h.init,by rw[s.inn];exact h.inn,h.pe,h.di,h.pi,h.pr,h.pel,h.dil,h.pil,h.prl⟩
theorem Ap {m:Q1}{d:QL}(h:Xf m d):(Jy m d).length<=100000000:=by
 have h1:=Vy 1404000 (V9 m d) (Nr h);have h2:=GP (V9 m d);have h3:(V9 m d).length=16:=rfl;rw[h3]at h1;unfold Jy;omega
theorem Hw {α:Type} {f:α->List Value}{l l':List α}(h:l.map f=l'.map f):l.flatMap f=l'.flatMap f:=by
 rw[A0,A0,h]
theorem aE:(prog.info? 22).map (·.size)=some 1:=by kernel_rfl
end Go.Proofs.YtfaplefkakpgcaaGreatDoor
