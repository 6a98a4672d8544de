import Derived.Test.YtfaplefkakpgcaaGreatDoorPl25
import Derived.Recover
import Derived.Great.BuildSlice
import Derived.Defers
import Derived.Test.YtfaplefkakpgcaaGreatDoorPl22
set_option linter.unusedVariables false
set_option linter.unusedSimpArgs false
set_option maxHeartbeats 32000000
set_option maxRecDepth 100000
namespace Go.Proofs.YtfaplefkakpgcaaGreatDoor
open Go.Proofs.Tryz
open Go.RowKit
structure RB (w W:World) (mb kb:Nat) (m:QO):Prop where
 box:Box W mb 38 m.cells
 okb:Box W kb 4 #[.bool false]
 ext:Ext w W
 ne:mb≠kb
 lm:w.heap.size<=mb
 lk:w.heap.size<=kb
namespace RB
variable {w W W':World}{mb kb xb:Nat}{m:QO}{L:List (List UInt8)}
theorem more (h:RB w W mb kb m) (x:Ext W W'):RB w W' mb kb m:=⟨h.box.ext x,h.okb.ext x,h.ext.trans x,h.ne,h.lm,h.lk⟩
theorem call (h:RB w W mb kb m) (c:QA W xb L) (b:But xb W W') (hx:w.heap.size<=xb):RB w W' mb kb m:=by
 obtain⟨A,n,d,k1,_,_⟩:=c;exact⟨b.box h.box (h.box.apart k1 (by decide)),b.box h.okb (h.okb.apart k1 (by decide)),b.past h.ext hx,h.ne,h.lm,h.lk⟩
theorem grown {B z n:Nat}{u:Value}{xs:List Value}{t:TypeId}(h:RB w W mb kb m) (o:W.ownsRow B t z u n xs) (g:W.grownBy W' u.ownBlock) (h1:t≠38) (h2:t≠4) (hB:w.heap.size<=B):RB w W' mb kb m :=
 ⟨h.box.grown g (QX o h.box h1),h.okb.grown g (QX o h.okb h2),h.ext.grown g (λk e=>YR hB (QU o e)),h.ne,h.lm,h.lk⟩
theorem but (h:RB w W mb kb m) (b:But mb W W') (m':QO) (hb:Box W' mb 38 m'.cells):RB w W' mb kb m' :=
 ⟨hb,b.box h.okb (AX h.ne),b.past h.ext h.lm,h.ne,h.lm,h.lk⟩
end RB
theorem QA.apart {w w':World}{b b':Nat}{L:List (List UInt8)}{T:TypeId}{cs:Array Value}(h:QA w b L) (hb:Box w b' T cs) (ht:253≠T):b≠b':=by
 obtain⟨A,n,d,k1,_,_⟩:=h;exact k1.apart hb ht
section
variable {ops:Array Oper}{rest:List Oper}{o:Oper}{a:Act}{w0 W:World}{Q:Exit->Act->World->Prop}{mb kb:Nat}{m:QO}
theorem An (S:RB w0 W mb kb m) (m':QO) (T:TypeId) (x z:Operand) (J7:o.guard=none) (ho:o.op=.store T x z) (i:Nat) (v:Value) (hx:a.eval x=.pointer (some ⟨mb,i,none⟩)) (hy:a.eval z=v) (hv:v.oneCell'=true)
  (hi:(prog.info? T).map (·.size)=some 1) (Qn:i<17) (he:m.cells.setIfInBounds i v=m'.cells)
  (hK:∀W',RB w0 W' mb kb m'->But mb W W'->wpList prog ops Q rest (a.put o.dst undef) W'):wpList prog ops Q (o::rest) a W :=
 QJ T x z J7 ho mb i v _ _ _ hx hy hv hi S.box Qn he (λW' b d=>hK W' (S.but d m' b) d)
theorem cT (y:QF):Instr.fill (λi=>some (i*96,96)) ((Array.range (1*96)).map ((Value.agg (Qq JK).toArray).cells[·%(Value.agg (Qq JK).toArray).cells.size]!)) [(0,.agg (Qq y).toArray)]=some (Qq y).toArray:=by kernel_rfl
theorem Vk (x:Operand) (J7:o.guard=none) (ho:o.op=.buildSlice 32 1 #[(0,x)]) (y:QF) (hx:a.eval x=.agg (Qq y).toArray)
  (hK:wpList prog ops Q rest (a.put o.dst (.slice (some ⟨W.heap.size,0,none⟩) 1 1)) (W.alloc (.cells (Qq y).toArray 57))):wpList prog ops Q (o::rest) a W:=by
 obtain⟨i,hi,hz,h1,h2⟩:=AW N7;refine wpList_buildSlice J7 32 57 1 #[(0,x)] ho (Qq y).toArray i _ underlying32 hi hz (by rw[h1];decide) (by rw[h1];decide) ?_ hK;rw[h1];have e:((#[(0,x)]:Array (Nat × Operand)).map λ(i,x)=>(i,a.eval x)).toList=[(0,.agg (Qq y).toArray)]:=by simp[hx]
 rw[e];exact cT y
theorem Kk {S E:TypeId}{zv:Value}{z bytes B g n:Nat}{u:Value}{xs:List Value}(y:List Value) (hu:prog.underlying S=some (.slice E)) (hinf:(prog.info? E).map (λi=>(i.zero,i.size,i.bytes))=some (some zv,z,bytes)) (hz0:0<z) (hzc:zv.cells.size=z)
  (hyl:y.length=z) (hyo:∀v∈y,v.oneCell'=true) (hby:bytes<=1000) (J7:o.guard=none) (sl x:Operand)
  (ho:o.op=.call { callee:=.builtin .append,args:=#[sl,x],argTypes:=#[S,S] }) (hs:a.eval sl=u) (hx:a.eval x=.slice (some ⟨g,0,none⟩) 1 1)
  (h0:W.ownsRow B E z u n xs) (hb:Box W g E y.toArray) (hn:n<=1000000000) (hB:B<=W.heap.size)
  (hK:∀u' W',W'.ownsRow B E z u' (n+1) (xs++y)->W.grownBy W' u.ownBlock->wpList prog ops Q rest (a.put o.dst u') W'):wpList prog ops Q (o::rest) a W:=by
 refine DU J7 λK KM=>?_;obtain⟨i,hi,hz,h1,h2⟩:=AW hinf;obtain⟨v',w',hr,ho2,hg,_,_⟩:=nU (P:=prog) W B S o.type E i zv z bytes hu hi hz h1 h2 hzc hz0 u n xs h0 ⟨g,0,none⟩ 1 1 y (by omega) (λj u hj=>by
  have ha:(⟨g,0,none⟩:Addr).add j=⟨g,j,none⟩:=by unfold Addr.add;split<;>simp_all
  rw[ha,hb.cell j];simpa using hj) hyo (by unfold maxLen;omega) (by
   have h3:(n+1)*bytes<=(n+1)*1000:=Nat.mul_le_mul_left _ hby;omega) hB
 unfold Oper.wp execOp;simp only[ho,resolve,invoke,builtin,Ny,Fb,Mm,bO,P4,Gz,hs,hx,hr];exact KM _ _ (hK v' w' ho2 hg)
end
theorem F5 {w:World}{B z n:Nat}{e:TypeId}{u:Value}{xs:List Value}(h:w.ownsRow B e z u n xs):∀g,u.ownBlock=some g->∃c fz,w.heap[g]? =some (.cells c e fz):=by
 intro g hg;rcases h.2 with⟨rfl,_⟩|⟨g',cap,cur,rfl,_,hgg,_⟩
 ·simp[Value.ownBlock]at hg
 ·simp[Value.ownBlock]at hg;subst hg;exact⟨cur,_,hgg⟩
theorem Zz {w w':World}{B B' z z' n n':Nat}{e e':TypeId}{u u':Value}{xs xs':List Value}(h:w.ownsRow B e z u n xs) (h':w.ownsRow B' e' z' u' n' xs') (Jt:e≠e') (hg:w.grownBy w' u'.ownBlock):w'.ownsRow B e z u n xs:=by
 refine h.kept hg ?_;cases hu:u.ownBlock with
 | none=>exact .inl rfl
 | some g => refine .inr (λe2=>?_);obtain⟨c,fz,h1⟩:=F5 h g hu;obtain⟨c',fz',h2⟩:=F5 h' g e2.symm;rw[h1]at h2;injection h2 with h2;injection h2 with _ h2 _;exact Jt h2
structure Rk (ST:World->Prop) (xb kc ka B z:Nat) (T:TypeId) (k:Nat) (W W':World):Prop where
 st:ST W->ST W'
 cur:k≠kc->∀L,QA W xb L->QA W' xb L
 own:k≠ka->∀u n xs,W.ownsRow B T z u n xs->W'.ownsRow B T z u n xs
 box:k≠ka->∀g cs,Box W g T cs->Box W' g T cs
namespace Rk
variable {ST:World->Prop}{xb kc ka B z k:Nat}{T:TypeId}{W W':World}
theorem same:Rk ST xb kc ka B z T k W W:=⟨id,λ_ _ h=>h,λ_ _ _ _ h=>h,λ_ _ _ h=>h⟩
theorem ofExt (hS:ST W->ST W') (x:Ext W W'):Rk ST xb kc ka B z T k W W':=⟨hS,λ_ _ h=>h.ext x,λ_ _ _ _ h=>Qc h x,λ_ _ _ h=>h.ext x⟩
theorem take {L:List (List UInt8)}(hS:ST W->ST W') (c:QA W xb L) (b:But xb W W') (hT:T≠253):Rk ST xb kc ka B z T kc W W' :=
 ⟨hS,λh=>absurd rfl h,λ_ _ _ _ h=>c.own b h hT,λ_ g cs h=>by
  obtain⟨A,n,d,k1,_,_⟩:=c;exact b.box h (h.apart k1 hT)⟩
theorem app {n:Nat}{u:Value}{xs:List Value}(hS:ST W->ST W') (o:W.ownsRow B T z u n xs) (g:W.grownBy W' u.ownBlock) (h1:9≠T) (h2:T≠253):Rk ST xb kc ka B z T ka W W' :=
 ⟨hS,λ_ _ h=>h.grown g o h1 h2,λh=>absurd rfl h,λh=>absurd rfl h⟩
end Rk
theorem MZ (p q:Addr) (w:World) :
  CallsD prog 124 #[.pointer (some p),.pointer (some q)] .returning w λe u' w'=>e=.returned (.tuple #[])/\u'=.returning/\w'=w:=by
 refine callsD_of_wpS func124 rfl λc₀ cs hu=>?_;apply wpS_seq;apply wpS_region;simp[wpOpsS,go_sem,recoverD,hu,ntmps124,Exit.thenS];refine wpS_of_wp ?_;simp only[nY,nX,nV,vg,nZ,bQ,fu,List.set_cons_zero,Wed];go_wp2_with fail;cases c₀;simp_all [bodyPostS,results,Tryz.results124]
abbrev QB:QO:=⟨0,0,0,0,Q1,Q1,0,[],Q1,0,[],false,0,Q1,Q1,0,Q1⟩
theorem j7:QB.cells.all (·.oneCell')=true:=by kernel_rfl
theorem J1:(prog.info? 38).map (·.size)=some QB.cells.size:=by kernel_rfl
theorem MY (mb kb:Nat) (w:World) (cs:Array Value) (x:Bool) (hb:Box w mb 38 cs) (hs:cs.size=17) (hk:Box w kb 4 #[.bool x]) (older:List PanicEntry) :
  CallsD prog 124 #[.pointer (some ⟨mb,0,none⟩),.pointer (some ⟨kb,0,none⟩)] (.panicking ({ v:=ib,recovered:=false }::older)) w λe u' w' => e=.returned (.tuple #[])/\u'=.panicking ({ v:=ib,recovered:=true }::older)/\Box w' mb 38 QB.cells/\Box w' kb 4 #[.bool false]/\∀w0,Ext w0 w->w0.heap.size<=mb->w0.heap.size<=kb->Ext w0 w':=by
 refine callsD_of_wpS func124 rfl λc₀ cs hu=>?_;apply wpS_seq;apply wpS_region;simp[wpOpsS,go_sem,recoverD,hu,ntmps124,Exit.thenS];refine wpS_of_wp ?_;simp only[nY,nX,nV,vg,nZ,bQ,fu,List.set_cons_zero,Wed];have hta:∀w (z:TypeId),(Instr.typeAssert (.iface 183 (.agg #[])) z 183 true).run prog w=.ok (.tuple #[.agg #[],.bool true]) w:=λ_ _=>rfl;go_upto_region 5 with fail;have xw:Ext w (w.alloc (.cells #[] 183)):=(Qg w).alloc _;have Vy:=hb.ext xw;have Vz:=hk.ext xw;have Jt:kb≠mb:=hk.apart hb (by decide);generalize w.alloc (.cells #[] 183)=w1 at *;go_upto_region 5 with fail;go_wp2_with (refine Qr (.tmp 0) (.tmp 16) rfl rfl mb QB _ _ rfl rfl Vy hs ?_;intro w2 b2 g2;have k2:=Vz.grown g2 (λe=>Jt (NU e));have f2:w2.frozen? ⟨kb,0,none⟩=false:=k2.frozen 0;have c2:w2.cell? ⟨kb,0,none⟩=some (.bool x):=k2.cell 0)
 have K1:Box (w2.setCell ⟨kb,0,none⟩ (.bool false)) kb 4 #[.bool false]:=k2.set 0 (.bool false);have K2:Box (w2.setCell ⟨kb,0,none⟩ (.bool false)) mb 38 QB.cells:=((But.refl kb w2).setCell 0 (.bool false)).box b2 (λe=>Jt e.symm);have K3:∀w0,Ext w0 w->w0.heap.size<=mb->w0.heap.size<=kb->Ext w0 (w2.setCell ⟨kb,0,none⟩ (.bool false)):=λw0 x h1 h2=>((x.trans xw).grown g2 (λj e=>by cases e;exact h1)).setCell h2 _;generalize w2.setCell ⟨kb,0,none⟩ (.bool false)=w3 at *;clear hta hk hb Vz Vy b2 k2 g2 f2 c2 xw hs Jt;simp[bodyPostS,results,Tryz.results124];exact⟨K2,K1,K3⟩
theorem VP {tmps:Array Value}(w:World) (mb kb:Nat) (m:QO) (b:Bool) (h2:tmps.getD 2 undef=.pointer (some ⟨mb,0,none⟩)) (h3:tmps.getD 3 undef=.pointer (some ⟨kb,0,none⟩)) (h:Box w mb 38 m.cells) (k:Box w kb 4 #[.bool b]) :
  (results Tryz.f68 tmps).run prog w=.ok (.tuple #[.agg m.cells,.bool b]) w:=by
 have h2':tmps[2]?.getD undef=.pointer (some ⟨mb,0,none⟩):=by simpa using h2
 have h3':tmps[3]?.getD undef=.pointer (some ⟨kb,0,none⟩):=by simpa using h3
 have c0:w.cell? ⟨kb,0,none⟩=some (.bool b):=k.cell 0;have l2:(loadVar 4 ⟨kb,0,none⟩).run prog w=.ok (.bool b) w:=by simp[c0,go_sem]
 simp[results,Tryz.results68,h2',h3',asAddr,su w mb 38 38 m.cells (0,0) _ h underlying38 rfl J1,l2]
theorem NJ (s:List UInt8) (w:World) (h:Ql (some 16) s=none) (hs:s.length<=100000000) :
  Calls prog 68 #[.string (Qb s)] w λe w'=>e=.returned (.tuple #[.agg QB.cells,.bool false])/\Ext w w':=by
 have ou:∀(fn:Fn) (first cap:Array Value) (w:World),(Instr.makeFunc fn first cap).run prog w=.ok (.func fn first cap) w:=λ_ _ _ _=>rfl;have HO:=Qa (λw=>(Wx s (some 16) w (by omega) (λn h=>by cases h;decide)).mono (λe w' k=>by
  rcases k with⟨l,b,k,_⟩|⟨_,h1,h2⟩
  ·rw[h]at k;cases k
  ·exact(⟨h1,h2⟩:e=JA/\Ext w w')))
 clear hs;go_enter_defers func68,ntmps68;go_upto_region 2 with fail;have b1:=Qs w 38 QB.cells;have x1:Ext w (w.alloc (.cells QB.cells 38)):=(Qg w).alloc _;have z1:(w.alloc (.cells QB.cells 38)).heap.size=w.heap.size+1:=YB _ _;change Code.wp _ _ _ _ ((w.alloc (.cells QB.cells 38)).alloc (.cells #[.bool false] 4));generalize w.alloc (.cells QB.cells 38)=wa at b1 x1 z1 ⊢;have b2:=Qs wa 4 #[.bool false];rw[z1]at b2;have b3:=b1.ext ((Qg wa).alloc (.cells #[.bool false] 4));have x2:=x1.alloc (.cells #[.bool false] 4);generalize wa.alloc (.cells #[.bool false] 4)=W at b2 b3 x2 ⊢;clear b1 x1 z1;clear wa;go_wp2_with (go_at_call 125;refine(HO.o _).mono ?_;rintro e w1 ⟨he,x3⟩;simp only[JA]at he;subst he)
 refine leaves_cons (f:=124) (args:=#[.pointer (some ⟨w.heap.size,0,none⟩),.pointer (some ⟨w.heap.size+1,0,none⟩)]) (by simp) (by simp[go_sem]) ?_;refine(MY w.heap.size (w.heap.size+1) w1 _ _ (b3.ext x3) rfl (b2.ext x3) []).mono ?_;rintro e u' w'' ⟨rfl,rfl,b5,b6,x6⟩;simp only[Leaves,settle];refine⟨_,VP w'' w.heap.size (w.heap.size+1) QB false rfl rfl b5 b6,rfl,x6 w (x2.trans x3) (Q4 _) (by omega)⟩
structure RC (w W:World) (mb kb cb:Nat) (m:QO) (L:List (List UInt8)):Prop where
 rb:RB w W mb kb m
 cur:QA W cb L
 lc:w.heap.size<=cb
namespace RC
variable {w W W':World}{mb kb cb xb:Nat}{m m':QO}{L L' L2:List (List UInt8)}
theorem call (h:RC w W mb kb cb m L) (k:QA W' cb L') (b:But cb W W'):RC w W' mb kb cb m L':=⟨h.rb.call h.cur b h.lc,k,h.lc⟩
theorem other (h:RC w W mb kb cb m L) (c:QA W xb L2) (k:QA W' xb L') (b:But xb W W') (hx:w.heap.size<=xb) (Jt:cb≠xb):RC w W' mb kb cb m L:=⟨h.rb.call c b hx,h.cur.but b c Jt,h.lc⟩
theorem more (h:RC w W mb kb cb m L) (x:Ext W W'):RC w W' mb kb cb m L:=⟨h.rb.more x,h.cur.ext x,h.lc⟩
theorem but (h:RC w W mb kb cb m L) (b:But mb W W') (r:RB w W' mb kb m'):RC w W' mb kb cb m' L:=⟨r,h.cur.butT b h.rb.box (by decide) (QA.apart (w':=W) h.cur h.rb.box (by decide)),h.lc⟩
theorem dec (h:RC w W mb kb cb m L) (hD:ZG w):∀W',But cb W W'->ZG W':=λW' b=>hD.ext (b.past h.rb.ext h.lc)
end RC
section
variable {ops:Array Oper}{rest:List Oper}{o:Oper}{a:Act}{w0 W:World}{Q:Exit->Act->World->Prop}{mb kb cb:Nat}{m:QO}{L:List (List UInt8)}
theorem ZT (S:RC w0 W mb kb cb m L) (m':QO) (T:TypeId) (x z:Operand) (J7:o.guard=none) (ho:o.op=.store T x z) (i:Nat) (v:Value) (hx:a.eval x=.pointer (some ⟨mb,i,none⟩)) (hy:a.eval z=v) (hv:v.oneCell'=true)
  (hi:(prog.info? T).map (·.size)=some 1) (Qn:i<17) (he:m.cells.setIfInBounds i v=m'.cells)
  (hK:∀W',RC w0 W' mb kb cb m' L->But mb W W'->wpList prog ops Q rest (a.put o.dst undef) W'):wpList prog ops Q (o::rest) a W :=
 An S.rb m' T x z J7 ho i v hx hy hv hi Qn he (λW' r d=>hK W' (S.but d r) d)
end
theorem I6 {l:List (List UInt8)}(h:l.length=16):∃a b c d e f g i j k m n o p q r,l=[a,b,c,d,e,f,g,i,j,k,m,n,o,p,q,r]:=by
 match l,h with
 | [a,b,c,d,e,f,g,i,j,k,m,n,o,p,q,r],_=>exact⟨a,b,c,d,e,f,g,i,j,k,m,n,o,p,q,r,rfl⟩
theorem Jk {α β:Type} {o:Option α}{f:α->Option β}{y:β}(h:o.bind f=some y):∃x,o=some x/\f x=some y:=by
 cases o with
 | none=>cases h
 | some x=>exact⟨x,rfl,h⟩
theorem WG {α β:Type} {o:Option α}{f:α->β}{y:β}(h:o.map f=some y):∃x,o=some x/\f x=y:=by
 cases o with
 | none=>cases h
 | some x=>exact⟨x,rfl,by injection h⟩
theorem PG {s:List UInt8}{z:QO}{e:Qz}(h:Ye s=some (z,e)):∃t1 t2 t3 t4 t5 t6 t7 t8 t9 t10 t11 t12 t13 t14 t15,Ql (some 16) s=some [[104,105,98,50],t1,t2,t3,t4,t5,t6,t7,t8,t9,t10,t11,t12,t13,t14,t15]/\
  ZF 8 t1=some z.clock/\QZ t2=some z.quantum/\QZ t3=some z.cur/\QZ t4=some z.left/\QZ t5=some z.next/\z.init=t6/\QZ t7=some z.newPipe/\z.inn=t8/\ZH t9=some z.fin/\ZF 8 t10=some z.told/\QZ t11=some z.dleft/\
  QK t12=some e.pe/\QK t13=some e.di/\QK t14=some e.pi/\VE t15=some e.pr/\z.fr=Q1/\z.pr=Q1/\z.pi=Q1/\z.bl=Q1/\z.pe=Q1/\z.di=Q1/\e.fr=[]/\e.bl=[]:=by
 unfold Ye at h;obtain⟨l,h1,h⟩:=Jk h;obtain⟨t0,t1,t2,t3,t4,t5,t6,t7,t8,t9,t10,t11,t12,t13,t14,t15,rfl⟩:=I6 (Yw h1);simp only[qo,qp]at h;split at h
 ·rename_i h0;subst h0;obtain⟨clock,e1,h⟩:=Jk h;obtain⟨quantum,e2,h⟩:=Jk h;obtain⟨cur,e3,h⟩:=Jk h;obtain⟨left,e4,h⟩:=Jk h;obtain⟨next,e5,h⟩:=Jk h;obtain⟨newPipe,e6,h⟩:=Jk h;obtain⟨fin,e7,h⟩:=Jk h;obtain⟨told,e8,h⟩:=Jk h;obtain⟨dleft,e9,h⟩:=Jk h;obtain⟨pe,e10,h⟩:=Jk h;obtain⟨di,e11,h⟩:=Jk h;obtain⟨pi,e12,h⟩:=Jk h;obtain⟨pr,e13,h⟩:=WG h;injection h with h h';subst h;subst h';exact⟨t1,t2,t3,t4,t5,t6,t7,t8,t9,t10,t11,t12,t13,t14,t15,h1,e1,e2,e3,e4,e5,rfl,e6,rfl,e7,e8,e9,e10,e11,e12,e13,rfl,rfl,rfl,rfl,rfl,rfl,rfl,rfl⟩
 ·cases h
theorem DQ {s:List UInt8}{y:ZY}(h:Jm s=some y):∃a,Ql (some 2) s=some [a,y.2]/\QZ a=some y.1:=by
 unfold Jm at h;obtain⟨l,h1,h⟩:=Jk h;obtain⟨n,h2,h3⟩:=WG h;obtain⟨a,b,rfl⟩:=DJ (Yw h1);subst h3;exact⟨a,h1,h2⟩
theorem Gl {s:List UInt8}{l:List ZY}(h:QK s=some l) (w:World) (hs:s.length<=100000000) (hD:ZG w) :
  Calls prog 130 #[.string (Qb s)] w λe w'=>∃A c,e=.returned (.slice A l.length c)/\w'.ownsRow w.heap.size 92 2 (.slice A l.length c) l.length (l.flatMap Zn)/\Ext w w' :=
 (WC s w hs hD).mono (λe w' k=>by
  rcases k with⟨l',u,h1,h2,h3,h4⟩|⟨h1,_⟩
  ·have h5:=NU (h.symm.trans h1);subst h5;obtain⟨A,c,rfl⟩:=Vt h3;exact⟨A,c,h2,h3,h4⟩
  ·rw[h]at h1;cases h1)
theorem pO (m:QO):m.cells.all (·.oneCell')=true:=by kernel_rfl
def qm (r:Option (QO × Qz)) (w:World) (e':Ending) (w':World):Prop:=match r with
 | none=>e'=.returned (.tuple #[.agg QB.cells,.bool false])/\Ext w w'
 | some (z,e)=>∃pr pi pe di:Sl,e'=.returned (.tuple #[.agg ({ z with pr:=pr,pi:=pi,pe:=pe,di:=di }:QO).cells,.bool true])/\Ext w w'/\pr.n=e.pr.length/\pi.n=e.pi.length/\pe.n=e.pe.length/\di.n=e.di.length/\
   w'.ownsRow w.heap.size 57 96 (.slice pr.A pr.n pr.c) pr.n (e.pr.flatMap Qq)/\w'.ownsRow w.heap.size 95 2 (.slice pi.A pi.n pi.c) pi.n (e.pi.flatMap Zn)/\w'.ownsRow w.heap.size 92 2 (.slice pe.A pe.n pe.c) pe.n (e.pe.flatMap Zn)/\w'.ownsRow w.heap.size 92 2 (.slice di.A di.n di.c) di.n (e.di.flatMap Zn)
theorem EG {s:List UInt8}(h:QK s=none) (w:World) (hs:s.length<=100000000) (hD:ZG w) :
  Calls prog 130 #[.string (Qb s)] w λe w'=>e=JA/\Ext w w' :=
 (WC s w hs hD).mono (λe w' k=>by
  rcases k with⟨l',u,h1,_⟩|⟨_,h2,h3⟩
  ·rw[h]at h1;cases h1
  ·exact⟨h2,h3⟩)
theorem BI {s:List UInt8}(hP:JV s=none) (w:World) (hs:s.length<=100000000) (hD:ZG w) :
  Calls prog 132 #[.string (Qb s)] w λe w'=>e=JA/\Ext w w' :=
 (T8 s w hs hD).mono (λe w' h=>⟨h.1.trans (by rw[hP];rfl),h.2⟩)
theorem Bd {s:List UInt8}{T:List (List UInt8)}(q:Ql none s=some T) (hs:s.length<=100000000):T.length<=100000000:=by
 have:=(YL s).1;unfold Ql at q;split at q
 ·injection q with q;rw[←q];omega
 ·cases q
theorem nt {α β:Type} {o o':Option α}{f:α->Option β}{r:Option β}(h:o.bind f=r) (e:o=o'):o'.bind f=r:=e▸h
theorem uX {α β:Type} {o o':Option α}{f:α->β}{r:Option β}(h:o.map f=r) (e:o=o'):o'.map f=r:=e▸h
theorem Qcj {α:Type} {c:Prop}[Decidable c] {a b r:α}(h:(if c then a else b)=r) (hc:c):a=r:=by rw[QN hc]at h;exact h
theorem uR {α:Type} {c:Prop}[Decidable c] {a r:Option α}(h:(if c then a else none)=r) (hc:¬c):r=none:=by rw[QD hc]at h;exact h.symm
theorem Oz {s:List UInt8}{T:List (List UInt8)}(q:Ql none s=some T):QK s=Zp Jm T:=by unfold QK;rw[q];rfl
theorem eP {s:List UInt8}{T:List (List UInt8)}(q:Ql none s=some T):VE s=Zp JV T:=by unfold VE;rw[q];rfl
theorem Oy {s:List UInt8}(q:Ql none s=none):QK s=none:=by unfold QK;rw[q];rfl
theorem eO {s:List UInt8}(q:Ql none s=none):VE s=none:=by unfold VE;rw[q];rfl
theorem EF {s a b:List UInt8}(q:Ql (some 2) s=some [a,b]):Jm s=(QZ a).map λn=>(n,b):=by unfold Jm;rw[q];rfl
theorem R8 (tmps:Array Value) (d:Nat) (v:Value) (h2:d≠2) (h3:d≠3):results Tryz.f68 (tmps.setIfInBounds d v)=results Tryz.f68 tmps:=by
 have e2:(tmps.setIfInBounds d v)[2]?.getD undef=tmps[2]?.getD undef:=by rw[zP h2]
 have e3:(tmps.setIfInBounds d v)[3]?.getD undef=tmps[3]?.getD undef:=by rw[zP h3]
 simp[results,Tryz.results68,e2,e3]
theorem SQ {P:Program}{fn:Func}{tmps tmps':Array Value}{R:Ending->World->Prop}(hr:results fn tmps'=results fn tmps):∀ds u w,Leaves P fn tmps' R ds u w->Leaves P fn tmps R ds u w:=by
 intro ds;induction ds with
 | nil =>
  intro u w h;cases u with
  | returning=>simp only[Leaves]at h ⊢;rw[hr]at h;exact h
  | panicking c=>exact h
  | run=>exact h
 | cons d ds ih =>
  intro u w h;simp only[Leaves]at h ⊢;obtain⟨h1,fv,cap,f,args,e1,e2,hc⟩:=h;refine⟨h1,fv,cap,f,args,e1,e2,hc.mono ?_⟩;intro e u' w' h;cases e with
  | returned _=>exact ih _ _ h
  | panicked _=>exact ih _ _ h
  | outgrown=>exact h
theorem WD {R:Ending->World->Prop}{c:List PanicEntry}{a:Act}{w:World}{d:Nat}{v:Value}(h2:d≠2) (h3:d≠3) (h:bodyPostD prog Tryz.f68 R (.panic c) (a.put (some d) v) w):bodyPostD prog Tryz.f68 R (.panic c) a w :=
 SQ (R8 a.tmps d v h2 h3) _ _ _ h
theorem JZ {w wz:World}{mb kb:Nat}{m:QO}{T:Array Value}(h2:T.getD 2 undef=.pointer (some ⟨mb,0,none⟩)) (h3:T.getD 3 undef=.pointer (some ⟨kb,0,none⟩)) (SZ:RB w wz mb kb m) :
  bodyPostD prog Tryz.f68 (qm none w) (.panic [{ v:=ib,recovered:=false }]) { tmps:=T,defers:=[{ target:=.fn (.func 124) #[.pointer (some ⟨mb,0,none⟩),.pointer (some ⟨kb,0,none⟩)],args:=#[] }] } wz:=by
 refine leaves_cons (f:=124) (args:=#[.pointer (some ⟨mb,0,none⟩),.pointer (some ⟨kb,0,none⟩)]) (by simp) (by simp[go_sem]) ?_;refine(MY mb kb wz _ _ SZ.box rfl SZ.okb []).mono ?_;rintro e' u' w'' ⟨rfl,rfl,b5,b6,x6⟩;simp only[Leaves,settle];exact⟨_,VP w'' mb kb QB false h2 h3 b5 b6,rfl,x6 w SZ.ext SZ.lm SZ.lk⟩
theorem T9 (s:List UInt8) (w:World) (hs:s.length<=100000000) (hD:ZG w) :
  Calls prog 68 #[.string (Qb s)] w (qm (Ye s) w):=by
 generalize hR:Ye s=r;cases fy:Ql (some 16) s with
 | none =>
  obtain rfl:r=none:=by unfold Ye at hR;rw[fy]at hR;exact hR.symm
  exact NJ s w fy hs
 | some l =>
 obtain⟨t0,t1,t2,t3,t4,t5,t6,t7,t8,t9,t10,t11,t12,t13,t14,t15,rfl⟩:=I6 (Yw fy);unfold Ye at hR;rw[fy]at hR;simp only[qt,qo,qp]at hR;have Lm:=Zd fy;have FI:∀t∈[t0,t1,t2,t3,t4,t5,t6,t7,t8,t9,t10,t11,t12,t13,t14,t15],t.length<=281474976710656:=λt ht=>by have:=Lm t ht;omega
 have HO:=Qa (λw=>Ug fy w (by omega) (λn h=>by cases h;decide));have EK:=Qa (show∀t∈[t2,t3,t4,t5,t6,t7,t8,t9,t10,t11,t12,t13,t14,t15],t.length<=281474976710656 fromλt ht=>FI t (vm (i:=2) ht));have mL:=Qa (show∀t∈[t3,t4,t5,t6,t7,t8,t9,t10,t11,t12,t13,t14,t15],t.length<=281474976710656 fromλt ht=>FI t (vm (i:=3) ht));have sG:=Qa (show∀t∈[t4,t5,t6,t7,t8,t9,t10,t11,t12,t13,t14,t15],t.length<=281474976710656 fromλt ht=>FI t (vm (i:=4) ht));have yB:=Qa (show∀t∈[t5,t6,t7,t8,t9,t10,t11,t12,t13,t14,t15],t.length<=281474976710656 fromλt ht=>FI t (vm (i:=5) ht));have HL7:=Qa (show∀t∈[t7,t8,t9,t10,t11,t12,t13,t14,t15],t.length<=281474976710656 fromλt ht=>FI t (vm (i:=7) ht));have yA:=Qa (show∀t∈[t11,t12,t13,t14,t15],t.length<=281474976710656 fromλt ht=>FI t (vm (i:=11) ht));have yk:=Qa (YR (Lm t12 (by simp)) hs);have yl:=Qa (YR (Lm t13 (by simp)) hs);have nN:=Qa (YR (Lm t14 (by simp)) hs);have nO:=Qa (YR (Lm t15 (by simp)) hs);have Vm:=Qa hD;have Ym:=Qa hR;clear hR fy Lm FI hD hs;have ou:∀(fn:Fn) (first cap:Array Value) (w:World),(Instr.makeFunc fn first cap).run prog w=.ok (.func fn first cap) w:=λ_ _ _ _=>rfl;go_enter_defers func68,ntmps68;go_upto_region 2 with fail;have b1:=Qs w 38 QB.cells;have x1:Ext w (w.alloc (.cells QB.cells 38)):=(Qg w).alloc _;have y1:(w.alloc (.cells QB.cells 38)).heap.size=w.heap.size+1:=YB _ _;change Code.wp _ _ _ _ ((w.alloc (.cells QB.cells 38)).alloc (.cells #[.bool false] 4));generalize w.alloc (.cells QB.cells 38)=wa at b1 x1 y1 ⊢;have b2:=Qs wa 4 #[.bool false];rw[y1]at b2;have S0:RB w (wa.alloc (.cells #[.bool false] 4)) w.heap.size (w.heap.size+1) QB:=⟨b1.ext ((Qg wa).alloc _),b2,x1.alloc _,by omega,Q4 _,by omega⟩
 generalize wa.alloc (.cells #[.bool false] 4)=W at S0 ⊢;clear b1 x1 y1 b2;clear wa;obtain⟨mb,hmb⟩:∃mb,mb=w.heap.size:=⟨_,rfl⟩
 obtain⟨kb,hkb⟩:∃kb,kb=mb+1:=⟨_,rfl⟩
 rw[←hmb,←hkb]at S0;rw[←hmb,←hkb];clear hmb hkb ou;go_upto_region 3 with(go_at_call 125;refine(HO.o _).mono ?_;rintro e w1 ⟨cb,rfl,GO,UB,x1⟩)
 have S:RC w w1 mb kb cb QB [t0,t1,t2,t3,t4,t5,t6,t7,t8,t9,t10,t11,t12,t13,t14,t15]:=⟨S0.more x1,UB,YR S0.ext.size GO⟩
 clear S0 HO GO UB x1;by_cases h0:t0=[104,105,98,50];case neg =>
  obtain rfl:=uR Ym.o h0;have hq:((Qb t0).toList==[104,105,98,50])=false:=by rw[Qe];simpa using h0
  clear h0 Ym
  go_wp2_with (first
   | (go_at_call 126;refine(JT S.cur).mono ?_;rintro e w2 ⟨rfl,k2,d2⟩;have Sa:=S.call k2 d2)
   | (refine JU _ _ _ rfl rfl mb QB.cells _ _ rfl rfl Sa.rb.box J1 rfl j7 ?_;intro w3 b3 g3;have k3:=Sa.rb.okb.grown g3 (λe=>Sa.rb.ne (by injection e with e;exact e.symm)))
   | (refine QJ _ _ _ rfl rfl kb 0 _ _ _ _ rfl rfl rfl Pe k3 (by decide) rfl ?_;intro w4 b4 d4))
  refine leaves_cons (f:=124) (args:=#[.pointer (some ⟨mb,0,none⟩),.pointer (some ⟨kb,0,none⟩)]) (by simp) (by simp[go_sem]) ?_;refine(MZ ⟨mb,0,none⟩ ⟨kb,0,none⟩ w4).mono ?_;rintro e' u' w5 ⟨rfl,rfl,rfl⟩;simp only[Leaves,settle];exact⟨_,VP w5 mb kb QB false rfl rfl (d4.box b3 Sa.rb.ne) b4,rfl,d4.past (Sa.rb.ext.grown g3 (λk e=>by cases e;exact Sa.rb.lm)) Sa.rb.lk⟩
 have hq:((Qb t0).toList==[104,105,98,50])=true:=by rw[Qe,h0];rfl
 replace Ym:=Qa (Qcj Ym.o h0);clear h0;go_upto_region 5 with(go_at_call 126;refine(JT S.cur).mono ?_;rintro e w2 ⟨rfl,k2,d2⟩;have Sa:=S.call k2 d2)
 clear S hq k2 d2;cases e0:ZF 8 t1 with
 | none =>
  obtain rfl:=Jn Ym.o e0;have HN:=Qa e0;clear e0 Ym
  go_wp2_with (first
   | (go_at_call 127;refine(Ty Sa.cur (.inr rfl) HN.o).mono ?_;rintro e wz ⟨he,kz,dz⟩;simp only[JA]at he;subst he))
  exact JZ rfl rfl ((Sa.call kz dz).rb)
 | some z0 =>
 have H1:=Qa e0;replace Ym:=Qa (J3 Ym.o e0);clear e0
 go_upto_region 6 with(first
  | (go_at_call 127;refine(WS Sa.cur (.inr rfl) H1.o).mono ?_;rintro e w2 ⟨rfl,k2,d2⟩;have Sb:=Sa.call k2 d2)
  | (refine ZT Sb (⟨z0,0,0,0,Q1,Q1,0,[],Q1,0,[],false,0,Q1,Q1,0,Q1⟩) _ _ _ rfl rfl 0 _ rfl rfl rfl Ex (by decide) rfl ?_;intro w3 S1 d3))
 clear Sa Sb k2 d2 d3;cases e0:QZ t2 with
 | none =>
  obtain rfl:=Jn Ym.o e0;have HN:=Qa e0;clear e0 Ym
  go_wp2_with (first
   | (go_at_call 128;refine(Xk S1.cur HN.o (S1.dec Vm.o) EK.o).mono ?_;rintro e wz ⟨he,kz,dz⟩;simp only[JA]at he;subst he))
  exact JZ rfl rfl ((S1.call kz dz).rb)
 | some z1 =>
 have H2:=Qa e0;replace Ym:=Qa (J3 Ym.o e0);clear e0;cases e0:QZ t3 with
 | none =>
  obtain rfl:=Jn Ym.o e0;have HN:=Qa e0;clear e0 Ym
  go_wp2_with (first
   | (go_at_call 128;refine(Xk S2.cur HN.o (S2.dec Vm.o) mL.o).mono ?_;rintro e wz ⟨he,kz,dz⟩;simp only[JA]at he;subst he)
   | (go_at_call 128;refine(JD S1.cur H2.o (S1.dec Vm.o) EK.o).mono ?_;rintro e w2 ⟨rfl,k2,d2⟩;have S2:=S1.call k2 d2))
  exact JZ rfl rfl ((S2.call kz dz).rb)
 | some z2 =>
 have H3:=Qa e0;replace Ym:=Qa (J3 Ym.o e0);clear e0;cases e0:QZ t4 with
 | none =>
  obtain rfl:=Jn Ym.o e0;have HN:=Qa e0;clear e0 Ym
  go_wp2_with (first
   | (go_at_call 128;refine(Xk S3.cur HN.o (S3.dec Vm.o) sG.o).mono ?_;rintro e wz ⟨he,kz,dz⟩;simp only[JA]at he;subst he)
   | (go_at_call 128;refine(JD S2.cur H3.o (S2.dec Vm.o) mL.o).mono ?_;rintro e w3 ⟨rfl,k3,d3⟩;have S3:=S2.call k3 d3)
   | (go_at_call 128;refine(JD S1.cur H2.o (S1.dec Vm.o) EK.o).mono ?_;rintro e w2 ⟨rfl,k2,d2⟩;have S2:=S1.call k2 d2))
  exact JZ rfl rfl ((S3.call kz dz).rb)
 | some z3 =>
 have H4:=Qa e0;replace Ym:=Qa (J3 Ym.o e0);clear e0;cases e0:QZ t5 with
 | none =>
  obtain rfl:=Jn Ym.o e0;have HN:=Qa e0;clear e0 Ym
  go_wp2_with (first
   | (go_at_call 128;refine(Xk S4.cur HN.o (S4.dec Vm.o) yB.o).mono ?_;rintro e wz ⟨he,kz,dz⟩;simp only[JA]at he;subst he)
   | (go_at_call 128;refine(JD S3.cur H4.o (S3.dec Vm.o) sG.o).mono ?_;rintro e w4 ⟨rfl,k4,d4⟩;have S4:=S3.call k4 d4)
   | (go_at_call 128;refine(JD S2.cur H3.o (S2.dec Vm.o) mL.o).mono ?_;rintro e w3 ⟨rfl,k3,d3⟩;have S3:=S2.call k3 d3)
   | (go_at_call 128;refine(JD S1.cur H2.o (S1.dec Vm.o) EK.o).mono ?_;rintro e w2 ⟨rfl,k2,d2⟩;have S2:=S1.call k2 d2))
  exact JZ rfl rfl ((S4.call kz dz).rb)
 | some z6 =>
 have H5:=Qa e0;replace Ym:=Qa (J3 Ym.o e0);clear e0
 go_upto_region 7 with(first
  | (go_at_call 128;refine(JD S4.cur H5.o (S4.dec Vm.o) yB.o).mono ?_;rintro e w5 ⟨rfl,k5,d5⟩;have S5:=S4.call k5 d5)
  | (go_at_call 128;refine(JD S3.cur H4.o (S3.dec Vm.o) sG.o).mono ?_;rintro e w4 ⟨rfl,k4,d4⟩;have S4:=S3.call k4 d4)
  | (go_at_call 128;refine(JD S2.cur H3.o (S2.dec Vm.o) mL.o).mono ?_;rintro e w3 ⟨rfl,k3,d3⟩;have S3:=S2.call k3 d3)
  | (go_at_call 128;refine(JD S1.cur H2.o (S1.dec Vm.o) EK.o).mono ?_;rintro e w2 ⟨rfl,k2,d2⟩;have S2:=S1.call k2 d2)
  | (refine ZT S5 (⟨z0,z1,0,0,Q1,Q1,0,[],Q1,0,[],false,0,Q1,Q1,0,Q1⟩) _ _ _ rfl rfl 1 _ rfl rfl rfl YT (by decide) rfl ?_;intro w6 S6 d6)
  | (refine ZT S6 (⟨z0,z1,z2,0,Q1,Q1,0,[],Q1,0,[],false,0,Q1,Q1,0,Q1⟩) _ _ _ rfl rfl 2 _ rfl rfl rfl YT (by decide) rfl ?_;intro w7 S7 d7)
  | (refine ZT S7 (⟨z0,z1,z2,z3,Q1,Q1,0,[],Q1,0,[],false,0,Q1,Q1,0,Q1⟩) _ _ _ rfl rfl 3 _ rfl rfl rfl YT (by decide) rfl ?_;intro w8 S8 d8)
  | (refine ZT S8 (⟨z0,z1,z2,z3,Q1,Q1,z6,[],Q1,0,[],false,0,Q1,Q1,0,Q1⟩) _ _ _ rfl rfl 6 _ rfl rfl rfl YT (by decide) rfl ?_;intro w9 Sa d9))
 clear S1 S2 S3 S4 S5 S6 S7 S8 k2 k3 k4 k5 d2 d3 d4 d5 d6 d7 d8 d9
 go_upto_region 8 with(first
  | (go_at_call 126;refine(JT Sa.cur).mono ?_;rintro e w2 ⟨rfl,k2,d2⟩;have Sb:=Sa.call k2 d2)
  | (refine ZT Sb (⟨z0,z1,z2,z3,Q1,Q1,z6,t6,Q1,0,[],false,0,Q1,Q1,0,Q1⟩) _ _ _ rfl rfl 7 _ rfl rfl rfl af (by decide) rfl ?_;intro w3 S1 d3))
 clear Sa Sb k2 d2 d3;cases e0:QZ t7 with
 | none =>
  obtain rfl:=Jn Ym.o e0;have HN:=Qa e0;clear e0 Ym
  go_wp2_with (first
   | (go_at_call 128;refine(Xk S1.cur HN.o (S1.dec Vm.o) HL7.o).mono ?_;rintro e wz ⟨he,kz,dz⟩;simp only[JA]at he;subst he))
  exact JZ rfl rfl ((S1.call kz dz).rb)
 | some z9 =>
 have H7:=Qa e0;replace Ym:=Qa (J3 Ym.o e0);clear e0
 go_upto_region 9 with(first
  | (go_at_call 128;refine(JD S1.cur H7.o (S1.dec Vm.o) HL7.o).mono ?_;rintro e w2 ⟨rfl,k2,d2⟩;have Sb:=S1.call k2 d2)
  | (refine ZT Sb (⟨z0,z1,z2,z3,Q1,Q1,z6,t6,Q1,z9,[],false,0,Q1,Q1,0,Q1⟩) _ _ _ rfl rfl 9 _ rfl rfl rfl YT (by decide) rfl ?_;intro w3 Sa d3))
 clear S1 Sb k2 d2 d3
 go_upto_region 10 with(first
  | (go_at_call 126;refine(JT Sa.cur).mono ?_;rintro e w2 ⟨rfl,k2,d2⟩;have Sb:=Sa.call k2 d2)
  | (refine ZT Sb (⟨z0,z1,z2,z3,Q1,Q1,z6,t6,Q1,z9,t8,false,0,Q1,Q1,0,Q1⟩) _ _ _ rfl rfl 10 _ rfl rfl rfl af (by decide) rfl ?_;intro w3 S1 d3))
 clear Sa Sb k2 d2 d3;cases e0:ZH t9 with
 | none =>
  obtain rfl:=Jn Ym.o e0;have HN:=Qa e0;clear e0 Ym
  go_wp2_with (first
   | (go_at_call 129;refine(Cp S1.cur HN.o).mono ?_;rintro e wz ⟨he,kz,dz⟩;simp only[JA]at he;subst he))
  exact JZ rfl rfl ((S1.call kz dz).rb)
 | some z11 =>
 have H9:=Qa e0;replace Ym:=Qa (J3 Ym.o e0);clear e0
 go_upto_region 11 with(first
  | (go_at_call 129;refine(Fk S1.cur H9.o).mono ?_;rintro e w2 ⟨rfl,k2,d2⟩;have Sb:=S1.call k2 d2)
  | (refine ZT Sb (⟨z0,z1,z2,z3,Q1,Q1,z6,t6,Q1,z9,t8,z11,0,Q1,Q1,0,Q1⟩) _ _ _ rfl rfl 11 _ rfl rfl rfl Pe (by decide) rfl ?_;intro w3 Sa d3))
 clear S1 Sb k2 d2 d3;cases e0:ZF 8 t10 with
 | none =>
  obtain rfl:=Jn Ym.o e0;have HN:=Qa e0;clear e0 Ym
  go_wp2_with (first
   | (go_at_call 127;refine(Ty Sa.cur (.inr rfl) HN.o).mono ?_;rintro e wz ⟨he,kz,dz⟩;simp only[JA]at he;subst he))
  exact JZ rfl rfl ((Sa.call kz dz).rb)
 | some gR =>
 have H10:=Qa e0;replace Ym:=Qa (J3 Ym.o e0);clear e0
 go_upto_region 12 with(first
  | (go_at_call 127;refine(WS Sa.cur (.inr rfl) H10.o).mono ?_;rintro e w2 ⟨rfl,k2,d2⟩;have Sb:=Sa.call k2 d2)
  | (refine ZT Sb (⟨z0,z1,z2,z3,Q1,Q1,z6,t6,Q1,z9,t8,z11,gR,Q1,Q1,0,Q1⟩) _ _ _ rfl rfl 12 _ rfl rfl rfl Ex (by decide) rfl ?_;intro w3 S1 d3))
 clear Sa Sb k2 d2 d3;cases e0:QZ t11 with
 | none =>
  obtain rfl:=Jn Ym.o e0;have HN:=Qa e0;clear e0 Ym
  go_wp2_with (first
   | (go_at_call 128;refine(Xk S1.cur HN.o (S1.dec Vm.o) yA.o).mono ?_;rintro e wz ⟨he,kz,dz⟩;simp only[JA]at he;subst he))
  exact JZ rfl rfl ((S1.call kz dz).rb)
 | some z15 =>
 have H11:=Qa e0;replace Ym:=Qa (J3 Ym.o e0);clear e0
 go_upto_region 13 with(first
  | (go_at_call 128;refine(JD S1.cur H11.o (S1.dec Vm.o) yA.o).mono ?_;rintro e w2 ⟨rfl,k2,d2⟩;have Sb:=S1.call k2 d2)
  | (refine ZT Sb (⟨z0,z1,z2,z3,Q1,Q1,z6,t6,Q1,z9,t8,z11,gR,Q1,Q1,z15,Q1⟩) _ _ _ rfl rfl 15 _ rfl rfl rfl YT (by decide) rfl ?_;intro w3 Sa d3))
 clear S1 Sb k2 d2 d3;cases e0:QK t12 with
 | none =>
  obtain rfl:=Jn Ym.o e0;have HN:=Qa e0;clear e0 Ym
  go_wp2_with (first
   | (go_at_call 126;refine(JT Sa.cur).mono ?_;rintro e w2 ⟨rfl,k2,d2⟩;have S2:=Sa.call k2 d2)
   | (go_at_call 130;refine(EG HN.o _ yk.o (Vm.o.ext S2.rb.ext)).mono ?_;rintro e wz ⟨he,xz⟩;simp only[JA]at he;subst he))
  exact JZ rfl rfl (S2.rb.more xz)
 | some lpe =>
 have H12:=Qa e0;replace Ym:=Qa (J3 Ym.o e0);clear e0;have Qil:=Qa (λw hD=>Gl H12.o w yk.o hD)
 go_upto_region 14 with(first
  | (go_at_call 126;refine(JT Sa.cur).mono ?_;rintro e w2 ⟨rfl,k2,d2⟩;have S2:=Sa.call k2 d2)
  | (go_at_call 130;refine(Qil.o _ (Vm.o.ext S2.rb.ext)).mono ?_;rintro e w3 ⟨A1,c1,rfl,o3,x3⟩;have S3:=S2.more x3)
  | (refine ZT S3 (⟨z0,z1,z2,z3,Q1,Q1,z6,t6,Q1,z9,t8,z11,gR,Q1,⟨A1,lpe.length,c1⟩,z15,Q1⟩) _ _ _ rfl rfl 14 _ rfl rfl rfl Ey (by decide) rfl ?_;intro w4 S4 d4))
 have NF:=Q8 (Qi o3 d4 S3.rb.box (by decide)) S2.rb.ext.size;clear Sa S2 S3 k2 d2 o3 x3 d4;cases e0:QK t13 with
 | none =>
  obtain rfl:=Jn Ym.o e0;have HN:=Qa e0;clear e0 Ym
  go_wp2_with (first
   | (go_at_call 126;refine(JT S4.cur).mono ?_;rintro e w5 ⟨rfl,k5,d5⟩;have S5:=S4.call k5 d5)
   | (go_at_call 130;refine(EG HN.o _ yl.o (Vm.o.ext S5.rb.ext)).mono ?_;rintro e wz ⟨he,xz⟩;simp only[JA]at he;subst he))
  exact JZ rfl rfl (S5.rb.more xz)
 | some ldi =>
 have H13:=Qa e0;replace Ym:=Qa (J3 Ym.o e0);clear e0;have Qim:=Qa (λw hD=>Gl H13.o w yl.o hD)
 go_upto_region 15 with(first
  | (go_at_call 126;refine(JT S4.cur).mono ?_;rintro e w5 ⟨rfl,k5,d5⟩;have S5:=S4.call k5 d5)
  | (go_at_call 130;refine(Qim.o _ (Vm.o.ext S5.rb.ext)).mono ?_;rintro e w6 ⟨A2,c2,rfl,o6,x6⟩;have S6:=S5.more x6)
  | (refine ZT S6 (⟨z0,z1,z2,z3,Q1,Q1,z6,t6,Q1,z9,t8,z11,gR,Q1,⟨A1,lpe.length,c1⟩,z15,⟨A2,ldi.length,c2⟩⟩) _ _ _ rfl rfl 16 _ rfl rfl rfl Ey (by decide) rfl ?_;intro w7 S7 d7))
 have Tn:=Q8 (Qi o6 d7 S6.rb.box (by decide)) S5.rb.ext.size;replace NF:=Qi (Qc (S4.cur.own d5 NF (by decide)) x6) d7 S6.rb.box (by decide);clear S4 S5 S6 k5 d5 o6 x6 d7;cases q0:Ql none t14 with
 | none =>
  obtain rfl:=Jn Ym.o (Oy q0);have HN:=Qa q0;clear q0 Ym
  go_wp2_with (first
   | (go_at_call 126;refine(JT S7.cur).mono ?_;rintro e w8 ⟨rfl,k8,d8⟩;have S8:=S7.call k8 d8)
   | (go_at_call 125;refine(MC HN.o _ (by have:=nN.o;omega) (λn h=>by cases h)).mono ?_;rintro e wz ⟨he,xz⟩;simp only[JA]at he;subst he))
  exact JZ rfl rfl (S8.rb.more xz)
 | some T14 =>
 have yQ:=Qa (λw=>Ug q0 w (by have:=nN.o;omega) (λn h=>by cases h));have xQ:=Qa (λt ht=>YR (Zd q0 t ht) nN.o);have Qj1:=Bd q0 nN.o;replace Ym:=Qa (nt Ym.o (Oz q0));clear q0
 go_upto_region 16 with(first
  | (go_at_call 126;refine(JT S7.cur).mono ?_;rintro e w8 ⟨rfl,k8,d8⟩;have S8:=S7.call k8 d8)
  | (go_at_call 125;refine(yQ.o _).mono ?_;rintro e w9 ⟨pb,rfl,CP,hp9,x9⟩))
 have S9:=S8.more x9;replace NF:=Qc (S7.cur.own d8 NF (by decide)) x9;replace Tn:=Qc (S7.cur.own d8 Tn (by decide)) x9;have dI:=YR S8.rb.ext.size CP;have Jt:cb≠pb:=ze (Ca S8.cur.lt CP);clear S7 S8 k8 d8 x9 CP;obtain⟨mm,hmm⟩:∃mm:Sl->Sl->QO,∀pi pr,mm pi pr=⟨z0,z1,z2,z3,Q1,pr,z6,t6,pi,z9,t8,z11,gR,Q1,⟨A1,lpe.length,c1⟩,z15,⟨A2,ldi.length,c2⟩⟩:=⟨λpi pr=>⟨z0,z1,z2,z3,Q1,pr,z6,t6,pi,z9,t8,z11,gR,Q1,⟨A1,lpe.length,c1⟩,z15,⟨A2,ldi.length,c2⟩⟩,λ_ _=>rfl⟩
 rw[←hmm]at S9;have HS8:Zm (∀pi pr s:Sl,(mm pi pr).cells.setIfInBounds 8 (.slice s.A s.n s.c)=(mm s pr).cells):=Qa (λpi pr s=>by rw[hmm,hmm];rfl);have HS5:Zm (∀pi pr s:Sl,(mm pi pr).cells.setIfInBounds 5 (.slice s.A s.n s.c)=(mm pi s).cells):=Qa (λpi pr s=>by rw[hmm,hmm];rfl);have HC8:Zm (∀W pi pr,RB w W mb kb (mm pi pr)->W.cell? ⟨mb,8,none⟩=some (.slice pi.A pi.n pi.c)):=Qa (λW pi pr h=>by have:=h.box.cell 8;rw[hmm]at this;exact this);have mu:Zm (∀W pi pr,RB w W mb kb (mm pi pr)->W.cell? ⟨mb,5,none⟩=some (.slice pr.A pr.n pr.c)):=Qa (λW pi pr h=>by have:=h.box.cell 5;rw[hmm]at this;exact this);have HMM:=Qa hmm;clear hmm;have HDn:Zm (T14.length<=1000000000):=Qa (by omega);clear Qj1;go_loopw [6,7] (λ_ _ wx=>∃(q:Sl) (done:List ZY) (rest:List (List UInt8)),RC w wx mb kb cb (mm q Q1) [t15]/\QA wx pb rest/\q.n=done.length/\wx.ownsRow w.heap.size 95 2 (.slice q.A q.n q.c) done.length (done.flatMap Zn)/\wx.ownsRow w.heap.size 92 2 (.slice A1 lpe.length c1) lpe.length (lpe.flatMap Zn)/\wx.ownsRow w.heap.size 92 2 (.slice A2 ldi.length c2) ldi.length (ldi.flatMap Zn)/\Zm (Zp Jm T14=(Zp Jm rest).map (done++·))/\Zm (done.length+rest.length=T14.length)/\Zm (∀x∈rest,x.length<=100000000)) (λ_ _ wx=>T14.length-dW ((wx.cell? ⟨mb,8,none⟩).getD undef));case atStart=>exact⟨Q1,[],T14,S9,hp9,rfl,⟨rfl,.inl ⟨rfl,rfl⟩⟩,NF,Tn,Qa (Ut Jm T14),Qa (by simp),xQ⟩
 case round =>
  clear S9 hp9 NF Tn;obtain⟨q,done,rest,S,hp,hqn,oq,NF,Tn,hA,hl,hf⟩:=hrel;have HM:=Qa (TW pb rest wr hp);cases rest with
  | cons x rest =>
   have mn:=hf.o x Gq;cases qy:Ql (some 2) x with
   | none =>
    obtain rfl:=Jn Ym.o (KX hA.o (by unfold Jm;rw[qy];rfl));have gr:=Qa (λw=>MC qy w (by omega) (λn h=>by cases h;decide));clear qy Ym mn hA hl hf
    go_wp2_with (first
     | (go_at_call 131;refine HM.o.mono ?_;rintro e w2 ⟨rfl,rfl⟩)
     | (go_at_call 126;refine(JT hp).mono ?_;rintro e w2 ⟨rfl,k2,d2⟩)
     | (go_at_call 125;refine(gr.o _).mono ?_;rintro e wz ⟨he,xz⟩;simp only[JA]at he;subst he))
    exact JZ rfl rfl (((S.other hp k2 d2 dI Jt).more xz).rb)
   | some ly =>
   obtain⟨ta,tb,rfl⟩:=DJ (Yw qy);cases ny:QZ ta with
   | none =>
    obtain rfl:=Jn Ym.o (KX hA.o (by rw[EF qy,ny];rfl));have gr:=Qa (λw=>Ug qy w (by omega) (λn h=>by cases h;decide));have HLy:=Qa (show∀t∈[ta,tb],t.length<=281474976710656 fromλt ht=>by have:=Zd qy t ht;omega);have HN:=Qa ny;clear qy ny Ym mn hA hl hf
    go_upto_region 18 with(first
     | (go_at_call 131;refine HM.o.mono ?_;rintro e w2 ⟨rfl,rfl⟩)
     | (go_at_call 126;refine(JT hp).mono ?_;rintro e w2 ⟨rfl,k2,d2⟩)
     | (go_at_call 125;refine(gr.o _).mono ?_;rintro e w3 ⟨ob,rfl,hob,Mw,x3⟩))
    have S3:=(S.other hp k2 d2 dI Jt).more x3;have RK:=YR (S.other hp k2 d2 dI Jt).rb.ext.size hob;have Xz:cb≠ob:=ze (Ca (S.other hp k2 d2 dI Jt).cur.lt hob);go_wp2_with (go_at_call 128;refine(Xk Mw HN.o (λW' b=>Vm.o.ext (b.past S3.rb.ext RK)) HLy.o).mono ?_;rintro e wz ⟨he,kz,dz⟩;simp only[JA]at he;subst he)
    exact JZ rfl rfl ((S3.other Mw kz dz RK Xz).rb)
   | some n =>
   have hy:=EF qy;rw[ny]at hy;obtain⟨y,rfl,rfl⟩:∃y:ZY,y.1=n/\y.2=tb:=⟨(n,tb),rfl,rfl⟩
   replace hy:Jm x=some y:=hy;have gr:=Qa (λw=>Ug qy w (by omega) (λn h=>by cases h;decide));have HLy:=Qa (show∀t∈[ta,y.2],t.length<=281474976710656 fromλt ht=>by have:=Zd qy t ht;omega);have sR:=Qa ny;have HY:=Qa hy;clear qy ny hy mn
   go_upto_region 18 with(first
    | (go_at_call 131;refine HM.o.mono ?_;rintro e w2 ⟨rfl,rfl⟩)
    | (go_at_call 126;refine(JT hp).mono ?_;rintro e w2 ⟨rfl,k2,d2⟩)
    | (go_at_call 125;refine(gr.o _).mono ?_;rintro e w3 ⟨ob,rfl,hob,Mw,x3⟩))
   have S2:=S.other hp k2 d2 dI Jt;have S3:=S2.more x3;have hp3:=k2.ext x3;replace oq:=Qc (hp.own d2 oq (by decide)) x3;replace NF:=Qc (hp.own d2 NF (by decide)) x3;replace Tn:=Qc (hp.own d2 Tn (by decide)) x3;have RK:=YR S2.rb.ext.size hob;have Xz:cb≠ob:=ze (Ca S2.cur.lt hob);have hnp:pb≠ob:=ze (Ca k2.lt hob);have HCS:=Qa (HC8.o wr q Q1 S.rb);clear S S2 hp k2 d2 x3 hob HM gr;go_upto_region 19 with(go_at_call 128;refine(JD Mw sR.o (λW' b=>Vm.o.ext (b.past S3.rb.ext RK)) HLy.o).mono ?_;rintro e w4 ⟨rfl,k4,d4⟩)
   have S4:=S3.other Mw k4 d4 RK Xz;have hp4:=hp3.but d4 Mw hnp;replace oq:=Mw.own d4 oq (by decide);replace NF:=Mw.own d4 NF (by decide);replace Tn:=Mw.own d4 Tn (by decide);clear S3 hp3 Mw d4 sR HLy;have U6:Zm (∀a b,Ext a b->(RC w a mb kb cb (mm q Q1) [t15]/\QA a pb rest/\a.ownsRow w.heap.size 92 2 (.slice A1 lpe.length c1) lpe.length (lpe.flatMap Zn)/\a.ownsRow w.heap.size 92 2 (.slice A2 ldi.length c2) ldi.length (ldi.flatMap Zn))->(RC w b mb kb cb (mm q Q1) [t15]/\QA b pb rest/\b.ownsRow w.heap.size 92 2 (.slice A1 lpe.length c1) lpe.length (lpe.flatMap Zn)/\b.ownsRow w.heap.size 92 2 (.slice A2 ldi.length c2) ldi.length (ldi.flatMap Zn))):=Qa (λa b x h=>⟨h.1.more x,h.2.1.ext x,Qc h.2.2.1 x,Qc h.2.2.2 x⟩);have AA:done.length<=1000000000:=by have:=hl.o;have:=HDn.o;omega
   refine U5 9 [[],[0],[],[],[3],[2,4],[5],[1,6],[]] (TT [Ka (.pointer (some ⟨mb,8,none⟩)),Ka (.slice q.A q.n q.c),Ka (.int .i64 y.1),Ka (.pointer (some ⟨ob,0,none⟩)),Ka (.string (Qb y.2)),Ka (.agg #[.int .i64 y.1,.string (Qb y.2)]),ex 1 95 #[.int .i64 y.1,.string (Qb y.2)],λa u=>a.ownsRow w.heap.size 95 2 u (done.length+1) (done.flatMap Zn++Zn y),Ka (.pointer (some ⟨mb,8,none⟩))]) (λa=>RC w a mb kb cb (mm q Q1) [t15]/\QA a pb rest/\a.ownsRow w.heap.size 92 2 (.slice A1 lpe.length c1) lpe.length (lpe.flatMap Zn)/\a.ownsRow w.heap.size 92 2 (.slice A2 ldi.length c2) ldi.length (ldi.flatMap Zn)) (λk a=>(k=4->QA a ob [y.2])/\(k=7->a.ownsRow w.heap.size 95 2 (.slice q.A q.n q.c) done.length (done.flatMap Zn))) (Rk (λa=>RC w a mb kb cb (mm q Q1) [t15]/\QA a pb rest/\a.ownsRow w.heap.size 92 2 (.slice A1 lpe.length c1) lpe.length (lpe.flatMap Zn)/\a.ownsRow w.heap.size 92 2 (.slice A2 ldi.length c2) ldi.length (ldi.flatMap Zn)) ob 4 7 w.heap.size 2 95) 7 [6] (by kernel_rfl) (by kernel_rfl) (by kernel_rfl) ⟨S4.more (Qg _).drew,hp4.ext (Qg _).drew,Qc NF (Qg _).drew,Qc Tn (Qg _).drew⟩ (λj=>⟨λ_=>k4.ext (Qg _).drew,λ_=>Qc oq (Qg _).drew⟩) (λk a b h r=>r.st h) (λj k a b hjk _ hp r=>⟨λhj=>r.cur (λh=>hjk (hj.trans h.symm)) _ (hp.1 hj),λhj=>r.own (λh=>hjk (hj.trans h.symm)) _ _ _ (hp.2 hj)⟩) (λj k a b u hj hjk Mz _ r h=>by
    rcases(by omega:j=0\/j=1\/j=2\/j=3\/j=4\/j=5\/j=6\/j=7\/j=8) with rfl|rfl|rfl|rfl|rfl|rfl|rfl|rfl|rfl;all_goals first|exact h|skip
    ·obtain⟨g,e1,e2⟩:=h;exact⟨g,e1,r.box (λhk=>absurd (bK.2 rfl) (Mz hk)) _ _ e2⟩
    ·exact r.own (λhk=>hjk hk.symm) _ _ _ h) (λus=>?_)
   simp only[KG,KI,UY,KJ];rw[Qu];refine ZU (λw' hC hP hd=>?_) ?_
   ·clear hd;refine JH 69 rfl (by simp) rfl ?_;go_wp2_with fail;exact⟨Rk.same,rfl⟩
   simp only[S_];rw[Qu];refine ZU (λw' hC hP hd=>?_) ?_
   ·have h0:=hd 0 (by simp);clear hd;generalize us 0=u0 at *;obtain rfl:u0=.pointer (some ⟨mb,8,none⟩):=h0;have q0:=HC8.o w' q Q1 hC.1.rb;refine JH 70 rfl (by simp[Act.put]) rfl ?_;go_wp2_with fail;exact⟨Rk.same,rfl⟩
   simp only[S_];rw[Qu];refine ZU (λw' hC hP hd=>?_) ?_
   ·clear hd;refine JH 71 rfl (by simp[Act.put]) rfl ?_;go_wp2_with fail;exact⟨Rk.same,rfl⟩
   simp only[S_];rw[Qu];refine ZU (λw' hC hP hd=>?_) ?_
   ·clear hd;refine JH 72 rfl (by simp[Act.put]) rfl ?_;go_wp2_with fail;exact⟨Rk.same,rfl⟩
   simp only[S_];rw[Qu];refine ZU (λw' hC hP hd=>?_) ?_
   ·have h3:=hd 3 (by simp);clear hd;generalize us 3=u3 at *;obtain rfl:u3=.pointer (some ⟨ob,0,none⟩):=h3;have aB:=hP.1 rfl;refine JH 73 rfl (by simp[Act.put]) rfl ?_;go_wp2_with (go_at_call 126;refine(JT aB).mono ?_;rintro e w2 ⟨rfl,k2,d2⟩)
    exact⟨Rk.take (λh=>⟨h.1.other aB k2 d2 RK Xz,h.2.1.but d2 aB hnp,aB.own d2 h.2.2.1 (by decide),aB.own d2 h.2.2.2 (by decide)⟩) aB d2 (by decide),rfl⟩
   simp only[S_];rw[Qu];refine ZU (λw' hC hP hd=>?_) ?_
   ·have h2:=hd 2 (by simp);have h4:=hd 4 (by simp);clear hd;generalize us 2=u2 at *;generalize us 4=u4 at *;obtain rfl:u2=.int .i64 y.1:=h2;obtain rfl:u4=.string (Qb y.2):=h4;refine JH 74 rfl (by simp[Act.put]) rfl ?_;go_wp2_with fail;exact⟨Rk.same,rfl⟩
   simp only[S_];rw[Qu];refine ZU (λw' hC hP hd=>?_) ?_
   ·have h5:=hd 5 (by simp);clear hd;generalize us 5=u5 at *;obtain rfl:u5=.agg #[.int .i64 y.1,.string (Qb y.2)]:=h5;refine JH 75 rfl (by simp[Act.put]) rfl ?_;go_wp2_with fail;exact⟨Rk.ofExt (U6.o _ _ ((Qg w').alloc _)) ((Qg w').alloc _),_,rfl,Qs _ _ _⟩
   simp only[S_];rw[Qu];refine ZU (λw' hC hP hd=>?_) ?_
   ·have h1:=hd 1 (by simp);have h6:=hd 6 (by simp);clear hd;generalize us 1=u1 at *;generalize us 6=u6 at *;obtain rfl:u1=.slice q.A q.n q.c:=h1;obtain⟨g6,rfl,bg6⟩:=h6;have VD:=hC.1.rb.ext.size;have ow:=hP.2 rfl;refine JH 76 rfl (by simp[Act.put]) rfl ?_;go_wp2_with (refine Kk (Zn y) underlying33 Dp (by decide) rfl rfl (Nn y) (by decide) rfl _ _ rfl rfl rfl ow bg6 AA VD ?_;intro u9 w9 o9 g9)
    exact⟨Rk.app (λh=>⟨⟨h.1.rb.grown ow g9 (by decide) (by decide) (Q4 _),h.1.cur.grown g9 ow (by decide) (by decide),h.1.lc⟩,h.2.1.grown g9 ow (by decide) (by decide),Zz h.2.2.1 ow (by decide) g9,Zz h.2.2.2 ow (by decide) g9⟩) ow g9 (by decide) (by decide),o9⟩
   simp only[S_];rw[Qu];refine ZU (λw' hC hP hd=>?_) ?_
   ·clear hd;refine JH 77 rfl (by simp[Act.put]) rfl ?_;go_wp2_with fail;exact⟨Rk.same,rfl⟩
   simp only[S_];rw[Qu];intro w' hC hv;have h7:=hv 7 (by omega) (by decide);have h8:=hv 8 (by omega) (by decide);clear hv;generalize us 7=u7 at *;generalize us 8=u8 at *;have o7:w'.ownsRow w.heap.size 95 2 u7 (done.length+1) (done.flatMap Zn++Zn y):=h7;obtain rfl:u8=.pointer (some ⟨mb,8,none⟩):=h8;obtain⟨A3,c3,e3⟩:=Vt o7;subst e3;go_wp2_with (refine ZT hC.1 (mm ⟨A3,done.length+1,c3⟩ Q1) _ _ _ rfl rfl 8 _ rfl rfl rfl lg (by decide) (HS8.o q Q1 ⟨A3,done.length+1,c3⟩) ?_;intro w8 S8 d8)
   have bm:=hC.1.rb.box;have Pj:=Qa (HC8.o w8 ⟨A3,done.length+1,c3⟩ Q1 S8.rb);simp only[Act.put];go_roundw;case rel=>exact⟨⟨A3,done.length+1,c3⟩,done++[y],rest,S8,hC.2.1.butT d8 bm (by decide) (QA.apart (w':=w8) hC.2.1 bm (by decide)),by simp,by rw[VL,AU,bL,za,iP];exact Qi o7 d8 bm (by decide),Qi hC.2.2.1 d8 bm (by decide),Qi hC.2.2.2 d8 bm (by decide),Qa (WR hA.o HY.o),Qa (by have:=hl.o;simp only[VL,XN,Mn]at *;omega),Qa (λt ht=>hf.o t (EL _ ht))⟩
   case measure => rw[Pj.o,HCS.o];have:=hl.o;simp only[XN]at this;simp only[dW,OM];omega
  | nil =>
   replace Ym:=Qa (J3 Ym.o (Rx hA.o));generalize done=lpi at *;have FX:wr.ownsRow w.heap.size 95 2 (.slice q.A q.n q.c) lpi.length (lpi.flatMap Zn):=oq;have Hqn:=Qa (show q.n=lpi.length from hqn);clear oq hqn hA hl hf HDn xQ yQ;cases q0:Ql none t15 with
   | none =>
    obtain rfl:=Di Ym.o (eO q0);have HN:=Qa q0;clear q0 Ym
    go_wp2_with (first
     | (go_at_call 131;refine HM.o.mono ?_;rintro e w2 ⟨rfl,rfl⟩)
     | (go_at_call 126;refine(JT S.cur).mono ?_;rintro e w2 ⟨rfl,k2,d2⟩;have S8:=S.call k2 d2)
     | (go_at_call 125;refine(MC HN.o _ (by have:=nO.o;omega) (λn h=>by cases h)).mono ?_;rintro e wz ⟨he,xz⟩;simp only[JA]at he;subst he))
    exact JZ rfl rfl (S8.rb.more xz)
   | some T15 =>
   have yT:=Qa (λw=>Ug q0 w (by have:=nO.o;omega) (λn h=>by cases h));have xS:=Qa (λt ht=>YR (Zd q0 t ht) nO.o);have Qj2:=Bd q0 nO.o;replace Ym:=Qa (uX Ym.o (eP q0));clear q0;have HDr:Zm (T15.length<=1000000000):=Qa (by omega);clear Qj2
   go_upto_region 21 with(first
    | (go_at_call 131;refine HM.o.mono ?_;rintro e w2 ⟨rfl,rfl⟩)
    | (go_at_call 126;refine(JT S.cur).mono ?_;rintro e w2 ⟨rfl,k2,d2⟩)
    | (go_at_call 125;refine(yT.o _).mono ?_;rintro e w3 ⟨qb,rfl,wV,Mw,x3⟩))
   have S3:=(S.rb.call S.cur d2 S.lc).more x3;have CQ:=YR (S.rb.call S.cur d2 S.lc).ext.size wV;replace NF:=Qc (S.cur.own d2 NF (by decide)) x3;replace Tn:=Qc (S.cur.own d2 Tn (by decide)) x3;replace FX:=Qc (S.cur.own d2 FX (by decide)) x3;clear S hp dI Jt HM k2 d2 x3 wV;obtain⟨wA,hwA⟩:∃v:World,v=wr:=⟨_,rfl⟩
   subst hwA;go_loopw [84] (λ_ wx=>∃(u:Sl) (done:List QF) (rest:List (List UInt8)),RB w wx mb kb (mm q u)/\QA wx qb rest/\u.n=done.length/\wx.ownsRow w.heap.size 57 96 (.slice u.A u.n u.c) done.length (done.flatMap Qq)/\wx.ownsRow w.heap.size 92 2 (.slice A1 lpe.length c1) lpe.length (lpe.flatMap Zn)/\wx.ownsRow w.heap.size 92 2 (.slice A2 ldi.length c2) ldi.length (ldi.flatMap Zn)/\wx.ownsRow w.heap.size 95 2 (.slice q.A q.n q.c) lpi.length (lpi.flatMap Zn)/\Zm (Zp JV T15=(Zp JV rest).map (done++·))/\Zm (done.length+rest.length=T15.length)/\Zm (∀x∈rest,x.length<=100000000)) (λ_ wx=>T15.length-dW ((wx.cell? ⟨mb,5,none⟩).getD undef));case atStart=>exact⟨Q1,[],T15,S3,Mw,rfl,⟨rfl,.inl ⟨rfl,rfl⟩⟩,NF,Tn,FX,Qa (Ut JV T15),Qa (by simp),xS⟩
   case round =>
    clear S3 Mw NF Tn FX;obtain⟨u,done,rest,S,hp,Tm,oq,NF,Tn,FX,hA,hl,hf⟩:=hrel;have HM:=Qa (TW qb rest wr hp);have Hrn:=Qa Tm;clear Tm;cases rest with
    | cons x rest =>
     have mn:=hf.o x Gq;cases hy:JV x with
     | none =>
      obtain rfl:=Di Ym.o (KX hA.o hy);have yg:=Qa (λw hD=>BI hy w mn hD);clear hy mn Ym hA hl hf oq NF Tn FX;go_upto_region 22 with(go_at_call 131;refine HM.o.mono ?_;rintro e w2 ⟨rfl,rfl⟩)
      refine iS (by kernel_rfl) ?_;change wpAny _ _ _ _ _ _ _ (World.drew _);have Sd:=S.more (Qg wr).drew;have ji:=hp.ext (Qg wr).drew;clear S hp;generalize World.drew wr=wd at *;have q5:=mu.o wd q u Sd;refine OO (i:=0) (v:=.pointer (some ⟨mb,5,none⟩)) rfl (by kernel_rfl) (by kernel_rfl) (by kernel_rfl) (λc a w h=>WD (by decide) (by decide) h) (MU ⟨by rfl,?_⟩) ?_
      ·intro w;go_simp
      refine OO (i:=2) (v:=.pointer (some ⟨qb,0,none⟩)) rfl (by kernel_rfl) (by kernel_rfl) (by kernel_rfl) (λc a w h=>WD (by decide) (by decide) h) (MU ⟨by rfl,?_⟩) ?_
      ·intro w;go_simp
      refine Vf (rs:=[1,3]) (by kernel_rfl) (by simp) ?_;refine YZ rfl (λK hK=>?_) (YZ rfl (λK hK=>?_) Vh)
      ·go_simp;refine hK _ _ ?_;clear hK K;refine Vf (rs:=[3]) (by kernel_rfl) (by simp) ?_;refine YZ rfl (λK hK=>?_) Vh;go_simp;go_wp2_with (go_at_call 126;refine(JT ji).mono ?_;rintro e w2 ⟨rfl,k2,d2⟩)
       try (refine hK _ _ ?_;clear hK K)
       refine Vf (rs:=[4]) (by kernel_rfl) (by simp) ?_;refine YZ rfl (λK hK=>?_) Vh;go_simp;go_wp2_with (go_at_call 132;refine(yg.o _ (Vm.o.ext (Sd.call ji d2 CQ).ext)).mono ?_;rintro e wz ⟨he,xz⟩;simp only[JA]at he;subst he)
       exact JZ rfl rfl ((Sd.call ji d2 CQ).more xz)
      ·go_simp;go_wp2_with (go_at_call 126;refine(JT ji).mono ?_;rintro e w2 ⟨rfl,k2,d2⟩)
       try (refine hK _ _ ?_;clear hK K)
       have q6:=mu.o w2 q u (Sd.call ji d2 CQ);refine Vf (rs:=[1,4]) (by kernel_rfl) (by simp) ?_;refine YZ rfl (λK hK=>?_) (YZ rfl (λK hK=>?_) Vh)
       ·go_simp;refine hK _ _ ?_;clear hK K;refine Vf (rs:=[4]) (by kernel_rfl) (by simp) ?_;refine YZ rfl (λK hK=>?_) Vh;go_simp;go_wp2_with (go_at_call 132;refine(yg.o _ (Vm.o.ext (Sd.call ji d2 CQ).ext)).mono ?_;rintro e wz ⟨he,xz⟩;simp only[JA]at he;subst he)
        exact JZ rfl rfl ((Sd.call ji d2 CQ).more xz)
       ·go_simp;go_wp2_with (go_at_call 132;refine(yg.o _ (Vm.o.ext (Sd.call ji d2 CQ).ext)).mono ?_;rintro e wz ⟨he,xz⟩;simp only[JA]at he;subst he)
        exact JZ rfl rfl ((Sd.call ji d2 CQ).more xz)
     | some y =>
     have HPy:=Qa (λw hD=>Dx x y w hy mn hD);have HY:=Qa hy;have HCS:=Qa (mu.o wr q u S);clear hy mn;go_upto_region 22 with(go_at_call 131;refine HM.o.mono ?_;rintro e w2 ⟨rfl,rfl⟩)
     have U6:Zm (∀a b,Ext a b->(RB w a mb kb (mm q u)/\a.ownsRow w.heap.size 92 2 (.slice A1 lpe.length c1) lpe.length (lpe.flatMap Zn)/\a.ownsRow w.heap.size 92 2 (.slice A2 ldi.length c2) ldi.length (ldi.flatMap Zn)/\a.ownsRow w.heap.size 95 2 (.slice q.A q.n q.c) lpi.length (lpi.flatMap Zn))->(RB w b mb kb (mm q u)/\b.ownsRow w.heap.size 92 2 (.slice A1 lpe.length c1) lpe.length (lpe.flatMap Zn)/\b.ownsRow w.heap.size 92 2 (.slice A2 ldi.length c2) ldi.length (ldi.flatMap Zn)/\b.ownsRow w.heap.size 95 2 (.slice q.A q.n q.c) lpi.length (lpi.flatMap Zn))):=Qa (λa b x h=>⟨h.1.more x,Qc h.2.1 x,Qc h.2.2.1 x,Qc h.2.2.2 x⟩);have AA:done.length<=1000000000:=by have:=hl.o;have:=HDr.o;omega
     refine U5 8 [[],[0],[],[2],[3],[4],[1,5],[]] (TT [Ka (.pointer (some ⟨mb,5,none⟩)),Ka (.slice u.A u.n u.c),Ka (.pointer (some ⟨qb,0,none⟩)),λa u=>u=.string (Qb x)/\QA a qb rest,Ka (.agg (Qq y).toArray),ex 1 57 (Qq y).toArray,λa u=>a.ownsRow w.heap.size 57 96 u (done.length+1) (done.flatMap Qq++Qq y),Ka (.pointer (some ⟨mb,5,none⟩))]) (λa=>RB w a mb kb (mm q u)/\a.ownsRow w.heap.size 92 2 (.slice A1 lpe.length c1) lpe.length (lpe.flatMap Zn)/\a.ownsRow w.heap.size 92 2 (.slice A2 ldi.length c2) ldi.length (ldi.flatMap Zn)/\a.ownsRow w.heap.size 95 2 (.slice q.A q.n q.c) lpi.length (lpi.flatMap Zn)) (λk a=>(k=3->QA a qb (x::rest))/\(k=6->a.ownsRow w.heap.size 57 96 (.slice u.A u.n u.c) done.length (done.flatMap Qq))) (Rk (λa=>RB w a mb kb (mm q u)/\a.ownsRow w.heap.size 92 2 (.slice A1 lpe.length c1) lpe.length (lpe.flatMap Zn)/\a.ownsRow w.heap.size 92 2 (.slice A2 ldi.length c2) ldi.length (ldi.flatMap Zn)/\a.ownsRow w.heap.size 95 2 (.slice q.A q.n q.c) lpi.length (lpi.flatMap Zn)) qb 3 6 w.heap.size 96 57) 6 [5] (by kernel_rfl) (by kernel_rfl) (by kernel_rfl) ⟨S.more (Qg _).drew,Qc NF (Qg _).drew,Qc Tn (Qg _).drew,Qc FX (Qg _).drew⟩ (λj=>⟨λ_=>hp.ext (Qg _).drew,λ_=>Qc oq (Qg _).drew⟩) (λk a b h r=>r.st h) (λj k a b hjk _ hp r=>⟨λhj=>r.cur (λh=>hjk (hj.trans h.symm)) _ (hp.1 hj),λhj=>r.own (λh=>hjk (hj.trans h.symm)) _ _ _ (hp.2 hj)⟩) (λj k a b u hj hjk Mz _ r h=>by
      rcases(by omega:j=0\/j=1\/j=2\/j=3\/j=4\/j=5\/j=6\/j=7) with rfl|rfl|rfl|rfl|rfl|rfl|rfl|rfl;all_goals first|exact h|skip
      ·exact⟨h.1,r.cur (λhk=>hjk hk.symm) _ h.2⟩
      ·obtain⟨g,e1,e2⟩:=h;exact⟨g,e1,r.box (λhk=>absurd (bK.2 rfl) (Mz hk)) _ _ e2⟩
      ·exact r.own (λhk=>hjk hk.symm) _ _ _ h) (λus=>?_)
     simp only[KG,KI,UY,KJ];rw[Qu];refine ZU (λw' hC hP hd=>?_) ?_
     ·clear hd;refine JH 83 rfl (by simp) rfl ?_;go_wp2_with fail;exact⟨Rk.same,rfl⟩
     simp only[S_];rw[Qu];refine ZU (λw' hC hP hd=>?_) ?_
     ·have h0:=hd 0 (by simp);clear hd;generalize us 0=u0 at *;obtain rfl:u0=.pointer (some ⟨mb,5,none⟩):=h0;have q0:=mu.o w' q u hC.1;refine JH 84 rfl (by simp[Act.put]) rfl ?_;go_wp2_with fail;exact⟨Rk.same,rfl⟩
     simp only[S_];rw[Qu];refine ZU (λw' hC hP hd=>?_) ?_
     ·clear hd;refine JH 85 rfl (by simp[Act.put]) rfl ?_;go_wp2_with fail;exact⟨Rk.same,rfl⟩
     simp only[S_];rw[Qu];refine ZU (λw' hC hP hd=>?_) ?_
     ·have h2:=hd 2 (by simp);clear hd;generalize us 2=u2 at *;obtain rfl:u2=.pointer (some ⟨qb,0,none⟩):=h2;have aB:=hP.1 rfl;refine JH 86 rfl (by simp[Act.put]) rfl ?_;go_wp2_with (go_at_call 126;refine(JT aB).mono ?_;rintro e w2 ⟨rfl,k2,d2⟩)
      exact⟨Rk.take (λh=>⟨h.1.call aB d2 CQ,aB.own d2 h.2.1 (by decide),aB.own d2 h.2.2.1 (by decide),aB.own d2 h.2.2.2 (by decide)⟩) aB d2 (by decide),rfl,k2⟩
     simp only[S_];rw[Qu];refine ZU (λw' hC hP hd=>?_) ?_
     ·have h3:=hd 3 (by simp);clear hd;generalize us 3=u3 at *;obtain⟨rfl,hcr⟩:=h3;refine JH 87 rfl (by simp[Act.put]) rfl ?_;go_wp2_with (go_at_call 132;refine(HPy.o _ (Vm.o.ext hC.1.ext)).mono ?_;rintro e w2 ⟨rfl,x2⟩)
      exact⟨Rk.ofExt (U6.o _ _ x2) x2,rfl⟩
     simp only[S_];rw[Qu];refine ZU (λw' hC hP hd=>?_) ?_
     ·have h4:=hd 4 (by simp);clear hd;generalize us 4=u4 at *;obtain rfl:u4=.agg (Qq y).toArray:=h4;refine JH 88 rfl (by simp[Act.put]) rfl ?_;go_wp2_with (refine Vk (.tmp 87) rfl rfl y rfl ?_)
      exact⟨Rk.ofExt (U6.o _ _ ((Qg w').alloc _)) ((Qg w').alloc _),_,rfl,Qs _ _ _⟩
     simp only[S_];rw[Qu];refine ZU (λw' hC hP hd=>?_) ?_
     ·have h1:=hd 1 (by simp);have h5:=hd 5 (by simp);clear hd;generalize us 1=u1 at *;generalize us 5=u5 at *;obtain rfl:u1=.slice u.A u.n u.c:=h1;obtain⟨g5,rfl,bg5⟩:=h5;have VD:=hC.1.ext.size;have ow:=hP.2 rfl;refine JH 89 rfl (by simp[Act.put]) rfl ?_;go_wp2_with (refine Kk (u:=.slice u.A u.n u.c) (Qq y) underlying32 N7 (by decide) rfl (Q2 y) (Ky y) (by decide) rfl _ _ rfl rfl rfl ow bg5 AA VD ?_;intro u9 w9 o9 g9)
      exact⟨Rk.app (λh=>⟨h.1.grown ow g9 (by decide) (by decide) (Q4 _),Zz h.2.1 ow (by decide) g9,Zz h.2.2.1 ow (by decide) g9,Zz h.2.2.2 ow (by decide) g9⟩) ow g9 (by decide) (by decide),o9⟩
     simp only[S_];rw[Qu];refine ZU (λw' hC hP hd=>?_) ?_
     ·clear hd;refine JH 90 rfl (by simp[Act.put]) rfl ?_;go_wp2_with fail;exact⟨Rk.same,rfl⟩
     simp only[S_];rw[Qu];intro w' hC hv;have h3:=hv 3 (by omega) (by decide);have h6:=hv 6 (by omega) (by decide);have h7:=hv 7 (by omega) (by decide);clear hv;generalize us 2=u2 at *;generalize us 3=u3 at *;generalize us 6=u6 at *;generalize us 7=u7 at *;obtain⟨rfl,hcr⟩:=h3;have o7:w'.ownsRow w.heap.size 57 96 u6 (done.length+1) (done.flatMap Qq++Qq y):=h6;obtain rfl:u7=.pointer (some ⟨mb,5,none⟩):=h7;obtain⟨A3,c3,e3⟩:=Vt o7;subst e3;go_wp2_with (refine An hC.1 (mm q ⟨A3,done.length+1,c3⟩) _ _ _ rfl rfl 5 _ rfl rfl rfl B9 (by decide) (HS5.o q u ⟨A3,done.length+1,c3⟩) ?_;intro w8 S8 d8)
     have bm:=hC.1.box;have Pj:=Qa (mu.o w8 q ⟨A3,done.length+1,c3⟩ S8);simp only[Act.put];go_roundw;case rel=>exact⟨⟨A3,done.length+1,c3⟩,done++[y],rest,S8,hcr.butT d8 bm (by decide) (QA.apart (w':=w8) hcr bm (by decide)),by simp,by rw[VL,AU,bL,za,iP];exact Qi o7 d8 bm (by decide),Qi hC.2.1 d8 bm (by decide),Qi hC.2.2.1 d8 bm (by decide),Qi hC.2.2.2 d8 bm (by decide),Qa (WR hA.o HY.o),Qa (by have:=hl.o;simp only[VL,XN,Mn]at *;omega),Qa (λt ht=>hf.o t (EL _ ht))⟩
     case measure => rw[Pj.o,HCS.o];have:=hl.o;simp only[XN]at this;have h2:=Hrn.o;simp only[dW,OM];omega
    | nil =>
     obtain rfl:=kD Ym.o (Rx hA.o);generalize done=lpr at *;have dp:wr.ownsRow w.heap.size 57 96 (.slice u.A u.n u.c) lpr.length (lpr.flatMap Qq):=oq;have zJ:=Qa (show u.n=lpr.length from Hrn.o);clear oq Hrn hA hl hf HDr xS yT Ym;have bm:=S.box
     go_wp2_with (first
      | (go_at_call 131;refine HM.o.mono ?_;rintro e w2 ⟨rfl,rfl⟩)
      | (refine J2 _ _ rfl rfl mb (mm q u).cells _ _ rfl bm underlying38 rfl J1 ?_)
      | (refine JU _ _ _ rfl rfl mb (mm q u).cells _ _ rfl rfl bm J1 rfl (pO _) ?_;intro w3 b3 g3;have k3:=S.okb.grown g3 (λe=>S.ne (by injection e with e;exact e.symm)))
      | (refine QJ _ _ _ rfl rfl kb 0 _ _ _ _ rfl rfl rfl Pe k3 (by decide) rfl ?_;intro w4 b4 d4))
     have bmf:=d4.box b3 S.ne;have bkf:=b4;have xf:=d4.past (S.ext.grown g3 (λk e=>by cases e;exact S.lm)) S.lk;have fPr:=Qi (dp.kept g3 (.inr (QX dp bm (by decide)).symm)) d4 k3 (by decide);have fPi:=Qi (FX.kept g3 (.inr (QX FX bm (by decide)).symm)) d4 k3 (by decide);have fPe:=Qi (NF.kept g3 (.inr (QX NF bm (by decide)).symm)) d4 k3 (by decide);have fDi:=Qi (Tn.kept g3 (.inr (QX Tn bm (by decide)).symm)) d4 k3 (by decide);refine leaves_cons (f:=124) (args:=#[.pointer (some ⟨mb,0,none⟩),.pointer (some ⟨kb,0,none⟩)]) (by simp) (by simp[go_sem]) ?_;refine(MZ ⟨mb,0,none⟩ ⟨kb,0,none⟩ w4).mono ?_;rintro e' u' w5 ⟨rfl,rfl,rfl⟩;simp only[Leaves,settle];refine⟨_,VP w5 mb kb (mm q u) true rfl rfl bmf bkf,⟨u,q,⟨A1,lpe.length,c1⟩,⟨A2,ldi.length,c2⟩,?_,xf,zJ.o,Hqn.o,rfl,rfl,?_,?_,fPe,fDi⟩⟩
     ·rw[HMM.o]
     ·rw[zJ.o]at fPr ⊢;exact fPr
     ·rw[Hqn.o]at fPi ⊢;exact fPi
theorem Dy (s:List UInt8) (z:QO) (e:Qz) (w:World) (h:Ye s=some (z,e)) (hs:s.length<=100000000) (hD:ZG w) :
  Calls prog 68 #[.string (Qb s)] w λe' w'=>∃pr pi pe di:Sl,e'=.returned (.tuple #[.agg ({ z with pr:=pr,pi:=pi,pe:=pe,di:=di }:QO).cells,.bool true])/\Ext w w'/\pr.n=e.pr.length/\pi.n=e.pi.length/\pe.n=e.pe.length/\di.n=e.di.length/\
   w'.ownsRow w.heap.size 57 96 (.slice pr.A pr.n pr.c) pr.n (e.pr.flatMap Qq)/\w'.ownsRow w.heap.size 95 2 (.slice pi.A pi.n pi.c) pi.n (e.pi.flatMap Zn)/\w'.ownsRow w.heap.size 92 2 (.slice pe.A pe.n pe.c) pe.n (e.pe.flatMap Zn)/\w'.ownsRow w.heap.size 92 2 (.slice di.A di.n di.c) di.n (e.di.flatMap Zn) :=
 (T9 s w hs hD).mono (λe' w' k=>by rw[h]at k;exact k)
theorem Fy (l:List (List UInt8)):l.flatMap Nv=(l.map Qb).map Value.string:=by
 induction l with
 | nil=>rfl
 | cons s l ih=>rw[bL,ih];rfl
theorem Rz (s:Sl) (l:List (List UInt8)) (w:World) (h:Q6 Nv w s.A s.n l) (hk:s.ok) (E8:s.n<=100000) :
  Calls prog 53 #[.slice s.A s.n s.c] w λe w'=>∃A c,e=.returned (.slice A l.length c)/\w'.ownsRow w.heap.size 9 1 (.slice A l.length c) l.length (l.flatMap Nv)/\Ext w w':=by
 have hn:=h.1;obtain⟨A,n,c⟩:=s;simp only at h hk E8 hn ⊢;cases A with
 | none => obtain⟨rfl,rfl⟩:=hk.1 rfl;have hl:l=[]:=bM hn.symm;subst hl;refine(Tryz.slices_Clone_string_nil 0 0 w).mono λe w' ⟨h1,h2⟩=>?_;subst h1 h2;exact⟨none,0,rfl,⟨rfl,.inl ⟨rfl,rfl⟩⟩,Qg _⟩
 | some a =>
  by_cases h0:n=0
  ·subst h0;have hl:l=[]:=bM hn.symm;subst hl;refine(Tryz.slices_Clone_string_zero a c w).mono λe w' ⟨v,h1,h2,_,h3⟩=>?_;obtain⟨A',c',rfl⟩:=Vs h2;exact⟨A',c',h1,h2,h3⟩
  ·obtain⟨b,o,e1,hc⟩:=h.2 (by omega);injection e1 with e1;subst e1;refine(Tryz.slices_Clone_string b o n c (l.map Qb) w (by rw[AR];omega) (by omega) (λj hj=>?_)).mono λe w' ⟨v,h1,h2,_,h3⟩=>?_
   ·rw[AR]at hj;refine hc j _ ?_;rw[Fy];simp[hj,Yb]
   ·rw[qr (by rw[AR];omega),←Fy]at h2;subst hn;obtain⟨A',c',rfl⟩:=Vs h2;exact⟨A',c',h1,h2,h3⟩
theorem ZI {w:World}{base z:Nat}{e:TypeId}{s:Sl}{xs:List Value}(h:w.ownsRow base e z (.slice s.A s.n s.c) s.n xs) (hs:s.n<=100000):s.ok:=by
 refine⟨λhA=>?_,by unfold maxLen;omega,?_⟩
 ·rcases h.2 with⟨e1,_⟩|⟨g,cap,cur,e1,_⟩
  ·injection e1 with _ e2 e3;exact⟨e2,e3⟩
  ·injection e1 with e1;rw[hA]at e1;cases e1
 ·rcases h.2 with⟨e1,_⟩|⟨g,cap,cur,e1,_,_,hc,_⟩
  ·injection e1 with _ e2 e3;omega
  ·injection e1 with _ _ e3;omega
theorem Td {m z:QO}{d:Qz}(s:Zv z m):Z7 z d=Z7 m d:=by
 unfold Z7 NL;rw[s.clock,s.quantum,s.cur,s.left,s.next,s.init,s.newPipe,s.inn,s.fin,s.told,s.dleft]
theorem Ra {m z:QO}{d:Qz}(h:Y4 m d) (s:Zv z m):Y4 z d :=
 ⟨by rw[s.clock];exact h.clock,by rw[s.told];exact h.told,by rw[s.quantum];exact h.quantum,by rw[s.cur];exact h.cur,by rw[s.left];exact h.left,by rw[s.next];exact h.next,by rw[s.newPipe];exact h.newPipe,by rw[s.dleft];exact h.dleft,
  by rw[s.init];exact h.init,by rw[s.inn];exact h.inn,h.pe,h.di,h.pi,h.pr,h.pel,h.dil,h.pil,h.prl⟩
theorem Hu:(prog.info? 22).map (·.size)=some 1:=by kernel_rfl
theorem Y2 (w:World) (e:TypeId) (z:Nat):(w.alloc (.cells #[] e)).ownsRow w.heap.size e z (.slice (some ⟨w.heap.size,0,none⟩) 0 0) 0 [] :=
 ⟨by simp,.inr ⟨w.heap.size,0,#[],rfl,Q4 _,World.alloc_heap_new w _,Q4 _,by unfold maxLen;omega,by simp,by simp⟩⟩
theorem cI (s:Sl) (l:List QF) (w:World) (h:Q6 Qq w s.A s.n l) (hk:s.ok) (E8:s.n<=100000) :
  Calls prog 77 #[.slice s.A s.n s.c] w λe w'=>∃s':Sl,e=.returned (.slice s'.A s'.n s'.c)/\s'.n=l.length/\s'.ok/\w'.ownsRow w.heap.size 57 96 (.slice s'.A s'.n s'.c) s'.n (l.flatMap Qq)/\Ext w w':=by
 have hn:=h.1;have qq:∀(w:World) (a:Option Addr) (n c n' c':Nat),(binOp .eql 32 (.slice a n c) (.slice none n' c')).run prog w=.ok (.bool a.isNone) w:=λw a n c n' c'=>Wfe w _ _ a n c n' c' underlying32;by_cases hA:s.A=none
 ·obtain⟨h1,h2⟩:=hk.1 hA;have hl:l=[]:=bM (by omega);subst hl;rw[hA,h1,h2];clear h hk E8 hn h1 h2 hA;go_enter func77,ntmps77;go_wp2_with fail;go_ret;exact⟨⟨none,0,0⟩,rfl,rfl,⟨λ_=>⟨rfl,rfl⟩,by unfold maxLen;decide,Q4 _⟩,⟨rfl,.inl ⟨rfl,rfl⟩⟩,Qg _⟩
 ·obtain⟨p,hp⟩:∃p,s.A=some p:=by cases hq:s.A with
   | none=>exact absurd hq hA
   | some p=>exact⟨p,rfl⟩
  have HO:=Qa (Y2 w 57 96);have x0:=(Qg w).alloc (.cells #[] 57);have HR:=Qa (h.ext x0);have HK:=Qa hk;have HN:=Qa hn;have HP:=Qa hp;rw[hp];clear h hk hn hA hp;go_enter func77,ntmps77;have VD:w.heap.size<=(w.alloc (.cells #[] 57)).heap.size:=x0.size
  go_wp2_with (first
   | (refine KB (B0:=0) Qq 32 57 96 568 (.agg (Qq JK).toArray) w.heap.size (l0:=[]) ⟨some ⟨w.heap.size,0,none⟩,0,0⟩ ⟨s.A,s.n,s.c⟩ underlying32 N7 (by decide) rfl rfl _ _ rfl rfl (by rw[HP.o];rfl) HO.o rfl HR.o HK.o Q2 Ky (by show 0+s.n<=100000;omega) (by show(0+s.n)*568<=140737488355328;omega) VD ?_;intro s' w2 FN _ ho' FM;have Rs:=Qa FN;clear FN))
  go_ret;have GR:s'.n=s.n:=Rs.o.trans (Nz _);exact⟨s',rfl,GR.trans HN.o,(ZI ho' (by omega)),ho',x0.grown FM (λj e=>by cases e;exact Q4 _)⟩
theorem cH (s:Sl) (l:List ZY) (w:World) (h:Q6 Zn w s.A s.n l) (hk:s.ok) (E8:s.n<=100000) :
  Calls prog 78 #[.slice s.A s.n s.c] w λe w'=>∃s':Sl,e=.returned (.slice s'.A s'.n s'.c)/\s'.n=l.length/\s'.ok/\w'.ownsRow w.heap.size 95 2 (.slice s'.A s'.n s'.c) s'.n (l.flatMap Zn)/\Ext w w':=by
 have hn:=h.1;have qq:∀(w:World) (a:Option Addr) (n c n' c':Nat),(binOp .eql 33 (.slice a n c) (.slice none n' c')).run prog w=.ok (.bool a.isNone) w:=λw a n c n' c'=>Wfe w _ _ a n c n' c' underlying33;by_cases hA:s.A=none
 ·obtain⟨h1,h2⟩:=hk.1 hA;have hl:l=[]:=bM (by omega);subst hl;rw[hA,h1,h2];clear h hk E8 hn h1 h2 hA;go_enter func78,ntmps78;go_wp2_with fail;go_ret;exact⟨⟨none,0,0⟩,rfl,rfl,⟨λ_=>⟨rfl,rfl⟩,by unfold maxLen;decide,Q4 _⟩,⟨rfl,.inl ⟨rfl,rfl⟩⟩,Qg _⟩
 ·obtain⟨p,hp⟩:∃p,s.A=some p:=by cases hq:s.A with
   | none=>exact absurd hq hA
   | some p=>exact⟨p,rfl⟩
  have HO:=Qa (Y2 w 95 2);have x0:=(Qg w).alloc (.cells #[] 95);have HR:=Qa (h.ext x0);have HK:=Qa hk;have HN:=Qa hn;have HP:=Qa hp;rw[hp];clear h hk hn hA hp;go_enter func78,ntmps78;have VD:w.heap.size<=(w.alloc (.cells #[] 95)).heap.size:=x0.size
  go_wp2_with (first
   | (refine KB (B0:=0) Zn 33 95 2 24 (.agg #[.int .i64 0,.string ⟨#[]⟩]) w.heap.size (l0:=[]) ⟨some ⟨w.heap.size,0,none⟩,0,0⟩ ⟨s.A,s.n,s.c⟩ underlying33 Dp (by decide) rfl rfl _ _ rfl rfl (by rw[HP.o];rfl) HO.o rfl HR.o HK.o ao Nn (by show 0+s.n<=100000;omega) (by show(0+s.n)*24<=140737488355328;omega) VD ?_;intro s' w2 FN _ ho' FM;have Rs:=Qa FN;clear FN))
  go_ret;have GR:s'.n=s.n:=Rs.o.trans (Nz _);exact⟨s',rfl,GR.trans HN.o,(ZI ho' (by omega)),ho',x0.grown FM (λj e=>by cases e;exact Q4 _)⟩
theorem Fo (s:Sl) (l:List ZY) (w:World) (h:Q6 Zn w s.A s.n l) (hk:s.ok) (E8:s.n<=100000) :
  Calls prog 79 #[.slice s.A s.n s.c] w λe w'=>∃s':Sl,e=.returned (.slice s'.A s'.n s'.c)/\s'.n=l.length/\s'.ok/\w'.ownsRow w.heap.size 92 2 (.slice s'.A s'.n s'.c) s'.n (l.flatMap Zn)/\Ext w w':=by
 have hn:=h.1;have qq:∀(w:World) (a:Option Addr) (n c n' c':Nat),(binOp .eql 34 (.slice a n c) (.slice none n' c')).run prog w=.ok (.bool a.isNone) w:=λw a n c n' c'=>Wfe w _ _ a n c n' c' underlying34;by_cases hA:s.A=none
 ·obtain⟨h1,h2⟩:=hk.1 hA;have hl:l=[]:=bM (by omega);subst hl;rw[hA,h1,h2];clear h hk E8 hn h1 h2 hA;go_enter func79,ntmps79;go_wp2_with fail;go_ret;exact⟨⟨none,0,0⟩,rfl,rfl,⟨λ_=>⟨rfl,rfl⟩,by unfold maxLen;decide,Q4 _⟩,⟨rfl,.inl ⟨rfl,rfl⟩⟩,Qg _⟩
 ·obtain⟨p,hp⟩:∃p,s.A=some p:=by cases hq:s.A with
   | none=>exact absurd hq hA
   | some p=>exact⟨p,rfl⟩
  have HO:=Qa (Y2 w 92 2);have x0:=(Qg w).alloc (.cells #[] 92);have HR:=Qa (h.ext x0);have HK:=Qa hk;have HN:=Qa hn;have HP:=Qa hp;rw[hp];clear h hk hn hA hp;go_enter func79,ntmps79;have VD:w.heap.size<=(w.alloc (.cells #[] 92)).heap.size:=x0.size
  go_wp2_with (first
   | (refine KB (B0:=0) Zn 34 92 2 24 (.agg #[.int .i64 0,.string ⟨#[]⟩]) w.heap.size (l0:=[]) ⟨some ⟨w.heap.size,0,none⟩,0,0⟩ ⟨s.A,s.n,s.c⟩ underlying34 lz (by decide) rfl rfl _ _ rfl rfl (by rw[HP.o];rfl) HO.o rfl HR.o HK.o ao Nn (by show 0+s.n<=100000;omega) (by show(0+s.n)*24<=140737488355328;omega) VD ?_;intro s' w2 FN _ ho' FM;have Rs:=Qa FN;clear FN))
  go_ret;have GR:s'.n=s.n:=Rs.o.trans (Nz _);exact⟨s',rfl,GR.trans HN.o,(ZI ho' (by omega)),ho',x0.grown FM (λj e=>by cases e;exact Q4 _)⟩
theorem M1 (s:Sl) (l:List (List UInt8)) (w:World) (h:Q6 Nv w s.A s.n l) (hk:s.ok) (E8:s.n<=100000) :
  Calls prog 53 #[.slice s.A s.n s.c] w λe w'=>∃s':Sl,e=.returned (.slice s'.A s'.n s'.c)/\s'.n=l.length/\s'.ok/\w'.ownsRow w.heap.size 9 1 (.slice s'.A s'.n s'.c) s'.n (l.flatMap Nv)/\Ext w w':=by
 have hn:=h.1;exact(Rz s l w h hk E8).mono λe w' ⟨A,c,h1,h2,h3⟩=>⟨⟨A,l.length,c⟩,h1,rfl,ZI (s:=⟨A,l.length,c⟩) h2 (by show l.length<=100000;omega),h2,h3⟩
theorem Xb {w:World}{base z n k:Nat}{e:TypeId}{v:Value}{xs:List Value}(h:w.ownsRow base e z v n xs) (hk:v.ownBlock=some k):k<w.heap.size:=by
 rcases h.2 with⟨rfl,_⟩|⟨g,cap,cur,rfl,_,hb,_⟩
 ·cases hk
 ·have:g=k:=by simpa[Value.ownBlock]using hk
  subst this;exact(Fa.1 hb).1
structure Zf (w:World) (B:Nat) (m:QO) (d:Qz):Prop where
 fr:w.ownsRow B 9 1 (.slice m.fr.A m.fr.n m.fr.c) m.fr.n (d.fr.flatMap Nv)
 pr:w.ownsRow B 57 96 (.slice m.pr.A m.pr.n m.pr.c) m.pr.n (d.pr.flatMap Qq)
 pi:w.ownsRow B 95 2 (.slice m.pi.A m.pi.n m.pi.c) m.pi.n (d.pi.flatMap Zn)
 bl:w.ownsRow B 9 1 (.slice m.bl.A m.bl.n m.bl.c) m.bl.n (d.bl.flatMap Nv)
 pe:w.ownsRow B 92 2 (.slice m.pe.A m.pe.n m.pe.c) m.pe.n (d.pe.flatMap Zn)
 di:w.ownsRow B 92 2 (.slice m.di.A m.di.n m.di.c) m.di.n (d.di.flatMap Zn)
 frn:m.fr.n=d.fr.length
 prn:m.pr.n=d.pr.length
 pin:m.pi.n=d.pi.length
 bln:m.bl.n=d.bl.length
 pen:m.pe.n=d.pe.length
 din:m.di.n=d.di.length
 apart:∀k,(Value.slice m.fr.A m.fr.n m.fr.c).ownBlock=some k->(Value.slice m.bl.A m.bl.n m.bl.c).ownBlock≠some k
theorem Zf.toIn {w:World}{B:Nat}{m:QO}{d:Qz}(h:Zf w B m d) (hs:YY m) (h1:m.init.length<=maxLen) (h2:m.inn.length<=maxLen) (h3:(Lit.int .i64 m.dleft).wf=true):Q0 w m d :=
 ⟨J5 h.fr (λ_ _=>rfl) h.frn rfl,J5 h.pr (λ_ _=>Q2 _) h.prn rfl,J5 h.pi (λ_ _=>rfl) h.pin rfl,J5 h.bl (λ_ _=>rfl) h.bln rfl,J5 h.pe (λ_ _=>rfl) h.pen rfl,J5 h.di (λ_ _=>rfl) h.din rfl,
  ZI h.fr hs.fr,ZI h.pr hs.pr,ZI h.pi hs.pi,ZI h.bl hs.bl,ZI h.pe hs.pe,ZI h.di hs.di,h1,h2,h3⟩
theorem Zf.ext {w w':World}{B:Nat}{m:QO}{d:Qz}(h:Zf w B m d) (x:Ext w w'):Zf w' B m d:=⟨Qc h.fr x,Qc h.pr x,Qc h.pi x,Qc h.bl x,Qc h.pe x,Qc h.di x,h.frn,h.prn,h.pin,h.bln,h.pen,h.din,h.apart⟩
theorem Zf.grown {w w':World}{B g:Nat}{m:QO}{d:Qz}{cs:Array Value}{t:TypeId}(ht:∀T∈[9,57,95,92],T≠t) (h:Zf w B m d) (hb:Box w g t cs) (hg:w.grownBy w' (some g)):Zf w' B m d :=
 ⟨h.fr.kept hg (.inr (QX h.fr hb (ht _ (by simp))).symm),h.pr.kept hg (.inr (QX h.pr hb (ht _ (by simp))).symm),h.pi.kept hg (.inr (QX h.pi hb (ht _ (by simp))).symm),h.bl.kept hg (.inr (QX h.bl hb (ht _ (by simp))).symm),h.pe.kept hg (.inr (QX h.pe hb (ht _ (by simp))).symm),h.di.kept hg (.inr (QX h.di hb (ht _ (by simp))).symm),h.frn,h.prn,h.pin,h.bln,h.pen,h.din,h.apart⟩
theorem ir (m:QO) (d:Qz) (w:World) (hi:Q0 w m d) (hs:YY m) :
  Calls prog 36 #[.agg m.cells] w λe w'=>∃fr pr pi bl pe di:Sl,e=.returned (.agg (m.with fr pr pi bl pe di).cells)/\Ext w w'/\Zf w' w.heap.size (m.with fr pr pi bl pe di) d:=by
 have Qgx:=Qa (λw h=>M1 m.fr d.fr w h hi.frk hs.fr);have Qg0:=Qa (λw h=>cI m.pr d.pr w h hi.prk hs.pr);have Qgz:=Qa (λw h=>cH m.pi d.pi w h hi.pik hs.pi);have Qgv:=Qa (λw h=>M1 m.bl d.bl w h hi.blk hs.bl);have Qgy:=Qa (λw h=>Fo m.pe d.pe w h hi.pek hs.pe);have Qgw:=Qa (λw h=>Fo m.di d.di w h hi.dik hs.di);have x0:=((Qg w).alloc (.cells m.cells 38)).alloc (.cells QB.cells 38);have bm:=(Qs w 38 m.cells).ext ((Qg _).alloc (.cells QB.cells 38));have br:=Qs (w.alloc (.cells m.cells 38)) 38 QB.cells;rw[YB]at br;have HI:=Qa hi;clear hi hs;go_enter func36,ntmps36;go_upto_region 1 with fail;change Code.wp _ _ _ _ ((w.alloc (.cells m.cells 38)).alloc (.cells QB.cells 38));generalize (w.alloc (.cells m.cells 38)).alloc (.cells QB.cells 38)=w0 at x0 bm br HI ⊢;obtain⟨G,hG⟩:∃G,G=w.heap.size:=⟨_,rfl⟩
 rw[←hG]at bm br ⊢;have HG:=Qa hG;clear hG;have X0:=x0;have q4:w0.cell? ⟨G,4,none⟩=some (.slice m.fr.A m.fr.n m.fr.c):=bm.cell 4
 go_upto_region 2 with(first
  | (go_at_call 53;refine(Qgx.o _ (HI.o.fr.ext X0)).mono ?_;rintro e w1 ⟨sfr,rfl,nfr,kfr,ofr,x1⟩;have Nfr:=Qa nfr;clear nfr kfr)
  | (refine QJ _ _ _ rfl rfl G 4 _ _ ({ m with fr:=sfr }:QO).cells _ rfl rfl rfl Hu (bm.ext x1) (show 4<17 by decide) rfl ?_;intro w2 b2 d2))
 have b1:=bm.ext x1;replace ofr:=Q8 (Qi ofr d2 b1 (by decide)) X0.size;replace br:=d2.box (br.ext x1) (vj _);replace X0:=d2.past (X0.trans x1) (Fc HG.o.symm);clear bm b1 x1 d2 q4;have bm:=b2;clear b2;have q5:w2.cell? ⟨G,5,none⟩=some (.slice m.pr.A m.pr.n m.pr.c):=bm.cell 5
 go_upto_region 3 with(first
  | (go_at_call 77;refine(Qg0.o _ (HI.o.pr.ext X0)).mono ?_;rintro e w3 ⟨spr,rfl,npr,kpr,opr,x1⟩;have Npr:=Qa npr;clear npr kpr)
  | (refine QJ _ _ _ rfl rfl G 5 _ _ ({ m with fr:=sfr,pr:=spr }:QO).cells _ rfl rfl rfl B9 (bm.ext x1) (show 5<17 by decide) rfl ?_;intro w4 b2 d2))
 have b1:=bm.ext x1;replace ofr:=Qi (Qc ofr x1) d2 b1 (by decide);replace opr:=Q8 (Qi opr d2 b1 (by decide)) X0.size;replace br:=d2.box (br.ext x1) (vj _);replace X0:=d2.past (X0.trans x1) (Fc HG.o.symm);clear bm b1 x1 d2 q5;have bm:=b2;clear b2;have q8:w4.cell? ⟨G,8,none⟩=some (.slice m.pi.A m.pi.n m.pi.c):=bm.cell 8
 go_upto_region 4 with(first
  | (go_at_call 78;refine(Qgz.o _ (HI.o.pi.ext X0)).mono ?_;rintro e w5 ⟨spi,rfl,npi,kpi,opi,x1⟩;have Npi:=Qa npi;clear npi kpi)
  | (refine QJ _ _ _ rfl rfl G 8 _ _ ({ m with fr:=sfr,pr:=spr,pi:=spi }:QO).cells _ rfl rfl rfl lg (bm.ext x1) (show 8<17 by decide) rfl ?_;intro w6 b2 d2))
 have b1:=bm.ext x1;replace ofr:=Qi (Qc ofr x1) d2 b1 (by decide);replace opr:=Qi (Qc opr x1) d2 b1 (by decide);replace opi:=Q8 (Qi opi d2 b1 (by decide)) X0.size;replace br:=d2.box (br.ext x1) (vj _);replace X0:=d2.past (X0.trans x1) (Fc HG.o.symm);clear bm b1 x1 d2 q8;have bm:=b2;clear b2;have IC:w6.cell? ⟨G,13,none⟩=some (.slice m.bl.A m.bl.n m.bl.c):=bm.cell 13
 go_upto_region 5 with(first
  | (go_at_call 53;refine(Qgv.o _ (HI.o.bl.ext X0)).mono ?_;rintro e w7 ⟨sbl,rfl,nbl,kbl,obl,x1⟩;have Nbl:=Qa nbl;clear nbl kbl)
  | (refine QJ _ _ _ rfl rfl G 13 _ _ ({ m with fr:=sfr,pr:=spr,pi:=spi,bl:=sbl }:QO).cells _ rfl rfl rfl Hu (bm.ext x1) (show 13<17 by decide) rfl ?_;intro w8 b2 d2))
 have b1:=bm.ext x1;have Qco:=obl;have Qcp:=ofr;replace ofr:=Qi (Qc ofr x1) d2 b1 (by decide);replace opr:=Qi (Qc opr x1) d2 b1 (by decide);replace opi:=Qi (Qc opi x1) d2 b1 (by decide);replace obl:=Q8 (Qi obl d2 b1 (by decide)) X0.size;replace br:=d2.box (br.ext x1) (vj _);replace X0:=d2.past (X0.trans x1) (Fc HG.o.symm);have HAP:=Qa (show∀k,(Value.slice sfr.A sfr.n sfr.c).ownBlock=some k->(Value.slice sbl.A sbl.n sbl.c).ownBlock≠some k fromλk h1 h2=>by
  have e1:=QU Qco h2;have e2:=Xb Qcp h1;omega)
 clear Qco Qcp;clear bm b1 x1 d2 IC;have bm:=b2;clear b2;have ID:w8.cell? ⟨G,14,none⟩=some (.slice m.pe.A m.pe.n m.pe.c):=bm.cell 14
 go_upto_region 6 with(first
  | (go_at_call 79;refine(Qgy.o _ (HI.o.pe.ext X0)).mono ?_;rintro e w9 ⟨spe,rfl,npe,kpe,ope,x1⟩;have Npe:=Qa npe;clear npe kpe)
  | (refine QJ _ _ _ rfl rfl G 14 _ _ ({ m with fr:=sfr,pr:=spr,pi:=spi,bl:=sbl,pe:=spe }:QO).cells _ rfl rfl rfl Ey (bm.ext x1) (show 14<17 by decide) rfl ?_;intro gP b2 d2))
 have b1:=bm.ext x1;replace ofr:=Qi (Qc ofr x1) d2 b1 (by decide);replace opr:=Qi (Qc opr x1) d2 b1 (by decide);replace opi:=Qi (Qc opi x1) d2 b1 (by decide);replace obl:=Qi (Qc obl x1) d2 b1 (by decide);replace ope:=Q8 (Qi ope d2 b1 (by decide)) X0.size;replace br:=d2.box (br.ext x1) (vj _);replace X0:=d2.past (X0.trans x1) (Fc HG.o.symm);clear bm b1 x1 d2 ID;have bm:=b2;clear b2;have eU:gP.cell? ⟨G,16,none⟩=some (.slice m.di.A m.di.n m.di.c):=bm.cell 16
 go_upto_region 7 with(first
  | (go_at_call 79;refine(Qgw.o _ (HI.o.di.ext X0)).mono ?_;rintro e wg ⟨sdi,rfl,ndi,kdi,odi,x1⟩;have Ndi:=Qa ndi;clear ndi kdi)
  | (refine QJ _ _ _ rfl rfl G 16 _ _ ({ m with fr:=sfr,pr:=spr,pi:=spi,bl:=sbl,pe:=spe,di:=sdi }:QO).cells _ rfl rfl rfl Ey (bm.ext x1) (show 16<17 by decide) rfl ?_;intro w12 b2 d2))
 have b1:=bm.ext x1;replace ofr:=Qi (Qc ofr x1) d2 b1 (by decide);replace opr:=Qi (Qc opr x1) d2 b1 (by decide);replace opi:=Qi (Qc opi x1) d2 b1 (by decide);replace obl:=Qi (Qc obl x1) d2 b1 (by decide);replace ope:=Qi (Qc ope x1) d2 b1 (by decide);replace odi:=Q8 (Qi odi d2 b1 (by decide)) X0.size;replace br:=d2.box (br.ext x1) (vj _);replace X0:=d2.past (X0.trans x1) (Fc HG.o.symm);clear bm b1 x1 d2 eU;have bm:=b2;clear b2
 go_wp2_with (first
  | (refine Qo _ rfl rfl G _ _ rfl bm rfl ?_)
  | (refine Qr _ _ rfl rfl (G+1) (m.with sfr spr spi sbl spe sdi) _ _ rfl rfl br rfl ?_;intro w13 b13 g13))
 have HO:Zf w12 w.heap.size (m.with sfr spr spi sbl spe sdi) d:=⟨ofr,opr,opi,obl,ope,odi,Nfr.o,Npr.o,Npi.o,Nbl.o,Npe.o,Ndi.o,HAP.o⟩
 refine Jv (QQ rfl _ _ (G+1) _ _ _ rfl b13 underlying38 rfl Vi) rfl ⟨sfr,spr,spi,sbl,spe,sdi,rfl,X0.grown g13 (λj e=>by cases e;rw[HG.o];exact WQ _),HO.grown (by decide) br g13⟩
end Go.Proofs.YtfaplefkakpgcaaGreatDoor
