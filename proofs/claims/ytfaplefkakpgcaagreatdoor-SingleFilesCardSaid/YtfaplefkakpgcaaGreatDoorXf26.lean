/- image.readRest: what stands while a machine is read. -/
import Derived.Test.YtfaplefkakpgcaaGreatDoorXf24
import Derived.Test.YtfaplefkakpgcaaGreatDoorXf5
import Derived.Recover
import Derived.Great.BuildSlice
import Derived.Defers
import Derived.Test.YtfaplefkakpgcaaGreatDoorXf25
import Derived.Test.YtfaplefkakpgcaaGreatDoorXf3
set_option linter.unusedVariables false
set_option linter.unusedSimpArgs false
set_option maxHeartbeats 32000000
set_option maxRecDepth 100000
namespace Go.Proofs.YtfaplefkakpgcaaGreatDoor
open Go.Proofs.Tryz
open Go.RowKit
structure RB (w W:World) (mb kb:Nat) (m:Mac):Prop where
 box:Box W mb 38 m.cells
 okb:Box W kb 4 #[.bool false]
 ext:Ext w W
 ne:mb≠kb
 lm:w.heap.size<=mb
 lk:w.heap.size<=kb
namespace RB
variable {w W W':World}{mb kb xb:Nat}{m:Mac}{L:List (List UInt8)}
theorem more (h:RB w W mb kb m) (x:Ext W W'):RB w W' mb kb m:=⟨h.box.ext x,h.okb.ext x,h.ext.trans x,h.ne,h.lm,h.lk⟩
theorem call (h:RB w W mb kb m) (c:CurIn W xb L) (b:But xb W W') (hx:w.heap.size<=xb):RB w W' mb kb m:=by
 obtain⟨A,n,d,k1,_,_⟩:=c;exact⟨b.box h.box (h.box.apart k1 (by decide)),b.box h.okb (h.okb.apart k1 (by decide)),b.past h.ext hx,h.ne,h.lm,h.lk⟩
theorem grown {B z n:Nat}{u:Value}{xs:List Value}{t:TypeId}(h:RB w W mb kb m) (o:W.ownsRow B t z u n xs) (g:W.grownBy W' u.ownBlock) (h1:t≠38) (h2:t≠4) (hB:w.heap.size<=B):RB w W' mb kb m :=
 ⟨h.box.grown g (own_ne o h.box h1),h.okb.grown g (own_ne o h.okb h2),h.ext.grown g (λk e=>Nat.le_trans hB (own_low o e)),h.ne,h.lm,h.lk⟩
theorem but (h:RB w W mb kb m) (b:But mb W W') (m':Mac) (hb:Box W' mb 38 m'.cells):RB w W' mb kb m' :=
 ⟨hb,b.box h.okb (Ne.symm h.ne),b.past h.ext h.lm,h.ne,h.lm,h.lk⟩
end RB
theorem CurIn.apart {w w':World}{b b':Nat}{L:List (List UInt8)}{T:TypeId}{cs:Array Value}(h:CurIn w b L) (hb:Box w b' T cs) (ht:253≠T):b≠b':=by
 obtain⟨A,n,d,k1,_,_⟩:=h;exact k1.apart hb ht
section
variable {ops:Array Oper}{rest:List Oper}{o:Oper}{a:Act}{w0 W:World}{Q:Exit->Act->World->Prop}{mb kb:Nat}{m:Mac}
theorem wp_st_rb (S:RB w0 W mb kb m) (m':Mac) (T:TypeId) (x z:Operand) (hgd:o.guard=none) (ho:o.op=.store T x z) (i:Nat) (v:Value) (hx:a.eval x=.pointer (some ⟨mb,i,none⟩)) (hy:a.eval z=v) (hv:v.oneCell'=true)
  (hi:(prog.info? T).map (·.size)=some 1) (hlt:i<17) (he:m.cells.setIfInBounds i v=m'.cells)
  (hK:∀W',RB w0 W' mb kb m'->But mb W W'->wpList prog ops Q rest (a.put o.dst undef) W'):wpList prog ops Q (o::rest) a W :=
 wp_st_cell T x z hgd ho mb i v _ _ _ hx hy hv hi S.box hlt he (λW' b d=>hK W' (S.but d m' b) d)
theorem fill_proc (y:PrT):Instr.fill (λi=>some (i*96,96)) ((Array.range (1*96)).map ((Value.agg (prL zeroPr).toArray).cells[·%(Value.agg (prL zeroPr).toArray).cells.size]!)) [(0,.agg (prL y).toArray)]=some (prL y).toArray:=by kernel_rfl
theorem wp_build_proc (x:Operand) (hgd:o.guard=none) (ho:o.op=.buildSlice 32 1 #[(0,x)]) (y:PrT) (hx:a.eval x=.agg (prL y).toArray)
  (hK:wpList prog ops Q rest (a.put o.dst (.slice (some ⟨W.heap.size,0,none⟩) 1 1)) (W.alloc (.cells (prL y).toArray 57))):wpList prog ops Q (o::rest) a W:=by
 obtain⟨i,hi,hz,h1,h2⟩:=info_parts prInfo;refine wpList_buildSlice hgd 32 57 1 #[(0,x)] ho (prL y).toArray i _ underlying32 hi hz (by rw[h1];decide) (by rw[h1];decide) ?_ hK;rw[h1];have e:((#[(0,x)]:Array (Nat × Operand)).map λ(i,x)=>(i,a.eval x)).toList=[(0,.agg (prL y).toArray)]:=by simp[hx]
 rw[e];exact fill_proc y
theorem wp_app_one {S E:TypeId}{zv:Value}{z bytes B g n:Nat}{u:Value}{xs:List Value}(y:List Value) (hu:prog.underlying S=some (.slice E)) (hinf:(prog.info? E).map (λi=>(i.zero,i.size,i.bytes))=some (some zv,z,bytes)) (hz0:0<z) (hzc:zv.cells.size=z)
  (hyl:y.length=z) (hyo:∀v∈y,v.oneCell'=true) (hby:bytes<=1000) (hgd:o.guard=none) (sl x:Operand)
  (ho:o.op=.call { callee:=.builtin .append,args:=#[sl,x],argTypes:=#[S,S] }) (hs:a.eval sl=u) (hx:a.eval x=.slice (some ⟨g,0,none⟩) 1 1)
  (h0:W.ownsRow B E z u n xs) (hb:Box W g E y.toArray) (hn:n<=1000000000) (hB:B<=W.heap.size)
  (hK:∀u' W',W'.ownsRow B E z u' (n+1) (xs++y)->W.grownBy W' u.ownBlock->wpList prog ops Q rest (a.put o.dst u') W'):wpList prog ops Q (o::rest) a W:=by
 refine wpList_plain hgd λK hK'=>?_;obtain⟨i,hi,hz,h1,h2⟩:=info_parts hinf;obtain⟨v',w',hr,ho2,hg,_,_⟩:=run_append_own_at (P:=prog) W B S o.type E i zv z bytes hu hi hz h1 h2 hzc hz0 u n xs h0 ⟨g,0,none⟩ 1 1 y (by omega) (λj u hj=>by
  have ha:(⟨g,0,none⟩:Addr).add j=⟨g,j,none⟩:=by unfold Addr.add;split<;>simp_all
  rw[ha,hb.cell j];simpa using hj) hyo (by unfold maxLen;omega) (by
   have h3:(n+1)*bytes<=(n+1)*1000:=Nat.mul_le_mul_left _ hby;omega) hB
 unfold Oper.wp execOp;simp only[ho,resolve,invoke,builtin,Sem.run_bind,Sem.run_pure,Result.andThen_ok,List.map_toArray,List.map_cons,List.map_nil,hs,hx,hr];exact hK' _ _ (hK v' w' ho2 hg)
end
theorem own_kindR {w:World}{B z n:Nat}{e:TypeId}{u:Value}{xs:List Value}(h:w.ownsRow B e z u n xs):∀g,u.ownBlock=some g->∃c fz,w.heap[g]? =some (.cells c e fz):=by
 intro g hg;rcases h.2 with⟨rfl,_⟩|⟨g',cap,cur,rfl,_,hgg,_⟩
 ·simp[Value.ownBlock]at hg
 ·simp[Value.ownBlock]at hg;subst hg;exact⟨cur,_,hgg⟩
theorem own_twoR {w w':World}{B B' z z' n n':Nat}{e e':TypeId}{u u':Value}{xs xs':List Value}(h:w.ownsRow B e z u n xs) (h':w.ownsRow B' e' z' u' n' xs') (hne:e≠e') (hg:w.grownBy w' u'.ownBlock):w'.ownsRow B e z u n xs:=by
 refine h.kept hg ?_;cases hu:u.ownBlock with
 | none=>exact .inl rfl
 | some g => refine .inr (λe2=>?_);obtain⟨c,fz,h1⟩:=own_kindR h g hu;obtain⟨c',fz',h2⟩:=own_kindR h' g e2.symm;rw[h1]at h2;injection h2 with h2;injection h2 with _ h2 _;exact hne h2
structure Rk (ST:World->Prop) (xb kc ka B z:Nat) (T:TypeId) (k:Nat) (W W':World):Prop where
 st:ST W->ST W'
 cur:k≠kc->∀L,CurIn W xb L->CurIn W' xb L
 own:k≠ka->∀u n xs,W.ownsRow B T z u n xs->W'.ownsRow B T z u n xs
 box:k≠ka->∀g cs,Box W g T cs->Box W' g T cs
namespace Rk
variable {ST:World->Prop}{xb kc ka B z k:Nat}{T:TypeId}{W W':World}
theorem same:Rk ST xb kc ka B z T k W W:=⟨id,λ_ _ h=>h,λ_ _ _ _ h=>h,λ_ _ _ h=>h⟩
theorem ofExt (hS:ST W->ST W') (x:Ext W W'):Rk ST xb kc ka B z T k W W':=⟨hS,λ_ _ h=>h.ext x,λ_ _ _ _ h=>own_ext h x,λ_ _ _ h=>h.ext x⟩
theorem take {L:List (List UInt8)}(hS:ST W->ST W') (c:CurIn W xb L) (b:But xb W W') (hT:T≠253):Rk ST xb kc ka B z T kc W W' :=
 ⟨hS,λh=>absurd rfl h,λ_ _ _ _ h=>c.own b h hT,λ_ g cs h=>by
  obtain⟨A,n,d,k1,_,_⟩:=c;exact b.box h (h.apart k1 hT)⟩
theorem app {n:Nat}{u:Value}{xs:List Value}(hS:ST W->ST W') (o:W.ownsRow B T z u n xs) (g:W.grownBy W' u.ownBlock) (h1:9≠T) (h2:T≠253):Rk ST xb kc ka B z T ka W W' :=
 ⟨hS,λ_ _ h=>h.grown g o h1 h2,λh=>absurd rfl h,λh=>absurd rfl h⟩
end Rk
theorem catch_idle (p q:Addr) (w:World) :
  CallsD prog 124 #[.pointer (some p),.pointer (some q)] .returning w λe u' w'=>e=.returned (.tuple #[])/\u'=.returning/\w'=w:=by
 refine callsD_of_wpS func124 rfl λc₀ cs hu=>?_;apply wpS_seq;apply wpS_region;simp[wpOpsS,go_sem,recoverD,hu,ntmps124,Exit.thenS];refine wpS_of_wp ?_;simp only[Array.replicate_succ,Array.replicate_zero,List.push_toArray,List.setIfInBounds_toArray,List.append_toArray,List.nil_append,List.cons_append,List.set_cons_zero,List.set_cons_succ];go_wp2_with fail;cases c₀;simp_all [bodyPostS,results,Tryz.results124]
abbrev mac0:Mac:=⟨0,0,0,0,sl0,sl0,0,[],sl0,0,[],false,0,sl0,sl0,0,sl0⟩
theorem mac0_one:mac0.cells.all (·.oneCell')=true:=by kernel_rfl
theorem macSz:(prog.info? 38).map (·.size)=some mac0.cells.size:=by kernel_rfl
theorem catch_bent (mb kb:Nat) (w:World) (cs:Array Value) (x:Bool) (hb:Box w mb 38 cs) (hs:cs.size=17) (hk:Box w kb 4 #[.bool x]) (older:List PanicEntry) :
  CallsD prog 124 #[.pointer (some ⟨mb,0,none⟩),.pointer (some ⟨kb,0,none⟩)] (.panicking ({ v:=bentV,recovered:=false }::older)) w λe u' w' => e=.returned (.tuple #[])/\u'=.panicking ({ v:=bentV,recovered:=true }::older)/\Box w' mb 38 mac0.cells/\Box w' kb 4 #[.bool false]/\∀w0,Ext w0 w->w0.heap.size<=mb->w0.heap.size<=kb->Ext w0 w':=by
 refine callsD_of_wpS func124 rfl λc₀ cs hu=>?_;apply wpS_seq;apply wpS_region;simp[wpOpsS,go_sem,recoverD,hu,ntmps124,Exit.thenS];refine wpS_of_wp ?_;simp only[Array.replicate_succ,Array.replicate_zero,List.push_toArray,List.setIfInBounds_toArray,List.append_toArray,List.nil_append,List.cons_append,List.set_cons_zero,List.set_cons_succ];have hta:∀w (z:TypeId),(Instr.typeAssert (.iface 183 (.agg #[])) z 183 true).run prog w=.ok (.tuple #[.agg #[],.bool true]) w:=λ_ _=>rfl;go_upto_region 5 with fail;have xw:Ext w (w.alloc (.cells #[] 183)):=(Ext.refl w).alloc _;have hb1:=hb.ext xw;have hk1:=hk.ext xw;have hne:kb≠mb:=hk.apart hb (by decide);generalize w.alloc (.cells #[] 183)=w1 at *;go_upto_region 5 with fail;go_wp2_with (refine wp_st_mac (.tmp 0) (.tmp 16) rfl rfl mb mac0 _ _ rfl rfl hb1 hs ?_;intro w2 b2 g2;have k2:=hk1.grown g2 (λe=>hne (Option.some.inj e));have f2:w2.frozen? ⟨kb,0,none⟩=false:=k2.frozen 0;have c2:w2.cell? ⟨kb,0,none⟩=some (.bool x):=k2.cell 0)
 have K1:Box (w2.setCell ⟨kb,0,none⟩ (.bool false)) kb 4 #[.bool false]:=k2.set 0 (.bool false);have K2:Box (w2.setCell ⟨kb,0,none⟩ (.bool false)) mb 38 mac0.cells:=((But.refl kb w2).setCell 0 (.bool false)).box b2 (λe=>hne e.symm);have K3:∀w0,Ext w0 w->w0.heap.size<=mb->w0.heap.size<=kb->Ext w0 (w2.setCell ⟨kb,0,none⟩ (.bool false)):=λw0 x h1 h2=>((x.trans xw).grown g2 (λj e=>by cases e;exact h1)).setCell h2 _;generalize w2.setCell ⟨kb,0,none⟩ (.bool false)=w3 at *;clear hta hk hb hk1 hb1 b2 k2 g2 f2 c2 xw hs hne;simp[bodyPostS,results,Tryz.results124];exact⟨K2,K1,K3⟩
theorem rest_results {tmps:Array Value}(w:World) (mb kb:Nat) (m:Mac) (b:Bool) (h2:tmps.getD 2 undef=.pointer (some ⟨mb,0,none⟩)) (h3:tmps.getD 3 undef=.pointer (some ⟨kb,0,none⟩)) (h:Box w mb 38 m.cells) (k:Box w kb 4 #[.bool b]) :
  (results Tryz.f68 tmps).run prog w=.ok (.tuple #[.agg m.cells,.bool b]) w:=by
 have h2':tmps[2]?.getD undef=.pointer (some ⟨mb,0,none⟩):=by simpa using h2
 have h3':tmps[3]?.getD undef=.pointer (some ⟨kb,0,none⟩):=by simpa using h3
 have c0:w.cell? ⟨kb,0,none⟩=some (.bool b):=k.cell 0;have l2:(loadVar 4 ⟨kb,0,none⟩).run prog w=.ok (.bool b) w:=by simp[c0,go_sem]
 simp[results,Tryz.results68,h2',h3',asAddr,run_loadVar_row w mb 38 38 m.cells (0,0) _ h underlying38 rfl macSz,l2]
theorem readRest_none (s:List UInt8) (w:World) (h:openT (some 16) s=none) (hs:s.length<=100000000) :
  Calls prog 68 #[.string (str s)] w λe w'=>e=.returned (.tuple #[.agg mac0.cells,.bool false])/\Ext w w':=by
 have hmf:∀(fn:Fn) (first cap:Array Value) (w:World),(Instr.makeFunc fn first cap).run prog w=.ok (.func fn first cap) w:=λ_ _ _ _=>rfl;have HO:=lh_ (λw=>(open_any s (some 16) w (by omega) (λn h=>by cases h;decide)).mono (λe w' k=>by
  rcases k with⟨l,b,k,_⟩|⟨_,h1,h2⟩
  ·rw[h]at k;cases k
  ·exact(⟨h1,h2⟩:e=Bent/\Ext w w')))
 clear hs;go_enter_defers func68,ntmps68;go_upto_region 2 with fail;have b1:=Box.new w 38 mac0.cells;have x1:Ext w (w.alloc (.cells mac0.cells 38)):=(Ext.refl w).alloc _;have z1:(w.alloc (.cells mac0.cells 38)).heap.size=w.heap.size+1:=World.size_alloc _ _;change Code.wp _ _ _ _ ((w.alloc (.cells mac0.cells 38)).alloc (.cells #[.bool false] 4));generalize w.alloc (.cells mac0.cells 38)=wa at b1 x1 z1 ⊢;have b2:=Box.new wa 4 #[.bool false];rw[z1]at b2;have b3:=b1.ext ((Ext.refl wa).alloc (.cells #[.bool false] 4));have x2:=x1.alloc (.cells #[.bool false] 4);generalize wa.alloc (.cells #[.bool false] 4)=W at b2 b3 x2 ⊢;clear b1 x1 z1;clear wa;go_wp2_with (go_at_call 125;refine(HO.out _).mono ?_;rintro e w1 ⟨he,x3⟩;simp only[Bent]at he;subst he)
 refine leaves_cons (f:=124) (args:=#[.pointer (some ⟨w.heap.size,0,none⟩),.pointer (some ⟨w.heap.size+1,0,none⟩)]) (by simp) (by simp[go_sem]) ?_;refine(catch_bent w.heap.size (w.heap.size+1) w1 _ _ (b3.ext x3) rfl (b2.ext x3) []).mono ?_;rintro e u' w'' ⟨rfl,rfl,b5,b6,x6⟩;simp only[Leaves,settle];refine⟨_,rest_results w'' w.heap.size (w.heap.size+1) mac0 false rfl rfl b5 b6,rfl,x6 w (x2.trans x3) (Nat.le_refl _) (by omega)⟩
structure RC (w W:World) (mb kb cb:Nat) (m:Mac) (L:List (List UInt8)):Prop where
 rb:RB w W mb kb m
 cur:CurIn W cb L
 lc:w.heap.size<=cb
namespace RC
variable {w W W':World}{mb kb cb xb:Nat}{m m':Mac}{L L' L2:List (List UInt8)}
theorem call (h:RC w W mb kb cb m L) (k:CurIn W' cb L') (b:But cb W W'):RC w W' mb kb cb m L':=⟨h.rb.call h.cur b h.lc,k,h.lc⟩
theorem other (h:RC w W mb kb cb m L) (c:CurIn W xb L2) (k:CurIn W' xb L') (b:But xb W W') (hx:w.heap.size<=xb) (hne:cb≠xb):RC w W' mb kb cb m L:=⟨h.rb.call c b hx,h.cur.but b c hne,h.lc⟩
theorem more (h:RC w W mb kb cb m L) (x:Ext W W'):RC w W' mb kb cb m L:=⟨h.rb.more x,h.cur.ext x,h.lc⟩
theorem but (h:RC w W mb kb cb m L) (b:But mb W W') (r:RB w W' mb kb m'):RC w W' mb kb cb m' L:=⟨r,h.cur.butT b h.rb.box (by decide) (CurIn.apart (w':=W) h.cur h.rb.box (by decide)),h.lc⟩
theorem dec (h:RC w W mb kb cb m L) (hD:Dec10 w):∀W',But cb W W'->Dec10 W':=λW' b=>hD.ext (b.past h.rb.ext h.lc)
end RC
section
variable {ops:Array Oper}{rest:List Oper}{o:Oper}{a:Act}{w0 W:World}{Q:Exit->Act->World->Prop}{mb kb cb:Nat}{m:Mac}{L:List (List UInt8)}
theorem wp_st_rc (S:RC w0 W mb kb cb m L) (m':Mac) (T:TypeId) (x z:Operand) (hgd:o.guard=none) (ho:o.op=.store T x z) (i:Nat) (v:Value) (hx:a.eval x=.pointer (some ⟨mb,i,none⟩)) (hy:a.eval z=v) (hv:v.oneCell'=true)
  (hi:(prog.info? T).map (·.size)=some 1) (hlt:i<17) (he:m.cells.setIfInBounds i v=m'.cells)
  (hK:∀W',RC w0 W' mb kb cb m' L->But mb W W'->wpList prog ops Q rest (a.put o.dst undef) W'):wpList prog ops Q (o::rest) a W :=
 wp_st_rb S.rb m' T x z hgd ho i v hx hy hv hi hlt he (λW' r d=>hK W' (S.but d r) d)
end
theorem six_of {l:List (List UInt8)}(h:l.length=16):∃a b c d e f g i j k m n o p q r,l=[a,b,c,d,e,f,g,i,j,k,m,n,o,p,q,r]:=by
 match l,h with
 | [a,b,c,d,e,f,g,i,j,k,m,n,o,p,q,r],_=>exact⟨a,b,c,d,e,f,g,i,j,k,m,n,o,p,q,r,rfl⟩
theorem some_bind {α β:Type} {o:Option α}{f:α->Option β}{y:β}(h:o.bind f=some y):∃x,o=some x/\f x=some y:=by
 cases o with
 | none=>cases h
 | some x=>exact⟨x,rfl,h⟩
theorem some_map {α β:Type} {o:Option α}{f:α->β}{y:β}(h:o.map f=some y):∃x,o=some x/\f x=y:=by
 cases o with
 | none=>cases h
 | some x=>exact⟨x,rfl,by injection h⟩
theorem restQ_parts {s:List UInt8}{z:Mac}{e:MacD}(h:restQ s=some (z,e)):∃t1 t2 t3 t4 t5 t6 t7 t8 t9 t10 t11 t12 t13 t14 t15,openT (some 16) s=some [[104,105,98,50],t1,t2,t3,t4,t5,t6,t7,t8,t9,t10,t11,t12,t13,t14,t15]/\
  numP 8 t1=some z.clock/\intP t2=some z.quantum/\intP t3=some z.cur/\intP t4=some z.left/\intP t5=some z.next/\z.init=t6/\intP t7=some z.newPipe/\z.inn=t8/\flagP t9=some z.fin/\numP 8 t10=some z.told/\intP t11=some z.dleft/\
  writesP t12=some e.pe/\writesP t13=some e.di/\writesP t14=some e.pi/\procsP t15=some e.pr/\z.fr=sl0/\z.pr=sl0/\z.pi=sl0/\z.bl=sl0/\z.pe=sl0/\z.di=sl0/\e.fr=[]/\e.bl=[]:=by
 unfold restQ at h;obtain⟨l,h1,h⟩:=some_bind h;obtain⟨t0,t1,t2,t3,t4,t5,t6,t7,t8,t9,t10,t11,t12,t13,t14,t15,rfl⟩:=six_of (openT_len h1);simp only[List.getD_cons_zero,List.getD_cons_succ]at h;split at h
 ·rename_i h0;subst h0;obtain⟨clock,e1,h⟩:=some_bind h;obtain⟨quantum,e2,h⟩:=some_bind h;obtain⟨cur,e3,h⟩:=some_bind h;obtain⟨left,e4,h⟩:=some_bind h;obtain⟨next,e5,h⟩:=some_bind h;obtain⟨newPipe,e6,h⟩:=some_bind h;obtain⟨fin,e7,h⟩:=some_bind h;obtain⟨told,e8,h⟩:=some_bind h;obtain⟨dleft,e9,h⟩:=some_bind h;obtain⟨pe,e10,h⟩:=some_bind h;obtain⟨di,e11,h⟩:=some_bind h;obtain⟨pi,e12,h⟩:=some_bind h;obtain⟨pr,e13,h⟩:=some_map h;injection h with h h';subst h;subst h';exact⟨t1,t2,t3,t4,t5,t6,t7,t8,t9,t10,t11,t12,t13,t14,t15,h1,e1,e2,e3,e4,e5,rfl,e6,rfl,e7,e8,e9,e10,e11,e12,e13,rfl,rfl,rfl,rfl,rfl,rfl,rfl,rfl⟩
 ·cases h
theorem writeQ_parts {s:List UInt8}{y:WrT}(h:writeQ s=some y):∃a,openT (some 2) s=some [a,y.2]/\intP a=some y.1:=by
 unfold writeQ at h;obtain⟨l,h1,h⟩:=some_bind h;obtain⟨n,h2,h3⟩:=some_map h;obtain⟨a,b,rfl⟩:=two_of (openT_len h1);subst h3;exact⟨a,h1,h2⟩
theorem writes_yes {s:List UInt8}{l:List WrT}(h:writesP s=some l) (w:World) (hs:s.length<=100000000) (hD:Dec10 w) :
  Calls prog 130 #[.string (str s)] w λe w'=>∃A c,e=.returned (.slice A l.length c)/\w'.ownsRow w.heap.size 92 2 (.slice A l.length c) l.length (l.flatMap wrL)/\Ext w w' :=
 (readWrites_any s w hs hD).mono (λe w' k=>by
  rcases k with⟨l',u,h1,h2,h3,h4⟩|⟨h1,_⟩
  ·have h5:=Option.some.inj (h.symm.trans h1);subst h5;obtain⟨A,c,rfl⟩:=own_isSl h3;exact⟨A,c,h2,h3,h4⟩
  ·rw[h]at h1;cases h1)
theorem mac_one (m:Mac):m.cells.all (·.oneCell')=true:=by kernel_rfl
def RestR (r:Option (Mac × MacD)) (w:World) (e':Ending) (w':World):Prop:=match r with
 | none=>e'=.returned (.tuple #[.agg mac0.cells,.bool false])/\Ext w w'
 | some (z,e)=>∃pr pi pe di:Sl,e'=.returned (.tuple #[.agg ({ z with pr:=pr,pi:=pi,pe:=pe,di:=di }:Mac).cells,.bool true])/\Ext w w'/\pr.n=e.pr.length/\pi.n=e.pi.length/\pe.n=e.pe.length/\di.n=e.di.length/\
   w'.ownsRow w.heap.size 57 96 (.slice pr.A pr.n pr.c) pr.n (e.pr.flatMap prL)/\w'.ownsRow w.heap.size 95 2 (.slice pi.A pi.n pi.c) pi.n (e.pi.flatMap wrL)/\w'.ownsRow w.heap.size 92 2 (.slice pe.A pe.n pe.c) pe.n (e.pe.flatMap wrL)/\w'.ownsRow w.heap.size 92 2 (.slice di.A di.n di.c) di.n (e.di.flatMap wrL)
theorem writes_no {s:List UInt8}(h:writesP s=none) (w:World) (hs:s.length<=100000000) (hD:Dec10 w) :
  Calls prog 130 #[.string (str s)] w λe w'=>e=Bent/\Ext w w' :=
 (readWrites_any s w hs hD).mono (λe w' k=>by
  rcases k with⟨l',u,h1,_⟩|⟨_,h2,h3⟩
  ·rw[h]at h1;cases h1
  ·exact⟨h2,h3⟩)
theorem readProc_no {s:List UInt8}(hP:procP s=none) (w:World) (hs:s.length<=100000000) (hD:Dec10 w) :
  Calls prog 132 #[.string (str s)] w λe w'=>e=Bent/\Ext w w' :=
 (readProc_any s w hs hD).mono (λe w' h=>⟨h.1.trans (by rw[hP];rfl),h.2⟩)
theorem open_len {s:List UInt8}{T:List (List UInt8)}(q:openT none s=some T) (hs:s.length<=100000000):T.length<=100000000:=by
 have:=(textsP_len s).1;unfold openT at q;split at q
 ·injection q with q;rw[← q];omega
 ·cases q
theorem bind_of {α β:Type} {o o':Option α}{f:α->Option β}{r:Option β}(h:o.bind f=r) (e:o=o'):o'.bind f=r:=e▸h
theorem map_of {α β:Type} {o o':Option α}{f:α->β}{r:Option β}(h:o.map f=r) (e:o=o'):o'.map f=r:=e▸h
theorem if_go {α:Type} {c:Prop}[Decidable c] {a b r:α}(h:(if c then a else b)=r) (hc:c):a=r:=by rw[if_pos hc]at h;exact h
theorem if_end {α:Type} {c:Prop}[Decidable c] {a r:Option α}(h:(if c then a else none)=r) (hc:¬c):r=none:=by rw[if_neg hc]at h;exact h.symm
theorem writesP_of {s:List UInt8}{T:List (List UInt8)}(q:openT none s=some T):writesP s=allP writeQ T:=by unfold writesP;rw[q];rfl
theorem procsP_of {s:List UInt8}{T:List (List UInt8)}(q:openT none s=some T):procsP s=allP procP T:=by unfold procsP;rw[q];rfl
theorem writesP_no {s:List UInt8}(q:openT none s=none):writesP s=none:=by unfold writesP;rw[q];rfl
theorem procsP_no {s:List UInt8}(q:openT none s=none):procsP s=none:=by unfold procsP;rw[q];rfl
theorem writeQ_of {s a b:List UInt8}(q:openT (some 2) s=some [a,b]):writeQ s=(intP a).map λn=>(n,b):=by unfold writeQ;rw[q];rfl
theorem rest_results_put (tmps:Array Value) (d:Nat) (v:Value) (h2:d≠2) (h3:d≠3):results Tryz.f68 (tmps.setIfInBounds d v)=results Tryz.f68 tmps:=by
 have e2:(tmps.setIfInBounds d v)[2]?.getD undef=tmps[2]?.getD undef:=by rw[Array.getElem?_setIfInBounds_ne h2]
 have e3:(tmps.setIfInBounds d v)[3]?.getD undef=tmps[3]?.getD undef:=by rw[Array.getElem?_setIfInBounds_ne h3]
 simp[results,Tryz.results68,e2,e3]
theorem leaves_put {P:Program}{fn:Func}{tmps tmps':Array Value}{R:Ending->World->Prop}(hr:results fn tmps'=results fn tmps):∀ds u w,Leaves P fn tmps' R ds u w->Leaves P fn tmps R ds u w:=by
 intro ds;induction ds with
 | nil =>
  intro u w h;cases u with
  | returning=>simp only[Leaves]at h ⊢;rw[hr]at h;exact h
  | panicking c=>exact h
  | run=>exact h
 | cons d ds ih =>
  intro u w h;simp only[Leaves]at h ⊢;obtain⟨h1,fv,cap,f,args,e1,e2,hc⟩:=h;refine⟨h1,fv,cap,f,args,e1,e2,hc.mono ?_⟩;intro e u' w' h;cases e with
  | returned _=>exact ih _ _ h
  | panicked _=>exact ih _ _ h
  | outgrown=>exact h
theorem rest_panic_put {R:Ending->World->Prop}{c:List PanicEntry}{a:Act}{w:World}{d:Nat}{v:Value}(h2:d≠2) (h3:d≠3) (h:bodyPostD prog Tryz.f68 R (.panic c) (a.put (some d) v) w):bodyPostD prog Tryz.f68 R (.panic c) a w :=
 leaves_put (rest_results_put a.tmps d v h2 h3) _ _ _ h
theorem readRest_any (s:List UInt8) (w:World) (hs:s.length<=100000000) (hD:Dec10 w) :
  Calls prog 68 #[.string (str s)] w (RestR (restQ s) w):=by
 generalize hR:restQ s=r;cases h16:openT (some 16) s with
 | none =>
  obtain rfl:r=none:=by unfold restQ at hR;rw[h16]at hR;exact hR.symm
  exact readRest_none s w h16 hs
 | some l =>
 obtain⟨t0,t1,t2,t3,t4,t5,t6,t7,t8,t9,t10,t11,t12,t13,t14,t15,rfl⟩:=six_of (openT_len h16);unfold restQ at hR;rw[h16]at hR;simp only[Option.bind_some,List.getD_cons_zero,List.getD_cons_succ]at hR;have hfew:=openT_few h16;have h48:∀t∈[t0,t1,t2,t3,t4,t5,t6,t7,t8,t9,t10,t11,t12,t13,t14,t15],t.length<=281474976710656:=λt ht=>by have:=hfew t ht;omega
 have HO:=lh_ (λw=>open_yes h16 w (by omega) (λn h=>by cases h;decide));have HL2:=lh_ (show∀t∈[t2,t3,t4,t5,t6,t7,t8,t9,t10,t11,t12,t13,t14,t15],t.length<=281474976710656 fromλt ht=>h48 t (List.mem_of_mem_drop (i:=2) ht));have HL3:=lh_ (show∀t∈[t3,t4,t5,t6,t7,t8,t9,t10,t11,t12,t13,t14,t15],t.length<=281474976710656 fromλt ht=>h48 t (List.mem_of_mem_drop (i:=3) ht));have HL4:=lh_ (show∀t∈[t4,t5,t6,t7,t8,t9,t10,t11,t12,t13,t14,t15],t.length<=281474976710656 fromλt ht=>h48 t (List.mem_of_mem_drop (i:=4) ht));have HL5:=lh_ (show∀t∈[t5,t6,t7,t8,t9,t10,t11,t12,t13,t14,t15],t.length<=281474976710656 fromλt ht=>h48 t (List.mem_of_mem_drop (i:=5) ht));have HL7:=lh_ (show∀t∈[t7,t8,t9,t10,t11,t12,t13,t14,t15],t.length<=281474976710656 fromλt ht=>h48 t (List.mem_of_mem_drop (i:=7) ht));have HL11:=lh_ (show∀t∈[t11,t12,t13,t14,t15],t.length<=281474976710656 fromλt ht=>h48 t (List.mem_of_mem_drop (i:=11) ht));have HS12:=lh_ (Nat.le_trans (hfew t12 (by simp)) hs);have HS13:=lh_ (Nat.le_trans (hfew t13 (by simp)) hs);have HS14:=lh_ (Nat.le_trans (hfew t14 (by simp)) hs);have HS15:=lh_ (Nat.le_trans (hfew t15 (by simp)) hs);have HDD:=lh_ hD;have HRN:=lh_ hR;clear hR h16 hfew h48 hD hs;have hmf:∀(fn:Fn) (first cap:Array Value) (w:World),(Instr.makeFunc fn first cap).run prog w=.ok (.func fn first cap) w:=λ_ _ _ _=>rfl;go_enter_defers func68,ntmps68;go_upto_region 2 with fail;have b1:=Box.new w 38 mac0.cells;have x1:Ext w (w.alloc (.cells mac0.cells 38)):=(Ext.refl w).alloc _;have y1:(w.alloc (.cells mac0.cells 38)).heap.size=w.heap.size+1:=World.size_alloc _ _;change Code.wp _ _ _ _ ((w.alloc (.cells mac0.cells 38)).alloc (.cells #[.bool false] 4));generalize w.alloc (.cells mac0.cells 38)=wa at b1 x1 y1 ⊢;have b2:=Box.new wa 4 #[.bool false];rw[y1]at b2;have S0:RB w (wa.alloc (.cells #[.bool false] 4)) w.heap.size (w.heap.size+1) mac0:=⟨b1.ext ((Ext.refl wa).alloc _),b2,x1.alloc _,by omega,Nat.le_refl _,by omega⟩
 generalize wa.alloc (.cells #[.bool false] 4)=W at S0 ⊢;clear b1 x1 y1 b2;clear wa;obtain⟨mb,hmb⟩:∃mb,mb=w.heap.size:=⟨_,rfl⟩
 obtain⟨kb,hkb⟩:∃kb,kb=mb+1:=⟨_,rfl⟩
 rw[← hmb,← hkb]at S0;rw[← hmb,← hkb];clear hmb hkb hmf;go_upto_region 3 with(go_at_call 125;refine(HO.out _).mono ?_;rintro e w1 ⟨cb,rfl,hcb,hc1,x1⟩)
 have S:RC w w1 mb kb cb mac0 [t0,t1,t2,t3,t4,t5,t6,t7,t8,t9,t10,t11,t12,t13,t14,t15]:=⟨S0.more x1,hc1,Nat.le_trans S0.ext.size hcb⟩
 clear S0 HO hcb hc1 x1;by_cases h0:t0=[104,105,98,50];case neg =>
  obtain rfl:=if_end HRN.out h0;have hq:((str t0).toList==[104,105,98,50])=false:=by rw[str_toList];simpa using h0
  clear h0 HRN
  go_wp2_with (first
   | (go_at_call 126;refine(text_yes S.cur).mono ?_;rintro e w2 ⟨rfl,k2,d2⟩;have Sa:=S.call k2 d2)
   | (refine wp_st _ _ _ rfl rfl mb mac0.cells _ _ rfl rfl Sa.rb.box macSz rfl mac0_one ?_;intro w3 b3 g3;have k3:=Sa.rb.okb.grown g3 (λe=>Sa.rb.ne (by injection e with e;exact e.symm)))
   | (refine wp_st_cell _ _ _ rfl rfl kb 0 _ _ _ _ rfl rfl rfl szBool k3 (by decide) rfl ?_;intro w4 b4 d4))
  refine leaves_cons (f:=124) (args:=#[.pointer (some ⟨mb,0,none⟩),.pointer (some ⟨kb,0,none⟩)]) (by simp) (by simp[go_sem]) ?_;refine(catch_idle ⟨mb,0,none⟩ ⟨kb,0,none⟩ w4).mono ?_;rintro e' u' w5 ⟨rfl,rfl,rfl⟩;simp only[Leaves,settle];exact⟨_,rest_results w5 mb kb mac0 false rfl rfl (d4.box b3 Sa.rb.ne) b4,rfl,d4.past (Sa.rb.ext.grown g3 (λk e=>by cases e;exact Sa.rb.lm)) Sa.rb.lk⟩
 have hq:((str t0).toList==[104,105,98,50])=true:=by rw[str_toList,h0];rfl
 replace HRN:=lh_ (if_go HRN.out h0);clear h0;go_upto_region 5 with(go_at_call 126;refine(text_yes S.cur).mono ?_;rintro e w2 ⟨rfl,k2,d2⟩;have Sa:=S.call k2 d2)
 clear S hq k2 d2;cases e0:numP 8 t1 with
 | none =>
  obtain rfl:=bind_end HRN.out e0;have HN:=lh_ e0;clear e0 HRN
  go_wp2_with (first
   | (go_at_call 127;refine(bytes_no Sa.cur (.inr rfl) HN.out).mono ?_;rintro e wz ⟨he,kz,dz⟩;simp only[Bent]at he;subst he))
  have SZ:=(Sa.call kz dz).rb;refine leaves_cons (f:=124) (args:=#[.pointer (some ⟨mb,0,none⟩),.pointer (some ⟨kb,0,none⟩)]) (by simp) (by simp[go_sem]) ?_;refine(catch_bent mb kb wz _ _ SZ.box rfl SZ.okb []).mono ?_;rintro e' u' w'' ⟨rfl,rfl,b5,b6,x6⟩;simp only[Leaves,settle];exact⟨_,rest_results w'' mb kb mac0 false rfl rfl b5 b6,rfl,x6 w SZ.ext SZ.lm SZ.lk⟩
 | some z0 =>
 have H1:=lh_ e0;replace HRN:=lh_ (bind_go HRN.out e0);clear e0
 go_upto_region 6 with(first
  | (go_at_call 127;refine(bytes_yes Sa.cur (.inr rfl) H1.out).mono ?_;rintro e w2 ⟨rfl,k2,d2⟩;have Sb:=Sa.call k2 d2)
  | (refine wp_st_rc Sb (⟨z0,0,0,0,sl0,sl0,0,[],sl0,0,[],false,0,sl0,sl0,0,sl0⟩) _ _ _ rfl rfl 0 _ rfl rfl rfl szU64 (by decide) rfl ?_;intro w3 S1 d3))
 clear Sa Sb k2 d2 d3;cases e0:intP t2 with
 | none =>
  obtain rfl:=bind_end HRN.out e0;have HN:=lh_ e0;clear e0 HRN
  go_wp2_with (first
   | (go_at_call 128;refine(cdec_no S1.cur HN.out (S1.dec HDD.out) HL2.out).mono ?_;rintro e wz ⟨he,kz,dz⟩;simp only[Bent]at he;subst he))
  have SZ:=(S1.call kz dz).rb;refine leaves_cons (f:=124) (args:=#[.pointer (some ⟨mb,0,none⟩),.pointer (some ⟨kb,0,none⟩)]) (by simp) (by simp[go_sem]) ?_;refine(catch_bent mb kb wz _ _ SZ.box rfl SZ.okb []).mono ?_;rintro e' u' w'' ⟨rfl,rfl,b5,b6,x6⟩;simp only[Leaves,settle];exact⟨_,rest_results w'' mb kb mac0 false rfl rfl b5 b6,rfl,x6 w SZ.ext SZ.lm SZ.lk⟩
 | some z1 =>
 have H2:=lh_ e0;replace HRN:=lh_ (bind_go HRN.out e0);clear e0;cases e0:intP t3 with
 | none =>
  obtain rfl:=bind_end HRN.out e0;have HN:=lh_ e0;clear e0 HRN
  go_wp2_with (first
   | (go_at_call 128;refine(cdec_no S2.cur HN.out (S2.dec HDD.out) HL3.out).mono ?_;rintro e wz ⟨he,kz,dz⟩;simp only[Bent]at he;subst he)
   | (go_at_call 128;refine(cdec_yes S1.cur H2.out (S1.dec HDD.out) HL2.out).mono ?_;rintro e w2 ⟨rfl,k2,d2⟩;have S2:=S1.call k2 d2))
  have SZ:=(S2.call kz dz).rb;refine leaves_cons (f:=124) (args:=#[.pointer (some ⟨mb,0,none⟩),.pointer (some ⟨kb,0,none⟩)]) (by simp) (by simp[go_sem]) ?_;refine(catch_bent mb kb wz _ _ SZ.box rfl SZ.okb []).mono ?_;rintro e' u' w'' ⟨rfl,rfl,b5,b6,x6⟩;simp only[Leaves,settle];exact⟨_,rest_results w'' mb kb mac0 false rfl rfl b5 b6,rfl,x6 w SZ.ext SZ.lm SZ.lk⟩
 | some z2 =>
 have H3:=lh_ e0;replace HRN:=lh_ (bind_go HRN.out e0);clear e0;cases e0:intP t4 with
 | none =>
  obtain rfl:=bind_end HRN.out e0;have HN:=lh_ e0;clear e0 HRN
  go_wp2_with (first
   | (go_at_call 128;refine(cdec_no S3.cur HN.out (S3.dec HDD.out) HL4.out).mono ?_;rintro e wz ⟨he,kz,dz⟩;simp only[Bent]at he;subst he)
   | (go_at_call 128;refine(cdec_yes S2.cur H3.out (S2.dec HDD.out) HL3.out).mono ?_;rintro e w3 ⟨rfl,k3,d3⟩;have S3:=S2.call k3 d3)
   | (go_at_call 128;refine(cdec_yes S1.cur H2.out (S1.dec HDD.out) HL2.out).mono ?_;rintro e w2 ⟨rfl,k2,d2⟩;have S2:=S1.call k2 d2))
  have SZ:=(S3.call kz dz).rb;refine leaves_cons (f:=124) (args:=#[.pointer (some ⟨mb,0,none⟩),.pointer (some ⟨kb,0,none⟩)]) (by simp) (by simp[go_sem]) ?_;refine(catch_bent mb kb wz _ _ SZ.box rfl SZ.okb []).mono ?_;rintro e' u' w'' ⟨rfl,rfl,b5,b6,x6⟩;simp only[Leaves,settle];exact⟨_,rest_results w'' mb kb mac0 false rfl rfl b5 b6,rfl,x6 w SZ.ext SZ.lm SZ.lk⟩
 | some z3 =>
 have H4:=lh_ e0;replace HRN:=lh_ (bind_go HRN.out e0);clear e0;cases e0:intP t5 with
 | none =>
  obtain rfl:=bind_end HRN.out e0;have HN:=lh_ e0;clear e0 HRN
  go_wp2_with (first
   | (go_at_call 128;refine(cdec_no S4.cur HN.out (S4.dec HDD.out) HL5.out).mono ?_;rintro e wz ⟨he,kz,dz⟩;simp only[Bent]at he;subst he)
   | (go_at_call 128;refine(cdec_yes S3.cur H4.out (S3.dec HDD.out) HL4.out).mono ?_;rintro e w4 ⟨rfl,k4,d4⟩;have S4:=S3.call k4 d4)
   | (go_at_call 128;refine(cdec_yes S2.cur H3.out (S2.dec HDD.out) HL3.out).mono ?_;rintro e w3 ⟨rfl,k3,d3⟩;have S3:=S2.call k3 d3)
   | (go_at_call 128;refine(cdec_yes S1.cur H2.out (S1.dec HDD.out) HL2.out).mono ?_;rintro e w2 ⟨rfl,k2,d2⟩;have S2:=S1.call k2 d2))
  have SZ:=(S4.call kz dz).rb;refine leaves_cons (f:=124) (args:=#[.pointer (some ⟨mb,0,none⟩),.pointer (some ⟨kb,0,none⟩)]) (by simp) (by simp[go_sem]) ?_;refine(catch_bent mb kb wz _ _ SZ.box rfl SZ.okb []).mono ?_;rintro e' u' w'' ⟨rfl,rfl,b5,b6,x6⟩;simp only[Leaves,settle];exact⟨_,rest_results w'' mb kb mac0 false rfl rfl b5 b6,rfl,x6 w SZ.ext SZ.lm SZ.lk⟩
 | some z6 =>
 have H5:=lh_ e0;replace HRN:=lh_ (bind_go HRN.out e0);clear e0
 go_upto_region 7 with(first
  | (go_at_call 128;refine(cdec_yes S4.cur H5.out (S4.dec HDD.out) HL5.out).mono ?_;rintro e w5 ⟨rfl,k5,d5⟩;have S5:=S4.call k5 d5)
  | (go_at_call 128;refine(cdec_yes S3.cur H4.out (S3.dec HDD.out) HL4.out).mono ?_;rintro e w4 ⟨rfl,k4,d4⟩;have S4:=S3.call k4 d4)
  | (go_at_call 128;refine(cdec_yes S2.cur H3.out (S2.dec HDD.out) HL3.out).mono ?_;rintro e w3 ⟨rfl,k3,d3⟩;have S3:=S2.call k3 d3)
  | (go_at_call 128;refine(cdec_yes S1.cur H2.out (S1.dec HDD.out) HL2.out).mono ?_;rintro e w2 ⟨rfl,k2,d2⟩;have S2:=S1.call k2 d2)
  | (refine wp_st_rc S5 (⟨z0,z1,0,0,sl0,sl0,0,[],sl0,0,[],false,0,sl0,sl0,0,sl0⟩) _ _ _ rfl rfl 1 _ rfl rfl rfl szInt (by decide) rfl ?_;intro w6 S6 d6)
  | (refine wp_st_rc S6 (⟨z0,z1,z2,0,sl0,sl0,0,[],sl0,0,[],false,0,sl0,sl0,0,sl0⟩) _ _ _ rfl rfl 2 _ rfl rfl rfl szInt (by decide) rfl ?_;intro w7 S7 d7)
  | (refine wp_st_rc S7 (⟨z0,z1,z2,z3,sl0,sl0,0,[],sl0,0,[],false,0,sl0,sl0,0,sl0⟩) _ _ _ rfl rfl 3 _ rfl rfl rfl szInt (by decide) rfl ?_;intro w8 S8 d8)
  | (refine wp_st_rc S8 (⟨z0,z1,z2,z3,sl0,sl0,z6,[],sl0,0,[],false,0,sl0,sl0,0,sl0⟩) _ _ _ rfl rfl 6 _ rfl rfl rfl szInt (by decide) rfl ?_;intro w9 Sa d9))
 clear S1 S2 S3 S4 S5 S6 S7 S8 k2 k3 k4 k5 d2 d3 d4 d5 d6 d7 d8 d9
 go_upto_region 8 with(first
  | (go_at_call 126;refine(text_yes Sa.cur).mono ?_;rintro e w2 ⟨rfl,k2,d2⟩;have Sb:=Sa.call k2 d2)
  | (refine wp_st_rc Sb (⟨z0,z1,z2,z3,sl0,sl0,z6,t6,sl0,0,[],false,0,sl0,sl0,0,sl0⟩) _ _ _ rfl rfl 7 _ rfl rfl rfl szStr (by decide) rfl ?_;intro w3 S1 d3))
 clear Sa Sb k2 d2 d3;cases e0:intP t7 with
 | none =>
  obtain rfl:=bind_end HRN.out e0;have HN:=lh_ e0;clear e0 HRN
  go_wp2_with (first
   | (go_at_call 128;refine(cdec_no S1.cur HN.out (S1.dec HDD.out) HL7.out).mono ?_;rintro e wz ⟨he,kz,dz⟩;simp only[Bent]at he;subst he))
  have SZ:=(S1.call kz dz).rb;refine leaves_cons (f:=124) (args:=#[.pointer (some ⟨mb,0,none⟩),.pointer (some ⟨kb,0,none⟩)]) (by simp) (by simp[go_sem]) ?_;refine(catch_bent mb kb wz _ _ SZ.box rfl SZ.okb []).mono ?_;rintro e' u' w'' ⟨rfl,rfl,b5,b6,x6⟩;simp only[Leaves,settle];exact⟨_,rest_results w'' mb kb mac0 false rfl rfl b5 b6,rfl,x6 w SZ.ext SZ.lm SZ.lk⟩
 | some z9 =>
 have H7:=lh_ e0;replace HRN:=lh_ (bind_go HRN.out e0);clear e0
 go_upto_region 9 with(first
  | (go_at_call 128;refine(cdec_yes S1.cur H7.out (S1.dec HDD.out) HL7.out).mono ?_;rintro e w2 ⟨rfl,k2,d2⟩;have Sb:=S1.call k2 d2)
  | (refine wp_st_rc Sb (⟨z0,z1,z2,z3,sl0,sl0,z6,t6,sl0,z9,[],false,0,sl0,sl0,0,sl0⟩) _ _ _ rfl rfl 9 _ rfl rfl rfl szInt (by decide) rfl ?_;intro w3 Sa d3))
 clear S1 Sb k2 d2 d3
 go_upto_region 10 with(first
  | (go_at_call 126;refine(text_yes Sa.cur).mono ?_;rintro e w2 ⟨rfl,k2,d2⟩;have Sb:=Sa.call k2 d2)
  | (refine wp_st_rc Sb (⟨z0,z1,z2,z3,sl0,sl0,z6,t6,sl0,z9,t8,false,0,sl0,sl0,0,sl0⟩) _ _ _ rfl rfl 10 _ rfl rfl rfl szStr (by decide) rfl ?_;intro w3 S1 d3))
 clear Sa Sb k2 d2 d3;cases e0:flagP t9 with
 | none =>
  obtain rfl:=bind_end HRN.out e0;have HN:=lh_ e0;clear e0 HRN
  go_wp2_with (first
   | (go_at_call 129;refine(cflag_no S1.cur HN.out).mono ?_;rintro e wz ⟨he,kz,dz⟩;simp only[Bent]at he;subst he))
  have SZ:=(S1.call kz dz).rb;refine leaves_cons (f:=124) (args:=#[.pointer (some ⟨mb,0,none⟩),.pointer (some ⟨kb,0,none⟩)]) (by simp) (by simp[go_sem]) ?_;refine(catch_bent mb kb wz _ _ SZ.box rfl SZ.okb []).mono ?_;rintro e' u' w'' ⟨rfl,rfl,b5,b6,x6⟩;simp only[Leaves,settle];exact⟨_,rest_results w'' mb kb mac0 false rfl rfl b5 b6,rfl,x6 w SZ.ext SZ.lm SZ.lk⟩
 | some z11 =>
 have H9:=lh_ e0;replace HRN:=lh_ (bind_go HRN.out e0);clear e0
 go_upto_region 11 with(first
  | (go_at_call 129;refine(cflag_yes S1.cur H9.out).mono ?_;rintro e w2 ⟨rfl,k2,d2⟩;have Sb:=S1.call k2 d2)
  | (refine wp_st_rc Sb (⟨z0,z1,z2,z3,sl0,sl0,z6,t6,sl0,z9,t8,z11,0,sl0,sl0,0,sl0⟩) _ _ _ rfl rfl 11 _ rfl rfl rfl szBool (by decide) rfl ?_;intro w3 Sa d3))
 clear S1 Sb k2 d2 d3;cases e0:numP 8 t10 with
 | none =>
  obtain rfl:=bind_end HRN.out e0;have HN:=lh_ e0;clear e0 HRN
  go_wp2_with (first
   | (go_at_call 127;refine(bytes_no Sa.cur (.inr rfl) HN.out).mono ?_;rintro e wz ⟨he,kz,dz⟩;simp only[Bent]at he;subst he))
  have SZ:=(Sa.call kz dz).rb;refine leaves_cons (f:=124) (args:=#[.pointer (some ⟨mb,0,none⟩),.pointer (some ⟨kb,0,none⟩)]) (by simp) (by simp[go_sem]) ?_;refine(catch_bent mb kb wz _ _ SZ.box rfl SZ.okb []).mono ?_;rintro e' u' w'' ⟨rfl,rfl,b5,b6,x6⟩;simp only[Leaves,settle];exact⟨_,rest_results w'' mb kb mac0 false rfl rfl b5 b6,rfl,x6 w SZ.ext SZ.lm SZ.lk⟩
 | some z12 =>
 have H10:=lh_ e0;replace HRN:=lh_ (bind_go HRN.out e0);clear e0
 go_upto_region 12 with(first
  | (go_at_call 127;refine(bytes_yes Sa.cur (.inr rfl) H10.out).mono ?_;rintro e w2 ⟨rfl,k2,d2⟩;have Sb:=Sa.call k2 d2)
  | (refine wp_st_rc Sb (⟨z0,z1,z2,z3,sl0,sl0,z6,t6,sl0,z9,t8,z11,z12,sl0,sl0,0,sl0⟩) _ _ _ rfl rfl 12 _ rfl rfl rfl szU64 (by decide) rfl ?_;intro w3 S1 d3))
 clear Sa Sb k2 d2 d3;cases e0:intP t11 with
 | none =>
  obtain rfl:=bind_end HRN.out e0;have HN:=lh_ e0;clear e0 HRN
  go_wp2_with (first
   | (go_at_call 128;refine(cdec_no S1.cur HN.out (S1.dec HDD.out) HL11.out).mono ?_;rintro e wz ⟨he,kz,dz⟩;simp only[Bent]at he;subst he))
  have SZ:=(S1.call kz dz).rb;refine leaves_cons (f:=124) (args:=#[.pointer (some ⟨mb,0,none⟩),.pointer (some ⟨kb,0,none⟩)]) (by simp) (by simp[go_sem]) ?_;refine(catch_bent mb kb wz _ _ SZ.box rfl SZ.okb []).mono ?_;rintro e' u' w'' ⟨rfl,rfl,b5,b6,x6⟩;simp only[Leaves,settle];exact⟨_,rest_results w'' mb kb mac0 false rfl rfl b5 b6,rfl,x6 w SZ.ext SZ.lm SZ.lk⟩
 | some z15 =>
 have H11:=lh_ e0;replace HRN:=lh_ (bind_go HRN.out e0);clear e0
 go_upto_region 13 with(first
  | (go_at_call 128;refine(cdec_yes S1.cur H11.out (S1.dec HDD.out) HL11.out).mono ?_;rintro e w2 ⟨rfl,k2,d2⟩;have Sb:=S1.call k2 d2)
  | (refine wp_st_rc Sb (⟨z0,z1,z2,z3,sl0,sl0,z6,t6,sl0,z9,t8,z11,z12,sl0,sl0,z15,sl0⟩) _ _ _ rfl rfl 15 _ rfl rfl rfl szInt (by decide) rfl ?_;intro w3 Sa d3))
 clear S1 Sb k2 d2 d3;cases e0:writesP t12 with
 | none =>
  obtain rfl:=bind_end HRN.out e0;have HN:=lh_ e0;clear e0 HRN
  go_wp2_with (first
   | (go_at_call 126;refine(text_yes Sa.cur).mono ?_;rintro e w2 ⟨rfl,k2,d2⟩;have S2:=Sa.call k2 d2)
   | (go_at_call 130;refine(writes_no HN.out _ HS12.out (HDD.out.ext S2.rb.ext)).mono ?_;rintro e wz ⟨he,xz⟩;simp only[Bent]at he;subst he))
  have SZ:=S2.rb.more xz;refine leaves_cons (f:=124) (args:=#[.pointer (some ⟨mb,0,none⟩),.pointer (some ⟨kb,0,none⟩)]) (by simp) (by simp[go_sem]) ?_;refine(catch_bent mb kb wz _ _ SZ.box rfl SZ.okb []).mono ?_;rintro e' u' w'' ⟨rfl,rfl,b5,b6,x6⟩;simp only[Leaves,settle];exact⟨_,rest_results w'' mb kb mac0 false rfl rfl b5 b6,rfl,x6 w SZ.ext SZ.lm SZ.lk⟩
 | some lpe =>
 have H12:=lh_ e0;replace HRN:=lh_ (bind_go HRN.out e0);clear e0;have HW12:=lh_ (λw hD=>writes_yes H12.out w HS12.out hD)
 go_upto_region 14 with(first
  | (go_at_call 126;refine(text_yes Sa.cur).mono ?_;rintro e w2 ⟨rfl,k2,d2⟩;have S2:=Sa.call k2 d2)
  | (go_at_call 130;refine(HW12.out _ (HDD.out.ext S2.rb.ext)).mono ?_;rintro e w3 ⟨A1,c1,rfl,o3,x3⟩;have S3:=S2.more x3)
  | (refine wp_st_rc S3 (⟨z0,z1,z2,z3,sl0,sl0,z6,t6,sl0,z9,t8,z11,z12,sl0,⟨A1,lpe.length,c1⟩,z15,sl0⟩) _ _ _ rfl rfl 14 _ rfl rfl rfl szWrs (by decide) rfl ?_;intro w4 S4 d4))
 have oPe:=own_base (own_but o3 d4 S3.rb.box (by decide)) S2.rb.ext.size;clear Sa S2 S3 k2 d2 o3 x3 d4;cases e0:writesP t13 with
 | none =>
  obtain rfl:=bind_end HRN.out e0;have HN:=lh_ e0;clear e0 HRN
  go_wp2_with (first
   | (go_at_call 126;refine(text_yes S4.cur).mono ?_;rintro e w5 ⟨rfl,k5,d5⟩;have S5:=S4.call k5 d5)
   | (go_at_call 130;refine(writes_no HN.out _ HS13.out (HDD.out.ext S5.rb.ext)).mono ?_;rintro e wz ⟨he,xz⟩;simp only[Bent]at he;subst he))
  have SZ:=S5.rb.more xz;refine leaves_cons (f:=124) (args:=#[.pointer (some ⟨mb,0,none⟩),.pointer (some ⟨kb,0,none⟩)]) (by simp) (by simp[go_sem]) ?_;refine(catch_bent mb kb wz _ _ SZ.box rfl SZ.okb []).mono ?_;rintro e' u' w'' ⟨rfl,rfl,b5,b6,x6⟩;simp only[Leaves,settle];exact⟨_,rest_results w'' mb kb mac0 false rfl rfl b5 b6,rfl,x6 w SZ.ext SZ.lm SZ.lk⟩
 | some ldi =>
 have H13:=lh_ e0;replace HRN:=lh_ (bind_go HRN.out e0);clear e0;have HW13:=lh_ (λw hD=>writes_yes H13.out w HS13.out hD)
 go_upto_region 15 with(first
  | (go_at_call 126;refine(text_yes S4.cur).mono ?_;rintro e w5 ⟨rfl,k5,d5⟩;have S5:=S4.call k5 d5)
  | (go_at_call 130;refine(HW13.out _ (HDD.out.ext S5.rb.ext)).mono ?_;rintro e w6 ⟨A2,c2,rfl,o6,x6⟩;have S6:=S5.more x6)
  | (refine wp_st_rc S6 (⟨z0,z1,z2,z3,sl0,sl0,z6,t6,sl0,z9,t8,z11,z12,sl0,⟨A1,lpe.length,c1⟩,z15,⟨A2,ldi.length,c2⟩⟩) _ _ _ rfl rfl 16 _ rfl rfl rfl szWrs (by decide) rfl ?_;intro w7 S7 d7))
 have oDi:=own_base (own_but o6 d7 S6.rb.box (by decide)) S5.rb.ext.size;replace oPe:=own_but (own_ext (S4.cur.own d5 oPe (by decide)) x6) d7 S6.rb.box (by decide);clear S4 S5 S6 k5 d5 o6 x6 d7;cases q0:openT none t14 with
 | none =>
  obtain rfl:=bind_end HRN.out (writesP_no q0);have HN:=lh_ q0;clear q0 HRN
  go_wp2_with (first
   | (go_at_call 126;refine(text_yes S7.cur).mono ?_;rintro e w8 ⟨rfl,k8,d8⟩;have S8:=S7.call k8 d8)
   | (go_at_call 125;refine(open_no HN.out _ (by have:=HS14.out;omega) (λn h=>by cases h)).mono ?_;rintro e wz ⟨he,xz⟩;simp only[Bent]at he;subst he))
  have SZ:=S8.rb.more xz;refine leaves_cons (f:=124) (args:=#[.pointer (some ⟨mb,0,none⟩),.pointer (some ⟨kb,0,none⟩)]) (by simp) (by simp[go_sem]) ?_;refine(catch_bent mb kb wz _ _ SZ.box rfl SZ.okb []).mono ?_;rintro e' u' w'' ⟨rfl,rfl,b5,b6,x6⟩;simp only[Leaves,settle];exact⟨_,rest_results w'' mb kb mac0 false rfl rfl b5 b6,rfl,x6 w SZ.ext SZ.lm SZ.lk⟩
 | some T14 =>
 have HO14:=lh_ (λw=>open_yes q0 w (by have:=HS14.out;omega) (λn h=>by cases h));have HF14:=lh_ (λt ht=>Nat.le_trans (openT_few q0 t ht) HS14.out);have hT14:=open_len q0 HS14.out;replace HRN:=lh_ (bind_of HRN.out (writesP_of q0));clear q0
 go_upto_region 16 with(first
  | (go_at_call 126;refine(text_yes S7.cur).mono ?_;rintro e w8 ⟨rfl,k8,d8⟩;have S8:=S7.call k8 d8)
  | (go_at_call 125;refine(HO14.out _).mono ?_;rintro e w9 ⟨pb,rfl,hpb,hp9,x9⟩))
 have S9:=S8.more x9;replace oPe:=own_ext (S7.cur.own d8 oPe (by decide)) x9;replace oDi:=own_ext (S7.cur.own d8 oDi (by decide)) x9;have hpb2:=Nat.le_trans S8.rb.ext.size hpb;have hne:cb≠pb:=Nat.ne_of_lt (Nat.lt_of_lt_of_le S8.cur.lt hpb);clear S7 S8 k8 d8 x9 hpb;obtain⟨mm,hmm⟩:∃mm:Sl->Sl->Mac,∀pi pr,mm pi pr=⟨z0,z1,z2,z3,sl0,pr,z6,t6,pi,z9,t8,z11,z12,sl0,⟨A1,lpe.length,c1⟩,z15,⟨A2,ldi.length,c2⟩⟩:=⟨λpi pr=>⟨z0,z1,z2,z3,sl0,pr,z6,t6,pi,z9,t8,z11,z12,sl0,⟨A1,lpe.length,c1⟩,z15,⟨A2,ldi.length,c2⟩⟩,λ_ _=>rfl⟩
 rw[← hmm]at S9;have HS8:Hid (∀pi pr s:Sl,(mm pi pr).cells.setIfInBounds 8 (.slice s.A s.n s.c)=(mm s pr).cells):=lh_ (λpi pr s=>by rw[hmm,hmm];rfl);have HS5:Hid (∀pi pr s:Sl,(mm pi pr).cells.setIfInBounds 5 (.slice s.A s.n s.c)=(mm pi s).cells):=lh_ (λpi pr s=>by rw[hmm,hmm];rfl);have HC8:Hid (∀W pi pr,RB w W mb kb (mm pi pr)->W.cell? ⟨mb,8,none⟩=some (.slice pi.A pi.n pi.c)):=lh_ (λW pi pr h=>by have:=h.box.cell 8;rw[hmm]at this;exact this);have HC5:Hid (∀W pi pr,RB w W mb kb (mm pi pr)->W.cell? ⟨mb,5,none⟩=some (.slice pr.A pr.n pr.c)):=lh_ (λW pi pr h=>by have:=h.box.cell 5;rw[hmm]at this;exact this);have HMM:=lh_ hmm;clear hmm;have HDn:Hid (T14.length<=1000000000):=lh_ (by omega);clear hT14;go_loopw [6,7] (λ_ _ wx=>∃(q:Sl) (done:List WrT) (rest:List (List UInt8)),RC w wx mb kb cb (mm q sl0) [t15]/\CurIn wx pb rest/\q.n=done.length/\wx.ownsRow w.heap.size 95 2 (.slice q.A q.n q.c) done.length (done.flatMap wrL)/\wx.ownsRow w.heap.size 92 2 (.slice A1 lpe.length c1) lpe.length (lpe.flatMap wrL)/\wx.ownsRow w.heap.size 92 2 (.slice A2 ldi.length c2) ldi.length (ldi.flatMap wrL)/\Hid (allP writeQ T14=(allP writeQ rest).map (done++·))/\Hid (done.length+rest.length=T14.length)/\Hid (∀x∈rest,x.length<=100000000)) (λ_ _ wx=>T14.length-lenS ((wx.cell? ⟨mb,8,none⟩).getD undef));case atStart=>exact⟨sl0,[],T14,S9,hp9,rfl,⟨rfl,.inl ⟨rfl,rfl⟩⟩,oPe,oDi,lh_ (allP_start writeQ T14),lh_ (by simp),HF14⟩
 case round =>
  clear S9 hp9 oPe oDi;obtain⟨q,done,rest,S,hp,hqn,oq,oPe,oDi,hA,hl,hf⟩:=hrel;have HM:=lh_ (more_any pb rest wr hp);cases rest with
  | cons x rest =>
   have hxl:=hf.out x List.mem_cons_self;cases qy:openT (some 2) x with
   | none =>
    obtain rfl:=bind_end HRN.out (allP_fail hA.out (by unfold writeQ;rw[qy];rfl));have HOy:=lh_ (λw=>open_no qy w (by omega) (λn h=>by cases h;decide));clear qy HRN hxl hA hl hf
    go_wp2_with (first
     | (go_at_call 131;refine HM.out.mono ?_;rintro e w2 ⟨rfl,rfl⟩)
     | (go_at_call 126;refine(text_yes hp).mono ?_;rintro e w2 ⟨rfl,k2,d2⟩)
     | (go_at_call 125;refine(HOy.out _).mono ?_;rintro e wz ⟨he,xz⟩;simp only[Bent]at he;subst he))
    have SZ:=((S.other hp k2 d2 hpb2 hne).more xz).rb;refine leaves_cons (f:=124) (args:=#[.pointer (some ⟨mb,0,none⟩),.pointer (some ⟨kb,0,none⟩)]) (by simp) (by simp[go_sem]) ?_;refine(catch_bent mb kb wz _ _ SZ.box rfl SZ.okb []).mono ?_;rintro e' u' w'' ⟨rfl,rfl,b5,b6,x6⟩;simp only[Leaves,settle];exact⟨_,rest_results w'' mb kb mac0 false rfl rfl b5 b6,rfl,x6 w SZ.ext SZ.lm SZ.lk⟩
   | some ly =>
   obtain⟨ta,tb,rfl⟩:=two_of (openT_len qy);cases ny:intP ta with
   | none =>
    obtain rfl:=bind_end HRN.out (allP_fail hA.out (by rw[writeQ_of qy,ny];rfl));have HOy:=lh_ (λw=>open_yes qy w (by omega) (λn h=>by cases h;decide));have HLy:=lh_ (show∀t∈[ta,tb],t.length<=281474976710656 fromλt ht=>by have:=openT_few qy t ht;omega);have HN:=lh_ ny;clear qy ny HRN hxl hA hl hf
    go_upto_region 18 with(first
     | (go_at_call 131;refine HM.out.mono ?_;rintro e w2 ⟨rfl,rfl⟩)
     | (go_at_call 126;refine(text_yes hp).mono ?_;rintro e w2 ⟨rfl,k2,d2⟩)
     | (go_at_call 125;refine(HOy.out _).mono ?_;rintro e w3 ⟨ob,rfl,hob,hc3,x3⟩))
    have S3:=(S.other hp k2 d2 hpb2 hne).more x3;have hob2:=Nat.le_trans (S.other hp k2 d2 hpb2 hne).rb.ext.size hob;have hno:cb≠ob:=Nat.ne_of_lt (Nat.lt_of_lt_of_le (S.other hp k2 d2 hpb2 hne).cur.lt hob);go_wp2_with (go_at_call 128;refine(cdec_no hc3 HN.out (λW' b=>HDD.out.ext (b.past S3.rb.ext hob2)) HLy.out).mono ?_;rintro e wz ⟨he,kz,dz⟩;simp only[Bent]at he;subst he)
    have SZ:=(S3.other hc3 kz dz hob2 hno).rb;refine leaves_cons (f:=124) (args:=#[.pointer (some ⟨mb,0,none⟩),.pointer (some ⟨kb,0,none⟩)]) (by simp) (by simp[go_sem]) ?_;refine(catch_bent mb kb wz _ _ SZ.box rfl SZ.okb []).mono ?_;rintro e' u' w'' ⟨rfl,rfl,b5,b6,x6⟩;simp only[Leaves,settle];exact⟨_,rest_results w'' mb kb mac0 false rfl rfl b5 b6,rfl,x6 w SZ.ext SZ.lm SZ.lk⟩
   | some n =>
   have hy:=writeQ_of qy;rw[ny]at hy;obtain⟨y,rfl,rfl⟩:∃y:WrT,y.1=n/\y.2=tb:=⟨(n,tb),rfl,rfl⟩
   replace hy:writeQ x=some y:=hy;have HOy:=lh_ (λw=>open_yes qy w (by omega) (λn h=>by cases h;decide));have HLy:=lh_ (show∀t∈[ta,y.2],t.length<=281474976710656 fromλt ht=>by have:=openT_few qy t ht;omega);have HNy:=lh_ ny;have HY:=lh_ hy;clear qy ny hy hxl
   go_upto_region 18 with(first
    | (go_at_call 131;refine HM.out.mono ?_;rintro e w2 ⟨rfl,rfl⟩)
    | (go_at_call 126;refine(text_yes hp).mono ?_;rintro e w2 ⟨rfl,k2,d2⟩)
    | (go_at_call 125;refine(HOy.out _).mono ?_;rintro e w3 ⟨ob,rfl,hob,hc3,x3⟩))
   have S2:=S.other hp k2 d2 hpb2 hne;have S3:=S2.more x3;have hp3:=k2.ext x3;replace oq:=own_ext (hp.own d2 oq (by decide)) x3;replace oPe:=own_ext (hp.own d2 oPe (by decide)) x3;replace oDi:=own_ext (hp.own d2 oDi (by decide)) x3;have hob2:=Nat.le_trans S2.rb.ext.size hob;have hno:cb≠ob:=Nat.ne_of_lt (Nat.lt_of_lt_of_le S2.cur.lt hob);have hnp:pb≠ob:=Nat.ne_of_lt (Nat.lt_of_lt_of_le k2.lt hob);have HCS:=lh_ (HC8.out wr q sl0 S.rb);clear S S2 hp k2 d2 x3 hob HM HOy;go_upto_region 19 with(go_at_call 128;refine(cdec_yes hc3 HNy.out (λW' b=>HDD.out.ext (b.past S3.rb.ext hob2)) HLy.out).mono ?_;rintro e w4 ⟨rfl,k4,d4⟩)
   have S4:=S3.other hc3 k4 d4 hob2 hno;have hp4:=hp3.but d4 hc3 hnp;replace oq:=hc3.own d4 oq (by decide);replace oPe:=hc3.own d4 oPe (by decide);replace oDi:=hc3.own d4 oDi (by decide);clear S3 hp3 hc3 d4 HNy HLy;have HST:Hid (∀a b,Ext a b->(RC w a mb kb cb (mm q sl0) [t15]/\CurIn a pb rest/\a.ownsRow w.heap.size 92 2 (.slice A1 lpe.length c1) lpe.length (lpe.flatMap wrL)/\a.ownsRow w.heap.size 92 2 (.slice A2 ldi.length c2) ldi.length (ldi.flatMap wrL))->(RC w b mb kb cb (mm q sl0) [t15]/\CurIn b pb rest/\b.ownsRow w.heap.size 92 2 (.slice A1 lpe.length c1) lpe.length (lpe.flatMap wrL)/\b.ownsRow w.heap.size 92 2 (.slice A2 ldi.length c2) ldi.length (ldi.flatMap wrL))):=lh_ (λa b x h=>⟨h.1.more x,h.2.1.ext x,own_ext h.2.2.1 x,own_ext h.2.2.2 x⟩);have hdl:done.length<=1000000000:=by have:=hl.out;have:=HDn.out;omega
   refine wp_region_webP' 9 [[],[0],[],[],[3],[2,4],[5],[1,6],[]] (listV [isV (.pointer (some ⟨mb,8,none⟩)),isV (.slice q.A q.n q.c),isV (.int .i64 y.1),isV (.pointer (some ⟨ob,0,none⟩)),isV (.string (str y.2)),isV (.agg #[.int .i64 y.1,.string (str y.2)]),rowV 1 95 #[.int .i64 y.1,.string (str y.2)],λa u=>a.ownsRow w.heap.size 95 2 u (done.length+1) (done.flatMap wrL++wrL y),isV (.pointer (some ⟨mb,8,none⟩))]) (λa=>RC w a mb kb cb (mm q sl0) [t15]/\CurIn a pb rest/\a.ownsRow w.heap.size 92 2 (.slice A1 lpe.length c1) lpe.length (lpe.flatMap wrL)/\a.ownsRow w.heap.size 92 2 (.slice A2 ldi.length c2) ldi.length (ldi.flatMap wrL)) (λk a=>(k=4->CurIn a ob [y.2])/\(k=7->a.ownsRow w.heap.size 95 2 (.slice q.A q.n q.c) done.length (done.flatMap wrL))) (Rk (λa=>RC w a mb kb cb (mm q sl0) [t15]/\CurIn a pb rest/\a.ownsRow w.heap.size 92 2 (.slice A1 lpe.length c1) lpe.length (lpe.flatMap wrL)/\a.ownsRow w.heap.size 92 2 (.slice A2 ldi.length c2) ldi.length (ldi.flatMap wrL)) ob 4 7 w.heap.size 2 95) 7 [6] (by kernel_rfl) (by kernel_rfl) (by kernel_rfl) ⟨S4.more (Ext.refl _).drew,hp4.ext (Ext.refl _).drew,own_ext oPe (Ext.refl _).drew,own_ext oDi (Ext.refl _).drew⟩ (λj=>⟨λ_=>k4.ext (Ext.refl _).drew,λ_=>own_ext oq (Ext.refl _).drew⟩) (λk a b h r=>r.st h) (λj k a b hjk _ hp r=>⟨λhj=>r.cur (λh=>hjk (hj.trans h.symm)) _ (hp.1 hj),λhj=>r.own (λh=>hjk (hj.trans h.symm)) _ _ _ (hp.2 hj)⟩) (λj k a b u hj hjk hkd _ r h=>by
    rcases(by omega:j=0\/j=1\/j=2\/j=3\/j=4\/j=5\/j=6\/j=7\/j=8) with rfl|rfl|rfl|rfl|rfl|rfl|rfl|rfl|rfl;all_goals first|exact h|skip
    ·obtain⟨g,e1,e2⟩:=h;exact⟨g,e1,r.box (λhk=>absurd (List.mem_singleton.2 rfl) (hkd hk)) _ _ e2⟩
    ·exact r.own (λhk=>hjk hk.symm) _ _ _ h) (λus=>?_)
   simp only[List.take_succ_cons,List.take_zero,List.drop_succ_cons,List.drop_zero];rw[mWalk];refine And.intro (λw' hC hP hd=>?_) ?_
   ·clear hd;refine k_of_list 69 rfl (by simp) rfl ?_;go_wp2_with fail;exact⟨Rk.same,rfl⟩
   simp only[pS_,pN_,sA_,s0_,s1_];rw[mWalk];refine And.intro (λw' hC hP hd=>?_) ?_
   ·have h0:=hd 0 (by simp);clear hd;generalize us 0=u0 at *;obtain rfl:u0=.pointer (some ⟨mb,8,none⟩):=h0;have q0:=HC8.out w' q sl0 hC.1.rb;refine k_of_list 70 rfl (by simp[Act.put]) rfl ?_;go_wp2_with fail;exact⟨Rk.same,rfl⟩
   simp only[pS_,pN_,sA_,s0_,s1_];rw[mWalk];refine And.intro (λw' hC hP hd=>?_) ?_
   ·clear hd;refine k_of_list 71 rfl (by simp[Act.put]) rfl ?_;go_wp2_with fail;exact⟨Rk.same,rfl⟩
   simp only[pS_,pN_,sA_,s0_,s1_];rw[mWalk];refine And.intro (λw' hC hP hd=>?_) ?_
   ·clear hd;refine k_of_list 72 rfl (by simp[Act.put]) rfl ?_;go_wp2_with fail;exact⟨Rk.same,rfl⟩
   simp only[pS_,pN_,sA_,s0_,s1_];rw[mWalk];refine And.intro (λw' hC hP hd=>?_) ?_
   ·have h3:=hd 3 (by simp);clear hd;generalize us 3=u3 at *;obtain rfl:u3=.pointer (some ⟨ob,0,none⟩):=h3;have hcu:=hP.1 rfl;refine k_of_list 73 rfl (by simp[Act.put]) rfl ?_;go_wp2_with (go_at_call 126;refine(text_yes hcu).mono ?_;rintro e w2 ⟨rfl,k2,d2⟩)
    exact⟨Rk.take (λh=>⟨h.1.other hcu k2 d2 hob2 hno,h.2.1.but d2 hcu hnp,hcu.own d2 h.2.2.1 (by decide),hcu.own d2 h.2.2.2 (by decide)⟩) hcu d2 (by decide),rfl⟩
   simp only[pS_,pN_,sA_,s0_,s1_];rw[mWalk];refine And.intro (λw' hC hP hd=>?_) ?_
   ·have h2:=hd 2 (by simp);have h4:=hd 4 (by simp);clear hd;generalize us 2=u2 at *;generalize us 4=u4 at *;obtain rfl:u2=.int .i64 y.1:=h2;obtain rfl:u4=.string (str y.2):=h4;refine k_of_list 74 rfl (by simp[Act.put]) rfl ?_;go_wp2_with fail;exact⟨Rk.same,rfl⟩
   simp only[pS_,pN_,sA_,s0_,s1_];rw[mWalk];refine And.intro (λw' hC hP hd=>?_) ?_
   ·have h5:=hd 5 (by simp);clear hd;generalize us 5=u5 at *;obtain rfl:u5=.agg #[.int .i64 y.1,.string (str y.2)]:=h5;refine k_of_list 75 rfl (by simp[Act.put]) rfl ?_;go_wp2_with fail;exact⟨Rk.ofExt (HST.out _ _ ((Ext.refl w').alloc _)) ((Ext.refl w').alloc _),_,rfl,Box.new _ _ _⟩
   simp only[pS_,pN_,sA_,s0_,s1_];rw[mWalk];refine And.intro (λw' hC hP hd=>?_) ?_
   ·have h1:=hd 1 (by simp);have h6:=hd 6 (by simp);clear hd;generalize us 1=u1 at *;generalize us 6=u6 at *;obtain rfl:u1=.slice q.A q.n q.c:=h1;obtain⟨g6,rfl,bg6⟩:=h6;have hsz:=hC.1.rb.ext.size;have ow:=hP.2 rfl;refine k_of_list 76 rfl (by simp[Act.put]) rfl ?_;go_wp2_with (refine wp_app_one (wrL y) underlying33 piInfo (by decide) rfl rfl (wrL_one y) (by decide) rfl _ _ rfl rfl rfl ow bg6 hdl hsz ?_;intro u9 w9 o9 g9)
    exact⟨Rk.app (λh=>⟨⟨h.1.rb.grown ow g9 (by decide) (by decide) (Nat.le_refl _),h.1.cur.grown g9 ow (by decide) (by decide),h.1.lc⟩,h.2.1.grown g9 ow (by decide) (by decide),own_twoR h.2.2.1 ow (by decide) g9,own_twoR h.2.2.2 ow (by decide) g9⟩) ow g9 (by decide) (by decide),o9⟩
   simp only[pS_,pN_,sA_,s0_,s1_];rw[mWalk];refine And.intro (λw' hC hP hd=>?_) ?_
   ·clear hd;refine k_of_list 77 rfl (by simp[Act.put]) rfl ?_;go_wp2_with fail;exact⟨Rk.same,rfl⟩
   simp only[pS_,pN_,sA_,s0_,s1_];rw[mWalk];intro w' hC hv;have h7:=hv 7 (by omega) (by decide);have h8:=hv 8 (by omega) (by decide);clear hv;generalize us 7=u7 at *;generalize us 8=u8 at *;have o7:w'.ownsRow w.heap.size 95 2 u7 (done.length+1) (done.flatMap wrL++wrL y):=h7;obtain rfl:u8=.pointer (some ⟨mb,8,none⟩):=h8;obtain⟨A3,c3,e3⟩:=own_isSl o7;subst e3;go_wp2_with (refine wp_st_rc hC.1 (mm ⟨A3,done.length+1,c3⟩ sl0) _ _ _ rfl rfl 8 _ rfl rfl rfl szPis (by decide) (HS8.out q sl0 ⟨A3,done.length+1,c3⟩) ?_;intro w8 S8 d8)
   have bm:=hC.1.rb.box;have HC2:=lh_ (HC8.out w8 ⟨A3,done.length+1,c3⟩ sl0 S8.rb);simp only[Act.put];go_roundw;case rel=>exact⟨⟨A3,done.length+1,c3⟩,done++[y],rest,S8,hC.2.1.butT d8 bm (by decide) (CurIn.apart (w':=w8) hC.2.1 bm (by decide)),by simp,by rw[List.length_append,List.flatMap_append,List.flatMap_cons,List.flatMap_nil,List.append_nil];exact own_but o7 d8 bm (by decide),own_but hC.2.2.1 d8 bm (by decide),own_but hC.2.2.2 d8 bm (by decide),lh_ (allP_step hA.out HY.out),lh_ (by have:=hl.out;simp only[List.length_append,List.length_cons,List.length_nil]at *;omega),lh_ (λt ht=>hf.out t (List.mem_cons_of_mem _ ht))⟩
   case measure => rw[HC2.out,HCS.out];have:=hl.out;simp only[List.length_cons]at this;simp only[lenS,Option.getD_some];omega
  | nil =>
   replace HRN:=lh_ (bind_go HRN.out (allP_stop hA.out));generalize done=lpi at *;have oPi:wr.ownsRow w.heap.size 95 2 (.slice q.A q.n q.c) lpi.length (lpi.flatMap wrL):=oq;have Hqn:=lh_ (show q.n=lpi.length from hqn);clear oq hqn hA hl hf HDn HF14 HO14;cases q0:openT none t15 with
   | none =>
    obtain rfl:=map_end HRN.out (procsP_no q0);have HN:=lh_ q0;clear q0 HRN
    go_wp2_with (first
     | (go_at_call 131;refine HM.out.mono ?_;rintro e w2 ⟨rfl,rfl⟩)
     | (go_at_call 126;refine(text_yes S.cur).mono ?_;rintro e w2 ⟨rfl,k2,d2⟩;have S8:=S.call k2 d2)
     | (go_at_call 125;refine(open_no HN.out _ (by have:=HS15.out;omega) (λn h=>by cases h)).mono ?_;rintro e wz ⟨he,xz⟩;simp only[Bent]at he;subst he))
    have SZ:=S8.rb.more xz;refine leaves_cons (f:=124) (args:=#[.pointer (some ⟨mb,0,none⟩),.pointer (some ⟨kb,0,none⟩)]) (by simp) (by simp[go_sem]) ?_;refine(catch_bent mb kb wz _ _ SZ.box rfl SZ.okb []).mono ?_;rintro e' u' w'' ⟨rfl,rfl,b5,b6,x6⟩;simp only[Leaves,settle];exact⟨_,rest_results w'' mb kb mac0 false rfl rfl b5 b6,rfl,x6 w SZ.ext SZ.lm SZ.lk⟩
   | some T15 =>
   have HO15:=lh_ (λw=>open_yes q0 w (by have:=HS15.out;omega) (λn h=>by cases h));have HF15:=lh_ (λt ht=>Nat.le_trans (openT_few q0 t ht) HS15.out);have hT15:=open_len q0 HS15.out;replace HRN:=lh_ (map_of HRN.out (procsP_of q0));clear q0;have HDr:Hid (T15.length<=1000000000):=lh_ (by omega);clear hT15
   go_upto_region 21 with(first
    | (go_at_call 131;refine HM.out.mono ?_;rintro e w2 ⟨rfl,rfl⟩)
    | (go_at_call 126;refine(text_yes S.cur).mono ?_;rintro e w2 ⟨rfl,k2,d2⟩)
    | (go_at_call 125;refine(HO15.out _).mono ?_;rintro e w3 ⟨qb,rfl,hqb,hc3,x3⟩))
   have S3:=(S.rb.call S.cur d2 S.lc).more x3;have hqb2:=Nat.le_trans (S.rb.call S.cur d2 S.lc).ext.size hqb;replace oPe:=own_ext (S.cur.own d2 oPe (by decide)) x3;replace oDi:=own_ext (S.cur.own d2 oDi (by decide)) x3;replace oPi:=own_ext (S.cur.own d2 oPi (by decide)) x3;clear S hp hpb2 hne HM k2 d2 x3 hqb;obtain⟨wA,hwA⟩:∃v:World,v=wr:=⟨_,rfl⟩
   subst hwA;go_loopw [84] (λ_ wx=>∃(u:Sl) (done:List PrT) (rest:List (List UInt8)),RB w wx mb kb (mm q u)/\CurIn wx qb rest/\u.n=done.length/\wx.ownsRow w.heap.size 57 96 (.slice u.A u.n u.c) done.length (done.flatMap prL)/\wx.ownsRow w.heap.size 92 2 (.slice A1 lpe.length c1) lpe.length (lpe.flatMap wrL)/\wx.ownsRow w.heap.size 92 2 (.slice A2 ldi.length c2) ldi.length (ldi.flatMap wrL)/\wx.ownsRow w.heap.size 95 2 (.slice q.A q.n q.c) lpi.length (lpi.flatMap wrL)/\Hid (allP procP T15=(allP procP rest).map (done++·))/\Hid (done.length+rest.length=T15.length)/\Hid (∀x∈rest,x.length<=100000000)) (λ_ wx=>T15.length-lenS ((wx.cell? ⟨mb,5,none⟩).getD undef));case atStart=>exact⟨sl0,[],T15,S3,hc3,rfl,⟨rfl,.inl ⟨rfl,rfl⟩⟩,oPe,oDi,oPi,lh_ (allP_start procP T15),lh_ (by simp),HF15⟩
   case round =>
    clear S3 hc3 oPe oDi oPi;obtain⟨u,done,rest,S,hp,hrn,oq,oPe,oDi,oPi,hA,hl,hf⟩:=hrel;have HM:=lh_ (more_any qb rest wr hp);have Hrn:=lh_ hrn;clear hrn;cases rest with
    | cons x rest =>
     have hxl:=hf.out x List.mem_cons_self;cases hy:procP x with
     | none =>
      obtain rfl:=map_end HRN.out (allP_fail hA.out hy);have HPn:=lh_ (λw hD=>readProc_no hy w hxl hD);clear hy hxl HRN hA hl hf oq oPe oDi oPi;go_upto_region 22 with(go_at_call 131;refine HM.out.mono ?_;rintro e w2 ⟨rfl,rfl⟩)
      refine wp_region_any (by kernel_rfl) ?_;change wpAny _ _ _ _ _ _ _ (World.drew _);have Sd:=S.more (Ext.refl wr).drew;have hpd:=hp.ext (Ext.refl wr).drew;clear S hp;generalize World.drew wr=wd at *;have q5:=HC5.out wd q u Sd;refine wpAny_take (i:=0) (v:=.pointer (some ⟨mb,5,none⟩)) rfl (by kernel_rfl) (by kernel_rfl) (by kernel_rfl) (λc a w h=>rest_panic_put (by decide) (by decide) h) (Or.inl ⟨by rfl,?_⟩) ?_
      ·intro w;go_simp
      refine wpAny_take (i:=2) (v:=.pointer (some ⟨qb,0,none⟩)) rfl (by kernel_rfl) (by kernel_rfl) (by kernel_rfl) (λc a w h=>rest_panic_put (by decide) (by decide) h) (Or.inl ⟨by rfl,?_⟩) ?_
      ·intro w;go_simp
      refine wpAny_ready (rs:=[1,3]) (by kernel_rfl) (by simp) ?_;refine AllReady.cons rfl (λK hK=>?_) (AllReady.cons rfl (λK hK=>?_) AllReady.nil)
      ·go_simp;refine hK _ _ ?_;clear hK K;refine wpAny_ready (rs:=[3]) (by kernel_rfl) (by simp) ?_;refine AllReady.cons rfl (λK hK=>?_) AllReady.nil;go_simp;go_wp2_with (go_at_call 126;refine(text_yes hpd).mono ?_;rintro e w2 ⟨rfl,k2,d2⟩)
       try (refine hK _ _ ?_;clear hK K)
       refine wpAny_ready (rs:=[4]) (by kernel_rfl) (by simp) ?_;refine AllReady.cons rfl (λK hK=>?_) AllReady.nil;go_simp;go_wp2_with (go_at_call 132;refine(HPn.out _ (HDD.out.ext (Sd.call hpd d2 hqb2).ext)).mono ?_;rintro e wz ⟨he,xz⟩;simp only[Bent]at he;subst he)
       have SZ:=(Sd.call hpd d2 hqb2).more xz;refine leaves_cons (f:=124) (args:=#[.pointer (some ⟨mb,0,none⟩),.pointer (some ⟨kb,0,none⟩)]) (by simp) (by simp[go_sem]) ?_;refine(catch_bent mb kb wz _ _ SZ.box rfl SZ.okb []).mono ?_;rintro e' u' w'' ⟨rfl,rfl,b5,b6,x6⟩;simp only[Leaves,settle];exact⟨_,rest_results w'' mb kb mac0 false rfl rfl b5 b6,rfl,x6 w SZ.ext SZ.lm SZ.lk⟩
      ·go_simp;go_wp2_with (go_at_call 126;refine(text_yes hpd).mono ?_;rintro e w2 ⟨rfl,k2,d2⟩)
       try (refine hK _ _ ?_;clear hK K)
       have q6:=HC5.out w2 q u (Sd.call hpd d2 hqb2);refine wpAny_ready (rs:=[1,4]) (by kernel_rfl) (by simp) ?_;refine AllReady.cons rfl (λK hK=>?_) (AllReady.cons rfl (λK hK=>?_) AllReady.nil)
       ·go_simp;refine hK _ _ ?_;clear hK K;refine wpAny_ready (rs:=[4]) (by kernel_rfl) (by simp) ?_;refine AllReady.cons rfl (λK hK=>?_) AllReady.nil;go_simp;go_wp2_with (go_at_call 132;refine(HPn.out _ (HDD.out.ext (Sd.call hpd d2 hqb2).ext)).mono ?_;rintro e wz ⟨he,xz⟩;simp only[Bent]at he;subst he)
        have SZ:=(Sd.call hpd d2 hqb2).more xz;refine leaves_cons (f:=124) (args:=#[.pointer (some ⟨mb,0,none⟩),.pointer (some ⟨kb,0,none⟩)]) (by simp) (by simp[go_sem]) ?_;refine(catch_bent mb kb wz _ _ SZ.box rfl SZ.okb []).mono ?_;rintro e' u' w'' ⟨rfl,rfl,b5,b6,x6⟩;simp only[Leaves,settle];exact⟨_,rest_results w'' mb kb mac0 false rfl rfl b5 b6,rfl,x6 w SZ.ext SZ.lm SZ.lk⟩
       ·go_simp;go_wp2_with (go_at_call 132;refine(HPn.out _ (HDD.out.ext (Sd.call hpd d2 hqb2).ext)).mono ?_;rintro e wz ⟨he,xz⟩;simp only[Bent]at he;subst he)
        have SZ:=(Sd.call hpd d2 hqb2).more xz;refine leaves_cons (f:=124) (args:=#[.pointer (some ⟨mb,0,none⟩),.pointer (some ⟨kb,0,none⟩)]) (by simp) (by simp[go_sem]) ?_;refine(catch_bent mb kb wz _ _ SZ.box rfl SZ.okb []).mono ?_;rintro e' u' w'' ⟨rfl,rfl,b5,b6,x6⟩;simp only[Leaves,settle];exact⟨_,rest_results w'' mb kb mac0 false rfl rfl b5 b6,rfl,x6 w SZ.ext SZ.lm SZ.lk⟩
     | some y =>
     have HPy:=lh_ (λw hD=>readProc_yes x y w hy hxl hD);have HY:=lh_ hy;have HCS:=lh_ (HC5.out wr q u S);clear hy hxl;go_upto_region 22 with(go_at_call 131;refine HM.out.mono ?_;rintro e w2 ⟨rfl,rfl⟩)
     have HST:Hid (∀a b,Ext a b->(RB w a mb kb (mm q u)/\a.ownsRow w.heap.size 92 2 (.slice A1 lpe.length c1) lpe.length (lpe.flatMap wrL)/\a.ownsRow w.heap.size 92 2 (.slice A2 ldi.length c2) ldi.length (ldi.flatMap wrL)/\a.ownsRow w.heap.size 95 2 (.slice q.A q.n q.c) lpi.length (lpi.flatMap wrL))->(RB w b mb kb (mm q u)/\b.ownsRow w.heap.size 92 2 (.slice A1 lpe.length c1) lpe.length (lpe.flatMap wrL)/\b.ownsRow w.heap.size 92 2 (.slice A2 ldi.length c2) ldi.length (ldi.flatMap wrL)/\b.ownsRow w.heap.size 95 2 (.slice q.A q.n q.c) lpi.length (lpi.flatMap wrL))):=lh_ (λa b x h=>⟨h.1.more x,own_ext h.2.1 x,own_ext h.2.2.1 x,own_ext h.2.2.2 x⟩);have hdl:done.length<=1000000000:=by have:=hl.out;have:=HDr.out;omega
     refine wp_region_webP' 8 [[],[0],[],[2],[3],[4],[1,5],[]] (listV [isV (.pointer (some ⟨mb,5,none⟩)),isV (.slice u.A u.n u.c),isV (.pointer (some ⟨qb,0,none⟩)),λa u=>u=.string (str x)/\CurIn a qb rest,isV (.agg (prL y).toArray),rowV 1 57 (prL y).toArray,λa u=>a.ownsRow w.heap.size 57 96 u (done.length+1) (done.flatMap prL++prL y),isV (.pointer (some ⟨mb,5,none⟩))]) (λa=>RB w a mb kb (mm q u)/\a.ownsRow w.heap.size 92 2 (.slice A1 lpe.length c1) lpe.length (lpe.flatMap wrL)/\a.ownsRow w.heap.size 92 2 (.slice A2 ldi.length c2) ldi.length (ldi.flatMap wrL)/\a.ownsRow w.heap.size 95 2 (.slice q.A q.n q.c) lpi.length (lpi.flatMap wrL)) (λk a=>(k=3->CurIn a qb (x::rest))/\(k=6->a.ownsRow w.heap.size 57 96 (.slice u.A u.n u.c) done.length (done.flatMap prL))) (Rk (λa=>RB w a mb kb (mm q u)/\a.ownsRow w.heap.size 92 2 (.slice A1 lpe.length c1) lpe.length (lpe.flatMap wrL)/\a.ownsRow w.heap.size 92 2 (.slice A2 ldi.length c2) ldi.length (ldi.flatMap wrL)/\a.ownsRow w.heap.size 95 2 (.slice q.A q.n q.c) lpi.length (lpi.flatMap wrL)) qb 3 6 w.heap.size 96 57) 6 [5] (by kernel_rfl) (by kernel_rfl) (by kernel_rfl) ⟨S.more (Ext.refl _).drew,own_ext oPe (Ext.refl _).drew,own_ext oDi (Ext.refl _).drew,own_ext oPi (Ext.refl _).drew⟩ (λj=>⟨λ_=>hp.ext (Ext.refl _).drew,λ_=>own_ext oq (Ext.refl _).drew⟩) (λk a b h r=>r.st h) (λj k a b hjk _ hp r=>⟨λhj=>r.cur (λh=>hjk (hj.trans h.symm)) _ (hp.1 hj),λhj=>r.own (λh=>hjk (hj.trans h.symm)) _ _ _ (hp.2 hj)⟩) (λj k a b u hj hjk hkd _ r h=>by
      rcases(by omega:j=0\/j=1\/j=2\/j=3\/j=4\/j=5\/j=6\/j=7) with rfl|rfl|rfl|rfl|rfl|rfl|rfl|rfl;all_goals first|exact h|skip
      ·exact⟨h.1,r.cur (λhk=>hjk hk.symm) _ h.2⟩
      ·obtain⟨g,e1,e2⟩:=h;exact⟨g,e1,r.box (λhk=>absurd (List.mem_singleton.2 rfl) (hkd hk)) _ _ e2⟩
      ·exact r.own (λhk=>hjk hk.symm) _ _ _ h) (λus=>?_)
     simp only[List.take_succ_cons,List.take_zero,List.drop_succ_cons,List.drop_zero];rw[mWalk];refine And.intro (λw' hC hP hd=>?_) ?_
     ·clear hd;refine k_of_list 83 rfl (by simp) rfl ?_;go_wp2_with fail;exact⟨Rk.same,rfl⟩
     simp only[pS_,pN_,sA_,s0_,s1_];rw[mWalk];refine And.intro (λw' hC hP hd=>?_) ?_
     ·have h0:=hd 0 (by simp);clear hd;generalize us 0=u0 at *;obtain rfl:u0=.pointer (some ⟨mb,5,none⟩):=h0;have q0:=HC5.out w' q u hC.1;refine k_of_list 84 rfl (by simp[Act.put]) rfl ?_;go_wp2_with fail;exact⟨Rk.same,rfl⟩
     simp only[pS_,pN_,sA_,s0_,s1_];rw[mWalk];refine And.intro (λw' hC hP hd=>?_) ?_
     ·clear hd;refine k_of_list 85 rfl (by simp[Act.put]) rfl ?_;go_wp2_with fail;exact⟨Rk.same,rfl⟩
     simp only[pS_,pN_,sA_,s0_,s1_];rw[mWalk];refine And.intro (λw' hC hP hd=>?_) ?_
     ·have h2:=hd 2 (by simp);clear hd;generalize us 2=u2 at *;obtain rfl:u2=.pointer (some ⟨qb,0,none⟩):=h2;have hcu:=hP.1 rfl;refine k_of_list 86 rfl (by simp[Act.put]) rfl ?_;go_wp2_with (go_at_call 126;refine(text_yes hcu).mono ?_;rintro e w2 ⟨rfl,k2,d2⟩)
      exact⟨Rk.take (λh=>⟨h.1.call hcu d2 hqb2,hcu.own d2 h.2.1 (by decide),hcu.own d2 h.2.2.1 (by decide),hcu.own d2 h.2.2.2 (by decide)⟩) hcu d2 (by decide),rfl,k2⟩
     simp only[pS_,pN_,sA_,s0_,s1_];rw[mWalk];refine And.intro (λw' hC hP hd=>?_) ?_
     ·have h3:=hd 3 (by simp);clear hd;generalize us 3=u3 at *;obtain⟨rfl,hcr⟩:=h3;refine k_of_list 87 rfl (by simp[Act.put]) rfl ?_;go_wp2_with (go_at_call 132;refine(HPy.out _ (HDD.out.ext hC.1.ext)).mono ?_;rintro e w2 ⟨rfl,x2⟩)
      exact⟨Rk.ofExt (HST.out _ _ x2) x2,rfl⟩
     simp only[pS_,pN_,sA_,s0_,s1_];rw[mWalk];refine And.intro (λw' hC hP hd=>?_) ?_
     ·have h4:=hd 4 (by simp);clear hd;generalize us 4=u4 at *;obtain rfl:u4=.agg (prL y).toArray:=h4;refine k_of_list 88 rfl (by simp[Act.put]) rfl ?_;go_wp2_with (refine wp_build_proc (.tmp 87) rfl rfl y rfl ?_)
      exact⟨Rk.ofExt (HST.out _ _ ((Ext.refl w').alloc _)) ((Ext.refl w').alloc _),_,rfl,Box.new _ _ _⟩
     simp only[pS_,pN_,sA_,s0_,s1_];rw[mWalk];refine And.intro (λw' hC hP hd=>?_) ?_
     ·have h1:=hd 1 (by simp);have h5:=hd 5 (by simp);clear hd;generalize us 1=u1 at *;generalize us 5=u5 at *;obtain rfl:u1=.slice u.A u.n u.c:=h1;obtain⟨g5,rfl,bg5⟩:=h5;have hsz:=hC.1.ext.size;have ow:=hP.2 rfl;refine k_of_list 89 rfl (by simp[Act.put]) rfl ?_;go_wp2_with (refine wp_app_one (u:=.slice u.A u.n u.c) (prL y) underlying32 prInfo (by decide) rfl (prL_len y) (prL_one y) (by decide) rfl _ _ rfl rfl rfl ow bg5 hdl hsz ?_;intro u9 w9 o9 g9)
      exact⟨Rk.app (λh=>⟨h.1.grown ow g9 (by decide) (by decide) (Nat.le_refl _),own_twoR h.2.1 ow (by decide) g9,own_twoR h.2.2.1 ow (by decide) g9,own_twoR h.2.2.2 ow (by decide) g9⟩) ow g9 (by decide) (by decide),o9⟩
     simp only[pS_,pN_,sA_,s0_,s1_];rw[mWalk];refine And.intro (λw' hC hP hd=>?_) ?_
     ·clear hd;refine k_of_list 90 rfl (by simp[Act.put]) rfl ?_;go_wp2_with fail;exact⟨Rk.same,rfl⟩
     simp only[pS_,pN_,sA_,s0_,s1_];rw[mWalk];intro w' hC hv;have h3:=hv 3 (by omega) (by decide);have h6:=hv 6 (by omega) (by decide);have h7:=hv 7 (by omega) (by decide);clear hv;generalize us 2=u2 at *;generalize us 3=u3 at *;generalize us 6=u6 at *;generalize us 7=u7 at *;obtain⟨rfl,hcr⟩:=h3;have o7:w'.ownsRow w.heap.size 57 96 u6 (done.length+1) (done.flatMap prL++prL y):=h6;obtain rfl:u7=.pointer (some ⟨mb,5,none⟩):=h7;obtain⟨A3,c3,e3⟩:=own_isSl o7;subst e3;go_wp2_with (refine wp_st_rb hC.1 (mm q ⟨A3,done.length+1,c3⟩) _ _ _ rfl rfl 5 _ rfl rfl rfl szPrs (by decide) (HS5.out q u ⟨A3,done.length+1,c3⟩) ?_;intro w8 S8 d8)
     have bm:=hC.1.box;have HC2:=lh_ (HC5.out w8 q ⟨A3,done.length+1,c3⟩ S8);simp only[Act.put];go_roundw;case rel=>exact⟨⟨A3,done.length+1,c3⟩,done++[y],rest,S8,hcr.butT d8 bm (by decide) (CurIn.apart (w':=w8) hcr bm (by decide)),by simp,by rw[List.length_append,List.flatMap_append,List.flatMap_cons,List.flatMap_nil,List.append_nil];exact own_but o7 d8 bm (by decide),own_but hC.2.1 d8 bm (by decide),own_but hC.2.2.1 d8 bm (by decide),own_but hC.2.2.2 d8 bm (by decide),lh_ (allP_step hA.out HY.out),lh_ (by have:=hl.out;simp only[List.length_append,List.length_cons,List.length_nil]at *;omega),lh_ (λt ht=>hf.out t (List.mem_cons_of_mem _ ht))⟩
     case measure => rw[HC2.out,HCS.out];have:=hl.out;simp only[List.length_cons]at this;have h2:=Hrn.out;simp only[lenS,Option.getD_some];omega
    | nil =>
     obtain rfl:=map_go HRN.out (allP_stop hA.out);generalize done=lpr at *;have oPr:wr.ownsRow w.heap.size 57 96 (.slice u.A u.n u.c) lpr.length (lpr.flatMap prL):=oq;have Hrn2:=lh_ (show u.n=lpr.length from Hrn.out);clear oq Hrn hA hl hf HDr HF15 HO15 HRN;have bm:=S.box
     go_wp2_with (first
      | (go_at_call 131;refine HM.out.mono ?_;rintro e w2 ⟨rfl,rfl⟩)
      | (refine wp_ld _ _ rfl rfl mb (mm q u).cells _ _ rfl bm underlying38 rfl macSz ?_)
      | (refine wp_st _ _ _ rfl rfl mb (mm q u).cells _ _ rfl rfl bm macSz rfl (mac_one _) ?_;intro w3 b3 g3;have k3:=S.okb.grown g3 (λe=>S.ne (by injection e with e;exact e.symm)))
      | (refine wp_st_cell _ _ _ rfl rfl kb 0 _ _ _ _ rfl rfl rfl szBool k3 (by decide) rfl ?_;intro w4 b4 d4))
     have bmf:=d4.box b3 S.ne;have bkf:=b4;have xf:=d4.past (S.ext.grown g3 (λk e=>by cases e;exact S.lm)) S.lk;have fPr:=own_but (oPr.kept g3 (.inr (own_ne oPr bm (by decide)).symm)) d4 k3 (by decide);have fPi:=own_but (oPi.kept g3 (.inr (own_ne oPi bm (by decide)).symm)) d4 k3 (by decide);have fPe:=own_but (oPe.kept g3 (.inr (own_ne oPe bm (by decide)).symm)) d4 k3 (by decide);have fDi:=own_but (oDi.kept g3 (.inr (own_ne oDi bm (by decide)).symm)) d4 k3 (by decide);refine leaves_cons (f:=124) (args:=#[.pointer (some ⟨mb,0,none⟩),.pointer (some ⟨kb,0,none⟩)]) (by simp) (by simp[go_sem]) ?_;refine(catch_idle ⟨mb,0,none⟩ ⟨kb,0,none⟩ w4).mono ?_;rintro e' u' w5 ⟨rfl,rfl,rfl⟩;simp only[Leaves,settle];refine⟨_,rest_results w5 mb kb (mm q u) true rfl rfl bmf bkf,⟨u,q,⟨A1,lpe.length,c1⟩,⟨A2,ldi.length,c2⟩,?_,xf,Hrn2.out,Hqn.out,rfl,rfl,?_,?_,fPe,fDi⟩⟩
     ·rw[HMM.out]
     ·rw[Hrn2.out]at fPr ⊢;exact fPr
     ·rw[Hqn.out]at fPi ⊢;exact fPi
theorem readRest_yes (s:List UInt8) (z:Mac) (e:MacD) (w:World) (h:restQ s=some (z,e)) (hs:s.length<=100000000) (hD:Dec10 w) :
  Calls prog 68 #[.string (str s)] w λe' w'=>∃pr pi pe di:Sl,e'=.returned (.tuple #[.agg ({ z with pr:=pr,pi:=pi,pe:=pe,di:=di }:Mac).cells,.bool true])/\Ext w w'/\pr.n=e.pr.length/\pi.n=e.pi.length/\pe.n=e.pe.length/\di.n=e.di.length/\
   w'.ownsRow w.heap.size 57 96 (.slice pr.A pr.n pr.c) pr.n (e.pr.flatMap prL)/\w'.ownsRow w.heap.size 95 2 (.slice pi.A pi.n pi.c) pi.n (e.pi.flatMap wrL)/\w'.ownsRow w.heap.size 92 2 (.slice pe.A pe.n pe.c) pe.n (e.pe.flatMap wrL)/\w'.ownsRow w.heap.size 92 2 (.slice di.A di.n di.c) di.n (e.di.flatMap wrL) :=
 (readRest_any s w hs hD).mono (λe' w' k=>by rw[h]at k;exact k)
theorem flat_strL (l:List (List UInt8)):l.flatMap stL=(l.map str).map Value.string:=by
 induction l with
 | nil=>rfl
 | cons s l ih=>rw[List.flatMap_cons,ih];rfl
theorem clone_any (s:Sl) (l:List (List UInt8)) (w:World) (h:RowOf stL w s.A s.n l) (hk:s.ok) (hsm:s.n<=100000) :
  Calls prog 53 #[.slice s.A s.n s.c] w λe w'=>∃A c,e=.returned (.slice A l.length c)/\w'.ownsRow w.heap.size 9 1 (.slice A l.length c) l.length (l.flatMap stL)/\Ext w w':=by
 have hn:=h.1;obtain⟨A,n,c⟩:=s;simp only at h hk hsm hn ⊢;cases A with
 | none => obtain⟨rfl,rfl⟩:=hk.1 rfl;have hl:l=[]:=List.eq_nil_of_length_eq_zero hn.symm;subst hl;refine(Tryz.slices_Clone_string_nil 0 0 w).mono λe w' ⟨h1,h2⟩=>?_;subst h1 h2;exact⟨none,0,rfl,⟨rfl,.inl ⟨rfl,rfl⟩⟩,Ext.refl _⟩
 | some a =>
  by_cases h0:n=0
  ·subst h0;have hl:l=[]:=List.eq_nil_of_length_eq_zero hn.symm;subst hl;refine(Tryz.slices_Clone_string_zero a c w).mono λe w' ⟨v,h1,h2,_,h3⟩=>?_;obtain⟨A',c',rfl⟩:=own_asSl h2;exact⟨A',c',h1,h2,h3⟩
  ·obtain⟨b,o,e1,hc⟩:=h.2 (by omega);injection e1 with e1;subst e1;refine(Tryz.slices_Clone_string b o n c (l.map str) w (by rw[List.length_map];omega) (by omega) (λj hj=>?_)).mono λe w' ⟨v,h1,h2,_,h3⟩=>?_
   ·rw[List.length_map]at hj;refine hc j _ ?_;rw[flat_strL];simp[hj,List.getD_eq_getElem?_getD]
   ·rw[List.take_of_length_le (by rw[List.length_map];omega),← flat_strL]at h2;subst hn;obtain⟨A',c',rfl⟩:=own_asSl h2;exact⟨A',c',h1,h2,h3⟩
theorem own_ok {w:World}{base z:Nat}{e:TypeId}{s:Sl}{xs:List Value}(h:w.ownsRow base e z (.slice s.A s.n s.c) s.n xs) (hs:s.n<=100000):s.ok:=by
 refine⟨λhA=>?_,by unfold maxLen;omega,?_⟩
 ·rcases h.2 with⟨e1,_⟩|⟨g,cap,cur,e1,_⟩
  ·injection e1 with _ e2 e3;exact⟨e2,e3⟩
  ·injection e1 with e1;rw[hA]at e1;cases e1
 ·rcases h.2 with⟨e1,_⟩|⟨g,cap,cur,e1,_,_,hc,_⟩
  ·injection e1 with _ e2 e3;omega
  ·injection e1 with _ _ e3;omega
theorem rest_sameT {m z:Mac}{d:MacD}(s:SameSc z m):restT z d=restT m d:=by
 unfold restT restL;rw[s.clock,s.quantum,s.cur,s.left,s.next,s.init,s.newPipe,s.inn,s.fin,s.told,s.dleft]
theorem szStrs:(prog.info? 22).map (·.size)=some 1:=by kernel_rfl
theorem textsP_sum (b:List UInt8):(textsP b).2=0->((textsP b).1.map (λt=>t.length+1)).sum<=b.length:=by
 induction hn:b.length using Nat.strongRecOn generalizing b with
 | ind n ih =>
  subst hn;intro h;by_cases hb:b=[]
  ·subst hb;rw[textsP_nil];simp
  ·rw[textsP_step b hb]at h ⊢;split at h
   ·rename_i h1;exact absurd h h1
   ·rename_i h1;rw[if_neg h1];split at h
    ·simp at h
    ·rename_i h2;rw[if_neg h2];split at h
     ·rename_i h3;exact absurd h h3
     ·rename_i h3;rw[if_neg h3];have hu:=lengthP_used b (by simpa using h1);have hl:0<b.length:=List.length_pos_iff.2 hb;have k:=ih _ (by simp only[List.length_drop];omega) ((b.drop (lengthP b).2.1).drop (lengthP b).1) rfl (by simpa using h3);simp only[List.map_cons,List.sum_cons,List.length_take,List.length_drop]at k h2 ⊢;omega
theorem intP_itoaS {s:List UInt8}{v:Int}(h:intP s=some v):N64 v/\Lib.itoa v=s:=by
 unfold intP at h;split at h
 ·rename_i n hp;split at h
  ·rename_i e;injection h with h;subst h;exact⟨parse_fits hp,e⟩
  ·cases h
 ·cases h
theorem itoa_pos (v:Int):0<(Lib.itoa v).length:=by
 unfold Lib.itoa;split
 ·simp
 ·exact List.length_pos_iff.2 (digits_ne _)
theorem openT_texts {z:Option Nat}{s:List UInt8}{l:List (List UInt8)}(h:openT z s=some l):textsP s=(l,0):=by
 unfold openT at h;split at h
 ·rename_i k;injection h with h;rw[← h];exact Prod.ext rfl k.1
 ·cases h
theorem writeQ_three {s:List UInt8}{y:WrT}(h:writeQ s=some y):3<=s.length:=by
 obtain⟨a,h1,h2⟩:=writeQ_parts h;have h3:=textsP_sum s (by rw[openT_texts h1]);rw[openT_texts h1]at h3;have h4:=itoa_pos y.1;rw[(intP_itoaS h2).2]at h4;simp only[List.map_cons,List.map_nil,List.sum_cons,List.sum_nil]at h3;omega
theorem allP_len {α β:Type} {f:α->Option β}:∀{l:List α}{l':List β},allP f l=some l'->l'.length=l.length/\∀y∈l',∃x∈l,f x=some y
 | [],l',h=>by injection h with h;subst h;exact⟨rfl,λy hy=>by cases hy⟩
 | x::l,l',h=>by
  rw[allP]at h;obtain⟨y,h1,h2⟩:=some_bind h;obtain⟨t,h3,h4⟩:=some_map h2;subst h4;obtain⟨k1,k2⟩:=allP_len h3;refine⟨by simp[k1],λz hz=>?_⟩;rcases List.mem_cons.1 hz with rfl|hz
  ·exact⟨x,List.mem_cons_self,h1⟩
  ·obtain⟨u,hu,e⟩:=k2 z hz;exact⟨u,List.mem_cons_of_mem _ hu,e⟩
theorem allP_all {α β:Type} {f:α->Option β}:∀{l:List α}{l':List β},allP f l=some l'->∀x∈l,∃y,f x=some y
 | [],_,_=>λx hx=>by cases hx
 | x::l,l',h=>by
  rw[allP]at h;obtain⟨y,h1,h2⟩:=some_bind h;obtain⟨t,h3,_⟩:=some_map h2;intro u hu;rcases List.mem_cons.1 hu with rfl|hu
  ·exact⟨y,h1⟩
  ·exact allP_all h3 u hu
theorem sum_four:∀l:List (List UInt8),(∀t∈l,3<=t.length)->4*l.length<=(l.map (λt=>t.length+1)).sum
 | [],_=>by simp
 | t::l,h=>by have h1:=h t List.mem_cons_self;have h2:=sum_four l (λx hx=>h x (List.mem_cons_of_mem _ hx));simp only[List.length_cons,List.map_cons,List.sum_cons];omega
theorem writesP_four {s:List UInt8}{l:List WrT}(h:writesP s=some l):4*l.length<=s.length:=by
 unfold writesP at h;obtain⟨T,h1,h2⟩:=some_bind h;have h3:=textsP_sum s (by rw[openT_texts h1]);rw[openT_texts h1]at h3;have h4:=sum_four T (λt ht=>by
  obtain⟨y,hy⟩:=allP_all h2 t ht;exact writeQ_three hy)
 rw[(allP_len h2).1];exact Nat.le_trans h4 h3
theorem numP_fit {z:Nat}{s:List UInt8}{n:Int}(h:numP z s=some n):0<=n/\n<((256^z:Nat):Int):=by
 unfold numP at h;split at h
 ·rename_i hl;injection h with h;subst h;have:=numL_few s;rw[hl]at this;omega
 ·cases h
theorem procP_fit {s:List UInt8}{y:PrT}(h:procP s=some y):(∀i<16,0<=y.reg i/\y.reg i<4294967296)/\(0<=y.pc/\y.pc<4294967296)/\(0<=y.code/\y.code<4294967296)/\(0<=y.num/\y.num<18446744073709551616):=by
 obtain⟨t0,t1,t2,t3,t4,t5,t6,t7,t8,t9,pid,par,st,mask,code,why,num,_,_,_,_,_,_,_,_,h7,_,h9,rfl⟩:=procP_parts h;have e4:((256^4:Nat):Int)=4294967296:=by decide
 have e8:((256^8:Nat):Int)=18446744073709551616:=by decide
 have k7:=numP_fit h7;have k9:=numP_fit h9;rw[e4]at k7;rw[e8]at k9;refine⟨λi _=>?_,?_,k7,k9⟩
 ·have:=numAt_fits t3 (4*i) 4;rw[e4]at this;exact this
 ·have:=numAt_fits t3 64 4;rw[e4]at this;exact this
structure RestK (s:List UInt8) (z:Mac) (e:MacD):Prop where
 fit:MacFit z e
 dwf:(Lit.int .i64 z.dleft).wf=true
 prl:e.pr.length<=s.length
 pil:e.pi.length<=s.length
 pel:e.pe.length<=s.length
 dil:e.di.length<=s.length
 pe4:4*e.pe.length<=s.length
 pi4:4*e.pi.length<=s.length
 initl:z.init.length<=s.length
 innl:z.inn.length<=s.length
theorem restQ_fit {s:List UInt8}{z:Mac}{e:MacD}(h:restQ s=some (z,e)):RestK s z e:=by
 obtain⟨t1,t2,t3,t4,t5,t6,t7,t8,t9,t10,t11,t12,t13,t14,t15,p0,p1,p2,p3,p4,p5,p6,p7,p8,p9,p10,p11,p12,p13,p14,p15,r1,r2,r3,r4,r5,r6,_,_⟩:=restQ_parts h;have hf:=openT_few p0;have e8:((256^8:Nat):Int)=18446744073709551616:=by decide
 have k1:=numP_fit p1;have k10:=numP_fit p10;rw[e8]at k1 k10;have h12:=writesP_four p12;have h13:=writesP_four p13;have h14:=writesP_four p14;have f6:=hf t6 (by simp);have f8:=hf t8 (by simp);have f12:=hf t12 (by simp);have f13:=hf t13 (by simp);have f14:=hf t14 (by simp);have f15:=hf t15 (by simp);obtain⟨T,q1,q2⟩:=some_bind p15;have hT:=(textsP_len t15).1;rw[openT_texts q1]at hT;have hT2:=(allP_len q2).1;have hdl:=(intP_itoaS p11).1;refine⟨⟨k1,k10,hdl,(intP_itoaS p3).1,λy hy=>?_⟩,?_,by simp only at hT;omega,by omega,by omega,by omega,by omega,by omega,by rw[p6];exact f6,by rw[p8];exact f8⟩
 ·obtain⟨x,_,hx⟩:=(allP_len q2).2 y hy;exact procP_fit hx
 ·unfold N64 at hdl;have e1:IntKind.i64.min= -9223372036854775808:=by decide
  have e2:IntKind.i64.max=9223372036854775807:=by decide
  unfold Lit.wf;simp only[Bool.and_eq_true,decide_eq_true_eq,e1,e2];exact hdl
theorem restQ_pe {s:List UInt8}{p:Mac × MacD}(h:restQ s=some p) (hs:s.length<=4000):p.2.pe.length<=1000:=by
 obtain⟨z,e⟩:=p;have:=(restQ_fit h).pe4;show e.pe.length<=1000;omega
theorem errB_congr {p q:Prop}(h:p↔q) (c:Int):errB p c=errB q c:=by rw[propext h]
theorem nums_same {m z:Mac}(s:SameSc z m):NumsOk z↔NumsOk m:=by
 constructor<;>intro h
 ·exact⟨by rw[← s.quantum];exact h.quantum,by rw[← s.left,← s.quantum];exact h.left,by rw[← s.cur];exact h.cur,by rw[← s.next];exact h.next,by rw[← s.newPipe];exact h.newPipe⟩
 ·exact⟨by rw[s.quantum];exact h.quantum,by rw[s.left,s.quantum];exact h.left,by rw[s.cur];exact h.cur,by rw[s.next];exact h.next,by rw[s.newPipe];exact h.newPipe⟩
theorem procs_same {m z:Mac}{d:MacD}(s:SameSc z m) (hf:z.fr.n=m.fr.n):ProcsK z d d.pr.length↔ProcsK m d d.pr.length:=by
 constructor<;>intro h i hi hk<;>obtain⟨a,b⟩:=h i hi hk
 ·exact⟨⟨by rw[← s.next];exact a.pid,a.state,a.reg,a.par,a.why,a.code,λj hj=>by have:=a.page j hj;unfold PageP at *;rw[← hf];exact this,a.fd⟩,b⟩
 ·exact⟨⟨by rw[s.next];exact a.pid,a.state,a.reg,a.par,a.why,a.code,λj hj=>by have:=a.page j hj;unfold PageP at *;rw[hf];exact this,a.fd⟩,b⟩
theorem pipes_same {m z:Mac}{l:List WrT}(s:SameSc z m):PipesK z l l.length↔PipesK m l l.length:=by
 unfold PipesK;rw[s.newPipe]
theorem chkE_same {m z:Mac}{d:MacD}(s:SameSc z m) (hf:z.fr.n=m.fr.n) (hr:z.pr.n=m.pr.n) (hp:z.pi.n=m.pi.n):chkE z d=chkE m d:=by
 unfold chkE numE frE prE piE teE;rw[errB_congr (nums_same s),hf,hr,hp,errB_congr (procs_same s hf),errB_congr (pipes_same s),s.inn,s.init]
theorem macFit_same {m z:Mac}{d d':MacD}(h:MacFit m d) (s:SameSc z m) (hd:d'.pr=d.pr):MacFit z d' :=
 ⟨by rw[s.clock];exact h.clock,by rw[s.told];exact h.told,by rw[s.dleft];exact h.dleft,by rw[s.cur];exact h.cur,by rw[hd];exact h.pr⟩
def imgD (FB BB:List (List UInt8)) (e:MacD):MacD:={ e with fr:=FB,bl:=BB }
def imgM (z:Mac) (d:MacD):Mac:={ z with fr:=⟨none,d.fr.length,0⟩,pr:=⟨none,d.pr.length,0⟩,pi:=⟨none,d.pi.length,0⟩ }
noncomputable def imgE (FB BB:List (List UInt8)) (s:List UInt8):Int:=match restQ s with
 | none=>3
 | some (z,e)=>orE (chkE (imgM z (imgD FB BB e)) (imgD FB BB e)) (if restT z (imgD FB BB e)=s then 0 else 3)
end Go.Proofs.YtfaplefkakpgcaaGreatDoor
