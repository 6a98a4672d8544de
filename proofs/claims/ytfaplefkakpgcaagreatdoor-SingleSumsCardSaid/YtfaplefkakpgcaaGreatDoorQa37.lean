import Derived.Test.YtfaplefkakpgcaaGreatDoorQa13
set_option linter.unusedVariables false
set_option linter.unusedSimpArgs false
set_option maxHeartbeats 32000000
set_option maxRecDepth 100000
namespace Go.Proofs.YtfaplefkakpgcaaGreatDoor
open Go.Proofs.Tryz
open Go.RowKit
structure Ja where
 path:List UInt8
 kind:Int
 size:Int
 links:Int
 owner:Int
 ino:Int
 sum:Nat->Nat
def QB (x:Ja):List Value:=[.string (Qb x.path),.int .i64 x.kind,.int .i64 x.size,.int .i64 x.links,.int .i64 x.owner,.int .i64 x.ino]++(List.range 32).map λi=>.int .u8 ((x.sum i:Nat):Int)
theorem Jt (x:Ja):(QB x).length=38:=by simp[QB]
theorem TS (x:Ja):∀v∈QB x,v.oneCell'=true:=λv hv=>by
 simp only[QB,SN,TA,Td,L1,Pq]at hv;rcases hv with(rfl|rfl|rfl|rfl|rfl|rfl)|⟨i,_,rfl⟩<;>rfl
theorem Wn:(prog.info? 73).map (·.size)=some 38:=by kernel_rfl
theorem My:∀(vs:List Value) (o:Nat) (cs:Array Value),(N9 cs o vs).size=cs.size
 | [],_,_=>rfl
 | _::l,o,cs=>by rw[N9,My l];simp
theorem GF:∀(vs:List Value) (o:Nat) (cs:Array Value) (j:Nat),o+vs.length<=cs.size->(N9 cs o vs)[j]? =if o<=j/\j<o+vs.length then vs[j-o]? else cs[j]?
 | [],o,cs,j,_=>by rw[N9,Qr (by simp)]
 | v::l,o,cs,j,h=>by
  simp only[YV]at h;rw[N9,GF l (o+1) _ j (by simp;omega)];by_cases e:j=o
  ·subst e;rw[Qr (by omega),Qv (by simp)];simp[show j<cs.size by omega]
  ·by_cases h1:o+1<=j/\j<o+1+l.length
   ·rw[Qv h1,Qv (by simp;omega),show j-o=(j-(o+1))+1 by omega,gt]
   ·rw[Qr h1,Qr (by simp;omega),j0 (Fq e)]
theorem Wo {α:Type} (f:α->List Value) (z:Nat) (hz:0<z) (l:List α) (hf:∀x,(f x).length=z) (j:Nat):(l.flatMap f)[j]? =(l[j/z]?).bind λx=>(f x)[j%z]? :=by
 by_cases h:j/z<l.length
 ·have h1:=Ue f z l (λx _=>hf x) (j/z) h (j%z) (kE _ hz);rw[bh,Nat.div_add_mod]at h1;rw[h1,JZ h];rfl
 ·have h2:(l.flatMap f).length=l.length*z:=Kw f z l (λx _=>hf x);have h3:l.length*z<=j:=Y6 (mJ z (by omega)) (Nat.div_mul_le_self j z);rw[Fl (by omega),Fl (by omega)];rfl
theorem dp {α:Type} {w w':World}{B z n c g i:Nat}{T:TypeId}(f:α->List Value) (hz:0<z) (hf:∀x,(f x).length=z) {l:List α}(o:w.ownsRow B T z (.slice (some ⟨g,0,none⟩) n c) n (l.flatMap f)) (hl:l.length=n) (hi:i<n) (x:α)
  {cs:Array Value}(hb:Box w g T cs) (Sg:Box w' g T (N9 cs (i*z) (f x))):w'.ownsRow B T z (.slice (some ⟨g,0,none⟩) n c) n ((l.set i x).flatMap f):=by
 rcases o.2 with⟨h,_⟩|⟨g',cap,cur,h1,h2,h3,h4,h5,h6,h7⟩
 ·cases h
 ·injection h1 with e1 _ e3;injection e1 with e1;injection e1 with e1;subst e1;subst e3;have hc:cur=cs:=by
   have:=h3.symm.trans hb;simpa using this
  subst hc;have Qo:i*z+z<=cur.size:=by have h8:(i+1)*z<=c*z:=mJ z (by omega);rw[SL]at h8;omega
  refine⟨by rw[Kw f z _ (λx _=>hf x),mS,hl],.inr ⟨g,c,N9 cur (i*z) (f x),rfl,h2,Sg,h4,h5,by rw[My];exact h6,?_⟩⟩;apply go;intro j;rw[Ty,Wo f z hz _ hf];by_cases hj:j<n*z
  ·rw[Qv hj,Array.getElem?_toList,GF _ _ _ _ (by rw[hf];exact Qo),hf];have UU:j/z<n:=Nat.div_lt_of_lt_mul (by rw[bh];exact hj);have hdm:=Nat.div_add_mod j z;have s9:=kE j hz;by_cases e:j/z=i
   ·have Gd:j=i*z+j%z:=by rw[←e,bh];exact hdm.symm
    rw[Qv (by omega),e,List.getElem?_set_self (by omega)];show(f x)[j-i*z]? =(f x)[j%z]?;rw[show j-i*z=j%z by omega]
   ·rw[List.getElem?_set_ne (Fq e)];have h9:¬(i*z<=j/\j<i*z+z):=λ⟨a1,a2⟩=>e (by
     rw[Nat.div_eq_of_lt_le (by omega) (by rw[SL];exact a2)])
    rw[Qr h9,←Wo f z hz _ hf,←h7,Ty,Qv hj,Array.getElem?_toList]
  ·rw[Qr hj,Fl (by
    rw[mS,hl];exact(Nat.le_div_iff_mul_le hz).2 (by omega))];rfl
section
variable {ops:Array Oper}{rest:List Oper}{o:Oper}{a:Act}{w:World}{Q:Exit->Act->World->Prop}{B n c g:Nat}{l:List Ja}
abbrev WS (w:World) (B g n c:Nat) (l:List Ja):Prop:=w.ownsRow B 73 38 (.slice (some ⟨g,0,none⟩) n c) n (l.flatMap QB)/\l.length=n
theorem Q6 (x:Operand) (i:Nat) (y:Ja) (h:WS w B g n c l) (hi:l[i]? =some y) (Q7:o.guard=none) (ho:o.op=.load 73 x) (hx:a.eval x=.pointer (some ⟨g,i*38,none⟩))
  (hK:wpList prog ops Q rest (a.put o.dst (.agg (QB y).toArray)) w):wpList prog ops Q (o::rest) a w:=by
 refine wpList_load_mid Q7 _ x ho g (i*38) hx (QB y) _ (λj v hv=>?_) underlying73 rfl (by rw[Jt];exact Wn) hK;have hj:j<38:=by have:=(PO.1 hv).1;rw[Jt]at this;exact this
 have nN:i<l.length:=(PO.1 hi).1;rw[h.1.cellAt (i*38+j) (by have:=h.2;omega),Wo QB 38 (by omega) _ Jt,show(i*38+j)/38=i by omega,show(i*38+j)%38=j by omega,hi];exact hv
theorem NX (x:Operand) (i:Nat) (y:Ja) (h:WS w B g n c l) (hi:l[i]? =some y) (hw:Region.wanted o (yielded ops a.tmps)=true) (ho:o.op=.load 73 x) (hx:a.eval x=.pointer (some ⟨g,i*38,none⟩))
  (hK:wpList prog ops Q rest (a.put o.dst (.agg (QB y).toArray)) w):wpList prog ops Q (o::rest) a w:=by
 have h2:=Q6 (o:={ o with guard:=none }) (ops:=ops) (rest:=rest) (Q:=Q) x i y h hi rfl ho hx hK;rw[wpList]at h2 ⊢;rw[Qv (by simp[Region.wanted])]at h2;rw[Qv hw];exact h2
theorem Yc (x z:Operand) (i:Nat) (y:Ja) (h:WS w B g n c l) (hi:i<n) (Q7:o.guard=none) (ho:o.op=.store 73 x z) (hx:a.eval x=.pointer (some ⟨g,i*38,none⟩)) (hy:a.eval z=.agg (QB y).toArray)
  (hK:∀w',WS w' B g n c (l.set i y)->But g w w'->wpList prog ops Q rest (a.put o.dst undef) w'):wpList prog ops Q (o::rest) a w:=by
 rcases h.1.2 with⟨h1,_⟩|⟨g',cap,cur,h1,h2,h3,h4,h5,h6,h7⟩
 ·cases h1
 ·injection h1 with e1 _ e3;injection e1 with e1;injection e1 with e1;subst e1;subst e3;have hb:Box w g 73 cur:=h3;have Qo:i*38+(QB y).length<=cur.size:=by rw[Jt];omega
  exact Y3 73 x z Q7 ho g (i*38) (QB y) cur _ 73 hx hy (TS y) (by rw[Jt];exact Wn) hb Qo rfl λw' Sg hk=>hK w' ⟨dp QB (by omega) Jt h.1 h.2 hi y hb Sg,by rw[mS];exact h.2⟩ hk
end
theorem Mk (s:List UInt8) (w:World):Calls prog 122 #[.string (Qb s)] w λe w'=>e=.returned (.bool false)/\w'=w:=by
 go_enter func122,ntmps122;go_wp2_with fail;go_ret;exact⟨by simp,rfl⟩
theorem FS (s t:List UInt8) (w:World):Calls prog 64 #[.string (Qb s),.string (Qb t)] w λe w'=>(∃i:Int,e=.returned (.int .i64 i))/\w'=w:=by
 have HS:=Qa (Mk s);have HT:=Qa (Mk t);go_enter func64,ntmps64
 go_wp2_with (first
  | (go_at_call 122;refine(HS.o _).mono ?_;rintro e w2 ⟨rfl,rfl⟩)
  | (go_at_call 122;refine(HT.o _).mono ?_;rintro e w2 ⟨rfl,rfl⟩))
 all_goals
  go_ret;exact⟨⟨_,rfl⟩,rfl⟩
theorem TI (x y:Ja) (w:World):Calls prog 63 #[.agg (QB x).toArray,.agg (QB y).toArray] w λe w'=>(∃i:Int,e=.returned (.int .i64 i))/\Ext w w':=by
 have x0:=((Qf w).alloc (.cells (QB x).toArray 73)).alloc (.cells (QB y).toArray 73);have bx:=(QA w 73 (QB x).toArray).ext ((Qf _).alloc (.cells (QB y).toArray 73));have ut:=QA (w.alloc (.cells (QB x).toArray 73)) 73 (QB y).toArray;rw[Ki]at ut;have HC:=Qa (FS x.path y.path);go_enter func63,ntmps63;go_upto_region 1 with fail;change Code.wp _ _ _ _ ((w.alloc (.cells (QB x).toArray 73)).alloc (.cells (QB y).toArray 73));generalize (w.alloc (.cells (QB x).toArray 73)).alloc (.cells (QB y).toArray 73)=w1 at *;have c0:w1.cell? ⟨w.heap.size,0,none⟩=some (.string (Qb x.path)):=bx.cell 0;have c1:w1.cell? ⟨w.heap.size+1,0,none⟩=some (.string (Qb y.path)):=ut.cell 0;go_wp2_with (go_at_call 64;refine(HC.o _).mono ?_;rintro e w2 ⟨⟨i,rfl⟩,rfl⟩)
 go_ret;exact⟨⟨_,rfl⟩,x0⟩
structure Jl (w0 w:World) (B g n c:Nat) (l l0:List Ja):Prop where
 row:WS w B g n c l
 perm:l.Perm l0
 ext:Ext w0 w
 hB:w0.heap.size<=B
theorem WS.base {w:World}{B g n c:Nat}{l:List Ja}(h:WS w B g n c l):B<=g:=Jc h.1 rfl
theorem WS.ext {w w':World}{B g n c:Nat}{l:List Ja}(h:WS w B g n c l) (x:Ext w w'):WS w' B g n c l:=⟨Qe h.1 x,h.2⟩
theorem Jl.more {w0 w w':World}{B g n c:Nat}{l l0:List Ja}(h:Jl w0 w B g n c l l0) (x:Ext w w'):Jl w0 w' B g n c l l0:=⟨h.row.ext x,h.perm,h.ext.trans x,h.hB⟩
theorem Jl.put {w0 w w':World}{B g n c i:Nat}{l l' l0:List Ja}(h:Jl w0 w B g n c l l0) (r:WS w' B g n c l') (k:But g w w') (p:l'.Perm l):Jl w0 w' B g n c l' l0 :=
 ⟨r,p.trans h.perm,k.past h.ext (Y6 h.hB h.row.base),h.hB⟩
structure L8 (w0 w:World) (B g n c:Nat) (l:List Ja):Prop where
 row:WS w B g n c l
 ext:Ext w0 w
theorem Uo {l:List Ja}{i j:Nat}{x y:Ja}(hi:l[i]? =some x) (hj:l[j]? =some y):((l.set i y).set j x).Perm l:=by
 obtain⟨h1,rfl⟩:=PO.1 hi;obtain⟨h2,rfl⟩:=PO.1 hj;exact List.set_set_perm h1 h2
abbrev DS:Value:=.func (.func 63) #[] #[]
theorem PI (w0 w:World) (B g n c:Nat) (l l0:List Ja) (a b m:Nat) (h:Jl w0 w B g n c l l0) (ha:a+m<=n) (hb:b+m<=n) (hn:n<=1000000000) :
  Calls prog 229 #[.slice (some ⟨g,0,none⟩) n c,.int .i64 (a:Int),.int .i64 (b:Int),.int .i64 (m:Int),DS] w λe w'=>e=.returned (.tuple #[])/\∃l',Jl w0 w' B g n c l' l0:=by
 have H:=Qa h;clear h;go_enter func229,ntmps229;go_upto_region 1 with fail;go_loopw [10] (λi wx=>∃(j:Nat) (l':List Ja),j<=m/\i=.int .i64 j/\Jl w0 wx B g n c l' l0) (λi _=>m-(intOf i).toNat);case atStart=>exact⟨0,l,AZ _,rfl,H.o⟩
 case round =>
  obtain⟨j,l',hj,rfl,hS⟩:=hrel;clear H;by_cases Qo:j<m
  ·have Gd:(j:Int)<(m:Int):=by omega
   have e1:IntKind.i64.wrap ((a:Int)+(j:Int))=((a+j:Nat):Int):=by rw[ZU];omega
   have e2:IntKind.i64.wrap ((b:Int)+(j:Int))=((b+j:Nat):Int):=by rw[ZU];omega
   have p1:((a+j:Nat):Int)<(n:Int):=by omega
   have p2:((b+j:Nat):Int)<(n:Int):=by omega
   obtain⟨x,hx⟩:∃x,l'[a+j]? =some x:=⟨_,JZ (by have:=hS.row.2;omega)⟩
   obtain⟨y,hy⟩:∃y,l'[b+j]? =some y:=⟨_,JZ (by have:=hS.row.2;omega)⟩
   have HX:=Qa hx;have HY:=Qa hy;have HS:=Qa hS;clear hx hy hS;go_upto_region 3 with fail;try simp only[Act.put]
   have gU:Jl w0 wr.drew B g n c l' l0:=HS.o.more (Qf wr).drew;refine YT 23 [[],[],[],[1,2],[],[],[],[5,6],[],[],[],[9,10],[8,11],[12],[],[],[],[15,16],[14,17],[18],[0,3],[13,20],[4,7]] [.slice (some ⟨g,0,none⟩) n c,.int .i64 (a:Int),.int .i64 (j:Int),.int .i64 (((a+j:Nat):Int):Int),.slice (some ⟨g,0,none⟩) n c,.int .i64 (b:Int),.int .i64 (j:Int),.int .i64 (((b+j:Nat):Int):Int),.slice (some ⟨g,0,none⟩) n c,.int .i64 (b:Int),.int .i64 (j:Int),.int .i64 (((b+j:Nat):Int):Int),.pointer (some ⟨g,(b+j)*38,none⟩),.agg (QB y).toArray,.slice (some ⟨g,0,none⟩) n c,.int .i64 (a:Int),.int .i64 (j:Int),.int .i64 (((a+j:Nat):Int):Int),.pointer (some ⟨g,(a+j)*38,none⟩),.agg (QB x).toArray,.pointer (some ⟨g,(a+j)*38,none⟩),undef,.pointer (some ⟨g,(b+j)*38,none⟩)] 21 [13,19] (λv=>Jl w0 v B g n c l' l0) (λv=>L8 w0 v B g n c (l'.set (a+j) y)) (by kernel_rfl) (by kernel_rfl) rfl (by kernel_rfl) (by kernel_rfl) gU ?_;simp only[Yh,Yt,YB,Yu]
   iterate 13
    refine sW (λw' _=>?_) ?_
    ·go_wp2_with fail;all_goals first|exact rfl|exact⟨rfl,rfl⟩|exact⟨rfl,by go_num⟩|go_num
    simp only[S_]
   refine sW (λw' hJ=>?_) ?_
   ·have HJ:=hJ (by decide);go_wp2_with (refine Q6 (.tmp 28) (b+j) y HJ.row HY.o rfl rfl rfl ?_)
   simp only[S_]
   iterate 5
    refine sW (λw' _=>?_) ?_
    ·go_wp2_with fail;all_goals first|exact rfl|exact⟨rfl,rfl⟩|exact⟨rfl,by go_num⟩|go_num
    simp only[S_]
   refine sW (λw' hJ=>?_) ?_
   ·have HJ:=hJ (by decide);go_wp2_with (refine Q6 (.tmp 34) (a+j) x HJ.row HX.o rfl rfl rfl ?_)
   simp only[S_]
   iterate 1
    refine sW (λw' _=>?_) ?_
    ·go_wp2_with fail;all_goals first|exact rfl|exact⟨rfl,rfl⟩|exact⟨rfl,by go_num⟩|go_num
    simp only[S_]
   refine sS (λw' hJ=>?_) ?_
   ·go_wp2_with (refine Yc (.tmp 36) (.tmp 29) (a+j) y hJ.row (by omega) rfl rfl rfl rfl ?_;intro w2 r2 k2)
    have hT:L8 w0 w2 B g n c (l'.set (a+j) y):=⟨r2,k2.past hJ.ext (Y6 hJ.hB hJ.row.base)⟩
    first|exact hT|exact⟨hT,trivial⟩
   simp only[S_]
   iterate 1
    refine sW (λw' _=>?_) ?_
    ·go_wp2_with fail;all_goals first|exact rfl|exact⟨rfl,rfl⟩|exact⟨rfl,by go_num⟩|go_num
    simp only[S_]
   rw[Zq];intro w' HJ1;go_wp2_with (refine Yc (.tmp 37) (.tmp 35) (b+j) x HJ1.row (by omega) rfl rfl rfl rfl ?_;intro w3 r3 k3)
   have ib:Jl w0 w3 B g n c ((l'.set (a+j) y).set (b+j) x) l0:=⟨r3,(Uo HX.o HY.o).trans HS.o.perm,k3.past HJ1.ext (Y6 HS.o.hB HS.o.row.base),HS.o.hB⟩
   go_roundw;case rel=>exact⟨j+1,_,by omega,by go_num,ib⟩
   case measure=>simp[intOf];omega
  ·obtain rfl:j=m:=by omega
   go_wp2_with fail;exact bodyPost_end (UL rfl _ _ _) rfl ⟨rfl,l',hS⟩
theorem EP (w0 w:World) (B g n c:Nat) (l l0:List Ja) (a m b:Nat) (h:Jl w0 w B g n c l l0) (h1:a<m) (h2:m<b) (hb:b<=n) (hn:n<=1000000000) :
  Calls prog 218 #[.slice (some ⟨g,0,none⟩) n c,.int .i64 (a:Int),.int .i64 (m:Int),.int .i64 (b:Int),DS] w λe w'=>e=.returned (.tuple #[])/\∃l',Jl w0 w' B g n c l' l0:=by
 have H:=Qa h;have HR:=Qa (λw l a b k (hS:Jl w0 w B g n c l l0) h1 h2=>PI w0 w B g n c l l0 a b k hS h1 h2 hn);clear h;have e1:IntKind.i64.wrap ((m:Int)-(a:Int))=((m-a:Nat):Int):=by rw[ZU];omega
 have e2:IntKind.i64.wrap ((b:Int)-(m:Int))=((b-m:Nat):Int):=by rw[ZU];omega
 go_enter func218,ntmps218;go_upto_region 2 with fail;go_loopw [10,11] (λi j wx=>∃(p q:Nat) (l':List Ja),0<p/\0<q/\p<=m/\m+q<=n/\i=.int .i64 p/\j=.int .i64 q/\Jl w0 wx B g n c l' l0) (λi j _=>(intOf i).toNat+(intOf j).toNat);case atStart=>exact⟨m-a,b-m,l,by omega,by omega,by omega,by omega,by first|rfl|go_num,by first|rfl|go_num,H.o⟩
 case round =>
  obtain⟨p,q,l',hp,hq,hpm,hqn,rfl,rfl,hS⟩:=hrel;have HS:=Qa hS;clear H hS e1 e2;have f1:IntKind.i64.wrap ((m:Int)-(p:Int))=((m-p:Nat):Int):=by rw[ZU];omega
  by_cases hpq:p=q
  ·subst hpq;have g1:((p:Int) != (p:Int))=false:=by simp
   go_wp2_with (go_at_call 229;refine(HR.o _ l' (m-p) m p HS.o (by omega) (by omega)).mono ?_;rintro e w2 ⟨rfl,l2,hS2⟩)
   exact bodyPost_end (UL rfl _ _ _) rfl ⟨rfl,l2,hS2⟩
  ·have g1:((p:Int) != (q:Int))=true:=by simp;omega
   by_cases Qo:q<p
   ·have g2:decide ((q:Int)<(p:Int))=true:=by simp;omega
    have f2:IntKind.i64.wrap ((p:Int)-(q:Int))=((p-q:Nat):Int):=by rw[ZU];omega
    go_wp2_with (go_at_call 229;refine(HR.o _ l' (m-p) m q HS.o (by omega) (by omega)).mono ?_;rintro e w2 ⟨rfl,l2,hS2⟩)
    go_roundw;case rel=>exact⟨p-q,q,l2,by omega,hq,by omega,hqn,by first|rfl|go_num,rfl,hS2⟩
    case measure=>simp[intOf];omega
   ·have g2:decide ((q:Int)<(p:Int))=false:=by simp;omega
    have f2:IntKind.i64.wrap ((q:Int)-(p:Int))=((q-p:Nat):Int):=by rw[ZU];omega
    have f3:IntKind.i64.wrap ((m:Int)+(q:Int))=(m:Int)+(q:Int):=by rw[ZU];omega
    have f4:IntKind.i64.wrap ((m:Int)+(q:Int)-(p:Int))=((m+q-p:Nat):Int):=by rw[ZU];omega
    go_wp2_with (go_at_call 229;refine(HR.o _ l' (m-p) (m+q-p) p HS.o (by omega) (by omega)).mono ?_;rintro e w2 ⟨rfl,l2,hS2⟩)
    go_roundw;case rel=>exact⟨p,q-p,l2,hp,by omega,hpm,by omega,rfl,by first|rfl|go_num,hS2⟩
    case measure=>simp[intOf];omega
theorem PE (w0 w:World) (B g n c:Nat) (l l0:List Ja) (a b:Nat) (h:Jl w0 w B g n c l l0) (h1:a<=b) (hb:b<=n) (hn:n<=1000000000) :
  Calls prog 186 #[.slice (some ⟨g,0,none⟩) n c,.int .i64 (a:Int),.int .i64 (b:Int),DS] w λe w'=>e=.returned (.tuple #[])/\∃l',Jl w0 w' B g n c l' l0:=by
 have H:=Qa h;clear h;have e1:IntKind.i64.wrap ((a:Int)+1)=((a+1:Nat):Int):=by rw[ZU];omega
 go_enter func186,ntmps186;go_upto_region 1 with fail;clear e1;go_loopw [8] (λi wx=>∃(p:Nat) (l':List Ja),a<p/\p<=n+1/\i=.int .i64 p/\Jl w0 wx B g n c l' l0) (λi _=>n+1-(intOf i).toNat);case atStart=>exact⟨a+1,l,by omega,by omega,by first|rfl|go_num,H.o⟩
 case round =>
  obtain⟨p,l',ig,Kz,rfl,hS⟩:=hrel;have HS:=Qa hS;clear H hS;by_cases Qo:p<b;case neg =>
   have hf:¬(p:Int)<(b:Int):=by omega
   go_wp2_with fail;exact bodyPost_end (UL rfl _ _ _) rfl ⟨rfl,l',HS.o⟩
  have hlti:(p:Int)<(b:Int):=by omega
  go_upto_region 4 with fail;go_loopw [9] (λi wx=>∃(q:Nat) (l2:List Ja),a<=q/\q<=p/\i=.int .i64 q/\Jl w0 wx B g n c l2 l0) (λi _=>(intOf i).toNat);case atStart=>exact⟨p,l',by omega,QW _,rfl,HS.o⟩
  case round =>
   obtain⟨q,l2,haq,hqp,rfl,hS2⟩:=hrel;have Xt:=Qa hS2;clear HS hS2;by_cases hqa:a<q;case neg =>
    have hg:decide ((a:Int)<(q:Int))=false:=by simp;omega
    have Bw:IntKind.i64.wrap ((p:Int)+1)=((p+1:Nat):Int):=by rw[ZU];omega
    go_upto_region 4 with fail;try simp only[Act.put]
    refine QP 17 [[],[],[0,1],[2],[3],[3],[3],[3,5,6],[3,7],[3],[3],[3,10],[3,9,11],[3,12],[3,4,8,13],[3,14],[3,15]] [.int .i64 (q:Int),.int .i64 (a:Int),.bool false,.bool false,undef,undef,undef,undef,undef,undef,undef,undef,undef,undef,undef,undef,.bool false] (by kernel_rfl) (by kernel_rfl) rfl ?_;simp only[Yh,Yt,YB,Yu]
    iterate 17
     refine vW (λw' hx=>?_) ?_
     ·go_wp2_with fail;exact Qf _
     simp only[S_]
    rw[Zq];intro wz hx;rw[wpList];go_wp2_with fail;go_roundw;case rel=>exact⟨p+1,l2,by omega,by omega,by go_num,Xt.o.more hx⟩
    case measure=>simp[intOf];omega
   have hg:decide ((a:Int)<(q:Int))=true:=by simp;omega
   have f1:IntKind.i64.wrap ((q:Int)-1)=((q-1:Nat):Int):=by rw[ZU];omega
   have p1:(q:Int)<(n:Int):=by omega
   have p2:((q-1:Nat):Int)<(n:Int):=by omega
   obtain⟨y,hy⟩:∃y,l2[q]? =some y:=⟨_,JZ (by have:=Xt.o.row.2;omega)⟩
   obtain⟨x,hx⟩:∃x,l2[q-1]? =some x:=⟨_,JZ (by have:=Xt.o.row.2;omega)⟩
   have HX:=Qa hx;have HY:=Qa hy;have HCm:=Qa (λw=>TI y x w);clear hx hy;go_upto_region 4 with fail;try simp only[Act.put]
   refine QP 14 [[],[],[0,1],[2],[3],[3],[3],[3,5,6],[3,7],[3],[3],[3,10],[3,9,11],[3,12]] [.int .i64 (q:Int),.int .i64 (a:Int),.bool true,.bool true,DS,.slice (some ⟨g,0,none⟩) n c,.int .i64 (q:Int),.pointer (some ⟨g,q*38,none⟩),.agg (QB y).toArray,.slice (some ⟨g,0,none⟩) n c,.int .i64 (q:Int),.int .i64 (((q-1:Nat):Int):Int),.pointer (some ⟨g,(q-1)*38,none⟩),.agg (QB x).toArray] (by kernel_rfl) (by kernel_rfl) rfl ?_;simp only[Yh,Yt,YB,Yu]
   iterate 8
    refine vW (λw' hx=>?_) ?_
    ·go_wp2_with fail;exact Qf _
    simp only[S_]
   refine vW (λw' hx=>?_) ?_
   ·have hR:=Xt.o.more hx;go_wp2_with (refine NX (.tmp 25) q y hR.row HY.o rfl rfl rfl ?_)
    exact Qf _
   simp only[S_]
   iterate 4
    refine vW (λw' hx=>?_) ?_
    ·go_wp2_with fail;exact Qf _
    simp only[S_]
   refine vW (λw' hx=>?_) ?_
   ·have hR:=Xt.o.more hx;go_wp2_with (refine NX (.tmp 30) (q-1) x hR.row HX.o rfl rfl rfl ?_)
    exact Qf _
   simp only[S_];rw[Zq];intro wz hx;rw[wpList];go_wp2_with fail;refine DD ?_;refine(HCm.o _).mono ?_;rintro e w5 ⟨⟨iv,rfl⟩,x5⟩;dsimp only;have Ft:=Xt.o.more (hx.trans x5);by_cases hiv:iv<0;case neg =>
    have ax:decide (iv<0)=false:=by simp;omega
    have Bw:IntKind.i64.wrap ((p:Int)+1)=((p+1:Nat):Int):=by rw[ZU];omega
    have bT:=Qa Ft;clear Ft hiv;go_wp2_with fail;go_roundw;case rel=>exact⟨p+1,l2,by omega,by omega,by go_num,bT.o⟩
    case measure=>simp[intOf];omega
   have ax:decide (iv<0)=true:=by simp;omega
   have bT:=Qa Ft;clear Ft hiv x5 Xt;have Xt:=bT;clear bT;go_upto_region 6 with fail;try simp only[Act.put]
   have gU:Jl w0 w5.drew B g n c l2 l0:=Xt.o.more (Qf w5).drew;refine YT 17 [[],[],[],[],[3],[],[],[6],[5,7],[8],[],[],[10,11],[12],[0,1],[9,14],[2,4]] [.slice (some ⟨g,0,none⟩) n c,.int .i64 (q:Int),.slice (some ⟨g,0,none⟩) n c,.int .i64 (q:Int),.int .i64 (((q-1:Nat):Int):Int),.slice (some ⟨g,0,none⟩) n c,.int .i64 (q:Int),.int .i64 (((q-1:Nat):Int):Int),.pointer (some ⟨g,(q-1)*38,none⟩),.agg (QB x).toArray,.slice (some ⟨g,0,none⟩) n c,.int .i64 (q:Int),.pointer (some ⟨g,q*38,none⟩),.agg (QB y).toArray,.pointer (some ⟨g,q*38,none⟩),undef,.pointer (some ⟨g,(q-1)*38,none⟩)] 15 [9,13] (λv=>Jl w0 v B g n c l2 l0) (λv=>L8 w0 v B g n c (l2.set q x)) (by kernel_rfl) (by kernel_rfl) rfl (by kernel_rfl) (by kernel_rfl) gU ?_;simp only[Yh,Yt,YB,Yu]
   iterate 9
    refine sW (λw' _=>?_) ?_
    ·go_wp2_with fail;all_goals first|exact rfl|exact⟨rfl,rfl⟩|exact⟨rfl,by go_num⟩|go_num
    simp only[S_]
   refine sW (λw' hJ=>?_) ?_
   ·have HJ:=hJ (by decide);go_wp2_with (refine Q6 (.tmp 45) (q-1) x HJ.row HX.o rfl rfl rfl ?_)
   simp only[S_]
   iterate 3
    refine sW (λw' _=>?_) ?_
    ·go_wp2_with fail;all_goals first|exact rfl|exact⟨rfl,rfl⟩|exact⟨rfl,by go_num⟩|go_num
    simp only[S_]
   refine sW (λw' hJ=>?_) ?_
   ·have HJ:=hJ (by decide);go_wp2_with (refine Q6 (.tmp 49) q y HJ.row HY.o rfl rfl rfl ?_)
   simp only[S_]
   iterate 1
    refine sW (λw' _=>?_) ?_
    ·go_wp2_with fail;all_goals first|exact rfl|exact⟨rfl,rfl⟩|exact⟨rfl,by go_num⟩|go_num
    simp only[S_]
   refine sS (λw' hJ=>?_) ?_
   ·go_wp2_with (refine Yc (.tmp 51) (.tmp 46) q x hJ.row (by omega) rfl rfl rfl rfl ?_;intro w2 r2 k2)
    have hT:L8 w0 w2 B g n c (l2.set q x):=⟨r2,k2.past hJ.ext (Y6 hJ.hB hJ.row.base)⟩
    first|exact hT|exact⟨hT,trivial⟩
   simp only[S_]
   iterate 1
    refine sW (λw' _=>?_) ?_
    ·go_wp2_with fail;all_goals first|exact rfl|exact⟨rfl,rfl⟩|exact⟨rfl,by go_num⟩|go_num
    simp only[S_]
   rw[Zq];intro w' HJ1;go_wp2_with (refine Yc (.tmp 52) (.tmp 50) (q-1) y HJ1.row (by omega) rfl rfl rfl rfl ?_;intro w3 r3 k3)
   have ib:Jl w0 w3 B g n c ((l2.set q x).set (q-1) y) l0:=⟨r3,(Uo HY.o HX.o).trans Xt.o.perm,k3.past HJ1.ext (Y6 Xt.o.hB Xt.o.row.base),Xt.o.hB⟩
   go_roundw;case rel=>exact⟨q-1,_,by omega,by omega,by first|rfl|go_num,ib⟩
   case measure=>simp[intOf];omega
theorem LQ (w0:World) (B g n c:Nat) (l0:List Ja) (hn:n<=1000000000):∀(N a m b:Nat) (w:World) (l:List Ja),b-a<=N->Jl w0 w B g n c l l0->a<m->m<b->b<=n->
  Calls prog 187 #[.slice (some ⟨g,0,none⟩) n c,.int .i64 (a:Int),.int .i64 (m:Int),.int .i64 (b:Int),DS] w λe w'=>e=.returned (.tuple #[])/\∃l',Jl w0 w' B g n c l' l0:=by
 intro N;induction N with
 | zero=>intro a m b w l h1 _ h2 h3;omega
 | succ N ih =>
 intro a m b w l hN h h1 h2 hb;have H:=Qa h;have IH:=Qa ih;have HC:=Qa (λw x y=>TI x y w);have HR:=Qa (λw l a m b (hS:Jl w0 w B g n c l l0) h1 h2 h3=>EP w0 w B g n c l l0 a m b hS h1 h2 h3 hn);clear h ih;have e1:IntKind.i64.wrap ((m:Int)-(a:Int))=((m-a:Nat):Int):=by rw[ZU];omega
 have e2:IntKind.i64.wrap ((b:Int)-(m:Int))=((b-m:Nat):Int):=by rw[ZU];omega
 go_enter func187,ntmps187;by_cases nW:m-a=1
 ·have hq:(((m-a:Nat):Int)==1)=true:=by rw[nW];rfl
  go_upto_region 3 with fail;clear e1 e2 hq;go_loopw [10,11] (λi j wx=>∃(p q:Nat) (l2:List Ja),m<=p/\p<=q/\q<=b/\i=.int .i64 p/\j=.int .i64 q/\Jl w0 wx B g n c l2 l0) (λi j _=>(intOf j).toNat-(intOf i).toNat);case atStart=>exact⟨m,b,l,QW _,by omega,QW _,rfl,rfl,H.o⟩
  case round =>
   obtain⟨p,q,l2,hp,hpq,Sk,rfl,rfl,hS⟩:=hrel;have HS:=Qa hS;clear H hS;by_cases Qo:p<q
   ·have D5:(p:Int)<(q:Int):=by omega
    have f1:IntKind.i64.wrap ((p:Int)+(q:Int))=(p:Int)+(q:Int):=by rw[ZU];omega
    go_upto_region 5 with fail;obtain⟨k,hk⟩:∃k:Nat,((p:Int)+(q:Int))/2=(k:Int):=⟨(p+q)/2,by omega⟩
    have Y9:p<=k:=by omega
    have Xn:k<q:=by omega
    rw[hk];clear hk;have p1:(k:Int)<(n:Int):=by omega
    have p2:(a:Int)<(n:Int):=by omega
    obtain⟨x,hx⟩:∃x,l2[k]? =some x:=⟨_,JZ (by have:=HS.o.row.2;omega)⟩
    have Hx:=Qa hx;clear hx;obtain⟨y,hy⟩:∃x,l2[a]? =some x:=⟨_,JZ (by have:=HS.o.row.2;omega)⟩
    have Hy:=Qa hy;clear hy;try simp only[Act.put]
    refine QP 9 [[],[],[],[1,2],[3],[],[],[5,6],[7]] [DS,.slice (some ⟨g,0,none⟩) n c,.int .i64 (k:Int),.pointer (some ⟨g,(k)*38,none⟩),.agg (QB x).toArray,.slice (some ⟨g,0,none⟩) n c,.int .i64 (a:Int),.pointer (some ⟨g,(a)*38,none⟩),.agg (QB y).toArray] (by kernel_rfl) (by kernel_rfl) rfl ?_;simp only[Yh,Yt,YB,Yu]
    iterate 4
     refine vW (λw' hx=>?_) ?_
     ·go_wp2_with fail;exact Qf _
     simp only[S_]
    refine vW (λw' hx=>?_) ?_
    ·have hR:=HS.o.more hx;go_wp2_with (refine Q6 (.tmp 43) (k) x hR.row Hx.o rfl rfl rfl ?_)
     exact Qf _
    simp only[S_]
    iterate 3
     refine vW (λw' hx=>?_) ?_
     ·go_wp2_with fail;exact Qf _
     simp only[S_]
    refine vW (λw' hx=>?_) ?_
    ·have hR:=HS.o.more hx;go_wp2_with (refine Q6 (.tmp 47) (a) y hR.row Hy.o rfl rfl rfl ?_)
     exact Qf _
    simp only[S_];rw[Zq];intro wz hx;rw[wpList];have Ft:=HS.o.more hx;go_wp2_with fail;refine DD ?_;refine(HC.o _ _ _).mono ?_;rintro e w5 ⟨⟨iv,rfl⟩,x5⟩;dsimp only;have WP:=Qa (Ft.more x5);clear Ft HS x5;by_cases hiv:iv<0;case pos =>
     have ax:decide (iv<0)=true:=by simp;omega
     clear hiv;go_wp2_with fail;go_roundw;case rel=>first|exact⟨k+1,q,l2,by omega,by omega,by omega,by first|rfl|go_num,rfl,WP.o⟩|exact⟨p,k,l2,by omega,by omega,by omega,rfl,by first|rfl|go_num,WP.o⟩
     case measure=>simp[intOf];omega
    case neg =>
     have ax:decide (iv<0)=false:=by simp;omega
     clear hiv;go_wp2_with fail;go_roundw;case rel=>first|exact⟨k+1,q,l2,by omega,by omega,by omega,by first|rfl|go_num,rfl,WP.o⟩|exact⟨p,k,l2,by omega,by omega,by omega,rfl,by first|rfl|go_num,WP.o⟩
     case measure=>simp[intOf];omega
   ·have T9:p=q:=by omega
    subst T9;have D5:¬(p:Int)<(p:Int):=by omega
    have f2:IntKind.i64.wrap ((p:Int)-1)=((p-1:Nat):Int):=by rw[ZU];omega
    go_upto_region 9 with fail;go_loopw [13] (λi wx=>∃(t:Nat) (l2:List Ja),a<=t/\t<=p-1/\i=.int .i64 t/\Jl w0 wx B g n c l2 l0) (λi _=>p-(intOf i).toNat);case atStart=>exact⟨a,l2,QW _,by omega,rfl,HS.o⟩
    case round =>
     obtain⟨t,l2,dF,htp,rfl,hS2⟩:=hrel;clear HS;have Xt:=Qa hS2;clear hS2;by_cases Qo:t<p-1
     ·have tM:(t:Int)<((p-1:Nat):Int):=by omega
      have f3:IntKind.i64.wrap ((t:Int)+1)=((t+1:Nat):Int):=by rw[ZU];omega
      have p1:(t:Int)<(n:Int):=by omega
      have p2:((t+1:Nat):Int)<(n:Int):=by omega
      obtain⟨x,hx⟩:∃x,l2[t]? =some x:=⟨_,JZ (by have:=Xt.o.row.2;omega)⟩
      have Hx:=Qa hx;clear hx;obtain⟨y,hy⟩:∃x,l2[t+1]? =some x:=⟨_,JZ (by have:=Xt.o.row.2;omega)⟩
      have Hy:=Qa hy;clear hy;go_upto_region 11 with fail;try simp only[Act.put]
      have gU:Jl w0 wr.drew B g n c l2 l0:=Xt.o.more (Qf wr).drew;refine YT 17 [[],[],[],[],[3],[],[],[6],[5,7],[8],[],[],[10,11],[12],[0,1],[9,14],[2,4]] [.slice (some ⟨g,0,none⟩) n c,.int .i64 (t:Int),.slice (some ⟨g,0,none⟩) n c,.int .i64 (t:Int),.int .i64 (((t+1:Nat):Int):Int),.slice (some ⟨g,0,none⟩) n c,.int .i64 (t:Int),.int .i64 (((t+1:Nat):Int):Int),.pointer (some ⟨g,(t+1)*38,none⟩),.agg (QB y).toArray,.slice (some ⟨g,0,none⟩) n c,.int .i64 (t:Int),.pointer (some ⟨g,(t)*38,none⟩),.agg (QB x).toArray,.pointer (some ⟨g,(t)*38,none⟩),undef,.pointer (some ⟨g,(t+1)*38,none⟩)] 15 [9,13] (λv=>Jl w0 v B g n c l2 l0) (λv=>L8 w0 v B g n c (l2.set (t) y)) (by kernel_rfl) (by kernel_rfl) rfl (by kernel_rfl) (by kernel_rfl) gU ?_;simp only[Yh,Yt,YB,Yu]
      iterate 9
       refine sW (λw' _=>?_) ?_
       ·go_wp2_with fail;all_goals first|exact rfl|exact⟨rfl,rfl⟩|exact⟨rfl,by go_num⟩|go_num
       simp only[S_]
      refine sW (λw' hJ=>?_) ?_
      ·have HJ:=hJ (by decide);go_wp2_with (refine Q6 (.tmp 69) (t+1) y HJ.row Hy.o rfl rfl rfl ?_)
      simp only[S_]
      iterate 3
       refine sW (λw' _=>?_) ?_
       ·go_wp2_with fail;all_goals first|exact rfl|exact⟨rfl,rfl⟩|exact⟨rfl,by go_num⟩|go_num
       simp only[S_]
      refine sW (λw' hJ=>?_) ?_
      ·have HJ:=hJ (by decide);go_wp2_with (refine Q6 (.tmp 73) (t) x HJ.row Hx.o rfl rfl rfl ?_)
      simp only[S_]
      iterate 1
       refine sW (λw' _=>?_) ?_
       ·go_wp2_with fail;all_goals first|exact rfl|exact⟨rfl,rfl⟩|exact⟨rfl,by go_num⟩|go_num
       simp only[S_]
      refine sS (λw' hJ=>?_) ?_
      ·go_wp2_with (refine Yc (.tmp 75) (.tmp 70) (t) y hJ.row (by omega) rfl rfl rfl rfl ?_;intro w2 r2 k2)
       have hT:L8 w0 w2 B g n c (l2.set (t) y):=⟨r2,k2.past hJ.ext (Y6 hJ.hB hJ.row.base)⟩
       first|exact hT|exact⟨hT,trivial⟩
      simp only[S_]
      iterate 1
       refine sW (λw' _=>?_) ?_
       ·go_wp2_with fail;all_goals first|exact rfl|exact⟨rfl,rfl⟩|exact⟨rfl,by go_num⟩|go_num
       simp only[S_]
      rw[Zq];intro w' HJ1;go_wp2_with (refine Yc (.tmp 76) (.tmp 74) (t+1) x HJ1.row (by omega) rfl rfl rfl rfl ?_;intro w3 r3 k3)
      have ib:Jl w0 w3 B g n c ((l2.set (t) y).set (t+1) x) l0:=⟨r3,(Uo Hx.o Hy.o).trans Xt.o.perm,k3.past HJ1.ext (Y6 Xt.o.hB Xt.o.row.base),Xt.o.hB⟩
      go_roundw;case rel=>exact⟨t+1,_,by omega,by omega,by first|rfl|go_num,ib⟩
      case measure=>simp[intOf];omega
     ·have tM:¬(t:Int)<((p-1:Nat):Int):=by omega
      go_wp2_with fail;exact ZD (UL rfl _ _ _) rfl ⟨rfl,l2,Xt.o⟩
 have hq:(((m-a:Nat):Int)==1)=false:=by rw[ai];omega
 by_cases XL:b-m=1
 ·have iq:(((b-m:Nat):Int)==1)=true:=by rw[XL];rfl
  go_upto_region 15 with fail;clear e1 e2 hq iq;go_loopw [14,15] (λi j wx=>∃(p q:Nat) (l2:List Ja),a<=p/\p<=q/\q<=m/\i=.int .i64 p/\j=.int .i64 q/\Jl w0 wx B g n c l2 l0) (λi j _=>(intOf j).toNat-(intOf i).toNat);case atStart=>exact⟨a,m,l,QW _,by omega,QW _,rfl,rfl,H.o⟩
  case round =>
   obtain⟨p,q,l2,hp,hpq,Sk,rfl,rfl,hS⟩:=hrel;have HS:=Qa hS;clear H hS;by_cases Qo:p<q
   ·have D5:(p:Int)<(q:Int):=by omega
    have f1:IntKind.i64.wrap ((p:Int)+(q:Int))=(p:Int)+(q:Int):=by rw[ZU];omega
    go_upto_region 17 with fail;obtain⟨k,hk⟩:∃k:Nat,((p:Int)+(q:Int))/2=(k:Int):=⟨(p+q)/2,by omega⟩
    have Y9:p<=k:=by omega
    have Xn:k<q:=by omega
    rw[hk];clear hk;have p1:(k:Int)<(n:Int):=by omega
    have p2:(m:Int)<(n:Int):=by omega
    obtain⟨x,hx⟩:∃x,l2[k]? =some x:=⟨_,JZ (by have:=HS.o.row.2;omega)⟩
    have Hx:=Qa hx;clear hx;obtain⟨y,hy⟩:∃x,l2[m]? =some x:=⟨_,JZ (by have:=HS.o.row.2;omega)⟩
    have Hy:=Qa hy;clear hy;try simp only[Act.put]
    refine QP 9 [[],[],[],[1,2],[3],[],[],[5,6],[7]] [DS,.slice (some ⟨g,0,none⟩) n c,.int .i64 (m:Int),.pointer (some ⟨g,(m)*38,none⟩),.agg (QB y).toArray,.slice (some ⟨g,0,none⟩) n c,.int .i64 (k:Int),.pointer (some ⟨g,(k)*38,none⟩),.agg (QB x).toArray] (by kernel_rfl) (by kernel_rfl) rfl ?_;simp only[Yh,Yt,YB,Yu]
    iterate 4
     refine vW (λw' hx=>?_) ?_
     ·go_wp2_with fail;exact Qf _
     simp only[S_]
    refine vW (λw' hx=>?_) ?_
    ·have hR:=HS.o.more hx;go_wp2_with (refine Q6 (.tmp 95) (m) y hR.row Hy.o rfl rfl rfl ?_)
     exact Qf _
    simp only[S_]
    iterate 3
     refine vW (λw' hx=>?_) ?_
     ·go_wp2_with fail;exact Qf _
     simp only[S_]
    refine vW (λw' hx=>?_) ?_
    ·have hR:=HS.o.more hx;go_wp2_with (refine Q6 (.tmp 99) (k) x hR.row Hx.o rfl rfl rfl ?_)
     exact Qf _
    simp only[S_];rw[Zq];intro wz hx;rw[wpList];have Ft:=HS.o.more hx;go_wp2_with fail;refine DD ?_;refine(HC.o _ _ _).mono ?_;rintro e w5 ⟨⟨iv,rfl⟩,x5⟩;dsimp only;have WP:=Qa (Ft.more x5);clear Ft HS x5;by_cases hiv:iv<0;case pos =>
     have ax:decide (iv<0)=true:=by simp;omega
     clear hiv;go_wp2_with fail;go_roundw;case rel=>first|exact⟨k+1,q,l2,by omega,by omega,by omega,by first|rfl|go_num,rfl,WP.o⟩|exact⟨p,k,l2,by omega,by omega,by omega,rfl,by first|rfl|go_num,WP.o⟩
     case measure=>simp[intOf];omega
    case neg =>
     have ax:decide (iv<0)=false:=by simp;omega
     clear hiv;go_wp2_with fail;go_roundw;case rel=>first|exact⟨k+1,q,l2,by omega,by omega,by omega,by first|rfl|go_num,rfl,WP.o⟩|exact⟨p,k,l2,by omega,by omega,by omega,rfl,by first|rfl|go_num,WP.o⟩
     case measure=>simp[intOf];omega
   ·have T9:p=q:=by omega
    subst T9;have D5:¬(p:Int)<(p:Int):=by omega
    go_upto_region 21 with fail;go_loopw [17] (λi wx=>∃(t:Nat) (l2:List Ja),p<=t/\t<=m/\i=.int .i64 t/\Jl w0 wx B g n c l2 l0) (λi _=>(intOf i).toNat);case atStart=>exact⟨m,l2,by omega,QW _,rfl,HS.o⟩
    case round =>
     obtain⟨t,l2,dF,htp,rfl,hS2⟩:=hrel;clear HS;have Xt:=Qa hS2;clear hS2;by_cases Qo:p<t
     ·have tM:(p:Int)<(t:Int):=by omega
      have f3:IntKind.i64.wrap ((t:Int)-1)=((t-1:Nat):Int):=by rw[ZU];omega
      have p1:(t:Int)<(n:Int):=by omega
      have p2:((t-1:Nat):Int)<(n:Int):=by omega
      obtain⟨x,hx⟩:∃x,l2[t]? =some x:=⟨_,JZ (by have:=Xt.o.row.2;omega)⟩
      have Hx:=Qa hx;clear hx;obtain⟨y,hy⟩:∃x,l2[t-1]? =some x:=⟨_,JZ (by have:=Xt.o.row.2;omega)⟩
      have Hy:=Qa hy;clear hy;go_upto_region 23 with fail;try simp only[Act.put]
      have gU:Jl w0 wr.drew B g n c l2 l0:=Xt.o.more (Qf wr).drew;refine YT 17 [[],[],[],[],[3],[],[],[6],[5,7],[8],[],[],[10,11],[12],[0,1],[9,14],[2,4]] [.slice (some ⟨g,0,none⟩) n c,.int .i64 (t:Int),.slice (some ⟨g,0,none⟩) n c,.int .i64 (t:Int),.int .i64 (((t-1:Nat):Int):Int),.slice (some ⟨g,0,none⟩) n c,.int .i64 (t:Int),.int .i64 (((t-1:Nat):Int):Int),.pointer (some ⟨g,(t-1)*38,none⟩),.agg (QB y).toArray,.slice (some ⟨g,0,none⟩) n c,.int .i64 (t:Int),.pointer (some ⟨g,(t)*38,none⟩),.agg (QB x).toArray,.pointer (some ⟨g,(t)*38,none⟩),undef,.pointer (some ⟨g,(t-1)*38,none⟩)] 15 [9,13] (λv=>Jl w0 v B g n c l2 l0) (λv=>L8 w0 v B g n c (l2.set (t) y)) (by kernel_rfl) (by kernel_rfl) rfl (by kernel_rfl) (by kernel_rfl) gU ?_;simp only[Yh,Yt,YB,Yu]
      iterate 9
       refine sW (λw' _=>?_) ?_
       ·go_wp2_with fail;all_goals first|exact rfl|exact⟨rfl,rfl⟩|exact⟨rfl,by go_num⟩|go_num
       simp only[S_]
      refine sW (λw' hJ=>?_) ?_
      ·have HJ:=hJ (by decide);go_wp2_with (refine Q6 (.tmp 121) (t-1) y HJ.row Hy.o rfl rfl rfl ?_)
      simp only[S_]
      iterate 3
       refine sW (λw' _=>?_) ?_
       ·go_wp2_with fail;all_goals first|exact rfl|exact⟨rfl,rfl⟩|exact⟨rfl,by go_num⟩|go_num
       simp only[S_]
      refine sW (λw' hJ=>?_) ?_
      ·have HJ:=hJ (by decide);go_wp2_with (refine Q6 (.tmp 125) (t) x HJ.row Hx.o rfl rfl rfl ?_)
      simp only[S_]
      iterate 1
       refine sW (λw' _=>?_) ?_
       ·go_wp2_with fail;all_goals first|exact rfl|exact⟨rfl,rfl⟩|exact⟨rfl,by go_num⟩|go_num
       simp only[S_]
      refine sS (λw' hJ=>?_) ?_
      ·go_wp2_with (refine Yc (.tmp 127) (.tmp 122) (t) y hJ.row (by omega) rfl rfl rfl rfl ?_;intro w2 r2 k2)
       have hT:L8 w0 w2 B g n c (l2.set (t) y):=⟨r2,k2.past hJ.ext (Y6 hJ.hB hJ.row.base)⟩
       first|exact hT|exact⟨hT,trivial⟩
      simp only[S_]
      iterate 1
       refine sW (λw' _=>?_) ?_
       ·go_wp2_with fail;all_goals first|exact rfl|exact⟨rfl,rfl⟩|exact⟨rfl,by go_num⟩|go_num
       simp only[S_]
      rw[Zq];intro w' HJ1;go_wp2_with (refine Yc (.tmp 128) (.tmp 126) (t-1) x HJ1.row (by omega) rfl rfl rfl rfl ?_;intro w3 r3 k3)
      have ib:Jl w0 w3 B g n c ((l2.set (t) y).set (t-1) x) l0:=⟨r3,(Uo Hx.o Hy.o).trans Xt.o.perm,k3.past HJ1.ext (Y6 Xt.o.hB Xt.o.row.base),Xt.o.hB⟩
      go_roundw;case rel=>exact⟨t-1,_,by omega,by omega,by first|rfl|go_num,ib⟩
      case measure=>simp[intOf];omega
     ·have tM:¬(p:Int)<(t:Int):=by omega
      go_wp2_with fail;exact ZD (UL rfl _ _ _) rfl ⟨rfl,l2,Xt.o⟩
 have iq:(((b-m:Nat):Int)==1)=false:=by rw[ai];omega
 obtain⟨d,hd⟩:∃d:Nat,((a:Int)+(b:Int))/2=(d:Int):=⟨(a+b)/2,by omega⟩
 have DY:2*d<=a+b:=by omega
 have Ef:a+b<=2*d+1:=by omega
 have f1:IntKind.i64.wrap ((a:Int)+(b:Int))=(a:Int)+(b:Int):=by rw[ZU];omega
 go_upto_region 25 with fail;clear hd f1 hq iq e1 e2;have f2:IntKind.i64.wrap ((d:Int)+(m:Int))=(d:Int)+(m:Int):=by rw[ZU];omega
 have f4:IntKind.i64.wrap ((d:Int)+(m:Int)-1)=((d+m-1:Nat):Int):=by rw[ZU];omega
 have f3:IntKind.i64.wrap ((d:Int)+(m:Int)-(b:Int))=((d+m-b:Nat):Int)\/m<=d:=by
  by_cases h:m<=d
  ·exact .inr h
  ·left;rw[ZU];omega
 have kP:(d<m)\/(m<=d):=by omega
 rcases kP with kP|kP;case inl =>
  have g1:decide ((d:Int)<(m:Int))=true:=by simp;omega
  replace f3:=f3.resolve_right (by omega);go_upto_region 33 with fail;clear g1 f3 f4 f2;go_loopw [20,21] (λi j wx=>∃(p q:Nat) (l2:List Ja),a<=p/\p<=q/\q<=d/\d+m<=b+p/\i=.int .i64 p/\j=.int .i64 q/\Jl w0 wx B g n c l2 l0) (λi j _=>(intOf j).toNat-(intOf i).toNat);case atStart=>exact⟨d+m-b,d,l,by omega,by omega,QW _,by omega,by first|rfl|go_num,rfl,H.o⟩
  case round =>
   obtain⟨p,q,l2,hp,hpq,hqd,bB,rfl,rfl,hS⟩:=hrel;have HS:=Qa hS;clear H hS kP;by_cases Qo:p<q
   ·have D5:(p:Int)<(q:Int):=by omega
    have f1:IntKind.i64.wrap ((p:Int)+(q:Int))=(p:Int)+(q:Int):=by rw[ZU];omega
    go_upto_region 35 with fail;obtain⟨k,hk⟩:∃k:Nat,((p:Int)+(q:Int))/2=(k:Int):=⟨(p+q)/2,by omega⟩
    have Y9:p<=k:=by omega
    have Xn:k<q:=by omega
    rw[hk];clear hk;have f5:IntKind.i64.wrap (((d+m-1:Nat):Int)-(k:Int))=((d+m-1-k:Nat):Int):=by rw[ZU];omega
    have p1:(k:Int)<(n:Int):=by omega
    have p2:((d+m-1-k:Nat):Int)<(n:Int):=by omega
    obtain⟨x,hx⟩:∃x,l2[k]? =some x:=⟨_,JZ (by have:=HS.o.row.2;omega)⟩
    have Hx:=Qa hx;clear hx;obtain⟨y,hy⟩:∃x,l2[d+m-1-k]? =some x:=⟨_,JZ (by have:=HS.o.row.2;omega)⟩
    have Hy:=Qa hy;clear hy;try simp only[Act.put]
    refine QP 11 [[],[],[],[],[2,3],[1,4],[5],[],[],[7,8],[9]] [DS,.slice (some ⟨g,0,none⟩) n c,.int .i64 (((d+m-1:Nat):Int):Int),.int .i64 (k:Int),.int .i64 (((d+m-1-k:Nat):Int):Int),.pointer (some ⟨g,(d+m-1-k)*38,none⟩),.agg (QB y).toArray,.slice (some ⟨g,0,none⟩) n c,.int .i64 (k:Int),.pointer (some ⟨g,(k)*38,none⟩),.agg (QB x).toArray] (by kernel_rfl) (by kernel_rfl) rfl ?_;simp only[Yh,Yt,YB,Yu]
    iterate 6
     refine vW (λw' hx=>?_) ?_
     ·go_wp2_with fail;exact Qf _
     simp only[S_]
    refine vW (λw' hx=>?_) ?_
    ·have hR:=HS.o.more hx;go_wp2_with (refine Q6 (.tmp 163) (d+m-1-k) y hR.row Hy.o rfl rfl rfl ?_)
     exact Qf _
    simp only[S_]
    iterate 3
     refine vW (λw' hx=>?_) ?_
     ·go_wp2_with fail;exact Qf _
     simp only[S_]
    refine vW (λw' hx=>?_) ?_
    ·have hR:=HS.o.more hx;go_wp2_with (refine Q6 (.tmp 167) (k) x hR.row Hx.o rfl rfl rfl ?_)
     exact Qf _
    simp only[S_];rw[Zq];intro wz hx;rw[wpList];have Ft:=HS.o.more hx;go_wp2_with fail;refine DD ?_;refine(HC.o _ _ _).mono ?_;rintro e w5 ⟨⟨iv,rfl⟩,x5⟩;dsimp only;have WP:=Qa (Ft.more x5);clear Ft HS x5;by_cases hiv:iv<0;case pos =>
     have ax:decide (iv<0)=true:=by simp;omega
     clear hiv;go_wp2_with fail;go_roundw;case rel=>first|exact⟨k+1,q,l2,by omega,by omega,by omega,by omega,by first|rfl|go_num,rfl,WP.o⟩|exact⟨p,k,l2,by omega,by omega,by omega,by omega,rfl,by first|rfl|go_num,WP.o⟩
     case measure=>simp[intOf];omega
    case neg =>
     have ax:decide (iv<0)=false:=by simp;omega
     clear hiv;go_wp2_with fail;go_roundw;case rel=>first|exact⟨k+1,q,l2,by omega,by omega,by omega,by omega,by first|rfl|go_num,rfl,WP.o⟩|exact⟨p,k,l2,by omega,by omega,by omega,by omega,rfl,by first|rfl|go_num,WP.o⟩
     case measure=>simp[intOf];omega
   ·have T9:p=q:=by omega
    subst T9;have D5:¬(p:Int)<(p:Int):=by omega
    have f5:IntKind.i64.wrap ((d:Int)+(m:Int)-(p:Int))=((d+m-p:Nat):Int):=by rw[ZU];omega
    go_upto_region 39 with fail;clear f5 D5;generalize hge:d+m-p=e;have he1:e<=b:=by omega
    clear hge;try simp only[Act.put]
    obtain⟨zz,hzz⟩:∃zz:Bool,zz=decide (p<m/\m<e):=⟨_,rfl⟩
    have MU:=Qa hzz;clear hzz;go_cut [185] from 178 to 184 (λs wx=>s=.bool zz/\Jl w0 wx B g n c l2 l0);case first =>
     by_cases c2:p<m
     ·have d1:decide ((p:Int)<(m:Int))=true:=by simp;omega
      by_cases c3:m<e
      ·have d2:decide ((m:Int)<(e:Int))=true:=by simp;omega
       go_wp2_with fail;go_meet;exact⟨by rw[MU.o,Ve ⟨c2,c3⟩],HS.o⟩
      ·have d2:decide ((m:Int)<(e:Int))=false:=by simp;omega
       go_wp2_with fail;go_meet;exact⟨by rw[MU.o,XI (λh=>c3 h.2)],HS.o⟩
     ·have d1:decide ((p:Int)<(m:Int))=false:=by simp;omega
      go_wp2_with fail;go_meet;exact⟨by rw[MU.o,XI (λh=>c2 h.1)],HS.o⟩
    case rest =>
    obtain⟨rfl,hcs⟩:=hcut;clear HS;have HS:=Qa hcs;clear hcs;go_upto_if 185 with fail;go_cut [] from 186 to 191 (λwx=>∃l3,Jl w0 wx B g n c l3 l0);case first =>
     cases zz with
     | true =>
      obtain⟨c1,c2⟩:=VY MU.o.symm;go_wp2_with (go_at_call 218;refine(HR.o _ l2 p m e HS.o c1 c2 (by omega)).mono ?_;rintro e9 w6 ⟨rfl,l9,h9⟩)
      go_meet;exact⟨l9,h9⟩
     | false => go_wp2_with fail;go_meet;exact⟨l2,HS.o⟩
    case rest =>
    obtain⟨l3,hcs⟩:=hcut;have MR:=Qa hcs;clear HS hcs;go_upto_region 41 with fail;try simp only[Act.put]
    obtain⟨zz,hzz⟩:∃zz:Bool,zz=decide (a<p/\p<d):=⟨_,rfl⟩
    have MV:=Qa hzz;clear hzz;go_cut [199] from 192 to 198 (λs wx=>s=.bool zz/\Jl w0 wx B g n c l3 l0);case first =>
     by_cases c2:a<p
     ·have d1:decide ((a:Int)<(p:Int))=true:=by simp;omega
      by_cases c3:p<d
      ·have d2:decide ((p:Int)<(d:Int))=true:=by simp;omega
       go_wp2_with fail;go_meet;exact⟨by rw[MV.o,Ve ⟨c2,c3⟩],MR.o⟩
      ·have d2:decide ((p:Int)<(d:Int))=false:=by simp;omega
       go_wp2_with fail;go_meet;exact⟨by rw[MV.o,XI (λh=>c3 h.2)],MR.o⟩
     ·have d1:decide ((a:Int)<(p:Int))=false:=by simp;omega
      go_wp2_with fail;go_meet;exact⟨by rw[MV.o,XI (λh=>c2 h.1)],MR.o⟩
    case rest =>
    obtain⟨rfl,hcs⟩:=hcut;clear MR;have MR:=Qa hcs;clear hcs;go_upto_if 199 with fail;go_cut [] from 200 to 205 (λwx=>∃l3,Jl w0 wx B g n c l3 l0);case first =>
     cases zz with
     | true =>
      obtain⟨c1,c2⟩:=VY MV.o.symm;go_wp2_with (go_at_call 187;refine(IH.o a p d _ l3 (by omega) MR.o c1 c2 (by omega)).mono ?_;rintro e9 w6 ⟨rfl,l9,h9⟩)
      go_meet;exact⟨l9,h9⟩
     | false => go_wp2_with fail;go_meet;exact⟨l3,MR.o⟩
    case rest =>
    obtain⟨l4,hcs⟩:=hcut;have L4:=Qa hcs;clear MR hcs;go_upto_region 43 with fail;try simp only[Act.put]
    obtain⟨zz,hzz⟩:∃zz:Bool,zz=decide (d<e/\e<b):=⟨_,rfl⟩
    have MW:=Qa hzz;clear hzz;go_cut [213] from 206 to 212 (λs wx=>s=.bool zz/\Jl w0 wx B g n c l4 l0);case first =>
     by_cases c2:d<e
     ·have d1:decide ((d:Int)<(e:Int))=true:=by simp;omega
      by_cases c3:e<b
      ·have d2:decide ((e:Int)<(b:Int))=true:=by simp;omega
       go_wp2_with fail;go_meet;exact⟨by rw[MW.o,Ve ⟨c2,c3⟩],L4.o⟩
      ·have d2:decide ((e:Int)<(b:Int))=false:=by simp;omega
       go_wp2_with fail;go_meet;exact⟨by rw[MW.o,XI (λh=>c3 h.2)],L4.o⟩
     ·have d1:decide ((d:Int)<(e:Int))=false:=by simp;omega
      go_wp2_with fail;go_meet;exact⟨by rw[MW.o,XI (λh=>c2 h.1)],L4.o⟩
    case rest =>
    obtain⟨rfl,hcs⟩:=hcut;clear L4;have L4:=Qa hcs;clear hcs;go_upto_if 213 with fail;cases zz with
    | true =>
     obtain⟨c1,c2⟩:=VY MW.o.symm;go_wp2_with (go_at_call 187;refine(IH.o d e b _ l4 (by omega) L4.o c1 c2 hb).mono ?_;rintro e9 w6 ⟨rfl,l9,h9⟩)
     exact bodyPost_end (UL rfl _ _ _) rfl ⟨rfl,l9,h9⟩
    | false => go_wp2_with fail;exact bodyPost_end (UL rfl _ _ _) rfl ⟨rfl,l4,L4.o⟩
 case inr =>
  have g1:decide ((d:Int)<(m:Int))=false:=by simp;omega
  have g1b:decide (d<m)=false:=by simp;omega
  clear f3;go_upto_region 33 with fail;clear g1 g1b f4 f2;go_loopw [20,21] (λi j wx=>∃(p q:Nat) (l2:List Ja),a<=p/\p<=q/\q<=d/\d+m<=b+p/\i=.int .i64 p/\j=.int .i64 q/\Jl w0 wx B g n c l2 l0) (λi j _=>(intOf j).toNat-(intOf i).toNat);case atStart=>exact⟨a,m,l,QW _,by omega,kP,by omega,rfl,rfl,H.o⟩
  case round =>
   obtain⟨p,q,l2,hp,hpq,hqd,bB,rfl,rfl,hS⟩:=hrel;have HS:=Qa hS;clear H hS kP;by_cases Qo:p<q
   ·have D5:(p:Int)<(q:Int):=by omega
    have f1:IntKind.i64.wrap ((p:Int)+(q:Int))=(p:Int)+(q:Int):=by rw[ZU];omega
    go_upto_region 35 with fail;obtain⟨k,hk⟩:∃k:Nat,((p:Int)+(q:Int))/2=(k:Int):=⟨(p+q)/2,by omega⟩
    have Y9:p<=k:=by omega
    have Xn:k<q:=by omega
    rw[hk];clear hk;have f5:IntKind.i64.wrap (((d+m-1:Nat):Int)-(k:Int))=((d+m-1-k:Nat):Int):=by rw[ZU];omega
    have p1:(k:Int)<(n:Int):=by omega
    have p2:((d+m-1-k:Nat):Int)<(n:Int):=by omega
    obtain⟨x,hx⟩:∃x,l2[k]? =some x:=⟨_,JZ (by have:=HS.o.row.2;omega)⟩
    have Hx:=Qa hx;clear hx;obtain⟨y,hy⟩:∃x,l2[d+m-1-k]? =some x:=⟨_,JZ (by have:=HS.o.row.2;omega)⟩
    have Hy:=Qa hy;clear hy;try simp only[Act.put]
    refine QP 11 [[],[],[],[],[2,3],[1,4],[5],[],[],[7,8],[9]] [DS,.slice (some ⟨g,0,none⟩) n c,.int .i64 (((d+m-1:Nat):Int):Int),.int .i64 (k:Int),.int .i64 (((d+m-1-k:Nat):Int):Int),.pointer (some ⟨g,(d+m-1-k)*38,none⟩),.agg (QB y).toArray,.slice (some ⟨g,0,none⟩) n c,.int .i64 (k:Int),.pointer (some ⟨g,(k)*38,none⟩),.agg (QB x).toArray] (by kernel_rfl) (by kernel_rfl) rfl ?_;simp only[Yh,Yt,YB,Yu]
    iterate 6
     refine vW (λw' hx=>?_) ?_
     ·go_wp2_with fail;exact Qf _
     simp only[S_]
    refine vW (λw' hx=>?_) ?_
    ·have hR:=HS.o.more hx;go_wp2_with (refine Q6 (.tmp 163) (d+m-1-k) y hR.row Hy.o rfl rfl rfl ?_)
     exact Qf _
    simp only[S_]
    iterate 3
     refine vW (λw' hx=>?_) ?_
     ·go_wp2_with fail;exact Qf _
     simp only[S_]
    refine vW (λw' hx=>?_) ?_
    ·have hR:=HS.o.more hx;go_wp2_with (refine Q6 (.tmp 167) (k) x hR.row Hx.o rfl rfl rfl ?_)
     exact Qf _
    simp only[S_];rw[Zq];intro wz hx;rw[wpList];have Ft:=HS.o.more hx;go_wp2_with fail;refine DD ?_;refine(HC.o _ _ _).mono ?_;rintro e w5 ⟨⟨iv,rfl⟩,x5⟩;dsimp only;have WP:=Qa (Ft.more x5);clear Ft HS x5;by_cases hiv:iv<0;case pos =>
     have ax:decide (iv<0)=true:=by simp;omega
     clear hiv;go_wp2_with fail;go_roundw;case rel=>first|exact⟨k+1,q,l2,by omega,by omega,by omega,by omega,by first|rfl|go_num,rfl,WP.o⟩|exact⟨p,k,l2,by omega,by omega,by omega,by omega,rfl,by first|rfl|go_num,WP.o⟩
     case measure=>simp[intOf];omega
    case neg =>
     have ax:decide (iv<0)=false:=by simp;omega
     clear hiv;go_wp2_with fail;go_roundw;case rel=>first|exact⟨k+1,q,l2,by omega,by omega,by omega,by omega,by first|rfl|go_num,rfl,WP.o⟩|exact⟨p,k,l2,by omega,by omega,by omega,by omega,rfl,by first|rfl|go_num,WP.o⟩
     case measure=>simp[intOf];omega
   ·have T9:p=q:=by omega
    subst T9;have D5:¬(p:Int)<(p:Int):=by omega
    have f5:IntKind.i64.wrap ((d:Int)+(m:Int)-(p:Int))=((d+m-p:Nat):Int):=by rw[ZU];omega
    go_upto_region 39 with fail;clear f5 D5;generalize hge:d+m-p=e;have he1:e<=b:=by omega
    clear hge;try simp only[Act.put]
    obtain⟨zz,hzz⟩:∃zz:Bool,zz=decide (p<m/\m<e):=⟨_,rfl⟩
    have MU:=Qa hzz;clear hzz;go_cut [185] from 178 to 184 (λs wx=>s=.bool zz/\Jl w0 wx B g n c l2 l0);case first =>
     by_cases c2:p<m
     ·have d1:decide ((p:Int)<(m:Int))=true:=by simp;omega
      by_cases c3:m<e
      ·have d2:decide ((m:Int)<(e:Int))=true:=by simp;omega
       go_wp2_with fail;go_meet;exact⟨by rw[MU.o,Ve ⟨c2,c3⟩],HS.o⟩
      ·have d2:decide ((m:Int)<(e:Int))=false:=by simp;omega
       go_wp2_with fail;go_meet;exact⟨by rw[MU.o,XI (λh=>c3 h.2)],HS.o⟩
     ·have d1:decide ((p:Int)<(m:Int))=false:=by simp;omega
      go_wp2_with fail;go_meet;exact⟨by rw[MU.o,XI (λh=>c2 h.1)],HS.o⟩
    case rest =>
    obtain⟨rfl,hcs⟩:=hcut;clear HS;have HS:=Qa hcs;clear hcs;go_upto_if 185 with fail;go_cut [] from 186 to 191 (λwx=>∃l3,Jl w0 wx B g n c l3 l0);case first =>
     cases zz with
     | true =>
      obtain⟨c1,c2⟩:=VY MU.o.symm;go_wp2_with (go_at_call 218;refine(HR.o _ l2 p m e HS.o c1 c2 (by omega)).mono ?_;rintro e9 w6 ⟨rfl,l9,h9⟩)
      go_meet;exact⟨l9,h9⟩
     | false => go_wp2_with fail;go_meet;exact⟨l2,HS.o⟩
    case rest =>
    obtain⟨l3,hcs⟩:=hcut;have MR:=Qa hcs;clear HS hcs;go_upto_region 41 with fail;try simp only[Act.put]
    obtain⟨zz,hzz⟩:∃zz:Bool,zz=decide (a<p/\p<d):=⟨_,rfl⟩
    have MV:=Qa hzz;clear hzz;go_cut [199] from 192 to 198 (λs wx=>s=.bool zz/\Jl w0 wx B g n c l3 l0);case first =>
     by_cases c2:a<p
     ·have d1:decide ((a:Int)<(p:Int))=true:=by simp;omega
      by_cases c3:p<d
      ·have d2:decide ((p:Int)<(d:Int))=true:=by simp;omega
       go_wp2_with fail;go_meet;exact⟨by rw[MV.o,Ve ⟨c2,c3⟩],MR.o⟩
      ·have d2:decide ((p:Int)<(d:Int))=false:=by simp;omega
       go_wp2_with fail;go_meet;exact⟨by rw[MV.o,XI (λh=>c3 h.2)],MR.o⟩
     ·have d1:decide ((a:Int)<(p:Int))=false:=by simp;omega
      go_wp2_with fail;go_meet;exact⟨by rw[MV.o,XI (λh=>c2 h.1)],MR.o⟩
    case rest =>
    obtain⟨rfl,hcs⟩:=hcut;clear MR;have MR:=Qa hcs;clear hcs;go_upto_if 199 with fail;go_cut [] from 200 to 205 (λwx=>∃l3,Jl w0 wx B g n c l3 l0);case first =>
     cases zz with
     | true =>
      obtain⟨c1,c2⟩:=VY MV.o.symm;go_wp2_with (go_at_call 187;refine(IH.o a p d _ l3 (by omega) MR.o c1 c2 (by omega)).mono ?_;rintro e9 w6 ⟨rfl,l9,h9⟩)
      go_meet;exact⟨l9,h9⟩
     | false => go_wp2_with fail;go_meet;exact⟨l3,MR.o⟩
    case rest =>
    obtain⟨l4,hcs⟩:=hcut;have L4:=Qa hcs;clear MR hcs;go_upto_region 43 with fail;try simp only[Act.put]
    obtain⟨zz,hzz⟩:∃zz:Bool,zz=decide (d<e/\e<b):=⟨_,rfl⟩
    have MW:=Qa hzz;clear hzz;go_cut [213] from 206 to 212 (λs wx=>s=.bool zz/\Jl w0 wx B g n c l4 l0);case first =>
     by_cases c2:d<e
     ·have d1:decide ((d:Int)<(e:Int))=true:=by simp;omega
      by_cases c3:e<b
      ·have d2:decide ((e:Int)<(b:Int))=true:=by simp;omega
       go_wp2_with fail;go_meet;exact⟨by rw[MW.o,Ve ⟨c2,c3⟩],L4.o⟩
      ·have d2:decide ((e:Int)<(b:Int))=false:=by simp;omega
       go_wp2_with fail;go_meet;exact⟨by rw[MW.o,XI (λh=>c3 h.2)],L4.o⟩
     ·have d1:decide ((d:Int)<(e:Int))=false:=by simp;omega
      go_wp2_with fail;go_meet;exact⟨by rw[MW.o,XI (λh=>c2 h.1)],L4.o⟩
    case rest =>
    obtain⟨rfl,hcs⟩:=hcut;clear L4;have L4:=Qa hcs;clear hcs;go_upto_if 213 with fail;cases zz with
    | true =>
     obtain⟨c1,c2⟩:=VY MW.o.symm;go_wp2_with (go_at_call 187;refine(IH.o d e b _ l4 (by omega) L4.o c1 c2 hb).mono ?_;rintro e9 w6 ⟨rfl,l9,h9⟩)
     exact bodyPost_end (UL rfl _ _ _) rfl ⟨rfl,l9,h9⟩
    | false => go_wp2_with fail;exact bodyPost_end (UL rfl _ _ _) rfl ⟨rfl,l4,L4.o⟩
theorem E5 (w0 w:World) (B g n c:Nat) (l l0:List Ja) (h:Jl w0 w B g n c l l0) (hn:n<=1000000000) :
  Calls prog 121 #[.slice (some ⟨g,0,none⟩) n c,.int .i64 (n:Int),DS] w λe w'=>e=.returned (.tuple #[])/\∃l',Jl w0 w' B g n c l' l0:=by
 have H:=Qa h;have HI:=Qa (λw l a b (hS:Jl w0 w B g n c l l0) h1 h2=>PE w0 w B g n c l l0 a b hS h1 h2 hn);have HM:=Qa (λw l a m b (hS:Jl w0 w B g n c l l0) h1 h2 h3=>LQ w0 B g n c l0 hn (b-a) a m b w l (QW _) hS h1 h2 h3);clear h;go_enter func121,ntmps121;go_upto_region 2 with fail;go_loopw [7,8] (λi j wx=>∃(p:Nat) (l2:List Ja),p<=n/\i=.int .i64 p/\j=.int .i64 ((p+20:Nat):Int)/\Jl w0 wx B g n c l2 l0) (λi _ _=>n+1-(intOf i).toNat);case atStart=>exact⟨0,l,AZ _,rfl,rfl,H.o⟩
 case round =>
  obtain⟨p,l2,hp,rfl,rfl,hS⟩:=hrel;have HS:=Qa hS;clear H hS;by_cases Qo:p+20<=n
  ·have g1:decide (((p+20:Nat):Int)<=(n:Int))=true:=by simp;omega
   have g2:decide ((p:Int)+20<=(n:Int))=true:=by simp;omega
   have f1:IntKind.i64.wrap (((p+20:Nat):Int)+20)=((p+20+20:Nat):Int):=by rw[ZU];omega
   have f2:IntKind.i64.wrap ((p:Int)+20+20)=((p+20+20:Nat):Int):=by rw[ZU];omega
   go_wp2_with (go_at_call 186;refine(HI.o _ l2 p (p+20) HS.o (by omega) Qo).mono ?_;rintro e w2 ⟨rfl,l3,h3⟩)
   go_roundw;case rel=>exact⟨p+20,l3,Qo,by first|rfl|go_num,by first|rfl|go_num,h3⟩
   case measure=>simp[intOf];omega
  ·have g1:decide (((p+20:Nat):Int)<=(n:Int))=false:=by simp;omega
   have g2:decide ((p:Int)+20<=(n:Int))=false:=by simp;omega
   go_upto_region 7 with(go_at_call 186;refine(HI.o _ l2 p n HS.o hp (QW _)).mono ?_;rintro e w2 ⟨rfl,l3,h3⟩)
   have H3:=Qa h3;clear HS h3 g1 g2 Qo hp;go_loopw [6] (λi wx=>∃(s:Nat) (l2:List Ja),0<s/\s<=2*n+20/\i=.int .i64 s/\Jl w0 wx B g n c l2 l0) (λi _=>n-(intOf i).toNat);case atStart=>exact⟨20,l3,by omega,by omega,rfl,H3.o⟩
   case round =>
    obtain⟨s,l4,hs0,BA,rfl,hS⟩:=hrel;have HS:=Qa hS;clear H3 hS;by_cases Rb:s<n;case neg =>
     have tI:¬(s:Int)<(n:Int):=by omega
     go_wp2_with fail;exact bodyPost_end (UL rfl _ _ _) rfl ⟨rfl,l4,HS.o⟩
    have tI:(s:Int)<(n:Int):=by omega
    have f3:IntKind.i64.wrap (2*(s:Int))=((2*s:Nat):Int):=by rw[ZU];omega
    have f4:IntKind.i64.wrap ((s:Int)*2)=((2*s:Nat):Int):=by rw[ZU];omega
    go_upto_region 9 with fail;go_loopw [7,8] (λi j wx=>∃(p:Nat) (l2:List Ja),p<=n/\i=.int .i64 p/\j=.int .i64 ((p+2*s:Nat):Int)/\Jl w0 wx B g n c l2 l0) (λi _ _=>n+1-(intOf i).toNat);case atStart=>exact⟨0,l4,AZ _,rfl,by first|rfl|go_num,HS.o⟩
    case round =>
     obtain⟨p,l5,hp,rfl,rfl,hS5⟩:=hrel;have WP:=Qa hS5;clear HS hS5;have e1:IntKind.i64.wrap ((p:Int)+(s:Int))=((p+s:Nat):Int):=by rw[ZU];omega
     by_cases Qo:p+2*s<=n
     ·have g1:decide (((p+2*s:Nat):Int)<=(n:Int))=true:=by simp;omega
      have g2:decide ((p:Int)+2*(s:Int)<=(n:Int))=true:=by simp;omega
      have f1:IntKind.i64.wrap (((p+2*s:Nat):Int)+((2*s:Nat):Int))=((p+2*s+2*s:Nat):Int):=by rw[ZU];omega
      have f2:IntKind.i64.wrap ((p:Int)+2*(s:Int)+2*(s:Int))=((p+2*s+2*s:Nat):Int):=by rw[ZU];omega
      go_wp2_with (go_at_call 187;refine(HM.o _ l5 p (p+s) (p+2*s) WP.o (by omega) (by omega) Qo).mono ?_;rintro e w2 ⟨rfl,l6,h6⟩)
      go_roundw;case rel=>exact⟨p+2*s,l6,Qo,by first|rfl|go_num,by first|rfl|go_num,h6⟩
      case measure=>simp[intOf];omega
     ·have g1:decide (((p+2*s:Nat):Int)<=(n:Int))=false:=by simp;omega
      have g2:decide ((p:Int)+2*(s:Int)<=(n:Int))=false:=by simp;omega
      by_cases hm:p+s<n
      ·have sx:((p+s:Nat):Int)<(n:Int):=by omega
       have sy:(p:Int)+(s:Int)<(n:Int):=by omega
       go_wp2_with (go_at_call 187;refine(HM.o _ l5 p (p+s) n WP.o (by omega) hm (QW _)).mono ?_;rintro e w2 ⟨rfl,l6,h6⟩)
       go_roundw;case rel=>exact⟨2*s,l6,by omega,by omega,by first|rfl|go_num,h6⟩
       case measure=>simp[intOf];omega
      ·have sx:¬((p+s:Nat):Int)<(n:Int):=by omega
       have sy:¬(p:Int)+(s:Int)<(n:Int):=by omega
       go_wp2_with fail;go_roundw;case rel=>exact⟨2*s,l5,by omega,by omega,by first|rfl|go_num,WP.o⟩
       case measure=>simp[intOf];omega
theorem RX (w0 w:World) (B g n c:Nat) (l:List Ja) (h:WS w B g n c l) (hx:Ext w0 w) (hB:w0.heap.size<=B) (hn:n<=1000000000) :
  Calls prog 62 #[.slice (some ⟨g,0,none⟩) n c,DS] w λe w'=>e=.returned (.tuple #[])/\∃l',Jl w0 w' B g n c l' l:=by
 have H:=Qa (E5 w0 w B g n c l l ⟨h,List.Perm.refl _,hx,hB⟩ hn);clear h hx;go_enter func62,ntmps62;go_wp2_with (go_at_call 121;refine H.o.mono ?_;rintro e w2 ⟨rfl,l2,h2⟩)
 exact bodyPost_end (UL rfl _ _ _) rfl ⟨rfl,l2,h2⟩
end Go.Proofs.YtfaplefkakpgcaaGreatDoor
