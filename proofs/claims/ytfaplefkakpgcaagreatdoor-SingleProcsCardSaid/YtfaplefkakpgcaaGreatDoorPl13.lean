import Derived.Test.YtfaplefkakpgcaaGreatDoorPl11
import Derived.Test.YtfaplefkakpgcaaGreatDoorPl12
import Derived.Laws.Rows
set_option linter.unusedVariables false
set_option linter.unusedSimpArgs false
set_option maxHeartbeats 32000000
set_option maxRecDepth 100000
namespace Go.Proofs.YtfaplefkakpgcaaGreatDoor
open Go.RowKit Go.Shelf
attribute [local go_sem] iN
theorem MO.grown {A w w':World}{base size n:Nat}{e:TypeId}{v:Value}{xs:List Value}(h:MO A w) (ho:w.ownsRow base e size v n xs) (hg:w.grownBy w' v.ownBlock) (h1:e≠265) (h2:e≠262):MO A w':=by
 intro b cs t hb ht;have k:=h b cs t hb ht;refine Box.grown k hg (QX ho k ?_);rcases ht with rfl|rfl
 ·exact h1
 ·exact h2
def il (x:List Int) (pre:List (Fin 12)):List UInt8:=pre.flatMap λk=>Jh (x.getD (Yi k) 0) (Xq k).toNat
def uT (x:List Int):List UInt8:=il x KW
theorem Lt (x:List Int):(uT x).length=24:=by
 simp only[uT,il,KW,bL,za,VL,Jo,Mn];rfl
def NH (b:List UInt8) (p:Nat) (s:List UInt8):List UInt8:=b.take p++s++b.drop (p+s.length)
theorem F3 (b:List UInt8) (p:Nat) (s:List UInt8) (h:p+s.length<=b.length):(NH b p s).length=b.length:=by simp[NH];omega
end Go.Proofs.YtfaplefkakpgcaaGreatDoor
namespace Go.Proofs.YtfaplefkakpgcaaGreatDoor
open Go.Proofs.Tryz
open Go.RowKit
theorem Jp (w:World) (g:Nat) (cs:Array Value):w.grownBy (w.setRow g cs) (some g) :=
 ⟨rfl,rfl,rfl,by simp,λk _ Jt=>setRow_other w g k cs (λe=>Jt (by rw[e]))⟩
def RQ:TypeDesc->Bool
 | .struct _=>true
 | .array _ _=>true
 | _=>false
section
variable {ops:Array Oper}{rest:List Oper}{o:Oper}{a:Act}{w:World}{Q:Exit->Act->World->Prop}
theorem JU (T:TypeId) (x y:Operand) (J7:o.guard=none) (ho:o.op=.store T x y) (g:Nat) (cells old:Array Value) (t:TypeId) (hx:a.eval x=.pointer (some ⟨g,0,none⟩)) (hy:a.eval y=.agg cells)
  (hb:Box w g t old) (hi:(prog.info? T).map (·.size)=some cells.size) (hold:old.size=cells.size) (h1:cells.all (·.oneCell')=true)
  (hK:∀w',Box w' g t cells->w.grownBy w' (some g)->wpList prog ops Q rest (a.put o.dst undef) w'):wpList prog ops Q (o::rest) a w :=
 wpList_store_row J7 T x y ho g cells hx hy t old hb hi hold h1 (hK _ (Zh hb) (Jp w g cells))
theorem J2 (T:TypeId) (x:Operand) (J7:o.guard=none) (ho:o.op=.load T x) (g:Nat) (cells:Array Value) (t:TypeId) (d:TypeDesc) (hx:a.eval x=.pointer (some ⟨g,0,none⟩))
  (hb:Box w g t cells) (hu:prog.underlying T=some d) (hd:RQ d=true) (hi:(prog.info? T).map (·.size)=some cells.size)
  (hK:wpList prog ops Q rest (a.put o.dst (.agg cells)) w):wpList prog ops Q (o::rest) a w :=
 wpList_load_row J7 T x ho g hx t cells (0,0) d hb hu (by cases d<;>first|rfl|cases hd) hi hK
end
theorem ZQ (x:List Int):(Qj x).size=x.length:=by simp[Qj]
theorem Px (x:List Int):(Qj x).all (·.oneCell')=true:=by
 rw[Wd5];intro v hv;simp only[Qj,List.mem_toArray,AV]at hv;obtain⟨n,_,rfl⟩:=hv;rfl
theorem VO:(prog.info? 121).map (·.size)=some 12:=by kernel_rfl
theorem Ju:(prog.info? 144).map (·.size)=some 6:=by kernel_rfl
section
variable {ops:Array Oper}{rest:List Oper}{o:Oper}{a:Act}{w:World}{Q:Exit->Act->World->Prop}
theorem QR (x y:Operand) (J7:o.guard=none) (ho:o.op=.store 121 x y) (g:Nat) (l l0:List Int) (t:TypeId) (hx:a.eval x=.pointer (some ⟨g,0,none⟩)) (hy:a.eval y=.agg (Qj l))
  (hb:Box w g t (Qj l0)) (hl:l.length=12) (gC:l0.length=12)
  (hK:∀w',Box w' g t (Qj l)->w.grownBy w' (some g)->wpList prog ops Q rest (a.put o.dst undef) w'):wpList prog ops Q (o::rest) a w :=
 JU _ x y J7 ho g _ _ t hx hy hb (by rw[ZQ,hl];exact VO) (by rw[ZQ,ZQ,hl,gC]) (Px l) hK
theorem Xh (x:Operand) (J7:o.guard=none) (ho:o.op=.load 121 x) (g:Nat) (l:List Int) (t:TypeId) (hx:a.eval x=.pointer (some ⟨g,0,none⟩))
  (hb:Box w g t (Qj l)) (hl:l.length=12) (hK:wpList prog ops Q rest (a.put o.dst (.agg (Qj l))) w):wpList prog ops Q (o::rest) a w :=
 J2 _ x J7 ho g _ t _ hx hb underlying121 rfl (by rw[ZQ,hl];exact VO) hK
theorem Vd (x:Operand) (J7:o.guard=none) (ho:o.op=.load 144 x) (g:Nat) (l:List Int) (t:TypeId) (hx:a.eval x=.pointer (some ⟨g,0,none⟩))
  (hb:Box w g t (Qj l)) (hl:l.length=6) (hK:wpList prog ops Q rest (a.put o.dst (.agg (Qj l))) w):wpList prog ops Q (o::rest) a w :=
 J2 _ x J7 ho g _ t _ hx hb underlying144 rfl (by rw[ZQ,hl];exact Ju) hK
theorem QC (x y:Operand) (J7:o.guard=none) (ho:o.op=.store 144 x y) (g:Nat) (l l0:List Int) (t:TypeId) (hx:a.eval x=.pointer (some ⟨g,0,none⟩)) (hy:a.eval y=.agg (Qj l))
  (hb:Box w g t (Qj l0)) (hl:l.length=6) (gC:l0.length=6)
  (hK:∀w',Box w' g t (Qj l)->w.grownBy w' (some g)->wpList prog ops Q rest (a.put o.dst undef) w'):wpList prog ops Q (o::rest) a w :=
 JU _ x y J7 ho g _ _ t hx hy hb (by rw[ZQ,hl];exact Ju) (by rw[ZQ,ZQ,hl,gC]) (Px l) hK
end
theorem Xr (B I:Int):ZO B I=.agg (Qj [B,I,1,2,3,3+(I+1)/2]):=rfl
theorem Qd {fn:Func}{p s:Tmp}{ty:TypeId}(h:fn.results=#[.cell p ty,.tmp s]) (tmps:Array Value) (w:World) (g:Nat) (t:TypeId) (cs:Array Value) (d:TypeDesc) (v:Value)
  (hp:tmps.getD p undef=.pointer (some ⟨g,0,none⟩)) (hs:tmps.getD s undef=v) (hg:Box w g t cs)
  (hu:prog.underlying ty=some d) (hd:RQ d=true) (hi:(prog.info? ty).map (·.size)=some cs.size) :
  (results fn tmps).run prog w=.ok (.tuple #[.agg cs,v]) w:=by
 have pB:tmps[p]?.getD undef=.pointer (some ⟨g,0,none⟩):=by simpa using hp
 have AC:tmps[s]?.getD undef=v:=by simpa using hs
 simp[results,h,pB,AC,asAddr,su w g t ty cs (0,0) d hg hu (by cases d<;>first|rfl|cases hd) hi]
theorem Yo {v:List (List UInt8)}{I:Int}(hg:Ji v I) {i:Nat}(hi:i<v.length):(v.getD i []).length=128:=by
 rw[Yb,ZX hi];exact hg.all i hi
theorem dQ (A:Option Addr) (n c:Nat) (v:List (List UInt8)) (I k:Int) (w:World) (hv:Strs w A n v) (hg:Ji v I) (Vz:1<=k) (KN:k<=I) :
  Calls prog 133 #[.slice A n c,.int .i64 k] w λe w'=>e=.returned (.tuple #[ZO v.length I,.int .i64 0])/\Ext w w':=by
 have XS:=Jg hg.plan;have HO:=Qa (λw h=>Dl A n c v I w h hg);have d1:decide (k<1)=false:=by simp;omega
 have d2:decide (I<k)=false:=by simp;omega
 go_enter func133,ntmps133;go_wp2_with fail;refine(HO.o _ (hv.ext ((Qg _).alloc _))).mono ?_;rintro e w1 ⟨rfl,x1⟩;rw[Xr];have x0:Ext w w1:=((Qg w).alloc _).trans x1;have bR:Box w1 w.heap.size 144 (Qj [0,0,0,0,0,0]):=(Qs w 144 _).ext x1;have Qn:=bR.lt;clear x1
 go_wp2_with (first
  | (refine QC (.tmp 6) (.tmp 11) rfl rfl w1.heap.size _ [0,0,0,0,0,0] 144 rfl rfl (Qs _ _ _) rfl rfl ?_;intro w2 b2 g2;have c1:w2.cell? ⟨w1.heap.size,1,none⟩=some (.int .i64 I):=b2.cell 1)
  | (refine Vd (.tmp 6) rfl rfl w1.heap.size _ 144 rfl b2 rfl ?_)
  | (refine QC (.tmp 4) (.tmp 26) rfl rfl w.heap.size _ [0,0,0,0,0,0] 144 rfl rfl ((bR.ext ((Qg _).alloc _)).grown g2 (by simp;omega)) rfl rfl ?_;intro w3 b3 g3))
 refine Jv (Qd rfl _ _ w.heap.size _ _ _ (.int .i64 0) rfl rfl b3 underlying144 rfl Ju) rfl ⟨rfl,?_⟩;exact((x0.alloc _).grown g2 (λk e=>by cases e;exact x0.size)).grown g3 (λk e=>by cases e;exact Q4 _)
theorem jx (A:Option Addr) (n c:Nat) (v:List (List UInt8)) (I k:Int) (w:World) (hv:Strs w A n v) (hg:Ji v I) (hk:k<1\/I<k) :
  Calls prog 133 #[.slice A n c,.int .i64 k] w λe w'=>e=.returned (.tuple #[JJ,.int .i64 2])/\Ext w w':=by
 have XS:=Jg hg.plan;have HO:=Qa (λw h=>Dl A n c v I w h hg);rcases(by omega:k<1\/(1<=k/\I<k)) with hk|⟨hk,KN⟩
 ·have d1:decide (k<1)=true:=by simpa using hk
  go_enter func133,ntmps133;go_wp2_with fail;refine(HO.o _ (hv.ext ((Qg _).alloc _))).mono ?_;rintro e w1 ⟨rfl,x1⟩;rw[Xr];have x0:Ext w w1:=((Qg w).alloc _).trans x1;have bR:Box w1 w.heap.size 144 (Qj [0,0,0,0,0,0]):=(Qs w 144 _).ext x1;have Qn:=bR.lt;clear x1
  go_wp2_with (first
   | (refine QC (.tmp 6) (.tmp 11) rfl rfl w1.heap.size _ [0,0,0,0,0,0] 144 rfl rfl (Qs _ _ _) rfl rfl ?_;intro w2 b2 g2;have c1:w2.cell? ⟨w1.heap.size,1,none⟩=some (.int .i64 I):=b2.cell 1)
   | (refine QC (.tmp 4) (.tmp 25) rfl rfl w.heap.size [0,0,0,0,0,0] [0,0,0,0,0,0] 144 rfl rfl ((bR.ext ((Qg _).alloc _)).grown g2 (by simp;omega)) rfl rfl ?_;intro w3 b3 g3))
  refine Jv (Qd rfl _ _ w.heap.size _ _ _ (.int .i64 2) rfl rfl b3 underlying144 rfl Ju) rfl ⟨rfl,?_⟩;exact((x0.alloc _).grown g2 (λk e=>by cases e;exact x0.size)).grown g3 (λk e=>by cases e;exact Q4 _)
 ·have d1:decide (k<1)=false:=by simp;omega
  have d2:decide (I<k)=true:=by simpa using KN
  go_enter func133,ntmps133;go_wp2_with fail;refine(HO.o _ (hv.ext ((Qg _).alloc _))).mono ?_;rintro e w1 ⟨rfl,x1⟩;rw[Xr];have x0:Ext w w1:=((Qg w).alloc _).trans x1;have bR:Box w1 w.heap.size 144 (Qj [0,0,0,0,0,0]):=(Qs w 144 _).ext x1;have Qn:=bR.lt;clear x1
  go_wp2_with (first
   | (refine QC (.tmp 6) (.tmp 11) rfl rfl w1.heap.size _ [0,0,0,0,0,0] 144 rfl rfl (Qs _ _ _) rfl rfl ?_;intro w2 b2 g2;have c1:w2.cell? ⟨w1.heap.size,1,none⟩=some (.int .i64 I):=b2.cell 1)
   | (refine QC (.tmp 4) (.tmp 25) rfl rfl w.heap.size [0,0,0,0,0,0] [0,0,0,0,0,0] 144 rfl rfl ((bR.ext ((Qg _).alloc _)).grown g2 (by simp;omega)) rfl rfl ?_;intro w3 b3 g3))
  refine Jv (Qd rfl _ _ w.heap.size _ _ _ (.int .i64 2) rfl rfl b3 underlying144 rfl Ju) rfl ⟨rfl,?_⟩;exact((x0.alloc _).grown g2 (λk e=>by cases e;exact x0.size)).grown g3 (λk e=>by cases e;exact Q4 _)
def QI (v:List (List UInt8)) (k:Int):List Int:=U9 (v.getD (3+(k-1)/2).toNat []) ((k-1)%2*64).toNat
theorem XU (v:List (List UInt8)) (k:Int):(QI v k).length=12:=rfl
theorem Ue:JJ=.agg (Qj [0,0,0,0,0,0]):=rfl
theorem fO (b o n c:Nat) (v:List (List UInt8)) (I k:Int) (w:World) (hv:Strs w (some ⟨b,o,none⟩) n v) (hg:Ji v I) (Vz:1<=k) (KN:k<=I) :
  Calls prog 134 #[.slice (some ⟨b,o,none⟩) n c,.agg (Qj [v.length,I,1,2,3,3+(I+1)/2]),.int .i64 k] w λe w'=>e=.returned (.agg (Qj (QI v k)))/\Ext w w':=by
 have XS:=Jg hg.plan;obtain⟨rfl,Y7⟩:=hv;obtain⟨b',o',e,Qf⟩:=Y7 (by omega);cases e;have hi:(3+(k-1)/2).toNat<v.length:=by omega
 have hc:=Qf _ hi;refine li b o v.length c v.length I k (v.getD (3+(k-1)/2).toNat []) w Vz (by omega) (by omega) ?_ (Yo hg hi);rw[hc,Yb,ZX hi];rfl
theorem TJ (A:Option Addr) (n c:Nat) (v:List (List UInt8)) (I k:Int) (w:World) (hv:Strs w A n v) (hg:Ji v I) (Vz:1<=k) (KN:k<=I) :
  Calls prog 69 #[.slice A n c,.int .i64 k] w λe w'=>e=.returned (.tuple #[.agg (Qj (QI v k)),.int .i64 0])/\Ext w w':=by
 have XS:=Jg hg.plan;have HO:=Qa (λw h=>dQ A n c v I k w h hg Vz KN);obtain⟨b,o,rfl,_⟩:=hv.2 (by have:=hv.1;omega);have HT:=Qa (λw h=>fO b o n c v I k w h hg Vz KN);go_enter func69,ntmps69;go_wp2_with fail;refine(HO.o _ (hv.ext ((Qg _).alloc _))).mono ?_;rintro e w1 ⟨rfl,x1⟩;rw[Xr];have x0:Ext w w1:=((Qg w).alloc _).trans x1;have bR:Box w1 w.heap.size 121 (Qj Qy):=(Qs w 121 _).ext x1;have Qn:=bR.lt;clear x1
 go_wp2_with (first
  | (refine QC (.tmp 6) (.tmp 12) rfl rfl w1.heap.size _ [0,0,0,0,0,0] 144 rfl rfl (Qs _ _ _) rfl rfl ?_;intro w2 b2 g2;have x2:Ext w w2:=(x0.alloc _).grown g2 (λk e=>by cases e;exact x0.size))
  | (refine Vd (.tmp 6) rfl rfl w1.heap.size _ 144 rfl b2 rfl ?_)
  | (go_at_call 134;refine(HT.o _ (hv.ext x2)).mono ?_;rintro e w3 ⟨rfl,x3⟩)
  | (refine QR (.tmp 4) (.tmp 21) rfl rfl w.heap.size _ Qy 121 rfl rfl (((bR.ext ((Qg _).alloc _)).grown g2 (by simp;omega)).ext x3) rfl rfl ?_;intro w4 b4 g4))
 refine Jv (Qd rfl _ _ w.heap.size _ _ _ (.int .i64 0) rfl rfl b4 underlying121 rfl VO) rfl ⟨rfl,?_⟩;exact(x2.trans x3).grown g4 (λk e=>by cases e;exact Q4 _)
theorem Db (A:Option Addr) (n c:Nat) (v:List (List UInt8)) (I k:Int) (w:World) (hv:Strs w A n v) (hg:Ji v I) (hk:k<1\/I<k) :
  Calls prog 69 #[.slice A n c,.int .i64 k] w λe w'=>e=.returned (.tuple #[.agg (Qj Qy),.int .i64 2])/\Ext w w':=by
 have HO:=Qa (λw h=>jx A n c v I k w h hg hk);go_enter func69,ntmps69;go_wp2_with fail;refine(HO.o _ (hv.ext ((Qg _).alloc _))).mono ?_;rintro e w1 ⟨rfl,x1⟩;rw[Ue];have x0:Ext w w1:=((Qg w).alloc _).trans x1;have bR:Box w1 w.heap.size 121 (Qj Qy):=(Qs w 121 _).ext x1;have Qn:=bR.lt;clear x1
 go_wp2_with (first
  | (refine QC (.tmp 6) (.tmp 12) rfl rfl w1.heap.size _ [0,0,0,0,0,0] 144 rfl rfl (Qs _ _ _) rfl rfl ?_;intro w2 b2 g2;have x2:Ext w w2:=(x0.alloc _).grown g2 (λk e=>by cases e;exact x0.size))
  | (refine QR (.tmp 4) (.tmp 16) rfl rfl w.heap.size Qy Qy 121 rfl rfl ((bR.ext ((Qg _).alloc _)).grown g2 (by simp;omega)) rfl rfl ?_;intro w4 b4 g4))
 refine Jv (Qd rfl _ _ w.heap.size _ _ _ (.int .i64 2) rfl rfl b4 underlying121 rfl VO) rfl ⟨rfl,?_⟩;exact x2.grown g4 (λk e=>by cases e;exact Q4 _)
def putAt (v:List (List UInt8)) (k:Int) (x:List Int):List (List UInt8):=v.set (3+(k-1)/2).toNat (NH (v.getD (3+(k-1)/2).toNat []) ((k-1)%2*64).toNat (uT x))
theorem Pc (B I:Int) (w:World) (h:Vu B I=true) :
  Calls prog 168 #[.int .i64 B,.int .i64 I] w λe w'=>e=.returned (.tuple #[ZO B I,.int .i64 0])/\Ext w w':=by
 have hp:=Jg h;clear h;have d1:decide (B<16)=false:=by simp;omega
 have d2:decide (223<B)=false:=by simp;omega
 have d3:decide (I<4)=false:=by simp;omega
 have d4:decide (64<I)=false:=by simp;omega
 go_enter func168,ntmps168;go_wp2_with fail;exact Jv (v:=.tuple #[ZO B I,.int .i64 0]) (by simp[results,Tryz.results168,go_sem,ZO]) rfl ⟨rfl,((Qg _).alloc _).alloc _⟩
theorem IY (n:Nat) (w:World) (h:n<=100000) :
  Calls prog 209 #[.int .i64 n] w λe w'=>e=.returned (.string (Qb (zs n)))/\w=w':=by
 have hz:=Qh;have Lj:=JR;have hk:(⟨#[0]⟩:ByteArray)=Qb [0]:=rfl;go_enter func209,ntmps209;go_wp2_with fail;go_loop [3,4] (λs i=>∃k:Nat,k<=n/\i=.int .i64 k/\s=.string (Qb (zs k))) (λ_ i=>n-(intOf i).toNat);case atStart=>exact⟨0,by omega,rfl,rfl⟩
 case round =>
  obtain⟨k,KN,rfl,rfl⟩:=hrel;have hl:=UX k;have HZ:=Qa (show zs (k+1)=zs k++[0] from List.replicate_succ');by_cases Qn:k<n
  ·go_wp2_with fail;go_round;case rel=>exact⟨k+1,by omega,by go_num,by rw[HZ.o]⟩
   case measure=>simp[intOf];omega
  ·obtain rfl:k=n:=by omega
   go_wp2_with fail;go_ret;exact⟨rfl,rfl⟩
theorem BG (i:Nat) (m:List UInt8) (w:World) (hm:m.length=128) (hi:i<1024) :
  Calls prog 171 #[.string (Qb m),.int .i64 i] w λe w'=>e=.returned (.bool (XO m i))/\w=w':=by
 have hz:(Qb m).size=128:=by rw[Qh,hm]
 go_enter func171,ntmps171;go_wp2_with fail;go_ret;exact⟨WE (OT m i (by omega)),rfl⟩
theorem lI (a b:UInt8) (w:World) :
  Calls prog 169 #[.string (Qb [a,b])] w λe w'=>e=.returned (.int .u64 ((a.toNat:Int)+256*b.toNat))/\w=w':=by
 have hz:=Qh;have ha:=a.toNat_lt;have hb:=b.toNat_lt;have e0:(Qb [a,b])[0]'(by rw[Qh];simp)=a:=rfl;have e1:(Qb [a,b])[1]'(by rw[Qh];simp)=b:=rfl;go_enter func169,ntmps169;go_wp2_with fail;refine fm 3 ?_;rw[Vn];go_wp2_with fail;rw[Vn];go_wp2_with fail;rw[Vn];go_wp2_with fail;go_ret;refine⟨JX ?_,rfl⟩;omega
theorem V5 (w:World) (x:Int) (g:Nat) (hg:g=w.heap.size):(convert 167 9 (.slice (some ⟨g,0,none⟩) 1 1)).run prog (w.alloc (.cells #[.int .u8 x] 5))=.ok (.string (Qb [b8 x])) (w.alloc (.cells #[.int .u8 x] 5)):=by
 subst hg;exact Wk w [x] #[.int .u8 x] 5 1 1 rfl (λi hi=>by
  rcases(show i=0 by simp at hi;omega) with rfl;rfl)
theorem ra (n:Int) (w:World) (h0:0<=n) (h1:n<=65535) :
  Calls prog 85 #[.int .u64 n,.int .i64 2] w λe w'=>e=.returned (.string (Qb [b8 (n%256),b8 (n/256)]))/\Ext w w':=by
 have hz:=Qh;have Lj:=JR;have hk:(⟨#[]⟩:ByteArray)=Qb []:=rfl;have u1:n/256%256=n/256:=by omega
 have k1:=V5 w (n%256) w.heap.size rfl;have k2:=V5 (w.alloc (.cells #[.int .u8 (n%256)] 5)) (n/256) (w.heap.size+1) (by simp);go_enter func85,ntmps85;go_wp2_with fail;refine fm 3 ?_;rw[Vn];go_wp2_with fail;rw[Vn];go_wp2_with fail;rw[Vn];go_wp2_with fail;go_ret;exact⟨rfl,((Qg _).alloc _).alloc _⟩
theorem Em (B I:Int) (w:World) (h:Vu B I=true) :
  Calls prog 170 #[ZO B I] w λe w'=>e=.returned (.string (Qb (YA B I)))/\Ext w w':=by
 have hp:=Jg h;clear h;unfold ZO;have hz:=Qh;have Lj:=JR;have hzl:=UX;have hk:(⟨#[104,105,98,49]⟩:ByteArray)=Qb [104,105,98,49]:=rfl;have u1:IntKind.u64.wrap B=B:=by rw[EO];omega
 have u2:IntKind.u64.wrap I=I:=by rw[EO];omega
 go_enter func170,ntmps170;go_wp2_with fail;generalize VA:w.alloc _=w1;have Wp:Ext w w1:=by rw[←VA];exact(Qg _).alloc _
 have c0:∀x:Qt w1,x.now.cell? ⟨w.heap.size,0,none⟩=some (.int .i64 B):=λx=>x.ext.keep (by rw[←VA];simp[go_sem]);have c1:∀x:Qt w1,x.now.cell? ⟨w.heap.size,1,none⟩=some (.int .i64 I):=λx=>x.ext.keep (by rw[←VA];simp[go_sem]);clear VA;refine Qk (by kernel_rfl) (by kernel_rfl) ?_;repeat (go_big_quiet_step ((first|(with_reducible exact JO (ra _ _ (by omega) (by omega)))|(with_reducible exact Jb (IY 120 _ (by omega))))))
 refine VI ?_;rintro w2 ⟨x,rfl⟩;clear c0 c1;go_wp2_with fail;go_ret;exact⟨rfl,Wp.trans x.ext⟩
theorem lT (B I:Int) (w:World) (h:Vu B I=false) :
  Calls prog 168 #[.int .i64 B,.int .i64 I] w λe w'=>(∃n:Int,(n=2\/n=10)/\e=.returned (.tuple #[JJ,.int .i64 n]))/\Ext w w':=by
 have hp:B<16\/(16<=B/\223<B)\/(16<=B/\B<=223/\I<4)\/(16<=B/\B<=223/\4<=I/\64<I)\/(16<=B/\B<=223/\4<=I/\I<=64/\B<=3+(I+1)/2):=by
  have:¬(16<=B/\B<=223/\4<=I/\I<=64/\3+(I+1)/2<B):=by simpa[Vu]using h
  omega
 clear h;rcases hp with hp|hp|hp|hp|hp
 case' inr.inr.inr.inr =>
  have d1:decide (B<16)=false:=by simp;omega
  have d2:decide (223<B)=false:=by simp;omega
  have d3:decide (I<4)=false:=by simp;omega
  have d4:decide (64<I)=false:=by simp;omega
  go_enter func168,ntmps168;go_wp2_with fail;exact Jv (v:=.tuple #[JJ,.int .i64 10]) (by simp[results,Tryz.results168,go_sem,JJ]) rfl ⟨⟨10,by omega,rfl⟩,((Qg _).alloc _).alloc _⟩
 case' inl => have d1:decide (B<16)=true:=by simp;omega
 case' inr.inl =>
  have d1:decide (B<16)=false:=by simp;omega
  have d2:decide (223<B)=true:=by simp;omega
 case' inr.inr.inl =>
  have d1:decide (B<16)=false:=by simp;omega
  have d2:decide (223<B)=false:=by simp;omega
  have d3:decide (I<4)=true:=by simp;omega
 case' inr.inr.inr.inl =>
  have d1:decide (B<16)=false:=by simp;omega
  have d2:decide (223<B)=false:=by simp;omega
  have d3:decide (I<4)=false:=by simp;omega
  have d4:decide (64<I)=true:=by simp;omega
 all_goals
  go_enter func168,ntmps168;go_wp2_with fail;exact Jv (v:=.tuple #[JJ,.int .i64 2]) (by simp[results,Tryz.results168,go_sem,JJ]) rfl ⟨⟨2,by omega,rfl⟩,(Qg _).alloc _⟩
def OfR (v:List (List UInt8)) (e:Ending):Prop:=(∃I,Ji v I/\e=.returned (.tuple #[ZO v.length I,.int .i64 0]))\/e=.returned (.tuple #[JJ,.int .i64 3])
theorem ef (p q:UInt8) (B:Int) (w:World) (h:(p.toNat:Int)+256*q.toNat=B) :
  Calls prog 169 #[.string (Qb [p,q])] w λe w'=>e=.returned (.int .u64 B)/\w=w':=by
 subst h;exact lI p q w
theorem aZ (A:Option Addr) (n c:Nat) (v:List (List UInt8)) (w:World) (hv:Strs w A n v) (hnk:n<=9223372036854775807) :
  Calls prog 99 #[.slice A n c] w λe w'=>OfR v e/\Ext w w':=by
 obtain⟨rfl,Y7⟩:=hv;have hz:=Qh;have r0:Box (w.alloc (.cells #[.int .i64 0,.int .i64 0,.int .i64 0,.int .i64 0,.int .i64 0,.int .i64 0] 144)) w.heap.size 144 (Qj [0,0,0,0,0,0]):=Qs _ _ _;have x0:Ext w (w.alloc (.cells #[.int .i64 0,.int .i64 0,.int .i64 0,.int .i64 0,.int .i64 0,.int .i64 0] 144)):=(Qg _).alloc _;by_cases h3:v.length<3
 ·go_enter func99,ntmps99;go_wp2_with (refine QC (.tmp 2) (.tmp 12) rfl rfl w.heap.size [0,0,0,0,0,0] [0,0,0,0,0,0] 144 rfl rfl r0 rfl rfl ?_;intro w6 b6 g6)
  have xF:=(x0).grown g6 (λk e=>by cases e;exact Q4 _);exact Jv (v:=.tuple #[JJ,.int .i64 3]) (Qd Tryz.results99 _ _ _ _ _ _ _ rfl rfl b6 underlying144 rfl Ju) rfl ⟨.inr rfl,xF⟩
 obtain⟨b,o,rfl,Qf⟩:=Y7 (by omega);go_enter func99,ntmps99;go_wp2_with fail;generalize w.alloc (.cells #[.int .i64 0,.int .i64 0,.int .i64 0,.int .i64 0,.int .i64 0,.int .i64 0] 144)=w1 at *;have x1:=x0;have r1:=r0;clear x0 r0 Y7;go_loop [5,15] (λ_ i=>∃k:Nat,k<=v.length/\i=.int .i64 k/\∀(j:Nat) (h:j<v.length),j<k->v[j].length=128) (λ_ i=>v.length-(intOf i).toNat);case atStart=>exact⟨0,by omega,rfl,λj h hk=>by omega⟩
 case round =>
  obtain⟨k,hk,rfl,hal⟩:=hrel;have fZ:=Qa hal;clear hal;by_cases Vq:k<v.length
  ·have ND:w1.cell? ⟨b,o+k,none⟩=some (.string (Qb v[k])):=x1.keep (Qf k Vq);by_cases hl:v[k].length=128
   ·have HN:=Qa (show∀(j:Nat) (h:j<v.length),j<k+1->v[j].length=128 fromλj h hj=>by
     by_cases e:j<k
     ·exact fZ.o j h e
     ·obtain rfl:j=k:=by omega
      exact hl)
    have P9:((v[k].length:Int) != 128)=false:=by rw[hl];rfl
    clear hl Qf;generalize v[k]=s at *;go_wp2_with fail;go_round;case rel=>exact⟨k+1,by omega,by go_num,HN.o⟩
    case measure=>simp[intOf];omega
   ·have P9:((v[k].length:Int) != 128)=true:=by simp;omega
    clear hl Qf;generalize v[k]=s at *;go_wp2_with (refine QC (.tmp 2) (.tmp 22) rfl rfl w.heap.size [0,0,0,0,0,0] [0,0,0,0,0,0] 144 rfl rfl r1 rfl rfl ?_;intro w6 b6 g6)
    have xF:=(x1).grown g6 (λk e=>by cases e;exact Q4 _);exact Jv (v:=.tuple #[JJ,.int .i64 3]) (Qd Tryz.results99 _ _ _ _ _ _ _ rfl rfl b6 underlying144 rfl Ju) rfl ⟨.inr rfl,xF⟩
  ·obtain rfl:k=v.length:=by omega
   have PY:=Qa (λ(j:Nat) (h:j<v.length)=>fZ.o j h h);have c0:w1.cell? ⟨b,o,none⟩=some (.string (Qb (v.getD 0 []))):=by have:=x1.keep (Qf 0 (by omega));rw[Yb,ZX (by omega)];exact this
   have rB:∀wx,Ext w wx->wx.cell? ⟨b,o+2,none⟩=some (.string (Qb (v.getD 2 []))):=λwx xx=>by have:=xx.keep (Qf 2 (by omega));rw[Yb,ZX (by omega)];exact this
   have C2:=Qa rB;have l0:(v.getD 0 []).length=128:=by rw[Yb,ZX (by omega)];exact PY.o 0 (by omega)
   have l2:(v.getD 2 []).length=128:=by rw[Yb,ZX (by omega)];exact PY.o 2 (by omega)
   clear rB Qf fZ;obtain⟨p,q,hpq⟩:=pJ (l:=((v.getD 0 []).drop 6).take 2) (by rw[MT,Nx];omega);have wK:(Qb (v.getD 0 [])).extract 6 8=Qb [p,q]:=by rw[J6];exact congrArg Qb hpq
   have hpq':=Qa hpq;clear hpq;have pb:=p.toNat_lt;have qb:=q.toNat_lt;obtain⟨I,hI⟩:∃I:Int,(p.toNat:Int)+256*q.toNat=I:=⟨_,rfl⟩
   have gI:=Qa (λw=>ef p q I w hI);have hI0:0<=I:=by omega
   have hI1:I<=65535:=by omega
   clear hI pb qb;have zH:(Qb (v.getD 0 [])).size=128:=by rw[Qh,l0]
   have wI:IntKind.i64.wrap I=I:=by rw[Wb];omega
   have SD:0<v.length:=by omega
   have GQ:(0:Int)<(v.length:Int):=by omega
   have GR:(2:Int)<(v.length:Int):=by omega
   obtain⟨H,hH⟩:∃H,H=v.getD 0 []:=⟨_,rfl⟩
   rw[←hH]at c0 wK zH l0;have nG:=Qa hH;clear hH hz;by_cases hp:Vu v.length I=true
   ·have HP:=Qa hp;have XS:=Jg hp;clear hp;have HF:∀w,Zm (Calls prog 170 #[.agg #[.int .i64 v.length,.int .i64 I,.int .i64 1,.int .i64 2,.int .i64 3,.int .i64 (3+(I+1)/2)]] w λe w'=>e=.returned (.string (Qb (YA v.length I)))/\Ext w w'):=λw=>Qa (Em v.length I w HP.o);obtain⟨HD,hHD⟩:∃HD,HD=YA v.length I:=⟨_,rfl⟩
    rw[←hHD]at HF;have nF:=Qa hHD;clear hHD;by_cases hHe:H=HD
    ·have HHe:=Qa hHe;subst hHe
     go_wp2_with (first
      | (go_at_call 169;refine(gI.o _).mono ?_;rintro e w' ⟨rfl,rfl⟩)
      | (go_at_call 168;refine(Pc _ _ _ HP.o).mono ?_;rintro e wp ⟨rfl,xp⟩;unfold ZO))
     have bc:=Qs wp 144 (Qj [(v.length:Int),I,1,2,3,3+(I+1)/2]);have xc:=(x1.trans xp).alloc (.cells (Qj [(v.length:Int),I,1,2,3,3+(I+1)/2]) 144);have rc:=(r1.ext xp).ext ((Qg wp).alloc (.cells (Qj [(v.length:Int),I,1,2,3,3+(I+1)/2]) 144));have cc:=(xp.alloc (.cells (Qj [(v.length:Int),I,1,2,3,3+(I+1)/2]) 144)).keep c0;change Box (wp.alloc (.cells #[.int .i64 v.length,.int .i64 I,.int .i64 1,.int .i64 2,.int .i64 3,.int .i64 (3+(I+1)/2)] 144)) _ _ _ at bc;change Ext w (wp.alloc (.cells #[.int .i64 v.length,.int .i64 I,.int .i64 1,.int .i64 2,.int .i64 3,.int .i64 (3+(I+1)/2)] 144)) at xc;change Box (wp.alloc (.cells #[.int .i64 v.length,.int .i64 I,.int .i64 1,.int .i64 2,.int .i64 3,.int .i64 (3+(I+1)/2)] 144)) _ _ _ at rc;change (wp.alloc (.cells #[.int .i64 v.length,.int .i64 I,.int .i64 1,.int .i64 2,.int .i64 3,.int .i64 (3+(I+1)/2)] 144)).cell? _=_ at cc;generalize wp.alloc (.cells #[.int .i64 v.length,.int .i64 I,.int .i64 1,.int .i64 2,.int .i64 3,.int .i64 (3+(I+1)/2)] 144)=wc at bc xc rc cc ⊢;generalize wp.heap.size=g at bc ⊢;clear xp x1 r1 c0;have c0:∀x:Qt wc,x.now.cell? ⟨b,o,none⟩=some (.string (Qb H)):=λx=>x.ext.keep cc;have q0:∀x:Qt wc,x.now.cell? ⟨g,0,none⟩=some (.int .i64 v.length):=λx=>(bc.ext x.ext).cell 0;have q1:∀x:Qt wc,x.now.cell? ⟨g,1,none⟩=some (.int .i64 I):=λx=>(bc.ext x.ext).cell 1;have q2:∀x:Qt wc,x.now.cell? ⟨g,2,none⟩=some (.int .i64 1):=λx=>(bc.ext x.ext).cell 2;have q3:∀x:Qt wc,x.now.cell? ⟨g,3,none⟩=some (.int .i64 2):=λx=>(bc.ext x.ext).cell 3;have q4:∀x:Qt wc,x.now.cell? ⟨g,4,none⟩=some (.int .i64 3):=λx=>(bc.ext x.ext).cell 4;have q5:∀x:Qt wc,x.now.cell? ⟨g,5,none⟩=some (.int .i64 (3+(I+1)/2)):=λx=>(bc.ext x.ext).cell 5;refine Qk (by kernel_rfl) (by kernel_rfl) ?_;repeat (go_big_quiet_step ((exact JO ((HF _).o))))
     refine VI ?_;rintro w5 ⟨x5,rfl⟩;have PX:=xc.trans x5.ext;have e2:=C2.o _ PX;have d0:=q0 x5;have d5:=q5 x5;have b5:=bc.ext x5.ext;have r5:=rc.ext x5.ext;clear q0 q1 q2 q3 q4 q5 c0 cc HF C2 bc rc xc;go_wp2_with fail;go_loop [8] (λt=>∃m:Nat,m<=1024/\t=.int .i64 m/\∀i:Nat,i<m->((i:Int)<3+(I+1)/2->XO (v.getD 2 []) i=true)/\(v.length<=i->XO (v.getD 2 []) i=false)) (λt=>1024-(intOf t).toNat);case atStart=>exact⟨0,by omega,rfl,λi hi=>by omega⟩
     case round =>
      obtain⟨m,hm,rfl,hbits⟩:=hrel;have mq:=Qa hbits;clear hbits;have HB:=Qa (λ(hm2:m<1024) w=>BG m (v.getD 2 []) w l2 hm2);by_cases hm2:m<1024
      ·have U6:=Qa (show(((m:Int)<3+(I+1)/2->XO (v.getD 2 []) m=true)/\(v.length<=m->XO (v.getD 2 []) m=false))->∀i:Nat,i<m+1->((i:Int)<3+(I+1)/2->XO (v.getD 2 []) i=true)/\(v.length<=i->XO (v.getD 2 []) i=false) fromλh i hi=>by
        by_cases e:i<m
        ·exact mq.o i e
        ·obtain rfl:i=m:=by omega
         exact h)
       clear mq;obtain⟨bt,hbt⟩:∃bt,XO (v.getD 2 []) m=bt:=⟨_,rfl⟩
       rw[hbt]at U6;have gW:=Qa hbt;clear hbt;by_cases m1:(m:Int)<3+(I+1)/2
       ·have CZ:¬(v.length:Int)<=m:=by omega
        have dY:decide ((v.length:Int)<=m)=false:=by simpa using CZ
        cases bt with
        | true =>
         go_wp2_with (go_at_call 171;refine(HB.o hm2 _).mono ?_;rintro e w' ⟨rfl,rfl⟩;rw[gW.o])
         go_round;case rel=>exact⟨m+1,by omega,by go_num,U6.o ⟨λ_=>by simp,λh=>by omega⟩⟩
         case measure=>simp[intOf];omega
        | false =>
         go_wp2_with (first
          | (go_at_call 171;refine(HB.o hm2 _).mono ?_;rintro e w' ⟨rfl,rfl⟩;rw[gW.o])
          | (refine QC (.tmp 2) (.tmp 76) rfl rfl w.heap.size [0,0,0,0,0,0] [0,0,0,0,0,0] 144 rfl rfl r5 rfl rfl ?_;intro w6 b6 g6))
         have xF:=PX.grown g6 (λk e=>by cases e;exact Q4 _);exact Jv (v:=.tuple #[JJ,.int .i64 3]) (Qd Tryz.results99 _ _ _ _ _ _ _ rfl rfl b6 underlying144 rfl Ju) rfl ⟨.inr rfl,xF⟩
       ·have m1':decide ((m:Int)<3+(I+1)/2)=false:=by simpa using m1
        by_cases m3:v.length<=m
        ·have CZ:(v.length:Int)<=m:=by omega
         cases bt with
         | false =>
          go_wp2_with (go_at_call 171;refine(HB.o hm2 _).mono ?_;rintro e w' ⟨rfl,rfl⟩;rw[gW.o])
          go_round;case rel=>exact⟨m+1,by omega,by go_num,U6.o ⟨λh=>by omega,λ_=>by simp⟩⟩
          case measure=>simp[intOf];omega
         | true =>
          go_wp2_with (first
           | (go_at_call 171;refine(HB.o hm2 _).mono ?_;rintro e w' ⟨rfl,rfl⟩;rw[gW.o])
           | (refine QC (.tmp 2) (.tmp 76) rfl rfl w.heap.size [0,0,0,0,0,0] [0,0,0,0,0,0] 144 rfl rfl r5 rfl rfl ?_;intro w6 b6 g6))
          have xF:=PX.grown g6 (λk e=>by cases e;exact Q4 _);exact Jv (v:=.tuple #[JJ,.int .i64 3]) (Qd Tryz.results99 _ _ _ _ _ _ _ rfl rfl b6 underlying144 rfl Ju) rfl ⟨.inr rfl,xF⟩
        ·have CZ:¬(v.length:Int)<=m:=by omega
         have dY:decide ((v.length:Int)<=m)=false:=by simpa using CZ
         go_wp2_with (go_at_call 171;refine(HB.o hm2 _).mono ?_;rintro e w' ⟨rfl,rfl⟩)
         go_round;case rel=>exact⟨m+1,by omega,by go_num,U6.o ⟨λh=>by omega,λh=>by omega⟩⟩
         case measure=>simp[intOf];omega
      ·obtain rfl:m=1024:=by omega
       have HG:=Qa (show Ji v I from⟨PY.o,HP.o,by rw[←nG.o,←nF.o],λi hi=>(mq.o i (by omega)).1 hi,λi hi hl=>(mq.o i hi).2 hl⟩)
       go_wp2_with (first
        | (refine Vd (.tmp 6) rfl rfl g _ 144 rfl b5 rfl ?_)
        | (refine QC (.tmp 2) (.tmp 77) rfl rfl w.heap.size _ [0,0,0,0,0,0] 144 rfl rfl r5 rfl rfl ?_;intro w6 b6 g6))
       have xF:=PX.grown g6 (λk e=>by cases e;exact Q4 _);exact Jv (v:=.tuple #[ZO v.length I,.int .i64 0]) (Qd Tryz.results99 _ _ _ _ _ _ _ rfl rfl b6 underlying144 rfl Ju) rfl ⟨.inl ⟨I,HG.o,rfl⟩,xF⟩
    ·have Jt:((Qb H).toList==(Qb HD).toList)=false:=by rw[Qe,Qe];simpa using hHe
     have CN:((Qb H).toList != (Qb HD).toList)=true:=by rw[bne,Jt];rfl
     clear hHe
     go_wp2_with (first
      | (go_at_call 169;refine(gI.o _).mono ?_;rintro e w' ⟨rfl,rfl⟩)
      | (go_at_call 168;refine(Pc _ _ _ HP.o).mono ?_;rintro e wp ⟨rfl,xp⟩;unfold ZO))
     have bc:=Qs wp 144 (Qj [(v.length:Int),I,1,2,3,3+(I+1)/2]);have xc:=(x1.trans xp).alloc (.cells (Qj [(v.length:Int),I,1,2,3,3+(I+1)/2]) 144);have rc:=(r1.ext xp).ext ((Qg wp).alloc (.cells (Qj [(v.length:Int),I,1,2,3,3+(I+1)/2]) 144));have cc:=(xp.alloc (.cells (Qj [(v.length:Int),I,1,2,3,3+(I+1)/2]) 144)).keep c0;change Box (wp.alloc (.cells #[.int .i64 v.length,.int .i64 I,.int .i64 1,.int .i64 2,.int .i64 3,.int .i64 (3+(I+1)/2)] 144)) _ _ _ at bc;change Ext w (wp.alloc (.cells #[.int .i64 v.length,.int .i64 I,.int .i64 1,.int .i64 2,.int .i64 3,.int .i64 (3+(I+1)/2)] 144)) at xc;change Box (wp.alloc (.cells #[.int .i64 v.length,.int .i64 I,.int .i64 1,.int .i64 2,.int .i64 3,.int .i64 (3+(I+1)/2)] 144)) _ _ _ at rc;change (wp.alloc (.cells #[.int .i64 v.length,.int .i64 I,.int .i64 1,.int .i64 2,.int .i64 3,.int .i64 (3+(I+1)/2)] 144)).cell? _=_ at cc;generalize wp.alloc (.cells #[.int .i64 v.length,.int .i64 I,.int .i64 1,.int .i64 2,.int .i64 3,.int .i64 (3+(I+1)/2)] 144)=wc at bc xc rc cc ⊢;generalize wp.heap.size=g at bc ⊢;clear xp x1 r1 c0;have c0:∀x:Qt wc,x.now.cell? ⟨b,o,none⟩=some (.string (Qb H)):=λx=>x.ext.keep cc;have q0:∀x:Qt wc,x.now.cell? ⟨g,0,none⟩=some (.int .i64 v.length):=λx=>(bc.ext x.ext).cell 0;have q1:∀x:Qt wc,x.now.cell? ⟨g,1,none⟩=some (.int .i64 I):=λx=>(bc.ext x.ext).cell 1;have q2:∀x:Qt wc,x.now.cell? ⟨g,2,none⟩=some (.int .i64 1):=λx=>(bc.ext x.ext).cell 2;have q3:∀x:Qt wc,x.now.cell? ⟨g,3,none⟩=some (.int .i64 2):=λx=>(bc.ext x.ext).cell 3;have q4:∀x:Qt wc,x.now.cell? ⟨g,4,none⟩=some (.int .i64 3):=λx=>(bc.ext x.ext).cell 4;have q5:∀x:Qt wc,x.now.cell? ⟨g,5,none⟩=some (.int .i64 (3+(I+1)/2)):=λx=>(bc.ext x.ext).cell 5;refine Qk (by kernel_rfl) (by kernel_rfl) ?_;repeat (go_big_quiet_step ((exact JO ((HF _).o))))
     refine VI ?_;rintro w5 ⟨x5,rfl⟩;have PX:=xc.trans x5.ext;have e2:=C2.o _ PX;have d0:=q0 x5;have d5:=q5 x5;have b5:=bc.ext x5.ext;have r5:=rc.ext x5.ext;clear q0 q1 q2 q3 q4 q5 c0 cc HF C2 bc rc xc;go_wp2_with (refine QC (.tmp 2) (.tmp 46) rfl rfl w.heap.size [0,0,0,0,0,0] [0,0,0,0,0,0] 144 rfl rfl r5 rfl rfl ?_;intro w6 b6 g6)
     have xF:=(PX).grown g6 (λk e=>by cases e;exact Q4 _);exact Jv (v:=.tuple #[JJ,.int .i64 3]) (Qd Tryz.results99 _ _ _ _ _ _ _ rfl rfl b6 underlying144 rfl Ju) rfl ⟨.inr rfl,xF⟩
   ·have HP:=Qa (show Vu v.length I=false by simpa using hp);clear hp
    go_wp2_with (first
     | (go_at_call 169;refine(gI.o _).mono ?_;rintro e w' ⟨rfl,rfl⟩)
     | (go_at_call 168;refine(lT _ _ _ HP.o).mono ?_;rintro e wp ⟨⟨n,hn,rfl⟩,xp⟩;unfold JJ))
    have Jt:(n != 0)=true:=by rcases hn with rfl|rfl<;>rfl
    have CN:(n==0)=false:=by rcases hn with rfl|rfl<;>rfl
    clear hn;have rc:=((r1.ext xp).ext ((Qg wp).alloc (.cells (Qj [0,0,0,0,0,0]) 144)))
    have xc:=(x1.trans xp).alloc (.cells (Qj [0,0,0,0,0,0]) 144);change Box (wp.alloc (.cells #[.int .i64 0,.int .i64 0,.int .i64 0,.int .i64 0,.int .i64 0,.int .i64 0] 144)) _ _ _ at rc;change Ext w (wp.alloc (.cells #[.int .i64 0,.int .i64 0,.int .i64 0,.int .i64 0,.int .i64 0,.int .i64 0] 144)) at xc;generalize wp.alloc (.cells #[.int .i64 0,.int .i64 0,.int .i64 0,.int .i64 0,.int .i64 0,.int .i64 0] 144)=wc at *;go_quiet (fail);go_wp2_with (refine QC (.tmp 2) (.tmp 46) rfl rfl w.heap.size [0,0,0,0,0,0] [0,0,0,0,0,0] 144 rfl rfl (rc.ext ((Qg wc).drewN _)) rfl rfl ?_;intro w6 b6 g6)
    have xF:=(xc.drewN _).grown g6 (λk e=>by cases e;exact Q4 _);exact Jv (v:=.tuple #[JJ,.int .i64 3]) (Qd Tryz.results99 _ _ _ _ _ _ _ rfl rfl b6 underlying144 rfl Ju) rfl ⟨.inr rfl,xF⟩
def Uv (I:Int):Int:=3+(I+1)/2
def U4 (v:List (List UInt8)) (I:Int):Option Nat:=(List.range v.length).find? λi=>decide (Uv I<=(i:Int))&&!XO (v.getD 2 []) i
def Pf (v:List (List UInt8)) (i:Nat):List (List UInt8):=(v.set 2 (FC (v.getD 2 []) i)).set i (zs 128)
theorem Ff (m:List UInt8) (i:Nat):XO m i=(m.getD (i/8) 0).toNat.testBit (i%8):=by
 unfold XO;rw[Nat.testBit_eq_decide_div_mod_eq]
theorem cY (m:List UInt8) (i:Nat):(FC m i).length=m.length:=by simp[FC]
theorem Ck (m:List UInt8) (i j:Nat) (hi:i/8<m.length):XO (FC m i) j=(XO m j ^^ decide (i=j)):=by
 rw[Ff,Ff];unfold FC;by_cases h:i/8=j/8
 ·have e:(m.set (i/8) (b8 (((m.getD (i/8) 0).toNat ^^^ 2^(i%8):Nat):Int))).getD (j/8) 0=b8 (((m.getD (i/8) 0).toNat ^^^ 2^(i%8):Nat):Int):=by
   rw[←h];simp[List.getD,hi]
  have h8:i%8<8:=Nat.mod_lt _ (by omega);have hx:(m.getD (i/8) 0).toNat ^^^ 2^(i%8)<2^8:=Nat.xor_lt_two_pow (m.getD (i/8) 0).toNat_lt (Nat.pow_lt_pow_right (by omega) h8);have hb:=Tw (((m.getD (i/8) 0).toNat ^^^ 2^(i%8):Nat):Int) (by omega) (by omega);have rK:(b8 (((m.getD (i/8) 0).toNat ^^^ 2^(i%8):Nat):Int)).toNat=(m.getD (i/8) 0).toNat ^^^ 2^(i%8):=by exact_mod_cast hb
  rw[e,rK,Nat.testBit_xor,Nat.testBit_two_pow,←h];congr 1;by_cases e2:i=j
  ·subst e2;simp
  ·have:¬i%8=j%8:=by omega
   simp[e2,this]
 ·have e:(m.set (i/8) (b8 (((m.getD (i/8) 0).toNat ^^^ 2^(i%8):Nat):Int))).getD (j/8) 0=m.getD (j/8) 0:=by
   simp[List.getD,h]
  have e2:¬i=j:=by intro e2;subst e2;exact h rfl
  rw[e];simp[e2]
theorem YN (v:List (List UInt8)) {i j:Nat}(b:List UInt8) (h:i≠j):(v.set i b).getD j []=v.getD j []:=by simp[List.getD,h]
theorem UA (v:List (List UInt8)) {i:Nat}(b:List UInt8) (h:i<v.length):(v.set i b).getD i []=b:=by simp[List.getD,h]
theorem Ji.set {v:List (List UInt8)}{I:Int}(h:Ji v I) {i:Nat}{b:List UInt8}(h0:i≠0) (h2:i≠2) (hb:b.length=128):Ji (v.set i b) I:=by
 refine⟨λj hj=>?_,by simpa using h.plan,?_,λj hj=>?_,λj hj hl=>?_⟩
 ·rw[List.getElem_set];split
  ·exact hb
  ·exact h.all j (by simpa using hj)
 ·rw[YN v b h0,h.head];simp
 ·rw[YN v b h2];exact h.low j hj
 ·rw[YN v b h2];exact h.high j hj (by simpa using hl)
theorem Ji.flip {v:List (List UInt8)}{I:Int}(h:Ji v I) {i:Nat}(h1:Uv I<=(i:Int)) (h2:i<v.length):Ji (v.set 2 (FC (v.getD 2 []) i)) I:=by
 have hp:=Jg h.plan;have Rm:(v.getD 2 []).length=128:=Yo h (by omega);unfold Uv at h1;refine⟨λj hj=>?_,by simpa using h.plan,?_,λj hj=>?_,λj hj hl=>?_⟩
 ·rw[List.getElem_set];split
  ·rw[cY,Rm]
  ·exact h.all j (by simpa using hj)
 ·rw[YN v _ (by decide),h.head];simp
 ·rw[UA v _ (by omega),Ck _ _ _ (by omega),h.low j hj];have:¬i=j:=by omega
  simp[this]
 ·rw[UA v _ (by omega),Ck _ _ _ (by omega),h.high j hj (by simpa using hl)];have:¬i=j:=by have P8:v.length<=j:=(by simpa using hl);omega
  simp[this]
theorem UT {v:List (List UInt8)}{I:Int}{i:Nat}(h:U4 v I=some i):Uv I<=(i:Int)/\i<v.length/\XO (v.getD 2 []) i=false/\∀j:Nat,Uv I<=(j:Int)->j<i->XO (v.getD 2 []) j=true:=by
 unfold U4 at h;rw[List.find?_range_eq_some]at h;obtain⟨h1,h2,h3⟩:=h;simp only[Vg,MS,zZ]at h1;refine⟨h1.1,Mo.1 h2,h1.2,λj hj Qn=>?_⟩;have:=h3 j Qn;simp only[Bool.not_and,Bool.not_not,iQ,zZ,sn]at this;rcases this with h|h
 ·exact absurd hj h
 ·exact h
theorem Ji.taken {v:List (List UInt8)}{I:Int}(h:Ji v I) {i:Nat}(ht:U4 v I=some i):Ji (Pf v i) I:=by
 have hp:=Jg h.plan;obtain⟨h1,h2,_⟩:=UT ht;unfold Uv at h1;exact(h.flip (by unfold Uv;exact h1) h2).set (by omega) (by omega) (UX 128)
theorem Oc (v:List (List UInt8)) (i:Nat):(Pf v i).length=v.length:=by simp[Pf]
theorem eQ (v:List (List UInt8)) (k:Int) (x:List Int):(putAt v k x).length=v.length:=by simp[putAt]
theorem Ji.putAt {v:List (List UInt8)}{I k:Int}(h:Ji v I) (h1:1<=k) (h2:k<=I) (x:List Int):Ji (putAt v k x) I:=by
 have hp:=Jg h.plan;have hi:(3+(k-1)/2).toNat<v.length:=by omega
 refine h.set (by omega) (by omega) ?_;rw[F3,Yo h hi];rw[Lt,Yo h hi];omega
theorem O6 (b:List UInt8) (o z:Nat):0<=QW b o z/\QW b o z<256^z:=by
 unfold QW;have h1:=Nb ((b.drop o).take z);have h2:((b.drop o).take z).length<=z:=by simp[MT];omega
 have h3:(256:Nat)^((b.drop o).take z).length<=256^z:=sw (by omega) h2;refine⟨by omega,?_⟩;have h4:(Z1 ((b.drop o).take z))<256^z:=by omega
 rw[show(256:Int)^z=((256^z:Nat):Int) by rw[Int.natCast_pow];rfl];exact Int.ofNat_lt.2 h4
theorem CD (b:List UInt8) (o:Nat):Fw (U9 b o)=true:=by
 unfold Fw;rw[Rj];intro k _;refine Xd ?_;rcases k with⟨k,hk⟩
 rcases(by omega:k=0\/k=1\/k=2\/k=3\/k=4\/k=5\/k=6\/k=7\/k=8\/k=9\/k=10\/k=11) with rfl|rfl|rfl|rfl|rfl|rfl|rfl|rfl|rfl|rfl|rfl|rfl<;>exact O6 _ _ _
theorem kR (B I:Int):∃a0 a1 a2 a3 a4 a5 n:Int,(∀w,Calls prog 163 #[.int .i64 B,.int .i64 I] w λe w'=>e=.returned (.tuple #[.agg #[.int .i64 a0,.int .i64 a1,.int .i64 a2,.int .i64 a3,.int .i64 a4,.int .i64 a5],.int .i64 n])/\Ext w w')/\
  ((n=0/\Vu B I=true/\a0=B/\a1=I/\a2=1/\a3=2/\a4=3/\a5=3+(I+1)/2)\/((n=2\/n=10)/\Vu B I=false)):=by
 cases h:Vu B I with
 | true=>exact⟨B,I,1,2,3,_,0,λw=>LU B I w h,.inl ⟨rfl,rfl,rfl,rfl,rfl,rfl,rfl,rfl⟩⟩
 | false =>
  have hp:B<16\/223<B\/(16<=B/\B<=223/\I<4)\/(16<=B/\B<=223/\64<I)\/(16<=B/\B<=223/\4<=I/\I<=64/\B<=3+(I+1)/2):=by
   have:¬(16<=B/\B<=223/\4<=I/\I<=64/\3+(I+1)/2<B):=by simpa[Vu]using h
   omega
  clear h;rcases hp with hp|hp|hp|hp|hp
  case' inr.inr.inr.inr => refine⟨0,0,0,0,0,0,10,λw=>?_,.inr ⟨.inr rfl,rfl⟩⟩;go_enter func163,ntmps163;go_wp2_with fail;exact Jv (v:=.tuple #[JJ,.int .i64 10]) (by simp[results,Tryz.results163,go_sem,JJ]) rfl ⟨rfl,(Qg _).alloc _⟩
  all_goals
   refine⟨0,0,0,0,0,0,2,λw=>?_,.inr ⟨.inl rfl,rfl⟩⟩;go_enter func163,ntmps163;go_wp2_with fail;exact Jv (v:=.tuple #[JJ,.int .i64 2]) (by simp[results,Tryz.results163,go_sem,JJ]) rfl ⟨rfl,(Qg _).alloc _⟩
theorem O9 (A:Option Addr) (n c:Nat) (v:List (List UInt8)) (w:World) (hv:Strs w A n v) (hnk:n<=9223372036854775807) :
  Calls prog 94 #[.slice A n c] w λe w'=>OfR v e/\Ext w w':=by
 obtain⟨rfl,Y7⟩:=hv;have hz:=Qh;have r0:Box (w.alloc (.cells #[.int .i64 0,.int .i64 0,.int .i64 0,.int .i64 0,.int .i64 0,.int .i64 0] 144)) w.heap.size 144 (Qj [0,0,0,0,0,0]):=Qs _ _ _;have x0:Ext w (w.alloc (.cells #[.int .i64 0,.int .i64 0,.int .i64 0,.int .i64 0,.int .i64 0,.int .i64 0] 144)):=(Qg _).alloc _;go_enter func94,ntmps94;go_wp2_with fail;generalize w.alloc (.cells #[.int .i64 0,.int .i64 0,.int .i64 0,.int .i64 0,.int .i64 0,.int .i64 0] 144)=w1 at *;have x1:=x0;have r1:=r0;clear x0 r0;go_loop [5,12] (λ_ i=>∃k:Nat,k<=v.length/\i=.int .i64 k/\∀(j:Nat) (h:j<v.length),j<k->v[j].length=128) (λ_ i=>v.length-(intOf i).toNat);case atStart=>exact⟨0,by omega,rfl,λj h hk=>by omega⟩
 case round =>
  obtain⟨k,hk,rfl,hal⟩:=hrel;have fZ:=Qa hal;clear hal;by_cases Vq:k<v.length
  ·obtain⟨b,o,rfl,Qf⟩:=Y7 (by omega);have ND:w1.cell? ⟨b,o+k,none⟩=some (.string (Qb v[k])):=x1.keep (Qf k Vq);by_cases hl:v[k].length=128
   ·have HN:=Qa (show∀(j:Nat) (h:j<v.length),j<k+1->v[j].length=128 fromλj h hj=>by
     by_cases e:j<k
     ·exact fZ.o j h e
     ·obtain rfl:j=k:=by omega
      exact hl)
    have P9:((v[k].length:Int) != 128)=false:=by rw[hl];rfl
    clear hl Qf;generalize v[k]=s at *;go_wp2_with fail;go_round;case rel=>exact⟨k+1,by omega,by go_num,HN.o⟩
    case measure=>simp[intOf];omega
   ·have P9:((v[k].length:Int) != 128)=true:=by simp;omega
    clear hl Qf;generalize v[k]=s at *;go_wp2_with (refine QC (.tmp 2) (.tmp 19) rfl rfl w.heap.size [0,0,0,0,0,0] [0,0,0,0,0,0] 144 rfl rfl r1 rfl rfl ?_;intro w6 b6 g6)
    have xF:=(x1).grown g6 (λk e=>by cases e;exact Q4 _);exact Jv (v:=.tuple #[JJ,.int .i64 3]) (Qd Tryz.results94 _ _ _ _ _ _ _ rfl rfl b6 underlying144 rfl Ju) rfl ⟨.inr rfl,xF⟩
  ·obtain rfl:k=v.length:=by omega
   have PY:=Qa (λ(j:Nat) (h:j<v.length)=>fZ.o j h h);clear fZ;by_cases fy:v.length<16
   ·have ti:decide ((v.length:Int)<16)=true:=Xd (by omega);go_wp2_with (refine QC (.tmp 2) (.tmp 24) rfl rfl w.heap.size [0,0,0,0,0,0] [0,0,0,0,0,0] 144 rfl rfl r1 rfl rfl ?_;intro w6 b6 g6)
    have xF:=(x1).grown g6 (λk e=>by cases e;exact Q4 _);exact Jv (v:=.tuple #[JJ,.int .i64 3]) (Qd Tryz.results94 _ _ _ _ _ _ _ rfl rfl b6 underlying144 rfl Ju) rfl ⟨.inr rfl,xF⟩
   ·have ti:decide ((v.length:Int)<16)=false:=XI (by omega);obtain⟨b,o,rfl,Qf⟩:=Y7 (by omega);have c0:w1.cell? ⟨b,o,none⟩=some (.string (Qb (v.getD 0 []))):=by
     have:=x1.keep (Qf 0 (by omega));rw[Yb,ZX (by omega)];exact this
    have c0v:∀wx,Ext w wx->wx.cell? ⟨b,o,none⟩=some (.string (Qb (v.getD 0 []))):=λwx xx=>by have:=xx.keep (Qf 0 (by omega));rw[Yb,ZX (by omega)];exact this
    have rB:∀wx,Ext w wx->wx.cell? ⟨b,o+2,none⟩=some (.string (Qb (v.getD 2 []))):=λwx xx=>by have:=xx.keep (Qf 2 (by omega));rw[Yb,ZX (by omega)];exact this
    have hb:b<w.heap.size:=zR w _ (Qf 0 (by omega));have C0:=Qa c0v;have C2:=Qa rB;have l0:(v.getD 0 []).length=128:=by rw[Yb,ZX (by omega)];exact PY.o 0 (by omega)
    have l2:(v.getD 2 []).length=128:=by rw[Yb,ZX (by omega)];exact PY.o 2 (by omega)
    clear c0v rB Qf Y7;obtain⟨p,q,hpq⟩:=pJ (l:=((v.getD 0 []).drop 4).take 2) (by rw[MT,Nx];omega);obtain⟨r,s,hrs⟩:=pJ (l:=((v.getD 0 []).drop 6).take 2) (by rw[MT,Nx];omega);have mZ:(Qb (v.getD 0 [])).extract 4 6=Qb [p,q]:=by rw[J6];exact congrArg Qb hpq
    have wK:(Qb (v.getD 0 [])).extract 6 8=Qb [r,s]:=by rw[J6];exact congrArg Qb hrs
    clear hpq hrs;have pb:=p.toNat_lt;have qb:=q.toNat_lt;have rb:=r.toNat_lt;have sb:=s.toNat_lt;obtain⟨B,hB⟩:∃B:Int,(p.toNat:Int)+256*q.toNat=B:=⟨_,rfl⟩
    obtain⟨I,hI⟩:∃I:Int,(r.toNat:Int)+256*s.toNat=I:=⟨_,rfl⟩
    have GB:=Qa (λw=>Mv p q B w hB);have GI:=Qa (λw=>Mv r s I w hI);have wB:IntKind.i64.wrap B=B:=by rw[Wb];omega
    have wI:IntKind.i64.wrap I=I:=by rw[Wb];omega
    clear hB hI pb qb rb sb;have zH:(Qb (v.getD 0 [])).size=128:=by rw[Qh,l0]
    have SD:0<v.length:=by omega
    have GQ:(0:Int)<(v.length:Int):=by omega
    obtain⟨a0,a1,a2,a3,a4,a5,pn,hPl,XS⟩:=kR B I;have HPl:=Qa hPl;have HPc:=Qa XS;clear hPl XS;obtain⟨H,hH⟩:∃H,H=v.getD 0 []:=⟨_,rfl⟩
    rw[←hH]at c0 mZ wK zH l0 C0;have nG:=Qa hH;clear hH hz;go_wp2_with fail;go_cut [6,7] (λs6 s7 wx=>∃g:Nat,s6=.pointer (some ⟨g,0,none⟩)/\s7=.int .i64 pn/\w1.heap.size<=g/\Ext w1 wx/\Box wx g 144 #[.int .i64 a0,.int .i64 a1,.int .i64 a2,.int .i64 a3,.int .i64 a4,.int .i64 a5]);case first =>
     have Vy:b<w1.heap.size:=Ca hb x1.size;have cA:(w1.alloc (.cells #[.int .i64 0,.int .i64 0,.int .i64 0,.int .i64 0,.int .i64 0,.int .i64 0] 144)).cell? ⟨b,o,none⟩=some (.string (Qb H)):=mX ((Qg _).alloc _) c0;have bne:¬b=w1.heap.size:=by omega
     have Qjm:¬w1.heap.size=b:=by omega
     clear C0 C2 PY r1
     go_region_held3 (λw'=>w'.cell? ⟨b,o,none⟩=some (.string (Qb H)))
      (first|(with_reducible exact c0)|(with_reducible exact cB)|(with_reducible exact cA)|(with_reducible exact mX ((Qg _).alloc _) cB)|go_keep) (first
      | (go_at_call_of 164 (Qb [p,q]);refine(GB.o _).mono ?_;rintro e w' ⟨rfl,rfl⟩)
      | (go_at_call_of 164 (Qb [r,s]);refine(GI.o _).mono ?_;rintro e w' ⟨rfl,rfl⟩)
      | (go_at_call 163;(with_reducible refine(HPl.o (World.drew (World.alloc w1 _))).mono ?_);rintro e w' ⟨rfl,hgp⟩;have HX:=Qa (((Qg w1).alloc _).trans (wD hgp));have cB:=mX hgp (show(World.drew (World.alloc w1 _)).cell? ⟨b,o,none⟩=some (.string (Qb H)) from mX ((Qg _).alloc _) c0);have bx:=Box.ext (Qs w1 144 #[.int .i64 0,.int .i64 0,.int .i64 0,.int .i64 0,.int .i64 0,.int .i64 0]) (wD hgp);have y0:=bx.cell 0;have f0:=bx.frozen 0;have y1:=bx.cell 1;have f1:=bx.frozen 1;have y2:=bx.cell 2;have f2:=bx.frozen 2;have y3:=bx.cell 3;have f3:=bx.frozen 3;have y4:=bx.cell 4;have f4:=bx.frozen 4;have y5:=bx.cell 5;have f5:=bx.frozen 5;have BX:=Qa bx;clear bx;simp only[MR,nT,so]at y0 y1 y2 y3 y4 y5)
      | (go_at_call 163;refine(HPl.o _).mono ?_;rintro e w' ⟨rfl,hgp⟩;have HX:=Qa (wD hgp);have cB:=mX hgp (show(World.drew w1).cell? ⟨b,o,none⟩=some (.string (Qb H)) from c0)))
     ·go_wp2_with fail;go_meet;exact⟨w'.heap.size,rfl,rfl,HX.o.size,HX.o.alloc _,Qs _ _ _⟩
     all_goals
      go_wp2_with fail;go_meet;refine⟨w1.heap.size,rfl,rfl,Q4 _,?_,?_⟩
      ·exact(((((HX.o.setCell (Q4 _) _).setCell (Q4 _) _).setCell (Q4 _) _).setCell (Q4 _) _).setCell (Q4 _) _).setCell (Q4 _) _
      ·exact((((((BX.o.set 0 _).set 1 _).set 2 _).set 3 _).set 4 _).set 5 _)
    case rest =>
     obtain⟨g,rfl,rfl,My,xc,bc⟩:=hcut;have xw:=x1.trans xc;have rc:=r1.ext xc;have c0':∀x:Qt wc,x.now.cell? ⟨b,o,none⟩=some (.string (Qb H)):=λx=>C0.o _ (xw.trans x.ext);have q0:∀x:Qt wc,x.now.cell? ⟨g,0,none⟩=some (.int .i64 a0):=λx=>(bc.ext x.ext).cell 0;have q1:∀x:Qt wc,x.now.cell? ⟨g,1,none⟩=some (.int .i64 a1):=λx=>(bc.ext x.ext).cell 1;have q2:∀x:Qt wc,x.now.cell? ⟨g,2,none⟩=some (.int .i64 a2):=λx=>(bc.ext x.ext).cell 2;have q3:∀x:Qt wc,x.now.cell? ⟨g,3,none⟩=some (.int .i64 a3):=λx=>(bc.ext x.ext).cell 3;have q4:∀x:Qt wc,x.now.cell? ⟨g,4,none⟩=some (.int .i64 a4):=λx=>(bc.ext x.ext).cell 4;have q5:∀x:Qt wc,x.now.cell? ⟨g,5,none⟩=some (.int .i64 a5):=λx=>(bc.ext x.ext).cell 5;clear c0 mZ wK wB wI ti GB GI HPl hb;rcases HPc.o with⟨rfl,hp,e0,e1,rfl,rfl,rfl,e5⟩|⟨K8,hp⟩
     ·have e0':=e0.symm;have e1':=e1.symm;clear e0 e1;subst e0' e1' e5;have HP:=Qa hp;clear hp;by_cases hBl:B=(v.length:Int)
      ·subst hBl;have hpl2:=Jg HP.o;have HF:∀w,Zm (Calls prog 165 #[.agg #[.int .i64 v.length,.int .i64 I,.int .i64 1,.int .i64 2,.int .i64 3,.int .i64 (3+(I+1)/2)]] w λe w'=>e=.returned (.string (Qb (YA v.length I)))/\Ext w w'):=λw=>Qa (Fv v.length I w HP.o);obtain⟨HD,hHD⟩:∃HD,HD=YA v.length I:=⟨_,rfl⟩
       rw[←hHD]at HF;have nF:=Qa hHD;clear hHD;by_cases hHe:H=HD
       ·have HHe:=Qa hHe;subst hHe;go_wp2_with fail;refine Qk (by kernel_rfl) (by kernel_rfl) ?_;repeat (go_big_quiet_step (exact JO ((HF _).o)))
        refine VI ?_;rintro w5 ⟨x5,rfl⟩;have PX:=xw.trans x5.ext;have r5:=rc.ext x5.ext;have d0:=q0 x5;have d5:=q5 x5;have b5:=bc.ext x5.ext;have e2:=C2.o _ PX;clear q0 q1 q2 q3 q4 q5 c0' HF C0 C2 bc rc xw r1 x1 xc;go_wp2_with fail;go_loop [59] (λt=>∃m:Nat,m<=1024/\t=.int .i64 m/\∀i:Nat,i<m->((i:Int)<3+(I+1)/2->XO (v.getD 2 []) i=true)/\(v.length<=i->XO (v.getD 2 []) i=false)) (λt=>1024-(intOf t).toNat);case atStart=>exact⟨0,by omega,rfl,λi hi=>by omega⟩
        case round =>
         obtain⟨m,hm,rfl,hbits⟩:=hrel;have mq:=Qa hbits;clear hbits;have HB:=Qa (λ(hm2:m<1024) w (h:w.cell? ⟨b,o+2,none⟩=some (.string (Qb (v.getD 2 []))))=>OS b o v.length c m (v.getD 2 []) w (by omega) h l2 hm2);by_cases hm2:m<1024
         ·have U6:=Qa (show(((m:Int)<3+(I+1)/2->XO (v.getD 2 []) m=true)/\(v.length<=m->XO (v.getD 2 []) m=false))->∀i:Nat,i<m+1->((i:Int)<3+(I+1)/2->XO (v.getD 2 []) i=true)/\(v.length<=i->XO (v.getD 2 []) i=false) fromλh i hi=>by
           by_cases e:i<m
           ·exact mq.o i e
           ·obtain rfl:i=m:=by omega
            exact h)
          clear mq;obtain⟨bt,hbt⟩:∃bt,XO (v.getD 2 []) m=bt:=⟨_,rfl⟩
          rw[hbt]at U6;have gW:=Qa hbt;clear hbt;by_cases m1:(m:Int)<3+(I+1)/2
          ·have CZ:¬(v.length:Int)<=m:=by omega
           have dY:decide ((v.length:Int)<=m)=false:=by simpa using CZ
           cases bt with
           | true =>
            go_wp2_with (go_at_call 166;refine(HB.o hm2 _ e2).mono ?_;rintro e w' ⟨rfl,rfl⟩;rw[gW.o])
            go_round;case rel=>exact⟨m+1,by omega,by go_num,U6.o ⟨λ_=>by simp,λh=>by omega⟩⟩
            case measure=>simp[intOf];omega
           | false =>
            go_wp2_with (first
             | (go_at_call 166;refine(HB.o hm2 _ e2).mono ?_;rintro e w' ⟨rfl,rfl⟩;rw[gW.o])
             | (refine QC (.tmp 2) (.tmp 82) rfl rfl w.heap.size [0,0,0,0,0,0] [0,0,0,0,0,0] 144 rfl rfl r5 rfl rfl ?_;intro w6 b6 g6))
            have xF:=PX.grown g6 (λk e=>by cases e;exact Q4 _);exact Jv (v:=.tuple #[JJ,.int .i64 3]) (Qd Tryz.results94 _ _ _ _ _ _ _ rfl rfl b6 underlying144 rfl Ju) rfl ⟨.inr rfl,xF⟩
          ·have m1':decide ((m:Int)<3+(I+1)/2)=false:=by simpa using m1
           by_cases m3:v.length<=m
           ·have CZ:(v.length:Int)<=m:=by omega
            cases bt with
            | false =>
             go_wp2_with (go_at_call 166;refine(HB.o hm2 _ e2).mono ?_;rintro e w' ⟨rfl,rfl⟩;rw[gW.o])
             go_round;case rel=>exact⟨m+1,by omega,by go_num,U6.o ⟨λh=>by omega,λ_=>by simp⟩⟩
             case measure=>simp[intOf];omega
            | true =>
             go_wp2_with (first
              | (go_at_call 166;refine(HB.o hm2 _ e2).mono ?_;rintro e w' ⟨rfl,rfl⟩;rw[gW.o])
              | (refine QC (.tmp 2) (.tmp 82) rfl rfl w.heap.size [0,0,0,0,0,0] [0,0,0,0,0,0] 144 rfl rfl r5 rfl rfl ?_;intro w6 b6 g6))
             have xF:=PX.grown g6 (λk e=>by cases e;exact Q4 _);exact Jv (v:=.tuple #[JJ,.int .i64 3]) (Qd Tryz.results94 _ _ _ _ _ _ _ rfl rfl b6 underlying144 rfl Ju) rfl ⟨.inr rfl,xF⟩
           ·have CZ:¬(v.length:Int)<=m:=by omega
            have dY:decide ((v.length:Int)<=m)=false:=by simpa using CZ
            go_wp2_with (go_at_call 166;refine(HB.o hm2 _ e2).mono ?_;rintro e w' ⟨rfl,rfl⟩)
            go_round;case rel=>exact⟨m+1,by omega,by go_num,U6.o ⟨λh=>by omega,λh=>by omega⟩⟩
            case measure=>simp[intOf];omega
         ·obtain rfl:m=1024:=by omega
          have HG:=Qa (show Ji v I from⟨PY.o,HP.o,by rw[←nG.o,←nF.o],λi hi=>(mq.o i (by omega)).1 hi,λi hi hl=>(mq.o i hi).2 hl⟩);have b5':Box x5.now g 144 (Qj [(v.length:Int),I,1,2,3,3+(I+1)/2]):=b5;clear b5
          go_wp2_with (first
           | (refine Vd (.tmp 6) rfl rfl g _ 144 rfl b5' rfl ?_)
           | (refine QC (.tmp 2) (.tmp 84) rfl rfl w.heap.size [(v.length:Int),I,1,2,3,3+(I+1)/2] [0,0,0,0,0,0] 144 rfl rfl r5 rfl rfl ?_;intro w6 b6 g6))
          have xF:=PX.grown g6 (λk e=>by cases e;exact Q4 _);exact Jv (v:=.tuple #[ZO v.length I,.int .i64 0]) (Qd Tryz.results94 _ _ _ _ _ _ _ rfl rfl b6 underlying144 rfl Ju) rfl ⟨.inl ⟨I,HG.o,rfl⟩,xF⟩
       ·have Jt:((Qb H).toList==(Qb HD).toList)=false:=by rw[Qe,Qe];simpa using hHe
        have CN:((Qb H).toList != (Qb HD).toList)=true:=by rw[bne,Jt];rfl
        clear hHe;go_wp2_with fail;refine Qk (by kernel_rfl) (by kernel_rfl) ?_;repeat (go_big_quiet_step (exact JO ((HF _).o)))
        refine VI ?_;rintro w5 ⟨x5,rfl⟩;have PX:=xw.trans x5.ext;have r5:=rc.ext x5.ext;go_wp2_with (refine QC (.tmp 2) (.tmp 58) rfl rfl w.heap.size [0,0,0,0,0,0] [0,0,0,0,0,0] 144 rfl rfl r5 rfl rfl ?_;intro w6 b6 g6)
        have xF:=PX.grown g6 (λk e=>by cases e;exact Q4 _);exact Jv (v:=.tuple #[JJ,.int .i64 3]) (Qd Tryz.results94 _ _ _ _ _ _ _ rfl rfl b6 underlying144 rfl Ju) rfl ⟨.inr rfl,xF⟩
      ·have SA:(B != (v.length:Int))=true:=by simpa using hBl
       clear hBl;go_wp2_with fail;refine Qk (by kernel_rfl) (by kernel_rfl) ?_;repeat (go_big_quiet_step (fail))
       refine VI ?_;rintro w5 ⟨x5,rfl⟩;have PX:=xw.trans x5.ext;have r5:=rc.ext x5.ext;go_wp2_with (refine QC (.tmp 2) (.tmp 58) rfl rfl w.heap.size [0,0,0,0,0,0] [0,0,0,0,0,0] 144 rfl rfl r5 rfl rfl ?_;intro w6 b6 g6)
       have xF:=PX.grown g6 (λk e=>by cases e;exact Q4 _);exact Jv (v:=.tuple #[JJ,.int .i64 3]) (Qd Tryz.results94 _ _ _ _ _ _ _ rfl rfl b6 underlying144 rfl Ju) rfl ⟨.inr rfl,xF⟩
     ·have SA:(pn != 0)=true:=by rcases K8 with rfl|rfl<;>rfl
      clear K8;go_wp2_with fail;refine Qk (by kernel_rfl) (by kernel_rfl) ?_;repeat (go_big_quiet_step (fail))
      refine VI ?_;rintro w5 ⟨x5,rfl⟩;have PX:=xw.trans x5.ext;have r5:=rc.ext x5.ext;go_wp2_with (refine QC (.tmp 2) (.tmp 58) rfl rfl w.heap.size [0,0,0,0,0,0] [0,0,0,0,0,0] 144 rfl rfl r5 rfl rfl ?_;intro w6 b6 g6)
      have xF:=PX.grown g6 (λk e=>by cases e;exact Q4 _);exact Jv (v:=.tuple #[JJ,.int .i64 3]) (Qd Tryz.results94 _ _ _ _ _ _ _ rfl rfl b6 underlying144 rfl Ju) rfl ⟨.inr rfl,xF⟩
theorem pX {l l':List UInt8}{o o' z:Nat}(h:∀j,j<z->l[o+j]? =l'[o'+j]?):(l.drop o).take z=(l'.drop o').take z:=by
 apply zX;intro j;rw[Cb,Cb,EM,EM];split
 ·exact h j ‹_›
 ·rfl
theorem kK {b s:List UInt8}{p:Nat}(h:p+s.length<=b.length) (j:Nat):(NH b p s)[j]? =if j<p then b[j]? else if j<p+s.length then s[j-p]? else b[j]? :=by
 unfold NH;have hp:(b.take p).length=p:=by simp;omega
 by_cases h1:j<p
 ·rw[QN h1,iR,iM (by omega),Cb,QN h1]
 ·rw[QD h1,iR,Wdt (by omega),hp];by_cases h2:j<p+s.length
  ·rw[QN h2,iM (by omega)]
  ·rw[QD h2,Wdt (by omega),EM,show p+s.length+(j-p-s.length)=j by omega]
theorem GK {b s:List UInt8}{p:Nat}(h:p+s.length<=b.length) {o z:Nat}(hz:o+z<=p\/p+s.length<=o):QW (NH b p s) o z=QW b o z:=by
 unfold QW;rw[pX (l':=b) (o':=o) (λj hj=>by
  rw[kK h];rcases hz with hz|hz
  ·rw[QN (by omega)]
  ·rw[QD (by omega),QD (by omega)])]
theorem Dd {b s:List UInt8}{p q:Nat}(h:p+s.length<=b.length) (hs:s.length=24) (hq:q+24<=p\/p+24<=q):U9 (NH b p s) q=U9 b q:=by
 unfold U9;have e:∀i z:Nat,i+z<=24->QW (NH b p s) (q+i) z=QW b (q+i) z:=λi z hz=>GK h (by omega);rw[show QW (NH b p s) q 1=QW b q 1 from e 0 1 (by omega),e 2 2 (by omega),e 1 1 (by omega),e 4 4 (by omega),e 8 2 (by omega),e 10 2 (by omega),e 12 2 (by omega),e 14 2 (by omega),e 16 2 (by omega),e 18 2 (by omega),e 20 2 (by omega),e 22 2 (by omega)]
theorem Dc {v:List (List UInt8)}{I k j:Int}(hg:Ji v I) (h1:1<=k) (h2:k<=I) (j1:1<=j) (Jt:j≠k) (x:List Int):QI (putAt v k x) j=QI v j:=by
 have hp:=Jg hg.plan;have hi:(3+(k-1)/2).toNat<v.length:=by omega
 unfold QI putAt;by_cases e:(3+(k-1)/2).toNat=(3+(j-1)/2).toNat
 ·rw[←e,UA _ _ hi,Dd (by rw[Lt,Yo hg hi];omega) (Lt x) (by omega)]
 ·rw[YN _ _ e]
theorem RN (v:List (List UInt8)) {i:Nat}{k:Int}(b:List UInt8) (h:i≠(3+(k-1)/2).toNat):QI (v.set i b) k=QI v k:=by
 unfold QI;rw[YN _ _ h]
theorem dP (A:Option Addr) (n c:Nat) (v:List (List UInt8)) (k:Int) (w:World) (hv:Strs w A n v) (hn:n<=9223372036854775807) (hb:∀I,¬Ji v I) :
  Calls prog 133 #[.slice A n c,.int .i64 k] w λe w'=>e=.returned (.tuple #[JJ,.int .i64 3])/\Ext w w':=by
 have HO:=Qa (λw h=>O9 A n c v w h hn);go_enter func133,ntmps133;go_wp2_with fail;refine(HO.o _ (hv.ext ((Qg _).alloc _))).mono ?_;rintro e w1 ⟨hor,x1⟩;obtain rfl:e=.returned (.tuple #[JJ,.int .i64 3]):=by
  rcases hor with⟨I,hg,_⟩|h
  ·exact absurd hg (hb I)
  ·exact h
 rw[Ue];have x0:Ext w w1:=((Qg w).alloc _).trans x1;have bR:Box w1 w.heap.size 144 (Qj [0,0,0,0,0,0]):=(Qs w 144 _).ext x1;have Qn:=bR.lt;clear x1
 go_wp2_with (first
  | (refine QC (.tmp 6) (.tmp 11) rfl rfl w1.heap.size [0,0,0,0,0,0] [0,0,0,0,0,0] 144 rfl rfl (Qs _ _ _) rfl rfl ?_;intro w2 b2 g2)
  | (refine QC (.tmp 4) (.tmp 15) rfl rfl w.heap.size [0,0,0,0,0,0] [0,0,0,0,0,0] 144 rfl rfl ((bR.ext ((Qg _).alloc _)).grown g2 (by first|(simp;done)|(simp;omega))) rfl rfl ?_;intro w3 b3 g3))
 refine Jv (Qd rfl _ _ w.heap.size _ _ _ (.int .i64 3) rfl rfl b3 underlying144 rfl Ju) rfl ⟨rfl,?_⟩;exact((x0.alloc _).grown g2 (λk e=>by cases e;exact x0.size)).grown g3 (λk e=>by cases e;exact Q4 _)
theorem CS (A:Option Addr) (n c:Nat) (v:List (List UInt8)) (k:Int) (w:World) (hv:Strs w A n v) (hn:n<=9223372036854775807) (hb:∀I,¬Ji v I) :
  Calls prog 69 #[.slice A n c,.int .i64 k] w λe w'=>e=.returned (.tuple #[.agg (Qj Qy),.int .i64 3])/\Ext w w':=by
 have HO:=Qa (λw h=>dP A n c v k w h hn hb);go_enter func69,ntmps69;go_wp2_with fail;refine(HO.o _ (hv.ext ((Qg _).alloc _))).mono ?_;rintro e w1 ⟨rfl,x1⟩;rw[Ue];have x0:Ext w w1:=((Qg w).alloc _).trans x1;have bR:Box w1 w.heap.size 121 (Qj Qy):=(Qs w 121 _).ext x1;have Qn:=bR.lt;clear x1
 go_wp2_with (first
  | (refine QC (.tmp 6) (.tmp 12) rfl rfl w1.heap.size _ [0,0,0,0,0,0] 144 rfl rfl (Qs _ _ _) rfl rfl ?_;intro w2 b2 g2;have x2:Ext w w2:=(x0.alloc _).grown g2 (λk e=>by cases e;exact x0.size))
  | (refine QR (.tmp 4) (.tmp 16) rfl rfl w.heap.size Qy Qy 121 rfl rfl ((bR.ext ((Qg _).alloc _)).grown g2 (by first|(simp;done)|(simp;omega))) rfl rfl ?_;intro w4 b4 g4))
 refine Jv (Qd rfl _ _ w.heap.size _ _ _ (.int .i64 3) rfl rfl b4 underlying121 rfl VO) rfl ⟨rfl,?_⟩;exact x2.grown g4 (λk e=>by cases e;exact Q4 _)
theorem RA (w:World) (g:Nat) (x:Int) (h:Box w g 5 #[.int .u8 x]):(convert 167 9 (.slice (some ⟨g,0,none⟩) 1 1)).run prog w=.ok (.string (Qb [b8 x])) w:=by
 refine run_convert_bytes_arg (P:=prog) _ 167 5 underlying167 underlying5 _ _ _ 1 [x] rfl (λi hi=>?_) 9 underlying9;rcases(show i=0 by simpa using hi) with rfl;exact h.cell 0
theorem ES (n:Nat):b8 (n:Int)=UInt8.ofNat n:=by unfold b8;simp
theorem BP (f:Nat):∀(n:Nat) (w:World),n<=f->n<=1000000000000->
  Calls prog 156 #[.int .i64 n] w λe w'=>e=.returned (.string (Qb (Xt n)))/\Ext w w':=by
 induction f with
 | zero =>
  intro n w hn hm;obtain rfl:n=0:=by omega
  have hc:=V5 w 0 w.heap.size rfl;have hl:Xt 0=[b8 0]:=by rw[UG (by omega)];rfl
  go_enter func156,ntmps156;go_wp2_with fail;go_ret;exact⟨by rw[hl];rfl,(Qg w).alloc _⟩
 | succ f ih =>
  intro n w hn hm;by_cases h:n<128
  ·have hc:=V5 w n w.heap.size rfl;have hl:=Qa (show Xt n=[b8 n] by rw[UG h,ES]);have h2:(n:Int)<128:=by omega
   go_enter func156,ntmps156;go_wp2_with fail;go_ret;exact⟨by rw[hl.o];rfl,(Qg w).alloc _⟩
  ·have hl:=Qa (show Xt n=b8 ((n:Int)%128+128)::Xt (n/128) by rw[LA h];congr 1);have hI:=Qa (show∀w,Calls prog 156 #[.int .i64 ((n:Int)/128)] w λe w'=>e=.returned (.string (Qb (Xt (n/128))))/\Ext w w' fromλw=>by have:=ih (n/128) w (by omega) (by omega);rwa [show(((n/128:Nat):Int))=(n:Int)/128 by omega]at this);clear ih;have h2:¬(n:Int)<128:=by omega
   go_enter func156,ntmps156;go_wp2_with fail;refine Ya 9 [[],[0],[1],[2],[3],[4],[],[6],[7]] (TT [Ka (.int .i64 n),Ka (.int .i64 ((n:Int)%128)),Ka (.int .i64 ((n:Int)%128+128)),Ka (.int .u8 ((n:Int)%128+128)),ex 1 5 #[.int .u8 ((n:Int)%128+128)],Ka (.string (Qb [b8 ((n:Int)%128+128)])),Ka (.int .i64 n),Ka (.int .i64 ((n:Int)/128)),Ka (.string (Qb (Xt (n/128))))]) (by kernel_rfl) (by kernel_rfl) (WZ (λp hp=>by simp only[Pm,Rw,Fe]at hp;rcases hp with rfl|rfl|rfl|rfl|rfl|rfl|rfl|rfl|rfl<;>first|exact TR _|exact FS _ _ _)) (λus=>?_);simp only[KG,KI,UY,KJ];refine⟨λw' hx hd=>?_,λw' hx hd=>?_,λw' hx hd=>?_,λw' hx hd=>?_,λw' hx hd=>?_,λw' hx hd=>?_,λw' hx hd=>?_,λw' hx hd=>?_,λw' hx hd=>?_,λw' hx hv=>?_⟩
   ·clear hd;refine Qp 9 rfl (by simp) rfl ?_;go_wp2_with fail;exact⟨Qg _,rfl⟩
   ·have h0:=hd 0 (by simp);clear hd;generalize us 0=u0 at *;obtain rfl:u0=.int .i64 n:=h0;refine Qp 10 rfl (by simp[Act.put]) rfl ?_;go_wp2_with fail;exact⟨Qg _,rfl⟩
   ·have h1:=hd 1 (by simp);clear hd;generalize us 1=u1 at *;obtain rfl:u1=.int .i64 ((n:Int)%128):=h1;refine Qp 11 rfl (by simp[Act.put]) rfl ?_;go_wp2_with fail;exact⟨Qg _,rfl⟩
   ·have h2:=hd 2 (by simp);clear hd;generalize us 2=u2 at *;obtain rfl:u2=.int .i64 ((n:Int)%128+128):=h2;refine Qp 12 rfl (by simp[Act.put]) rfl ?_;go_wp2_with fail;exact⟨Qg _,rfl⟩
   ·have h3:=hd 3 (by simp);clear hd;generalize us 3=u3 at *;obtain rfl:u3=.int .u8 ((n:Int)%128+128):=h3;refine Qp 13 rfl (by simp[Act.put]) rfl ?_;go_wp2_with fail;exact⟨(Qg _).alloc _,_,rfl,Qs _ _ _⟩
   ·have h4:=hd 4 (by simp);clear hd;generalize us 4=u4 at *;obtain⟨g4,rfl,b4⟩:=h4;have hcv:=RA w' g4 _ b4;refine Qp 14 rfl (by simp[Act.put]) rfl ?_;go_wp2_with fail;exact⟨Qg _,rfl⟩
   ·clear hd;refine Qp 15 rfl (by simp[Act.put]) rfl ?_;go_wp2_with fail;exact⟨Qg _,rfl⟩
   ·have h6:=hd 6 (by simp);clear hd;generalize us 6=u6 at *;obtain rfl:u6=.int .i64 n:=h6;refine Qp 16 rfl (by simp[Act.put]) rfl ?_;go_wp2_with fail;exact⟨Qg _,rfl⟩
   ·have h7:=hd 7 (by simp);clear hd;generalize us 7=u7 at *;obtain rfl:u7=.int .i64 ((n:Int)/128):=h7;refine Qp 17 rfl (by simp[Act.put]) rfl ?_;go_wp2_with (go_at_call 156;with_reducible (refine(hI.o _).mono ?_);rintro e w2 ⟨rfl,x2⟩)
    first|exact⟨x2,rfl⟩|exact rfl
   ·have h5:=hv 5 (by omega);have h8:=hv 8 (by omega);clear hv;generalize us 5=u5 at *;generalize us 8=u8 at *;obtain rfl:u5=.string (Qb [b8 ((n:Int)%128+128)]):=h5;obtain rfl:u8=.string (Qb (Xt (n/128))):=h8;have Lj:=JR;have hz:=Qh;have Nt:=Df (n/128);go_wp2_with fail;go_ret;exact⟨by rw[hl.o];rfl,hx⟩
theorem Ki (A:Option Addr) (n c:Nat) (ss:List (List UInt8)) (w:World) (hs:Strs w A n ss) (UC:YE ss<=1000000000) (hn:n<=1000000000) :
  Calls prog 84 #[.slice A n c] w λe w'=>e=.returned (.string (Qb (Yt ss)))/\Ext w w':=by
 have hz:=Qh;have Lj:=JR;obtain rfl:=hs.1;obtain⟨wo,hwo⟩:∃wo:World,wo=w:=⟨_,rfl⟩
 have gK:Ext wo w:=hwo▸Qg _;have hso:Strs wo A ss.length ss:=hwo▸hs;rw[←hwo];clear hwo hs;go_enter func84,ntmps84;go_wp2_with fail;go_loopw [3,5,8] (λt _ i wr=>∃k:Nat,k<=ss.length/\i=.int .i64 k/\t=.string (Qb (Yt (ss.take k)))/\Ext wo wr) (λ_ _ i _=>ss.length-(intOf i).toNat);case atStart=>exact⟨0,by omega,rfl,rfl,Qg _⟩
 case round =>
  obtain⟨k,hk,rfl,rfl,hxr⟩:=hrel;by_cases Qn:k<ss.length
  ·obtain⟨b,o,rfl,Qf⟩:=hso.2 (by omega);have ND:=hxr.keep (Qf k Qn);have hrt:=Qa (Ep ss k Qn);have Nt:=Nk ss (k+1);rw[Nl ss k Qn]at Nt;have jk:=BQ (ss.take k);have jl:=Nk ss k;have RJ:=Df ss[k].length;clear Qf;generalize ss[k]=s at *;generalize rS:Yt (ss.take k)=r at *;clear rS;go_wp2_with (go_at_call 156;with_reducible (refine(BP s.length s.length _ (Q4 _) (by omega)).mono ?_);rintro e w2 ⟨rfl,x2⟩)
   go_roundw;case rel=>exact⟨k+1,by omega,by go_num,by rw[hrt.o],hxr.trans x2⟩
   case measure=>simp[intOf];omega
  ·obtain rfl:k=ss.length:=by omega
   go_wp2_with fail;go_ret;exact⟨by rw[Ri];rfl,hxr⟩
end Go.Proofs.YtfaplefkakpgcaaGreatDoor
