/- The document's reading of a machine (layer 32: to): the walk. -/
import Derived.Test.YtfaplefkakpgcaaGreatDoorXf27
import Derived.Deep.DeepCutAuto
import Derived.Test.YtfaplefkakpgcaaGreatDoorXf25
import Derived.Test.YtfaplefkakpgcaaGreatDoorXf12
import Derived.Test.YtfaplefkakpgcaaGreatDoorXf14
import Derived.Test.YtfaplefkakpgcaaGreatDoorXf5
set_option linter.unusedVariables false
set_option linter.unusedSimpArgs false
set_option maxHeartbeats 32000000
set_option maxRecDepth 100000
namespace Go.Proofs.YtfaplefkakpgcaaGreatDoor
open Go.Proofs.Tryz
open Go.RowKit
theorem allP_append {α β:Type} {f:α->Option β}:∀{a b:List α}{l:List β},allP f (a++b)=some l->∃x y,allP f a=some x/\allP f b=some y/\l=x++y
 | [],b,l,h=>⟨[],l,rfl,h,rfl⟩
 | c::a,b,l,h=>by rw[List.cons_append,allP]at h;obtain⟨y,h1,h2⟩:=some_bind h;obtain⟨t,h3,h4⟩:=some_map h2;obtain⟨u,v,h5,h6,h7⟩:=allP_append h3;refine⟨y::u,v,?_,h6,by rw[← h4,h7];rfl⟩;rw[allP,h1,Option.bind_some,h5];rfl
def PrsK (T:List (List UInt8)) (k:Nat) (ys:List PrT):Prop:=ys.length=k/\∀l',allP procP (T.take k)=some l'->l'.flatMap prL=ys.flatMap prL/\l'.length=k
theorem PrsK.zero (T:List (List UInt8)):PrsK T 0 []:=⟨rfl,λl' h=>by
 rw[List.take_zero]at h;injection h with h;subst h;exact⟨rfl,rfl⟩⟩
theorem PrsK.step {T:List (List UInt8)}{k:Nat}{ys:List PrT}{y:PrT}(h:PrsK T k ys) (hk:k<T.length) (hy:∀y',procP T[k]=some y'->prL y'=prL y):PrsK T (k+1) (ys++[y]):=by
 refine⟨by rw[List.length_append,h.1];rfl,λl' hl=>?_⟩;rw[List.take_succ_eq_append_getElem hk]at hl;obtain⟨a,b,h1,h2,h3⟩:=allP_append hl;obtain⟨e1,e2⟩:=h.2 a h1;rw[allP]at h2;obtain⟨y',h4,h5⟩:=some_bind h2;injection h5 with h5;subst h5;subst h3;have h6:=hy y' h4;refine⟨?_,by rw[List.length_append,e2];rfl⟩;rw[List.flatMap_append,List.flatMap_append,e1];simp[h6]
theorem all_step {T:List (List UInt8)}{k:Nat}(hk:k<T.length):(T.take (k+1)).all (λx=>(procP x).isSome)=((T.take k).all (λx=>(procP x).isSome)&&(procP T[k]).isSome):=by
 rw[List.take_succ_eq_append_getElem hk,List.all_append];simp
structure TM (w wx:World) (rb pb tb:Nat) (z:Mac) (A:Option Addr) (n c:Nat) (b:Bool):Prop where
 rbx:Box wx rb 38 mac0.cells
 pbx:Box wx pb 38 z.cells
 tbx:Box wx tb 193 (tC A n c b)
 ext:Ext w wx
 h0:w.heap.size<=rb
 h1:rb<pb
 h2:pb<tb
namespace TM
variable {w wx w':World}{rb pb tb:Nat}{z z':Mac}{A A':Option Addr}{n c n' c':Nat}{b b':Bool}
theorem more (S:TM w wx rb pb tb z A n c b) (x:Ext wx w'):TM w w' rb pb tb z A n c b:=⟨S.rbx.ext x,S.pbx.ext x,S.tbx.ext x,S.ext.trans x,S.h0,S.h1,S.h2⟩
theorem stT (S:TM w wx rb pb tb z A n c b) (hb:Box w' tb 193 (tC A' n' c' b')) (d:But tb wx w'):TM w w' rb pb tb z A' n' c' b' :=
 ⟨d.box S.rbx (by have:=S.h1;have:=S.h2;omega),d.box S.pbx (by have:=S.h2;omega),hb,d.past S.ext (by have:=S.h0;have:=S.h1;have:=S.h2;omega),S.h0,S.h1,S.h2⟩
theorem stM (S:TM w wx rb pb tb z A n c b) (hb:Box w' pb 38 z'.cells) (d:But pb wx w'):TM w w' rb pb tb z' A n c b :=
 ⟨d.box S.rbx (by have:=S.h1;omega),hb,d.box S.tbx (by have:=S.h2;omega),d.past S.ext (by have:=S.h0;have:=S.h1;omega),S.h0,S.h1,S.h2⟩
end TM
structure TL (w wx:World) (rb pb tb vb:Nat) (z:Mac) (A A2:Option Addr) (n c n2 c2:Nat) (b b2:Bool) (L2:List (List UInt8)) (B:Nat) (pe di pi:Sl) (lpe ldi lpi:List WrT):Prop where
 tm:TM w wx rb pb tb z A n c b
 vbx:Box wx vb 193 (tC A2 n2 c2 b2)
 h3:tb<vb
 row:TRow wx A2 n2 L2
 pe:wx.ownsRow B 92 2 (.slice pe.A pe.n pe.c) pe.n (lpe.flatMap wrL)
 di:wx.ownsRow B 92 2 (.slice di.A di.n di.c) di.n (ldi.flatMap wrL)
 pi:wx.ownsRow B 95 2 (.slice pi.A pi.n pi.c) pi.n (lpi.flatMap wrL)
namespace TL
variable {w wx w':World}{rb pb tb vb:Nat}{z z':Mac}{A A2:Option Addr}{n c n2 c2:Nat}{b b2:Bool}{L2:List (List UInt8)}{B:Nat}{pe di pi:Sl}{lpe ldi lpi:List WrT}
theorem more (S:TL w wx rb pb tb vb z A A2 n c n2 c2 b b2 L2 B pe di pi lpe ldi lpi) (x:Ext wx w'):TL w w' rb pb tb vb z A A2 n c n2 c2 b b2 L2 B pe di pi lpe ldi lpi :=
 ⟨S.tm.more x,S.vbx.ext x,S.h3,S.row.ext x,own_ext S.pe x,own_ext S.di x,own_ext S.pi x⟩
theorem stM (S:TL w wx rb pb tb vb z A A2 n c n2 c2 b b2 L2 B pe di pi lpe ldi lpi) (hb:Box w' pb 38 z'.cells) (d:But pb wx w'):TL w w' rb pb tb vb z' A A2 n c n2 c2 b b2 L2 B pe di pi lpe ldi lpi :=
 ⟨S.tm.stM hb d,d.box S.vbx (by have:=S.h3;have:=S.tm.h2;omega),S.h3,S.row.but d S.tm.pbx (by decide),own_but S.pe d S.tm.pbx (by decide),own_but S.di d S.tm.pbx (by decide),own_but S.pi d S.tm.pbx (by decide)⟩
theorem app {u:Value}{k:Nat}{xs:List Value}(S:TL w wx rb pb tb vb z A A2 n c n2 c2 b b2 L2 B pe di pi lpe ldi lpi) (o:wx.ownsRow w.heap.size 57 96 u k xs) (g:wx.grownBy w' u.ownBlock):TL w w' rb pb tb vb z A A2 n c n2 c2 b b2 L2 B pe di pi lpe ldi lpi :=
 ⟨⟨S.tm.rbx.grown g (own_ne o S.tm.rbx (by decide)),S.tm.pbx.grown g (own_ne o S.tm.pbx (by decide)),S.tm.tbx.grown g (own_ne o S.tm.tbx (by decide)),S.tm.ext.grown g (λk e=>own_low o e),S.tm.h0,S.tm.h1,S.tm.h2⟩,
   S.vbx.grown g (own_ne o S.vbx (by decide)),S.h3,trow_grown S.row g o (by decide),own_twoR S.pe o (by decide) g,own_twoR S.di o (by decide) g,own_twoR S.pi o (by decide) g⟩
end TL
def ToR (fr bl:Sl) (s:List UInt8) (w:World) (e:Ending) (w':World):Prop :=
 ∃z:Mac,e=.returned (.tuple #[.agg z.cells,.bool (restQ s).isSome])/\Ext w w'/\∀z0 e0,restQ s=some (z0,e0)->SameSc z z0/\z.fr=fr/\z.bl=bl/\z.pr.n=e0.pr.length/\z.pi.n=e0.pi.length/\z.pe.n=e0.pe.length/\z.di.n=e0.di.length/\
  w'.ownsRow w.heap.size 57 96 (.slice z.pr.A z.pr.n z.pr.c) z.pr.n (e0.pr.flatMap prL)/\w'.ownsRow w.heap.size 95 2 (.slice z.pi.A z.pi.n z.pi.c) z.pi.n (e0.pi.flatMap wrL)/\w'.ownsRow w.heap.size 92 2 (.slice z.pe.A z.pe.n z.pe.c) z.pe.n (e0.pe.flatMap wrL)/\w'.ownsRow w.heap.size 92 2 (.slice z.di.A z.di.n z.di.c) z.di.n (e0.di.flatMap wrL)
theorem rto_any (fr bl:Sl) (s:List UInt8) (w:World) (hs:s.length<=100000000) :
  Calls prog 70 #[.agg #[.slice fr.A fr.n fr.c,.slice bl.A bl.n bl.c,.string (str s)]] w (ToR fr bl s w):=by
 obtain⟨L0,L1,L2,L3,L4,L5,L6,L7,L8,L9,L10,L11,L12,L13,L14,L15,L16,b0,b1,b2,b3,b4,b5,b6,b7,b8,b9,b10,b11,b12,b13,b14,b15,b16,word,ini,inn,ta,tb,tc,td,clock,quantum,cur,left,next,newPipe,told,dleft,fin,hof,h0,h1,h2,h3,h4,h5,h6,h7,h8,h9,h10,h11,h12,h13,h14,h15,hlen,hwf,hend,hval⟩:=machT_ops s hs;have HOF:=lh_ hof;have H0:=lh_ h0;have H1:=lh_ h1;have H2:=lh_ h2;have H3:=lh_ h3;have H4:=lh_ h4;have H5:=lh_ h5;have H6:=lh_ h6;have H7:=lh_ h7;have H8:=lh_ h8;have H9:=lh_ h9;have H10:=lh_ h10;have H11:=lh_ h11;have H12:=lh_ h12;have H13:=lh_ h13;have H14:=lh_ h14;have H15:=lh_ h15;have HLEN:=lh_ hlen;have HEND:=lh_ hend;have HVAL:=lh_ hval;clear hof h0 h1 h2 h3 h4 h5 h6 h7 h8 h9 h10 h11 h12 h13 h14 h15 hend hval hs hwf hlen;have x0:=((Ext.refl w).alloc (.cells #[.slice fr.A fr.n fr.c,.slice bl.A bl.n bl.c,.string (str s)] 24)).alloc (.cells mac0.cells 38);have bx:=(Box.new w 24 #[.slice fr.A fr.n fr.c,.slice bl.A bl.n bl.c,.string (str s)]).ext ((Ext.refl _).alloc (.cells mac0.cells 38));have br:=Box.new (w.alloc (.cells #[.slice fr.A fr.n fr.c,.slice bl.A bl.n bl.c,.string (str s)] 24)) 38 mac0.cells;rw[World.size_alloc]at br;go_enter func70,ntmps70;go_upto_region 1 with fail;change Code.wp _ _ _ _ ((w.alloc (.cells #[.slice fr.A fr.n fr.c,.slice bl.A bl.n bl.c,.string (str s)] 24)).alloc (.cells mac0.cells 38));generalize (w.alloc (.cells #[.slice fr.A fr.n fr.c,.slice bl.A bl.n bl.c,.string (str s)] 24)).alloc (.cells mac0.cells 38)=w0 at x0 bx br ⊢;obtain⟨G,hG⟩:∃G,G=w.heap.size:=⟨_,rfl⟩
 have hG0:w.heap.size<=G:=by omega
 rw[← hG]at bx br ⊢;clear hG;have q0:w0.cell? ⟨G,0,none⟩=some (.slice fr.A fr.n fr.c):=bx.cell 0;have q1:w0.cell? ⟨G,1,none⟩=some (.slice bl.A bl.n bl.c):=bx.cell 1;go_upto_region 2 with(refine wp_st_mac (.tmp 4) (.tmp 27) rfl rfl w0.heap.size (⟨0,0,0,0,fr,sl0,0,[],sl0,0,[],false,0,bl,sl0,0,sl0⟩:Mac) _ _ rfl rfl (Box.new _ _ _) rfl ?_;intro w1 b1 g1)
 have y1:Ext w0 w1:=((Ext.refl w0).alloc _).grown g1 (λj e=>by cases e;exact Nat.le_refl _);have hlt1:G+1<w0.heap.size:=br.lt;have hlt2:w0.heap.size<w1.heap.size:=b1.lt;obtain⟨pb,hpb⟩:∃g,g=w0.heap.size:=⟨_,rfl⟩
 rw[← hpb]at b1 hlt1 hlt2 ⊢;clear hpb;have br1:=br.ext y1;have x1:=x0.trans y1;have q2:w1.cell? ⟨G,2,none⟩=some (.string (str s)):=(bx.ext y1).cell 2;clear q0 q1 g1 br bx x0 y1 w0;obtain⟨rb,hrb⟩:∃g,g=G+1:=⟨_,rfl⟩
 have hrb0:w.heap.size<=rb:=by omega
 rw[← hrb]at br1 hlt1 ⊢;clear hrb hG0
 go_upto_region 3 with(first
  | (go_at_call 135;refine(HOF.out _).mono ?_;rintro e w2 ⟨⟨v2,rfl,A0,n0,c0,rfl,s0,k0⟩,x2⟩)
  | (refine wp_st _ (.tmp 5) (.tmp 30) rfl rfl w2.heap.size (tC A0 n0 c0 b0) _ _ rfl rfl (Box.new w2 _ _) tSz rfl (tOne _ _ _ _) ?_;intro w3 b3 g3))
 have y3:Ext w2 w3:=((Ext.refl w2).alloc _).grown g3 (λj e=>by cases e;exact Nat.le_refl _);have S0:TM w w3 rb pb w2.heap.size ⟨0,0,0,0,fr,sl0,0,[],sl0,0,[],false,0,bl,sl0,0,sl0⟩ A0 n0 c0 b0:=⟨br1.ext (x2.trans y3),b1.ext (x2.trans y3),b3,(x1.trans x2).trans y3,hrb0,hlt1,Nat.lt_of_lt_of_le hlt2 x2.size⟩
 have r0:=s0.ext y3;generalize w2.heap.size=tbk at S0 ⊢;clear br1 b1 x1 x2 s0 y3 b3 g3 HOF hlt1 hlt2 hrb0 q2 w1 w2
 go_upto_region 4 with(first
  | (refine wp_ld _ (.tmp 5) rfl rfl tbk (tC A0 n0 c0 b0) _ _ rfl S0.tbx underlying193 rfl tSz ?_)
  | (go_at_call 136;refine(H0.out _ _ ⟨A0,n0,c0,rfl,r0,k0⟩).mono ?_;rintro e p1 ⟨⟨v1,rfl,A1,n1,c1,rfl,q1,k1⟩,z1⟩;have S1a:=S0.more z1;have r1a:=q1.ext z1)
  | (refine wp_st _ (.tmp 5) (.tmp 34) rfl rfl tbk (tC A1 n1 c1 b1) _ _ rfl rfl S1a.tbx tSz rfl (tOne _ _ _ _) ?_;intro o1 bb1 gg1;have S1:=S1a.stT bb1 (but_grown2 gg1);have r1:=r1a.but (but_grown2 gg1) S1a.tbx (by decide)))
 clear H0 S0 S1a r0 r1a q1 z1 k0 bb1 gg1
 go_upto_region 5 with(first
  | (refine wp_ld _ (.tmp 5) rfl rfl tbk (tC A1 n1 c1 b1) _ _ rfl S1.tbx underlying193 rfl tSz ?_)
  | (go_at_call 137;refine(H1.out _ _ ⟨A1,n1,c1,rfl,r1,k1⟩).mono ?_;rintro e p2 ⟨⟨v2,rfl,A2,n2,c2,rfl,q2,k2⟩,z2⟩;have S2a:=S1.more z2;have r2a:=q2.ext z2)
  | (refine wp_st _ (.tmp 5) (.tmp 39) rfl rfl tbk (tC A2 n2 c2 b2) _ _ rfl rfl S2a.tbx tSz rfl (tOne _ _ _ _) ?_;intro o2 bb2 gg2;have S2b:=S2a.stT bb2 (but_grown2 gg2);have r2b:=r2a.but (but_grown2 gg2) S2a.tbx (by decide))
  | (refine wp_st_cell 31 (.tmp 41) (.tmp 40) rfl rfl pb 0 (.int .u64 clock) _ (⟨clock,0,0,0,fr,sl0,0,[],sl0,0,[],false,0,bl,sl0,0,sl0⟩:Mac).cells _ rfl rfl rfl szU64 S2b.pbx (show 0<17 by decide) rfl ?_;intro u2 bz2 dz2;have S2:=S2b.stM bz2 dz2;have r2:=r2b.but dz2 S2b.pbx (by decide)))
 clear H1 S1 S2a r1 r2a q2 z2 k1 bb2 gg2 S2b r2b bz2 dz2;try simp only[Act.put]
 go_cut [] from 31 to 47 (λwx=>∃(A:Option Addr) (n c:Nat),TM w wx rb pb tbk ⟨clock,quantum,0,0,fr,sl0,0,[],sl0,0,[],false,0,bl,sl0,0,sl0⟩ A n c b3/\TRow wx A n L3/\n<=c);case first =>
  go_wp2_with (first
   | (refine wp_ld _ (.tmp 5) rfl rfl tbk (tC A2 n2 c2 b2) _ _ rfl S2.tbx underlying193 rfl tSz ?_)
   | (go_at_call 138;refine(H2.out _ _ ⟨A2,n2,c2,rfl,r2,k2⟩).mono ?_;rintro e p3 ⟨⟨v3,rfl,A3,n3,c3,rfl,q3,k3⟩,z3⟩;have S3a:=S2.more z3;have r3a:=q3.ext z3)
   | (refine wp_st _ (.tmp 5) (.tmp 45) rfl rfl tbk (tC A3 n3 c3 b3) _ _ rfl rfl S3a.tbx tSz rfl (tOne _ _ _ _) ?_;intro o3 bb3 gg3;have S3b:=S3a.stT bb3 (but_grown2 gg3);have r3b:=r3a.but (but_grown2 gg3) S3a.tbx (by decide))
   | (refine wp_st_cell 3 (.tmp 47) (.tmp 46) rfl rfl pb 1 (.int .i64 quantum) _ (⟨clock,quantum,0,0,fr,sl0,0,[],sl0,0,[],false,0,bl,sl0,0,sl0⟩:Mac).cells _ rfl rfl rfl szInt S3b.pbx (show 1<17 by decide) rfl ?_;intro u3 bz3 dz3;have S3:=S3b.stM bz3 dz3;have r3:=r3b.but dz3 S3b.pbx (by decide)))
  go_meet;exact⟨A3,n3,c3,S3,r3,k3⟩
 case rest =>
 obtain⟨A3,n3,c3,S3,r3,k3⟩:=hcut;clear H2 S2 r2 k2
 go_upto_region 7 with(first
  | (refine wp_ld _ (.tmp 5) rfl rfl tbk (tC A3 n3 c3 b3) _ _ rfl S3.tbx underlying193 rfl tSz ?_)
  | (go_at_call 138;refine(H3.out _ _ ⟨A3,n3,c3,rfl,r3,k3⟩).mono ?_;rintro e p4 ⟨⟨v4,rfl,A4,n4,c4,rfl,q4,k4⟩,z4⟩;have S4a:=S3.more z4;have r4a:=q4.ext z4)
  | (refine wp_st _ (.tmp 5) (.tmp 51) rfl rfl tbk (tC A4 n4 c4 b4) _ _ rfl rfl S4a.tbx tSz rfl (tOne _ _ _ _) ?_;intro o4 bb4 gg4;have S4b:=S4a.stT bb4 (but_grown2 gg4);have r4b:=r4a.but (but_grown2 gg4) S4a.tbx (by decide))
  | (refine wp_st_cell 3 (.tmp 53) (.tmp 52) rfl rfl pb 2 (.int .i64 cur) _ (⟨clock,quantum,cur,0,fr,sl0,0,[],sl0,0,[],false,0,bl,sl0,0,sl0⟩:Mac).cells _ rfl rfl rfl szInt S4b.pbx (show 2<17 by decide) rfl ?_;intro u4 bz4 dz4;have S4:=S4b.stM bz4 dz4;have r4:=r4b.but dz4 S4b.pbx (by decide)))
 clear H3 S3 S4a r3 r4a q4 z4 k3 bb4 gg4 S4b r4b bz4 dz4
 go_upto_region 8 with(first
  | (refine wp_ld _ (.tmp 5) rfl rfl tbk (tC A4 n4 c4 b4) _ _ rfl S4.tbx underlying193 rfl tSz ?_)
  | (go_at_call 138;refine(H4.out _ _ ⟨A4,n4,c4,rfl,r4,k4⟩).mono ?_;rintro e p5 ⟨⟨v5,rfl,A5,n5,c5,rfl,q5,k5⟩,z5⟩;have S5a:=S4.more z5;have r5a:=q5.ext z5)
  | (refine wp_st _ (.tmp 5) (.tmp 57) rfl rfl tbk (tC A5 n5 c5 b5) _ _ rfl rfl S5a.tbx tSz rfl (tOne _ _ _ _) ?_;intro o5 bb5 gg5;have S5b:=S5a.stT bb5 (but_grown2 gg5);have r5b:=r5a.but (but_grown2 gg5) S5a.tbx (by decide))
  | (refine wp_st_cell 3 (.tmp 59) (.tmp 58) rfl rfl pb 3 (.int .i64 left) _ (⟨clock,quantum,cur,left,fr,sl0,0,[],sl0,0,[],false,0,bl,sl0,0,sl0⟩:Mac).cells _ rfl rfl rfl szInt S5b.pbx (show 3<17 by decide) rfl ?_;intro u5 bz5 dz5;have S5:=S5b.stM bz5 dz5;have r5:=r5b.but dz5 S5b.pbx (by decide)))
 clear H4 S4 S5a r4 r5a q5 z5 k4 bb5 gg5 S5b r5b bz5 dz5;try simp only[Act.put]
 go_cut [] from 31 to 65 (λwx=>∃(A:Option Addr) (n c:Nat),TM w wx rb pb tbk ⟨clock,quantum,cur,left,fr,sl0,next,[],sl0,0,[],false,0,bl,sl0,0,sl0⟩ A n c b6/\TRow wx A n L6/\n<=c);case first =>
  go_wp2_with (first
   | (refine wp_ld _ (.tmp 5) rfl rfl tbk (tC A5 n5 c5 b5) _ _ rfl S5.tbx underlying193 rfl tSz ?_)
   | (go_at_call 138;refine(H5.out _ _ ⟨A5,n5,c5,rfl,r5,k5⟩).mono ?_;rintro e p6 ⟨⟨v6,rfl,A6,n6,c6,rfl,q6,k6⟩,z6⟩;have S6a:=S5.more z6;have r6a:=q6.ext z6)
   | (refine wp_st _ (.tmp 5) (.tmp 63) rfl rfl tbk (tC A6 n6 c6 b6) _ _ rfl rfl S6a.tbx tSz rfl (tOne _ _ _ _) ?_;intro o6 bb6 gg6;have S6b:=S6a.stT bb6 (but_grown2 gg6);have r6b:=r6a.but (but_grown2 gg6) S6a.tbx (by decide))
   | (refine wp_st_cell 3 (.tmp 65) (.tmp 64) rfl rfl pb 6 (.int .i64 next) _ (⟨clock,quantum,cur,left,fr,sl0,next,[],sl0,0,[],false,0,bl,sl0,0,sl0⟩:Mac).cells _ rfl rfl rfl szInt S6b.pbx (show 6<17 by decide) rfl ?_;intro u6 bz6 dz6;have S6:=S6b.stM bz6 dz6;have r6:=r6b.but dz6 S6b.pbx (by decide)))
  go_meet;exact⟨A6,n6,c6,S6,r6,k6⟩
 case rest =>
 obtain⟨A6,n6,c6,S6,r6,k6⟩:=hcut;clear H5 S5 r5 k5
 go_upto_region 10 with(first
  | (refine wp_ld _ (.tmp 5) rfl rfl tbk (tC A6 n6 c6 b6) _ _ rfl S6.tbx underlying193 rfl tSz ?_)
  | (go_at_call 136;refine(H6.out _ _ ⟨A6,n6,c6,rfl,r6,k6⟩).mono ?_;rintro e p7 ⟨⟨v7,rfl,A7,n7,c7,rfl,q7,k7⟩,z7⟩;have S7a:=S6.more z7;have r7a:=q7.ext z7)
  | (refine wp_st _ (.tmp 5) (.tmp 69) rfl rfl tbk (tC A7 n7 c7 b7) _ _ rfl rfl S7a.tbx tSz rfl (tOne _ _ _ _) ?_;intro o7 bb7 gg7;have S7b:=S7a.stT bb7 (but_grown2 gg7);have r7b:=r7a.but (but_grown2 gg7) S7a.tbx (by decide))
  | (refine wp_st_cell 9 (.tmp 71) (.tmp 70) rfl rfl pb 7 (.string (str ini)) _ (⟨clock,quantum,cur,left,fr,sl0,next,ini,sl0,0,[],false,0,bl,sl0,0,sl0⟩:Mac).cells _ rfl rfl rfl szStr S7b.pbx (show 7<17 by decide) rfl ?_;intro u7 bz7 dz7;have S7:=S7b.stM bz7 dz7;have r7:=r7b.but dz7 S7b.pbx (by decide)))
 clear H6 S6 S7a r6 r7a q7 z7 k6 bb7 gg7 S7b r7b bz7 dz7
 go_upto_region 11 with(first
  | (refine wp_ld _ (.tmp 5) rfl rfl tbk (tC A7 n7 c7 b7) _ _ rfl S7.tbx underlying193 rfl tSz ?_)
  | (go_at_call 138;refine(H7.out _ _ ⟨A7,n7,c7,rfl,r7,k7⟩).mono ?_;rintro e p8 ⟨⟨v8,rfl,A8,n8,c8,rfl,q8,k8⟩,z8⟩;have S8a:=S7.more z8;have r8a:=q8.ext z8)
  | (refine wp_st _ (.tmp 5) (.tmp 75) rfl rfl tbk (tC A8 n8 c8 b8) _ _ rfl rfl S8a.tbx tSz rfl (tOne _ _ _ _) ?_;intro o8 bb8 gg8;have S8b:=S8a.stT bb8 (but_grown2 gg8);have r8b:=r8a.but (but_grown2 gg8) S8a.tbx (by decide))
  | (refine wp_st_cell 3 (.tmp 77) (.tmp 76) rfl rfl pb 9 (.int .i64 newPipe) _ (⟨clock,quantum,cur,left,fr,sl0,next,ini,sl0,newPipe,[],false,0,bl,sl0,0,sl0⟩:Mac).cells _ rfl rfl rfl szInt S8b.pbx (show 9<17 by decide) rfl ?_;intro u8 bz8 dz8;have S8:=S8b.stM bz8 dz8;have r8:=r8b.but dz8 S8b.pbx (by decide)))
 clear H7 S7 S8a r7 r8a q8 z8 k7 bb8 gg8 S8b r8b bz8 dz8;try simp only[Act.put]
 go_cut [] from 31 to 83 (λwx=>∃(A:Option Addr) (n c:Nat),TM w wx rb pb tbk ⟨clock,quantum,cur,left,fr,sl0,next,ini,sl0,newPipe,inn,false,0,bl,sl0,0,sl0⟩ A n c b9/\TRow wx A n L9/\n<=c);case first =>
  go_wp2_with (first
   | (refine wp_ld _ (.tmp 5) rfl rfl tbk (tC A8 n8 c8 b8) _ _ rfl S8.tbx underlying193 rfl tSz ?_)
   | (go_at_call 136;refine(H8.out _ _ ⟨A8,n8,c8,rfl,r8,k8⟩).mono ?_;rintro e p9 ⟨⟨v9,rfl,A9,n9,c9,rfl,q9,k9⟩,z9⟩;have S9a:=S8.more z9;have r9a:=q9.ext z9)
   | (refine wp_st _ (.tmp 5) (.tmp 81) rfl rfl tbk (tC A9 n9 c9 b9) _ _ rfl rfl S9a.tbx tSz rfl (tOne _ _ _ _) ?_;intro o9 bb9 gg9;have S9b:=S9a.stT bb9 (but_grown2 gg9);have r9b:=r9a.but (but_grown2 gg9) S9a.tbx (by decide))
   | (refine wp_st_cell 9 (.tmp 83) (.tmp 82) rfl rfl pb 10 (.string (str inn)) _ (⟨clock,quantum,cur,left,fr,sl0,next,ini,sl0,newPipe,inn,false,0,bl,sl0,0,sl0⟩:Mac).cells _ rfl rfl rfl szStr S9b.pbx (show 10<17 by decide) rfl ?_;intro u9 bz9 dz9;have S9:=S9b.stM bz9 dz9;have r9:=r9b.but dz9 S9b.pbx (by decide)))
  go_meet;exact⟨A9,n9,c9,S9,r9,k9⟩
 case rest =>
 obtain⟨A9,n9,c9,S9,r9,k9⟩:=hcut;clear H8 S8 r8 k8
 go_upto_region 13 with(first
  | (refine wp_ld _ (.tmp 5) rfl rfl tbk (tC A9 n9 c9 b9) _ _ rfl S9.tbx underlying193 rfl tSz ?_)
  | (go_at_call 139;refine(H9.out _ _ ⟨A9,n9,c9,rfl,r9,k9⟩).mono ?_;rintro e p10 ⟨⟨v10,rfl,A10,n10,c10,rfl,q10,k10⟩,z10⟩;have S10a:=S9.more z10;have r10a:=q10.ext z10)
  | (refine wp_st _ (.tmp 5) (.tmp 87) rfl rfl tbk (tC A10 n10 c10 b10) _ _ rfl rfl S10a.tbx tSz rfl (tOne _ _ _ _) ?_;intro o10 bb10 gg10;have S10b:=S10a.stT bb10 (but_grown2 gg10);have r10b:=r10a.but (but_grown2 gg10) S10a.tbx (by decide))
  | (refine wp_st_cell 4 (.tmp 89) (.tmp 88) rfl rfl pb 11 (.bool fin) _ (⟨clock,quantum,cur,left,fr,sl0,next,ini,sl0,newPipe,inn,fin,0,bl,sl0,0,sl0⟩:Mac).cells _ rfl rfl rfl szBool S10b.pbx (show 11<17 by decide) rfl ?_;intro u10 bz10 dz10;have S10:=S10b.stM bz10 dz10;have r10:=r10b.but dz10 S10b.pbx (by decide)))
 clear H9 S9 S10a r9 r10a q10 z10 k9 bb10 gg10 S10b r10b bz10 dz10
 go_upto_region 14 with(first
  | (refine wp_ld _ (.tmp 5) rfl rfl tbk (tC A10 n10 c10 b10) _ _ rfl S10.tbx underlying193 rfl tSz ?_)
  | (go_at_call 137;refine(H10.out _ _ ⟨A10,n10,c10,rfl,r10,k10⟩).mono ?_;rintro e p11 ⟨⟨v11,rfl,A11,n11,c11,rfl,q11,k11⟩,z11⟩;have S11a:=S10.more z11;have r11a:=q11.ext z11)
  | (refine wp_st _ (.tmp 5) (.tmp 93) rfl rfl tbk (tC A11 n11 c11 b11) _ _ rfl rfl S11a.tbx tSz rfl (tOne _ _ _ _) ?_;intro o11 bb11 gg11;have S11b:=S11a.stT bb11 (but_grown2 gg11);have r11b:=r11a.but (but_grown2 gg11) S11a.tbx (by decide))
  | (refine wp_st_cell 31 (.tmp 95) (.tmp 94) rfl rfl pb 12 (.int .u64 told) _ (⟨clock,quantum,cur,left,fr,sl0,next,ini,sl0,newPipe,inn,fin,told,bl,sl0,0,sl0⟩:Mac).cells _ rfl rfl rfl szU64 S11b.pbx (show 12<17 by decide) rfl ?_;intro u11 bz11 dz11;have S11:=S11b.stM bz11 dz11;have r11:=r11b.but dz11 S11b.pbx (by decide)))
 clear H10 S10 S11a r10 r11a q11 z11 k10 bb11 gg11 S11b r11b bz11 dz11;try simp only[Act.put]
 go_cut [] from 31 to 102 (λwx=>∃(A:Option Addr) (n c:Nat),TM w wx rb pb tbk ⟨clock,quantum,cur,left,fr,sl0,next,ini,sl0,newPipe,inn,fin,told,bl,sl0,dleft,sl0⟩ A n c b12/\TRow wx A n L12/\n<=c);case first =>
  go_wp2_with (first
   | (refine wp_ld _ (.tmp 5) rfl rfl tbk (tC A11 n11 c11 b11) _ _ rfl S11.tbx underlying193 rfl tSz ?_)
   | (go_at_call 138;refine(H11.out _ _ ⟨A11,n11,c11,rfl,r11,k11⟩).mono ?_;rintro e p12 ⟨⟨v12,rfl,A12,n12,c12,rfl,q12,k12⟩,z12⟩;have S12a:=S11.more z12;have r12a:=q12.ext z12)
   | (refine wp_st _ (.tmp 5) (.tmp 99) rfl rfl tbk (tC A12 n12 c12 b12) _ _ rfl rfl S12a.tbx tSz rfl (tOne _ _ _ _) ?_;intro o12 bb12 gg12;have S12b:=S12a.stT bb12 (but_grown2 gg12);have r12b:=r12a.but (but_grown2 gg12) S12a.tbx (by decide))
   | (refine wp_st_cell 3 (.tmp 102) (.tmp 100) rfl rfl pb 15 (.int .i64 dleft) _ (⟨clock,quantum,cur,left,fr,sl0,next,ini,sl0,newPipe,inn,fin,told,bl,sl0,dleft,sl0⟩:Mac).cells _ rfl rfl rfl szInt S12b.pbx (show 15<17 by decide) rfl ?_;intro u12 bz12 dz12;have S12:=S12b.stM bz12 dz12;have r12:=r12b.but dz12 S12b.pbx (by decide)))
  go_meet;exact⟨A12,n12,c12,S12,r12,k12⟩
 case rest =>
 obtain⟨A12,n12,c12,S12,r12,k12⟩:=hcut;clear H11 S11 r11 k11
 go_upto_region 16 with(first
  | (refine wp_ld _ (.tmp 5) rfl rfl tbk (tC A12 n12 c12 b12) _ _ rfl S12.tbx underlying193 rfl tSz ?_)
  | (go_at_call 136;refine(H12.out _ _ ⟨A12,n12,c12,rfl,r12,k12⟩).mono ?_;rintro e p13 ⟨⟨v13,rfl,A13,n13,c13,rfl,q13,k13⟩,z13⟩;have S13a:=S12.more z13;have r13a:=q13.ext z13)
  | (refine wp_st _ (.tmp 5) (.tmp 106) rfl rfl tbk (tC A13 n13 c13 b13) _ _ rfl rfl S13a.tbx tSz rfl (tOne _ _ _ _) ?_;intro o13 bb13 gg13;have S13:=S13a.stT bb13 (but_grown2 gg13);have r13:=r13a.but (but_grown2 gg13) S13a.tbx (by decide)))
 clear H12 S12 S13a r12 r13a q13 z13 k12 bb13 gg13
 go_upto_region 17 with(first
  | (refine wp_ld _ (.tmp 5) rfl rfl tbk (tC A13 n13 c13 b13) _ _ rfl S13.tbx underlying193 rfl tSz ?_)
  | (go_at_call 136;refine(H13.out _ _ ⟨A13,n13,c13,rfl,r13,k13⟩).mono ?_;rintro e p14 ⟨⟨v14,rfl,A14,n14,c14,rfl,q14,k14⟩,z14⟩;have S14a:=S13.more z14;have r14a:=q14.ext z14)
  | (refine wp_st _ (.tmp 5) (.tmp 111) rfl rfl tbk (tC A14 n14 c14 b14) _ _ rfl rfl S14a.tbx tSz rfl (tOne _ _ _ _) ?_;intro o14 bb14 gg14;have S14:=S14a.stT bb14 (but_grown2 gg14);have r14:=r14a.but (but_grown2 gg14) S14a.tbx (by decide)))
 clear H13 S13 S14a r13 r14a q14 z14 k13 bb14 gg14;try simp only[Act.put]
 go_cut [9] from 31 to 117 (λt wx=>∃(A:Option Addr) (n c:Nat),t=.string (str tc)/\TM w wx rb pb tbk ⟨clock,quantum,cur,left,fr,sl0,next,ini,sl0,newPipe,inn,fin,told,bl,sl0,dleft,sl0⟩ A n c b15/\TRow wx A n L15/\n<=c);case first =>
  go_wp2_with (first
   | (refine wp_ld _ (.tmp 5) rfl rfl tbk (tC A14 n14 c14 b14) _ _ rfl S14.tbx underlying193 rfl tSz ?_)
   | (go_at_call 136;refine(H14.out _ _ ⟨A14,n14,c14,rfl,r14,k14⟩).mono ?_;rintro e p15 ⟨⟨v15,rfl,A15,n15,c15,rfl,q15,k15⟩,z15⟩;have S15a:=S14.more z15;have r15a:=q15.ext z15)
   | (refine wp_st _ (.tmp 5) (.tmp 116) rfl rfl tbk (tC A15 n15 c15 b15) _ _ rfl rfl S15a.tbx tSz rfl (tOne _ _ _ _) ?_;intro o15 bb15 gg15;have S15:=S15a.stT bb15 (but_grown2 gg15);have r15:=r15a.but (but_grown2 gg15) S15a.tbx (by decide)))
  go_meet;exact⟨A15,n15,c15,rfl,S15,r15,k15⟩
 case rest =>
 obtain⟨A15,n15,c15,rfl,S15,r15,k15⟩:=hcut;clear H14 S14 r14 k14
 go_upto_region 19 with(first
  | (refine wp_ld _ (.tmp 5) rfl rfl tbk (tC A15 n15 c15 b15) _ _ rfl S15.tbx underlying193 rfl tSz ?_)
  | (go_at_call 136;refine(H15.out _ _ ⟨A15,n15,c15,rfl,r15,k15⟩).mono ?_;rintro e p16 ⟨⟨v16,rfl,A16,n16,c16,rfl,q16,k16⟩,z16⟩;have S16a:=S15.more z16;have r16a:=q16.ext z16)
  | (refine wp_st _ (.tmp 5) (.tmp 121) rfl rfl tbk (tC A16 n16 c16 b16) _ _ rfl rfl S16a.tbx tSz rfl (tOne _ _ _ _) ?_;intro o16 bb16 gg16;have S16:=S16a.stT bb16 (but_grown2 gg16);have r16:=r16a.but (but_grown2 gg16) S16a.tbx (by decide)))
 clear H15 S15 S16a r15 r16a q16 z16 k15 bb16 gg16;have HL16:=lh_ r16;clear r16 k16 HL16;have HTA:=lh_ (λw=>rtoWrites_any ta w HLEN.out.1);have HTB:=lh_ (λw=>rtoWrites_any tb w HLEN.out.2.1);have HTC:=lh_ (λw=>rtoPipes_any tc w HLEN.out.2.2.1);have HOD:=lh_ (λw=>rof32_any td none w (by have:=HLEN.out.2.2.2.1;omega) (λn h=>by cases h));unfold ToWritesR at HTA HTB;unfold ToPipesR at HTC;obtain⟨bi,hbi⟩:∃b,b=(writesP ta).isSome:=⟨_,rfl⟩
 obtain⟨bj,hbj⟩:∃b,b=(writesP tb).isSome:=⟨_,rfl⟩
 obtain⟨bk,hbk⟩:∃b,b=(writesP tc).isSome:=⟨_,rfl⟩
 rw[← hbi]at HTA HEND;rw[← hbj]at HTB HEND;rw[← hbk]at HTC HEND;obtain⟨T,hT⟩:∃T,T=(openT none td).getD []:=⟨_,rfl⟩
 obtain⟨bd,hbd⟩:∃b,b=(openT none td).isNone:=⟨_,rfl⟩
 rw[← hT,← hbd]at HOD;rw[← hT,← hbd]at HEND;have HTl:=lh_ (show T.length<=100000000/\∀x∈T,x.length<=100000000 from by
  have hl:=HLEN.out.2.2.2.1;rw[hT];cases h:openT none td with
  | none=>exact⟨by simp,λx hx=>by simp at hx⟩
  | some l=>exact⟨by have:=openT_texts h;have h2:=(textsP_len td).1;rw[this]at h2;simp at h2 ⊢;omega,λx hx=>Nat.le_trans (openT_few h x (by simpa using hx)) hl⟩)
 have HPRS:=lh_ (λl (h:procsP td=some l)=>show allP procP T=some l from by
  unfold procsP at h;obtain⟨t,h1,h2⟩:=some_bind h;rw[hT,h1];exact h2)
 clear hbi hbj hbk hT hbd;obtain⟨hw,hhw⟩:∃b,b=(word==[104,105,98,50]):=⟨_,rfl⟩
 rw[← hhw]at HEND;have hword:((str word).toList==[104,105,98,50])=hw:=by rw[str_toList,hhw]
 clear hhw
 go_upto_region 22 with(first
  | (go_at_call 140;with_reducible (refine(HTA.out _).mono ?_);clear HTA;rintro e wa ⟨lpe,ua,rfl,oa,-,ha,xa⟩)
  | (go_at_call 140;with_reducible (refine(HTB.out _).mono ?_);clear HTB;rintro e wb ⟨ldi,ub,rfl,ob,-,hb,xb⟩)
  | (go_at_call 141;with_reducible (refine(HTC.out _).mono ?_);clear HTC;rintro e wc ⟨lpi,uc,rfl,oc,-,hc,xc⟩))
 obtain⟨Aa,ca,rfl⟩:=own_isSl oa;obtain⟨Ab,cb,rfl⟩:=own_isSl ob;obtain⟨Ac,cc,rfl⟩:=own_isSl oc;have HA:=lh_ ha;have HB:=lh_ hb;have HC:=lh_ hc;have oa2:=own_base (own_ext (own_ext oa xb) xc) S16.ext.size;have ob2:=own_base (own_ext ob xc) (Nat.le_trans S16.ext.size xa.size);have oc2:=own_base oc (Nat.le_trans S16.ext.size (Nat.le_trans xa.size xb.size));have S17:=S16.more (xa.trans (xb.trans xc));clear oa ob oc ha hb hc S16 xa xb xc;try simp only[Act.put]
 go_cut [] from 31 to 144 (λwx=>TM w wx rb pb tbk ⟨clock,quantum,cur,left,fr,sl0,next,ini,⟨Ac,lpi.length,cc⟩,newPipe,inn,fin,told,bl,⟨Aa,lpe.length,ca⟩,dleft,⟨Ab,ldi.length,cb⟩⟩ A16 n16 c16 b16/\wx.ownsRow w.heap.size 92 2 (.slice Aa lpe.length ca) lpe.length (lpe.flatMap wrL)/\wx.ownsRow w.heap.size 92 2 (.slice Ab ldi.length cb) ldi.length (ldi.flatMap wrL)/\wx.ownsRow w.heap.size 95 2 (.slice Ac lpi.length cc) lpi.length (lpi.flatMap wrL));case first =>
  go_wp2_with (first
   | (refine wp_st_cell 33 (.tmp 144) (.tmp 140) rfl rfl pb 8 (.slice Ac lpi.length cc) _ (⟨clock,quantum,cur,left,fr,sl0,next,ini,⟨Ac,lpi.length,cc⟩,newPipe,inn,fin,told,bl,⟨Aa,lpe.length,ca⟩,dleft,⟨Ab,ldi.length,cb⟩⟩:Mac).cells _ rfl rfl rfl szPis S17b.pbx (show 8<17 by decide) rfl ?_;intro d3 e3 f3;have S18:=S17b.stM e3 f3)
   | (refine wp_st_cell 34 (.tmp 143) (.tmp 139) rfl rfl pb 16 (.slice Ab ldi.length cb) _ (⟨clock,quantum,cur,left,fr,sl0,next,ini,sl0,newPipe,inn,fin,told,bl,⟨Aa,lpe.length,ca⟩,dleft,⟨Ab,ldi.length,cb⟩⟩:Mac).cells _ rfl rfl rfl szWrs S17a.pbx (show 16<17 by decide) rfl ?_;intro d2 e2 f2;have S17b:=S17a.stM e2 f2)
   | (refine wp_st_cell 34 (.tmp 142) (.tmp 138) rfl rfl pb 14 (.slice Aa lpe.length ca) _ (⟨clock,quantum,cur,left,fr,sl0,next,ini,sl0,newPipe,inn,fin,told,bl,⟨Aa,lpe.length,ca⟩,dleft,sl0⟩:Mac).cells _ rfl rfl rfl szWrs S17.pbx (show 14<17 by decide) rfl ?_;intro d1 e1 f1;have S17a:=S17.stM e1 f1))
  replace oa2:=own_but (own_but (own_but oa2 f1 S17.pbx (by decide)) f2 S17a.pbx (by decide)) f3 S17b.pbx (by decide);replace ob2:=own_but (own_but (own_but ob2 f1 S17.pbx (by decide)) f2 S17a.pbx (by decide)) f3 S17b.pbx (by decide);replace oc2:=own_but (own_but (own_but oc2 f1 S17.pbx (by decide)) f2 S17a.pbx (by decide)) f3 S17b.pbx (by decide);go_meet;exact⟨S18,oa2,ob2,oc2⟩
 case rest =>
 obtain⟨S18,oa2',ob2',oc2'⟩:=hcut;clear oa2 ob2 oc2 S17;have oa2:=oa2';have ob2:=ob2';have oc2:=oc2';clear oa2' ob2' oc2'
 go_upto_region 25 with(first
  | (go_at_call 135;refine(HOD.out _).mono ?_;rintro e w2 ⟨⟨v2,rfl,A2,n2,c2,rfl,s2,k2⟩,x2⟩)
  | (refine wp_st _ (.tmp 17) (.tmp 146) rfl rfl w2.heap.size (tC A2 n2 c2 bd) _ _ rfl rfl (Box.new w2 _ _) tSz rfl (tOne _ _ _ _) ?_;intro w3' b3 g3))
 have y3:Ext w2 w3':=((Ext.refl w2).alloc _).grown g3 (λj e=>by cases e;exact Nat.le_refl _);have hn2:n2=T.length:=s2.1;subst hn2;have hvb:tbk<w2.heap.size:=Nat.lt_of_lt_of_le S18.tbx.lt x2.size;have SL:TL w w3' rb pb tbk w2.heap.size ⟨clock,quantum,cur,left,fr,sl0,next,ini,⟨Ac,lpi.length,cc⟩,newPipe,inn,fin,told,bl,⟨Aa,lpe.length,ca⟩,dleft,⟨Ab,ldi.length,cb⟩⟩ A16 A2 n16 c16 T.length c2 b16 bd T w.heap.size ⟨Aa,lpe.length,ca⟩ ⟨Ab,ldi.length,cb⟩ ⟨Ac,lpi.length,cc⟩ lpe ldi lpi:=⟨S18.more (x2.trans y3),b3,hvb,s2.ext y3,own_ext oa2 (x2.trans y3),own_ext ob2 (x2.trans y3),own_ext oc2 (x2.trans y3)⟩
 clear S18 oa2 ob2 oc2 s2 x2 y3 b3 g3 hvb HOD;generalize w2.heap.size=vb at SL ⊢;clear w2;have c0:w3'.cell? ⟨vb,0,none⟩=some (.slice A2 T.length c2):=SL.vbx.cell 0;have HSL:=lh_ SL;clear SL;go_upto_region 26 with fail;go_loopw [18,150] (λok i wx=>∃(k:Nat) (ys:List PrT) (A c:_),k<=T.length/\ok=.bool ((T.take k).all (λx=>(procP x).isSome))/\i=.int .i64 k/\TL w wx rb pb tbk vb ⟨clock,quantum,cur,left,fr,⟨A,k,c⟩,next,ini,⟨Ac,lpi.length,cc⟩,newPipe,inn,fin,told,bl,⟨Aa,lpe.length,ca⟩,dleft,⟨Ab,ldi.length,cb⟩⟩ A16 A2 n16 c16 T.length c2 b16 bd T w.heap.size ⟨Aa,lpe.length,ca⟩ ⟨Ab,ldi.length,cb⟩ ⟨Ac,lpi.length,cc⟩ lpe ldi lpi/\wx.ownsRow w.heap.size 57 96 (.slice A k c) k (ys.flatMap prL)/\Hid (PrsK T k ys)) (λ_ i _=>T.length-(intOf i).toNat);case atStart=>exact⟨0,[],none,0,Nat.zero_le _,rfl,rfl,HSL.out,⟨rfl,.inl ⟨rfl,rfl⟩⟩,lh_ (PrsK.zero T)⟩
 case round =>
  obtain⟨k,ys,A,c,hk,rfl,rfl,S1,o1,hP⟩:=hrel;clear HSL c0;by_cases hlt:k<T.length
  ·have hki:(k:Int)<(T.length:Int):=by omega
   have HAL:=lh_ (all_step hlt);have hx:=HTl.out.2 _ (List.getElem_mem hlt);have HST:=lh_ (λ(y:PrT) (hy:∀y',procP T[k]=some y'->prL y'=prL y)=>hP.out.step hlt hy);have HTP:=lh_ (λw=>rtoProc_any T[k] w hx);unfold ToProcR at HTP;obtain⟨g,oo,hA2,hcell⟩:=S1.row.strs.2 (by omega);have cx:=hcell k hlt;subst hA2;obtain⟨x,hxe⟩:∃x,x=T[k]:=⟨_,rfl⟩
   rw[← hxe]at cx HTP HST HAL;obtain⟨isb,hisb⟩:∃b,b=(procP x).isSome:=⟨_,rfl⟩
   rw[← hisb]at HTP HAL;clear hxe hcell hx hisb;have cv:wr.cell? ⟨vb,0,none⟩=some (.slice (some ⟨g,oo,none⟩) T.length c2):=S1.vbx.cell 0;have hgt:=HTl.out.1;generalize (T.take k).all (λx=>(procP x).isSome)=ob at *;have HKN:=lh_ (show k<=1000000000 by omega);have HS1:=lh_ S1;have HO1:=lh_ o1;clear S1 o1 hgt
   go_upto_region 29 with(first
    | (go_at_call 142;refine(HTP.out _).mono ?_;rintro e w4 ⟨⟨y,rfl,hy⟩,x4⟩)
    | (refine wp_st _ (.tmp 20) (.tmp 160) rfl rfl w4.heap.size (prL y).toArray _ _ rfl rfl (Box.new w4 _ _) prSzT (by kernel_rfl) prOneT ?_;intro w5 b5 g5))
   have x5:Ext wr w5:=x4.trans (((Ext.refl w4).alloc _).grown g5 (λj e=>by cases e;exact Nat.le_refl _));have HPY:=lh_ (HST.out y hy);have S5:=HS1.out.more x5;have o5:=own_ext HO1.out x5;clear HS1 HO1 x4 g5 cx cv HTP HST hy x5;generalize w4.heap.size=yb at b5 ⊢;clear w4;have c5:w5.cell? ⟨pb,5,none⟩=some (.slice A k c):=S5.tm.pbx.cell 5;have x6:=(Ext.refl w5).alloc (.cells (prL y).toArray 57);have HS6:=lh_ (S5.more x6);have HO6:=lh_ (own_ext o5 x6);have b6:=Box.new w5 57 (prL y).toArray;have hz6:=HS6.out.tm.ext.size;clear S5 o5
   go_upto_region 30 with(first
    | (refine wp_ld _ (.tmp 20) rfl rfl yb (prL y).toArray _ _ rfl b5 underlying57 rfl prSzT ?_;simp only[pS_,pN_,sA_,s0_,s1_])
    | (refine wp_build_proc (.tmp 164) rfl rfl y rfl ?_;simp only[pS_,pN_,sA_,s0_,s1_])
    | (at_builtin;refine wp_app_one (u:=.slice A k c) (prL y) underlying32 prInfo (by decide) ?_ (prL_len y) (prL_one y) (by decide) ?_ (.tmp 163) (.tmp 165) ?_ ?_ ?_ HO6.out b6 HKN.out hz6 ?_;(· rfl);(· rfl);(· rfl);(· rfl);(· rfl);intro u9 w9 o9 g9;obtain⟨A9,c9,e9⟩:=own_isSl o9;subst e9;have S9:=HS6.out.app HO6.out g9;simp only[pS_,pN_,sA_,s0_,s1_])
    | (refine wp_st_cell 32 (.tmp 167) (.tmp 166) rfl rfl pb 5 (.slice A9 (k+1) c9) _ (⟨clock,quantum,cur,left,fr,⟨A9,k+1,c9⟩,next,ini,⟨Ac,lpi.length,cc⟩,newPipe,inn,fin,told,bl,⟨Aa,lpe.length,ca⟩,dleft,⟨Ab,ldi.length,cb⟩⟩:Mac).cells _ rfl rfl rfl szPrs S9.tm.pbx (show 5<17 by decide) rfl ?_;intro w10 b10' d10;have S10:=S9.stM b10' d10;have o10:=own_but o9 d10 S9.tm.pbx (by decide)))
   have HOK:=lh_ (show((T.take (k+1)).all (λx=>(procP x).isSome))=(ob&&isb) from HAL.out);clear S9 b5 b6 HS6 HO6 c5 x6 hz6 g9 o9 b10' d10 HAL;have hgt2:=HTl.out.1;cases ob
   all_goals
    go_wp2_with fail;go_roundw;case rel=>exact⟨k+1,ys++[y],A9,c9,hlt,by rw[HOK.out];rfl,by go_num,S10,by rw[List.flatMap_append,List.flatMap_cons,List.flatMap_nil,List.append_nil];exact o10,HPY⟩
    case measure=>simp only[intOf];omega
  ·obtain rfl:k=T.length:=by omega
   have hki:¬((T.length:Int)<(T.length:Int)):=by omega
   rw[List.take_length];have hP2:=hP.out;unfold PrsK at hP2;rw[List.take_length]at hP2;have HP2:=lh_ hP2;obtain⟨ob,hob⟩:∃b,b=T.all (λx=>(procP x).isSome):=⟨_,rfl⟩
   rw[← hob]at HEND ⊢;clear hob hP hP2 hlt hk HTl;generalize hz:(⟨clock,quantum,cur,left,fr,⟨A,T.length,c⟩,next,ini,⟨Ac,lpi.length,cc⟩,newPipe,inn,fin,told,bl,⟨Aa,lpe.length,ca⟩,dleft,⟨Ab,ldi.length,cb⟩⟩:Mac)=Z at S1;have HZ:=lh_ hz;clear hz;obtain⟨r,hr⟩:∃r,r=(restQ s).isSome:=⟨_,rfl⟩
   have HFIN:Hid (∀w',Ext w w'->w'.ownsRow w.heap.size 57 96 (.slice A T.length c) T.length (ys.flatMap prL)->w'.ownsRow w.heap.size 92 2 (.slice Aa lpe.length ca) lpe.length (lpe.flatMap wrL)->w'.ownsRow w.heap.size 92 2 (.slice Ab ldi.length cb) ldi.length (ldi.flatMap wrL)->w'.ownsRow w.heap.size 95 2 (.slice Ac lpi.length cc) lpi.length (lpi.flatMap wrL)->ToR fr bl s w (.returned (.tuple #[.agg Z.cells,.bool r])) w'):=lh_ (λw' hx o1 o2 o3 o4=>by
    refine⟨Z,by rw[hr],hx,λz0 e0 hq=>?_⟩;obtain⟨⟨v1,v2,v3,v4,v5,v6,v7,v8,v9,v10,v11⟩,p1,p2,p3,p4⟩:=HVAL.out z0 e0 hq;have e1:=HA.out _ p1;have e2:=HB.out _ p2;have e3:=HC.out _ p3;obtain⟨e4,e5⟩:=HP2.out.2 _ (HPRS.out _ p4);rw[← HZ.out,e1,e2,e3,e4];exact⟨⟨v1.symm,v2.symm,v3.symm,v4.symm,v5.symm,v6.symm,v7.symm,v8.symm,v9.symm,v10.symm,v11.symm⟩,rfl,rfl,e5.symm,rfl,rfl,rfl,o1,o4,o2,o3⟩)
   rw[← hr]at HEND;have qb:wr.cell? ⟨tbk,1,none⟩=some (.bool b16):=S1.tm.tbx.cell 1;have qv:wr.cell? ⟨vb,1,none⟩=some (.bool bd):=S1.vbx.cell 1;have bm:=S1.tm.pbx;have bR:=S1.tm.rbx;have HS1:=lh_ S1;have HO1:=lh_ o1;clear hr HA HB HC HP2 HPRS HVAL HLEN S1 o1 HZ;cases ob;case false =>
    obtain rfl:r=false:=by rw[← HEND.out];simp
    go_wp2_with (first|(refine wp_ld_mac (.tmp 4) rfl rfl pb _ _ rfl bm rfl ?_)|(refine wp_st_mac (.tmp 2) (.tmp 173) rfl rfl rb Z _ _ rfl rfl bR rfl ?_;intro w9 b9 g9))
    have hb9:=but_grown2 g9;exact bodyPost_ret (results_cell2 rfl _ _ rb _ _ _ (.bool false) rfl rfl b9 underlying38 rfl macSz) rfl (HFIN.out w9 (hb9.past HS1.out.tm.ext HS1.out.tm.h0) (own_but HO1.out hb9 bR (by decide)) (own_but HS1.out.pe hb9 bR (by decide)) (own_but HS1.out.di hb9 bR (by decide)) (own_but HS1.out.pi hb9 bR (by decide)))
   case true =>
    cases bi;case false =>
     obtain rfl:r=false:=by rw[← HEND.out];simp
     go_wp2_with (first|(refine wp_ld_mac (.tmp 4) rfl rfl pb _ _ rfl bm rfl ?_)|(refine wp_st_mac (.tmp 2) (.tmp 173) rfl rfl rb Z _ _ rfl rfl bR rfl ?_;intro w9 b9 g9))
     have hb9:=but_grown2 g9;exact bodyPost_ret (results_cell2 rfl _ _ rb _ _ _ (.bool false) rfl rfl b9 underlying38 rfl macSz) rfl (HFIN.out w9 (hb9.past HS1.out.tm.ext HS1.out.tm.h0) (own_but HO1.out hb9 bR (by decide)) (own_but HS1.out.pe hb9 bR (by decide)) (own_but HS1.out.di hb9 bR (by decide)) (own_but HS1.out.pi hb9 bR (by decide)))
    case true =>
     cases bj;case false =>
      obtain rfl:r=false:=by rw[← HEND.out];simp
      go_wp2_with (first|(refine wp_ld_mac (.tmp 4) rfl rfl pb _ _ rfl bm rfl ?_)|(refine wp_st_mac (.tmp 2) (.tmp 173) rfl rfl rb Z _ _ rfl rfl bR rfl ?_;intro w9 b9 g9))
      have hb9:=but_grown2 g9;exact bodyPost_ret (results_cell2 rfl _ _ rb _ _ _ (.bool false) rfl rfl b9 underlying38 rfl macSz) rfl (HFIN.out w9 (hb9.past HS1.out.tm.ext HS1.out.tm.h0) (own_but HO1.out hb9 bR (by decide)) (own_but HS1.out.pe hb9 bR (by decide)) (own_but HS1.out.di hb9 bR (by decide)) (own_but HS1.out.pi hb9 bR (by decide)))
     case true =>
      cases bk;case false =>
       obtain rfl:r=false:=by rw[← HEND.out];simp
       go_wp2_with (first|(refine wp_ld_mac (.tmp 4) rfl rfl pb _ _ rfl bm rfl ?_)|(refine wp_st_mac (.tmp 2) (.tmp 173) rfl rfl rb Z _ _ rfl rfl bR rfl ?_;intro w9 b9 g9))
       have hb9:=but_grown2 g9;exact bodyPost_ret (results_cell2 rfl _ _ rb _ _ _ (.bool false) rfl rfl b9 underlying38 rfl macSz) rfl (HFIN.out w9 (hb9.past HS1.out.tm.ext HS1.out.tm.h0) (own_but HO1.out hb9 bR (by decide)) (own_but HS1.out.pe hb9 bR (by decide)) (own_but HS1.out.di hb9 bR (by decide)) (own_but HS1.out.pi hb9 bR (by decide)))
      case true =>
       cases b16;case true =>
        obtain rfl:r=false:=by rw[← HEND.out];simp
        go_wp2_with (first|(refine wp_ld_mac (.tmp 4) rfl rfl pb _ _ rfl bm rfl ?_)|(refine wp_st_mac (.tmp 2) (.tmp 173) rfl rfl rb Z _ _ rfl rfl bR rfl ?_;intro w9 b9 g9))
        have hb9:=but_grown2 g9;exact bodyPost_ret (results_cell2 rfl _ _ rb _ _ _ (.bool false) rfl rfl b9 underlying38 rfl macSz) rfl (HFIN.out w9 (hb9.past HS1.out.tm.ext HS1.out.tm.h0) (own_but HO1.out hb9 bR (by decide)) (own_but HS1.out.pe hb9 bR (by decide)) (own_but HS1.out.di hb9 bR (by decide)) (own_but HS1.out.pi hb9 bR (by decide)))
       case false =>
        cases bd;case true =>
         obtain rfl:r=false:=by rw[← HEND.out];simp
         go_wp2_with (first|(refine wp_ld_mac (.tmp 4) rfl rfl pb _ _ rfl bm rfl ?_)|(refine wp_st_mac (.tmp 2) (.tmp 173) rfl rfl rb Z _ _ rfl rfl bR rfl ?_;intro w9 b9 g9))
         have hb9:=but_grown2 g9;exact bodyPost_ret (results_cell2 rfl _ _ rb _ _ _ (.bool false) rfl rfl b9 underlying38 rfl macSz) rfl (HFIN.out w9 (hb9.past HS1.out.tm.ext HS1.out.tm.h0) (own_but HO1.out hb9 bR (by decide)) (own_but HS1.out.pe hb9 bR (by decide)) (own_but HS1.out.di hb9 bR (by decide)) (own_but HS1.out.pi hb9 bR (by decide)))
        case false =>
         cases hw;case false =>
          obtain rfl:r=false:=by rw[← HEND.out];simp
          go_wp2_with (first|(refine wp_ld_mac (.tmp 4) rfl rfl pb _ _ rfl bm rfl ?_)|(refine wp_st_mac (.tmp 2) (.tmp 173) rfl rfl rb Z _ _ rfl rfl bR rfl ?_;intro w9 b9 g9))
          have hb9:=but_grown2 g9;exact bodyPost_ret (results_cell2 rfl _ _ rb _ _ _ (.bool false) rfl rfl b9 underlying38 rfl macSz) rfl (HFIN.out w9 (hb9.past HS1.out.tm.ext HS1.out.tm.h0) (own_but HO1.out hb9 bR (by decide)) (own_but HS1.out.pe hb9 bR (by decide)) (own_but HS1.out.di hb9 bR (by decide)) (own_but HS1.out.pi hb9 bR (by decide)))
         case true =>
          obtain rfl:r=true:=by rw[← HEND.out];simp
          go_wp2_with (first|(refine wp_ld_mac (.tmp 4) rfl rfl pb _ _ rfl bm rfl ?_)|(refine wp_st_mac (.tmp 2) (.tmp 173) rfl rfl rb Z _ _ rfl rfl bR rfl ?_;intro w9 b9 g9))
          have hb9:=but_grown2 g9;exact bodyPost_ret (results_cell2 rfl _ _ rb _ _ _ (.bool true) rfl rfl b9 underlying38 rfl macSz) rfl (HFIN.out w9 (hb9.past HS1.out.tm.ext HS1.out.tm.h0) (own_but HO1.out hb9 bR (by decide)) (own_but HS1.out.pe hb9 bR (by decide)) (own_but HS1.out.di hb9 bR (by decide)) (own_but HS1.out.pi hb9 bR (by decide)))
theorem rput_int (n:Int) (z:Nat) (w:World) (h0:0<=n) (h1:n<18446744073709551616) (hz:z<=8) :
  Calls prog 85 #[.int .u64 n,.int .i64 z] w λe w'=>e=.returned (.string (str (putL n z)))/\Ext w w':=by
 obtain⟨k,rfl⟩:=Int.eq_ofNat_of_zero_le h0;exact rput_any k z w (by omega) hz
theorem rput_4 (n:Int) (w:World) (h0:0<=n) (h1:n<18446744073709551616):Calls prog 85 #[.int .u64 n,.int .i64 4] w λe w'=>e=.returned (.string (str (putL n 4)))/\Ext w w':=rput_int n 4 w h0 h1 (by decide)
theorem rput_8 (n:Int) (w:World) (h0:0<=n) (h1:n<18446744073709551616):Calls prog 85 #[.int .u64 n,.int .i64 8] w λe w'=>e=.returned (.string (str (putL n 8)))/\Ext w w':=rput_int n 8 w h0 h1 (by decide)
theorem rdecT_any (n:Int) (w:World) (h:N64 n) :
  Calls prog 86 #[.int .i64 n] w λe w'=>e=.returned (.string (str (Lib.itoa n)))/\Ext w w':=by
 have HD:=lh_ (rdec_any n w h);clear h;go_enter func86,ntmps86;go_wp2_with (go_at_call 157;refine HD.out.mono ?_;rintro e w1 ⟨rfl,x1⟩)
 go_ret;exact⟨rfl,x1⟩
theorem rflagT_any (b:Bool) (w:World):Calls prog 87 #[.bool b] w λe w'=>e=.returned (.string (str (flagT b)))/\Ext w w':=by
 cases b
 all_goals
  go_enter func87,ntmps87;go_wp2_with fail;go_ret;exact⟨rfl,Ext.refl _⟩
theorem b8_self (b:UInt8):b8 (b.toNat:Int)=b:=by rw[b8_nat];simp
theorem rwritesT_any (A:Option Addr) (n c:Nat) (l:List WrT) (w:World) (h:RowOf wrL w A n l) (hf:WrFit l) (hl:l.length<=1000) :
  Calls prog 88 #[.slice A n c] w λe w'=>e=.returned (.string (str (writesT l)))/\Ext w w':=by
 have hn:n=l.length:=h.1;subst hn;have o0:=own_new0 w 9 1;have x0:=(Ext.refl w).alloc (.cells #[] 9);have HR:=lh_ h;have HF:=lh_ hf;clear h hf;go_enter func88,ntmps88;go_upto_region 3 with fail;generalize w.alloc (.cells #[] 9)=w1 at *;have HO0:=lh_ o0;have HX0:=lh_ x0;clear o0 x0;go_loopw [3,8] (λu i wx=>∃k:Nat,k<=l.length/\i=.int .i64 k/\Ext w wx/\wx.ownsRow w.heap.size 9 1 u k (strL ((l.take k).map writeT))) (λ_ i _=>l.length-(intOf i).toNat);case atStart=>exact⟨0,by omega,rfl,HX0.out,HO0.out⟩
 case round =>
  clear HX0 HO0;obtain⟨k,hk,rfl,xk,ok⟩:=hrel;obtain⟨uL,huL⟩:∃v:Value,v=u3:=⟨_,rfl⟩
  subst huL;by_cases hlt:k<l.length
  ·obtain⟨g,o,hA,hcell⟩:=(HR.out.ext xk).wrs.2 (by show 0<l.length;omega);subst hA;have e1:=(hcell k hlt).1;have e2:=(hcell k hlt).2;have hki:(k:Int)<(l.length:Int):=by omega
   have HY:=lh_ (HF.out l[k] (List.getElem_mem _));have HT1:=lh_ (show(l.take (k+1)).map writeT=(l.take k).map writeT++[writeT l[k]] by rw[List.take_succ_eq_append_getElem hlt,List.map_append];rfl);clear hcell;generalize l[k]=y at *;have HN:=lh_ HY.out.1;have HSum:=lh_ (show sumL [Lib.itoa y.1,y.2]<=1000000000 by
    have h1:=itoa_len HY.out.1.1 HY.out.1.2;have h2:=HY.out.2;simp only[sumL,List.map_cons,List.map_nil,List.sum_cons,List.sum_nil];omega)
   clear HY;have ok5:=ok;have xk7:=xk;have HC1:=lh_ (λ(w':World) (x:Ext wr w')=>x.keep e1);have HC2:=lh_ (λ(w':World) (x:Ext wr w')=>x.keep e2);clear ok e1 e2 xk;go_upto_region 5 with fail;refine wp_region_web' 15 [[],[],[],[1,2],[3],[4],[5],[],[],[7,8],[9],[10],[6,11],[12],[13]] (listV [isV (uL),isV (.slice (some ⟨g,o,none⟩) l.length c),isV (.int .i64 (k:Int)),isV (.pointer (some ⟨g,o+k*2,none⟩)),isV (.pointer (some ⟨g,o+k*2,none⟩)),isV (.int .i64 (y.1:Int)),isV (.string (str (Lib.itoa y.1))),isV (.slice (some ⟨g,o,none⟩) l.length c),isV (.int .i64 (k:Int)),isV (.pointer (some ⟨g,o+k*2,none⟩)),isV (.pointer (some ⟨g,o+k*2+1,none⟩)),isV (.string (str (y.2))),rowV 2 9 #[.string (str (Lib.itoa y.1)),.string (str (y.2))],isV (.string (str (writeT y))),rowV 1 9 #[.string (str (writeT y))]]) (by kernel_rfl) (by kernel_rfl) (listV_ext (λp hp=>by simp only[List.mem_cons,List.not_mem_nil,or_false]at hp;rcases hp with rfl|rfl|rfl|rfl|rfl|rfl|rfl|rfl|rfl|rfl|rfl|rfl|rfl|rfl|rfl<;>first|exact lasts_is _|exact lasts_row _ _ _)) (λus=>?_);simp only[List.take_succ_cons,List.take_zero,List.drop_succ_cons,List.drop_zero];rw[mWalk];refine And.intro (λw' hx hd=>?_) ?_
   ·clear hd;refine web_of_list 11 rfl (by simp) rfl ?_;go_wp2_with fail;exact⟨Ext.refl _,rfl⟩
   simp only[pS_,pN_,sA_,s0_,s1_];rw[mWalk];refine And.intro (λw' hx hd=>?_) ?_
   ·clear hd;refine web_of_list 12 rfl (by simp[Act.put]) rfl ?_;go_wp2_with fail;exact⟨Ext.refl _,rfl⟩
   simp only[pS_,pN_,sA_,s0_,s1_];rw[mWalk];refine And.intro (λw' hx hd=>?_) ?_
   ·clear hd;refine web_of_list 13 rfl (by simp[Act.put]) rfl ?_;go_wp2_with fail;exact⟨Ext.refl _,rfl⟩
   simp only[pS_,pN_,sA_,s0_,s1_];rw[mWalk];refine And.intro (λw' hx hd=>?_) ?_
   ·have h1:=hd 1 (by simp);have h2:=hd 2 (by simp);clear hd;generalize us 1=u1 at *;generalize us 2=u2 at *;obtain rfl:u1=.slice (some ⟨g,o,none⟩) l.length c:=h1;obtain rfl:u2=.int .i64 (k:Int):=h2;refine web_of_list 14 rfl (by simp[Act.put]) rfl ?_;go_wp2_with fail;exact⟨Ext.refl _,rfl⟩
   simp only[pS_,pN_,sA_,s0_,s1_];rw[mWalk];refine And.intro (λw' hx hd=>?_) ?_
   ·have h3:=hd 3 (by simp);clear hd;generalize us 3=u3 at *;obtain rfl:u3=.pointer (some ⟨g,o+k*2,none⟩):=h3;refine web_of_list 15 rfl (by simp[Act.put]) rfl ?_;go_wp2_with fail;exact⟨Ext.refl _,rfl⟩
   simp only[pS_,pN_,sA_,s0_,s1_];rw[mWalk];refine And.intro (λw' hx hd=>?_) ?_
   ·have h4:=hd 4 (by simp);clear hd;generalize us 4=u4 at *;obtain rfl:u4=.pointer (some ⟨g,o+k*2,none⟩):=h4;have q0:=HC1.out w' hx;refine web_of_list 16 rfl (by simp[Act.put]) rfl ?_;go_wp2_with fail;exact⟨Ext.refl _,rfl⟩
   simp only[pS_,pN_,sA_,s0_,s1_];rw[mWalk];refine And.intro (λw' hx hd=>?_) ?_
   ·have h5:=hd 5 (by simp);clear hd;generalize us 5=u5 at *;obtain rfl:u5=.int .i64 (y.1:Int):=h5;refine web_of_list 17 rfl (by simp[Act.put]) rfl ?_;go_wp2_with (go_at_call 86;refine(rdecT_any y.1 _ HN.out).mono ?_;rintro e w2 ⟨rfl,x2⟩)
    first|exact⟨x2,rfl⟩|exact rfl
   simp only[pS_,pN_,sA_,s0_,s1_];rw[mWalk];refine And.intro (λw' hx hd=>?_) ?_
   ·clear hd;refine web_of_list 18 rfl (by simp[Act.put]) rfl ?_;go_wp2_with fail;exact⟨Ext.refl _,rfl⟩
   simp only[pS_,pN_,sA_,s0_,s1_];rw[mWalk];refine And.intro (λw' hx hd=>?_) ?_
   ·clear hd;refine web_of_list 19 rfl (by simp[Act.put]) rfl ?_;go_wp2_with fail;exact⟨Ext.refl _,rfl⟩
   simp only[pS_,pN_,sA_,s0_,s1_];rw[mWalk];refine And.intro (λw' hx hd=>?_) ?_
   ·have h7:=hd 7 (by simp);have h8:=hd 8 (by simp);clear hd;generalize us 7=u7 at *;generalize us 8=u8 at *;obtain rfl:u7=.slice (some ⟨g,o,none⟩) l.length c:=h7;obtain rfl:u8=.int .i64 (k:Int):=h8;refine web_of_list 20 rfl (by simp[Act.put]) rfl ?_;go_wp2_with fail;exact⟨Ext.refl _,rfl⟩
   simp only[pS_,pN_,sA_,s0_,s1_];rw[mWalk];refine And.intro (λw' hx hd=>?_) ?_
   ·have h9:=hd 9 (by simp);clear hd;generalize us 9=u9 at *;obtain rfl:u9=.pointer (some ⟨g,o+k*2,none⟩):=h9;refine web_of_list 21 rfl (by simp[Act.put]) rfl ?_;go_wp2_with fail;exact⟨Ext.refl _,rfl⟩
   simp only[pS_,pN_,sA_,s0_,s1_];rw[mWalk];refine And.intro (λw' hx hd=>?_) ?_
   ·have h10:=hd 10 (by simp);clear hd;generalize us 10=u10 at *;obtain rfl:u10=.pointer (some ⟨g,o+k*2+1,none⟩):=h10;have q0:=HC2.out w' hx;refine web_of_list 22 rfl (by simp[Act.put]) rfl ?_;go_wp2_with fail;exact⟨Ext.refl _,rfl⟩
   simp only[pS_,pN_,sA_,s0_,s1_];rw[mWalk];refine And.intro (λw' hx hd=>?_) ?_
   ·have h6:=hd 6 (by simp);have h11:=hd 11 (by simp);clear hd;generalize us 6=u6 at *;generalize us 11=u11 at *;obtain rfl:u6=.string (str (Lib.itoa y.1)):=h6;obtain rfl:u11=.string (str (y.2)):=h11;refine web_of_list 23 rfl (by simp[Act.put]) rfl ?_;go_wp2_with fail;exact⟨(Ext.refl w').alloc _,_,rfl,Box.new _ _ _⟩
   simp only[pS_,pN_,sA_,s0_,s1_];rw[mWalk];refine And.intro (λw' hx hd=>?_) ?_
   ·have h12:=hd 12 (by simp);clear hd;generalize us 12=u12 at *;obtain⟨g23,rfl,bg23⟩:=h12;have HS:=lh_ (strs_ofBox (ss:=[Lib.itoa y.1,y.2]) bg23);clear bg23;refine web_of_list 24 rfl (by simp[Act.put]) rfl ?_;go_wp2_with (go_at_call 84;refine(rrow_any (some ⟨g23,0,none⟩) 2 2 [Lib.itoa y.1,y.2] _ HS.out HSum.out (by decide)).mono ?_;rintro e w2 ⟨rfl,x2⟩)
    first|exact⟨x2,rfl⟩|exact rfl
   simp only[pS_,pN_,sA_,s0_,s1_];rw[mWalk];refine And.intro (λw' hx hd=>?_) ?_
   ·have h13:=hd 13 (by simp);clear hd;generalize us 13=u13 at *;obtain rfl:u13=.string (str (writeT y)):=h13;refine web_of_list 25 rfl (by simp[Act.put]) rfl ?_;go_wp2_with fail;exact⟨(Ext.refl w').alloc _,_,rfl,Box.new _ _ _⟩
   simp only[pS_,pN_,sA_,s0_,s1_];rw[mWalk];intro w' hx hv;have h0:=hv 0 (by omega);have h14:=hv 14 (by omega);clear hv;generalize us 0=u0 at *;generalize us 6=u6 at *;generalize us 14=u14 at *;obtain rfl:u0=uL:=h0;obtain⟨g25,rfl,bg25⟩:=h14;have v6:=strs_ofBox (ss:=[writeT y]) bg25;have o5':=own_ext ok5 hx;have x5':=xk7.trans hx;have z5':=x5'.size;go_wp2_with (refine wp_app_strs w.heap.size rfl _ _ rfl rfl rfl o5' v6 (by omega) z5' (by decide) ?_;intro u6 w6 o6 g6)
   have x6:Ext w w6:=x5'.grown g6 (λk e=>own_low o5' e);go_roundw;case rel=>exact⟨k+1,by omega,by go_num,x6,by rw[HT1.out];exact o6⟩
   case measure=>simp[intOf];omega
  ·obtain rfl:k=l.length:=by omega
   rw[List.take_length]at ok;have hsum:sumL (l.map writeT)<=1000000000:=by
    have:=sumL_few 1028 (l.map writeT) (λs hs=>by
     obtain⟨x,hx,rfl⟩:=List.mem_map.1 hs;exact writeT_len (HF.out x hx).1 (HF.out x hx).2)
    rw[List.length_map]at this;omega
   obtain⟨A3,c3,e3⟩:=own_asSl ok;subst e3;have HS:=lh_ (Strs.own ok);have HSum:=lh_ hsum;clear ok hsum;go_wp2_with (go_at_call 84;refine(rrow_any A3 l.length c3 (l.map writeT) _ HS.out HSum.out (by omega)).mono ?_;rintro e w2 ⟨rfl,x2⟩)
   go_ret;exact⟨rfl,xk.trans x2⟩
theorem rpipesT_any (A:Option Addr) (n c:Nat) (l:List WrT) (w:World) (h:RowOf wrL w A n l) (hf:WrFit l) (hl:l.length<=1000) :
  Calls prog 89 #[.slice A n c] w λe w'=>e=.returned (.string (str (writesT l)))/\Ext w w':=by
 have hn:n=l.length:=h.1;subst hn;have o0:=own_new0 w 9 1;have x0:=(Ext.refl w).alloc (.cells #[] 9);have HR:=lh_ h;have HF:=lh_ hf;clear h hf;go_enter func89,ntmps89;go_upto_region 3 with fail;generalize w.alloc (.cells #[] 9)=w1 at *;have HO0:=lh_ o0;have HX0:=lh_ x0;clear o0 x0;go_loopw [3,8] (λu i wx=>∃k:Nat,k<=l.length/\i=.int .i64 k/\Ext w wx/\wx.ownsRow w.heap.size 9 1 u k (strL ((l.take k).map writeT))) (λ_ i _=>l.length-(intOf i).toNat);case atStart=>exact⟨0,by omega,rfl,HX0.out,HO0.out⟩
 case round =>
  clear HX0 HO0;obtain⟨k,hk,rfl,xk,ok⟩:=hrel;obtain⟨uL,huL⟩:∃v:Value,v=u3:=⟨_,rfl⟩
  subst huL;by_cases hlt:k<l.length
  ·obtain⟨g,o,hA,hcell⟩:=(HR.out.ext xk).wrs.2 (by show 0<l.length;omega);subst hA;have e1:=(hcell k hlt).1;have e2:=(hcell k hlt).2;have hki:(k:Int)<(l.length:Int):=by omega
   have HY:=lh_ (HF.out l[k] (List.getElem_mem _));have HT1:=lh_ (show(l.take (k+1)).map writeT=(l.take k).map writeT++[writeT l[k]] by rw[List.take_succ_eq_append_getElem hlt,List.map_append];rfl);clear hcell;generalize l[k]=y at *;have HN:=lh_ HY.out.1;have HSum:=lh_ (show sumL [Lib.itoa y.1,y.2]<=1000000000 by
    have h1:=itoa_len HY.out.1.1 HY.out.1.2;have h2:=HY.out.2;simp only[sumL,List.map_cons,List.map_nil,List.sum_cons,List.sum_nil];omega)
   clear HY;have ok5:=ok;have xk7:=xk;have HC1:=lh_ (λ(w':World) (x:Ext wr w')=>x.keep e1);have HC2:=lh_ (λ(w':World) (x:Ext wr w')=>x.keep e2);clear ok e1 e2 xk;go_upto_region 5 with fail;refine wp_region_web' 15 [[],[],[],[1,2],[3],[4],[5],[],[],[7,8],[9],[10],[6,11],[12],[13]] (listV [isV (uL),isV (.slice (some ⟨g,o,none⟩) l.length c),isV (.int .i64 (k:Int)),isV (.pointer (some ⟨g,o+k*2,none⟩)),isV (.pointer (some ⟨g,o+k*2,none⟩)),isV (.int .i64 (y.1:Int)),isV (.string (str (Lib.itoa y.1))),isV (.slice (some ⟨g,o,none⟩) l.length c),isV (.int .i64 (k:Int)),isV (.pointer (some ⟨g,o+k*2,none⟩)),isV (.pointer (some ⟨g,o+k*2+1,none⟩)),isV (.string (str (y.2))),rowV 2 9 #[.string (str (Lib.itoa y.1)),.string (str (y.2))],isV (.string (str (writeT y))),rowV 1 9 #[.string (str (writeT y))]]) (by kernel_rfl) (by kernel_rfl) (listV_ext (λp hp=>by simp only[List.mem_cons,List.not_mem_nil,or_false]at hp;rcases hp with rfl|rfl|rfl|rfl|rfl|rfl|rfl|rfl|rfl|rfl|rfl|rfl|rfl|rfl|rfl<;>first|exact lasts_is _|exact lasts_row _ _ _)) (λus=>?_);simp only[List.take_succ_cons,List.take_zero,List.drop_succ_cons,List.drop_zero];rw[mWalk];refine And.intro (λw' hx hd=>?_) ?_
   ·clear hd;refine web_of_list 11 rfl (by simp) rfl ?_;go_wp2_with fail;exact⟨Ext.refl _,rfl⟩
   simp only[pS_,pN_,sA_,s0_,s1_];rw[mWalk];refine And.intro (λw' hx hd=>?_) ?_
   ·clear hd;refine web_of_list 12 rfl (by simp[Act.put]) rfl ?_;go_wp2_with fail;exact⟨Ext.refl _,rfl⟩
   simp only[pS_,pN_,sA_,s0_,s1_];rw[mWalk];refine And.intro (λw' hx hd=>?_) ?_
   ·clear hd;refine web_of_list 13 rfl (by simp[Act.put]) rfl ?_;go_wp2_with fail;exact⟨Ext.refl _,rfl⟩
   simp only[pS_,pN_,sA_,s0_,s1_];rw[mWalk];refine And.intro (λw' hx hd=>?_) ?_
   ·have h1:=hd 1 (by simp);have h2:=hd 2 (by simp);clear hd;generalize us 1=u1 at *;generalize us 2=u2 at *;obtain rfl:u1=.slice (some ⟨g,o,none⟩) l.length c:=h1;obtain rfl:u2=.int .i64 (k:Int):=h2;refine web_of_list 14 rfl (by simp[Act.put]) rfl ?_;go_wp2_with fail;exact⟨Ext.refl _,rfl⟩
   simp only[pS_,pN_,sA_,s0_,s1_];rw[mWalk];refine And.intro (λw' hx hd=>?_) ?_
   ·have h3:=hd 3 (by simp);clear hd;generalize us 3=u3 at *;obtain rfl:u3=.pointer (some ⟨g,o+k*2,none⟩):=h3;refine web_of_list 15 rfl (by simp[Act.put]) rfl ?_;go_wp2_with fail;exact⟨Ext.refl _,rfl⟩
   simp only[pS_,pN_,sA_,s0_,s1_];rw[mWalk];refine And.intro (λw' hx hd=>?_) ?_
   ·have h4:=hd 4 (by simp);clear hd;generalize us 4=u4 at *;obtain rfl:u4=.pointer (some ⟨g,o+k*2,none⟩):=h4;have q0:=HC1.out w' hx;refine web_of_list 16 rfl (by simp[Act.put]) rfl ?_;go_wp2_with fail;exact⟨Ext.refl _,rfl⟩
   simp only[pS_,pN_,sA_,s0_,s1_];rw[mWalk];refine And.intro (λw' hx hd=>?_) ?_
   ·have h5:=hd 5 (by simp);clear hd;generalize us 5=u5 at *;obtain rfl:u5=.int .i64 (y.1:Int):=h5;refine web_of_list 17 rfl (by simp[Act.put]) rfl ?_;go_wp2_with (go_at_call 86;refine(rdecT_any y.1 _ HN.out).mono ?_;rintro e w2 ⟨rfl,x2⟩)
    first|exact⟨x2,rfl⟩|exact rfl
   simp only[pS_,pN_,sA_,s0_,s1_];rw[mWalk];refine And.intro (λw' hx hd=>?_) ?_
   ·clear hd;refine web_of_list 18 rfl (by simp[Act.put]) rfl ?_;go_wp2_with fail;exact⟨Ext.refl _,rfl⟩
   simp only[pS_,pN_,sA_,s0_,s1_];rw[mWalk];refine And.intro (λw' hx hd=>?_) ?_
   ·clear hd;refine web_of_list 19 rfl (by simp[Act.put]) rfl ?_;go_wp2_with fail;exact⟨Ext.refl _,rfl⟩
   simp only[pS_,pN_,sA_,s0_,s1_];rw[mWalk];refine And.intro (λw' hx hd=>?_) ?_
   ·have h7:=hd 7 (by simp);have h8:=hd 8 (by simp);clear hd;generalize us 7=u7 at *;generalize us 8=u8 at *;obtain rfl:u7=.slice (some ⟨g,o,none⟩) l.length c:=h7;obtain rfl:u8=.int .i64 (k:Int):=h8;refine web_of_list 20 rfl (by simp[Act.put]) rfl ?_;go_wp2_with fail;exact⟨Ext.refl _,rfl⟩
   simp only[pS_,pN_,sA_,s0_,s1_];rw[mWalk];refine And.intro (λw' hx hd=>?_) ?_
   ·have h9:=hd 9 (by simp);clear hd;generalize us 9=u9 at *;obtain rfl:u9=.pointer (some ⟨g,o+k*2,none⟩):=h9;refine web_of_list 21 rfl (by simp[Act.put]) rfl ?_;go_wp2_with fail;exact⟨Ext.refl _,rfl⟩
   simp only[pS_,pN_,sA_,s0_,s1_];rw[mWalk];refine And.intro (λw' hx hd=>?_) ?_
   ·have h10:=hd 10 (by simp);clear hd;generalize us 10=u10 at *;obtain rfl:u10=.pointer (some ⟨g,o+k*2+1,none⟩):=h10;have q0:=HC2.out w' hx;refine web_of_list 22 rfl (by simp[Act.put]) rfl ?_;go_wp2_with fail;exact⟨Ext.refl _,rfl⟩
   simp only[pS_,pN_,sA_,s0_,s1_];rw[mWalk];refine And.intro (λw' hx hd=>?_) ?_
   ·have h6:=hd 6 (by simp);have h11:=hd 11 (by simp);clear hd;generalize us 6=u6 at *;generalize us 11=u11 at *;obtain rfl:u6=.string (str (Lib.itoa y.1)):=h6;obtain rfl:u11=.string (str (y.2)):=h11;refine web_of_list 23 rfl (by simp[Act.put]) rfl ?_;go_wp2_with fail;exact⟨(Ext.refl w').alloc _,_,rfl,Box.new _ _ _⟩
   simp only[pS_,pN_,sA_,s0_,s1_];rw[mWalk];refine And.intro (λw' hx hd=>?_) ?_
   ·have h12:=hd 12 (by simp);clear hd;generalize us 12=u12 at *;obtain⟨g23,rfl,bg23⟩:=h12;have HS:=lh_ (strs_ofBox (ss:=[Lib.itoa y.1,y.2]) bg23);clear bg23;refine web_of_list 24 rfl (by simp[Act.put]) rfl ?_;go_wp2_with (go_at_call 84;refine(rrow_any (some ⟨g23,0,none⟩) 2 2 [Lib.itoa y.1,y.2] _ HS.out HSum.out (by decide)).mono ?_;rintro e w2 ⟨rfl,x2⟩)
    first|exact⟨x2,rfl⟩|exact rfl
   simp only[pS_,pN_,sA_,s0_,s1_];rw[mWalk];refine And.intro (λw' hx hd=>?_) ?_
   ·have h13:=hd 13 (by simp);clear hd;generalize us 13=u13 at *;obtain rfl:u13=.string (str (writeT y)):=h13;refine web_of_list 25 rfl (by simp[Act.put]) rfl ?_;go_wp2_with fail;exact⟨(Ext.refl w').alloc _,_,rfl,Box.new _ _ _⟩
   simp only[pS_,pN_,sA_,s0_,s1_];rw[mWalk];intro w' hx hv;have h0:=hv 0 (by omega);have h14:=hv 14 (by omega);clear hv;generalize us 0=u0 at *;generalize us 6=u6 at *;generalize us 14=u14 at *;obtain rfl:u0=uL:=h0;obtain⟨g25,rfl,bg25⟩:=h14;have v6:=strs_ofBox (ss:=[writeT y]) bg25;have o5':=own_ext ok5 hx;have x5':=xk7.trans hx;have z5':=x5'.size;go_wp2_with (refine wp_app_strs w.heap.size rfl _ _ rfl rfl rfl o5' v6 (by omega) z5' (by decide) ?_;intro u6 w6 o6 g6)
   have x6:Ext w w6:=x5'.grown g6 (λk e=>own_low o5' e);go_roundw;case rel=>exact⟨k+1,by omega,by go_num,x6,by rw[HT1.out];exact o6⟩
   case measure=>simp[intOf];omega
  ·obtain rfl:k=l.length:=by omega
   rw[List.take_length]at ok;have hsum:sumL (l.map writeT)<=1000000000:=by
    have:=sumL_few 1028 (l.map writeT) (λs hs=>by
     obtain⟨x,hx,rfl⟩:=List.mem_map.1 hs;exact writeT_len (HF.out x hx).1 (HF.out x hx).2)
    rw[List.length_map]at this;omega
   obtain⟨A3,c3,e3⟩:=own_asSl ok;subst e3;have HS:=lh_ (Strs.own ok);have HSum:=lh_ hsum;clear ok hsum;go_wp2_with (go_at_call 84;refine(rrow_any A3 l.length c3 (l.map writeT) _ HS.out HSum.out (by omega)).mono ?_;rintro e w2 ⟨rfl,x2⟩)
   go_ret;exact⟨rfl,xk.trans x2⟩
def cpuC (p:PrT):List Value:=(List.range 16).map (λi=>.int .u32 (p.reg i))++[.int .u32 p.pc]
theorem cpuC_reg (p:PrT) {k:Nat}(hk:k<16):(cpuC p).toArray[k]? =some (.int .u32 (p.reg k)):=by
 rw[List.getElem?_toArray];unfold cpuC;rw[List.getElem?_append_left (by simpa using hk)];simp[hk]
theorem cpuC_pc (p:PrT):(cpuC p).toArray[16]? =some (.int .u32 p.pc):=rfl
theorem rcpuT_any (y:PrT) (w:World) (hf:PrFit y) :
  Calls prog 153 #[.agg (cpuC y).toArray] w λe w'=>e=.returned (.string (str (cpuT y)))/\Ext w w':=by
 have HF:=lh_ hf;have hz:=str_size;have hap:=str_app;have b0:=Box.new w 48 (cpuC y).toArray;have x0:Ext w (w.alloc (.cells (cpuC y).toArray 48)):=(Ext.refl w).alloc _;clear hf;go_enter func153,ntmps153;go_upto_region 1 with fail;change Code.wp _ _ _ _ (w.alloc (.cells (cpuC y).toArray 48));generalize w.alloc (.cells (cpuC y).toArray 48)=w0 at b0 x0 ⊢;generalize w.heap.size=G at b0 ⊢;go_upto_region 3 with fail;go_loopw [3,4] (λu i wx=>∃k:Nat,k<=16/\i=.int .i64 k/\u=.string (str ((List.range k).flatMap λi=>putL (y.reg i) 4))/\Ext w0 wx) (λ_ i _=>16-(intOf i).toNat);case atStart=>exact⟨0,by omega,rfl,rfl,Ext.refl _⟩
 case round =>
  obtain⟨k,hk,rfl,rfl,xk⟩:=hrel;by_cases hlt:k<16
  ·have hki:(k:Int)<16:=by omega
   have HT:=lh_ (range_more (λi=>putL (y.reg i) 4) k);have hr0:=(HF.out.reg k hlt).1;have hr1:y.reg k<18446744073709551616:=by have:=(HF.out.reg k hlt).2;omega
   have hu:IntKind.u64.wrap (y.reg k)=y.reg k:=by rw[IntKind.wrap_u64];omega
   have q0:wr.cell? ⟨G,k,none⟩=some (.int .u32 (y.reg k)):=(((b0.ext xk).cell k).trans (cpuC_reg y hlt))
   have HZ:=lh_ (show((List.range k).flatMap λi=>putL (y.reg i) 4).length=k*4 by rw[flatMap_len _ _ 4 (λi _=>putL_len _ _)];simp);have hzl:=HZ.out;have hp4:=putL_len (y.reg k) 4;generalize (List.range k).flatMap (λi=>putL (y.reg i) 4)=P at *;generalize y.reg k=rk at *;go_wp2_with (go_at_call 85;refine(rput_4 rk _ hr0 hr1).mono ?_;rintro e w2 ⟨rfl,x2⟩)
   go_roundw;case rel=>exact⟨k+1,by omega,by go_num,by rw[HT.out],xk.trans x2⟩
   case measure=>simp[intOf];omega
  ·obtain rfl:k=16:=by omega
   have hr0:=HF.out.pc.1;have hr1:y.pc<18446744073709551616:=by have:=HF.out.pc.2;omega
   have hu:IntKind.u64.wrap y.pc=y.pc:=by rw[IntKind.wrap_u64];omega
   have q0:wr.cell? ⟨G,16,none⟩=some (.int .u32 y.pc):=((b0.ext xk).cell 16).trans (cpuC_pc y);have HT:=lh_ (show cpuT y=((List.range 16).flatMap λi=>putL (y.reg i) 4)++putL y.pc 4 from rfl);have hzl:((List.range 16).flatMap λi=>putL (y.reg i) 4).length=64:=by rw[flatMap_len _ _ 4 (λi _=>putL_len _ _)];rfl
   have hp4:=putL_len y.pc 4;generalize (List.range 16).flatMap (λi=>putL (y.reg i) 4)=P at *;generalize hpc:y.pc=rk at *;clear hpc;go_wp2_with (go_at_call 85;refine(rput_4 rk _ hr0 hr1).mono ?_;rintro e w2 ⟨rfl,x2⟩)
   go_ret;exact⟨by rw[HT.out];rfl,x0.trans (xk.trans x2)⟩
theorem spaceC_pte (p:PrT) {k:Nat}(hk:k<16):∀j v,(pteL p k)[j]? =some v->(spaceL p).toArray[k*3+j]? =some v:=λj v hv=>by
 have hj:j<3:=by have:=(List.getElem?_eq_some_iff.1 hv).1;exact this
 rw[List.getElem?_toArray];have h1:=flat_at (pteL p) 3 (List.range 16) (λ_ _=>rfl) k (by rw[List.length_range];exact hk) j hj;rw[List.getElem_range]at h1;show((List.range 16).flatMap (pteL p))[k*3+j]? =some v;rw[h1];exact hv
theorem rspaceT_any (y:PrT) (w:World) (hf:PrFit y) :
  Calls prog 154 #[.agg (spaceL y).toArray] w λe w'=>e=.returned (.string (str (spaceT y)))/\Ext w w':=by
 have HF:=lh_ hf;have hz:=str_size;have hap:=str_app;have b0:=Box.new w 52 (spaceL y).toArray;have x0:Ext w (w.alloc (.cells (spaceL y).toArray 52)):=(Ext.refl w).alloc _;clear hf;go_enter func154,ntmps154;go_upto_region 1 with fail;change Code.wp _ _ _ _ (w.alloc (.cells (spaceL y).toArray 52));generalize w.alloc (.cells (spaceL y).toArray 52)=w0 at b0 x0 ⊢;generalize w.heap.size=G at b0 ⊢;go_upto_region 3 with fail;go_loopw [3,4] (λu i wx=>∃k:Nat,k<=16/\i=.int .i64 k/\u=.string (str ((List.range k).flatMap (pteT y)))/\Ext w0 wx) (λ_ i _=>16-(intOf i).toNat);case atStart=>exact⟨0,by omega,rfl,rfl,Ext.refl _⟩
 case round =>
  obtain⟨k,hk,rfl,rfl,xk⟩:=hrel;by_cases hlt:k<16
  ·have hki:(k:Int)<16:=by omega
   have HT:=lh_ (range_more (pteT y) k);have HFP:=lh_ (HF.out.page k hlt);have HZ:=lh_ (show((List.range k).flatMap (pteT y)).length=k*2 by rw[flatMap_len _ _ 2 (λi _=>pteT_len _ _)];simp);have hzl:=HZ.out;have bk:=b0.ext xk;have c0:wr.cell? ⟨G,k*3,none⟩=some (.bool (y.pis k)):=(bk.cell (k*3)).trans (spaceC_pte y hlt 0 _ rfl);have c1:wr.cell? ⟨G,k*3+1,none⟩=some (.bool (y.pwr k)):=(bk.cell (k*3+1)).trans (spaceC_pte y hlt 1 _ rfl);have c2:wr.cell? ⟨G,k*3+2,none⟩=some (.int .i64 (y.pfr k)):=(bk.cell (k*3+2)).trans (spaceC_pte y hlt 2 _ rfl);generalize (List.range k).flatMap (pteT y)=P at *;go_upto_region 6 with fail;have b3:=Box.new wr 50 #[.bool (y.pis k),.bool (y.pwr k),.int .i64 (y.pfr k)];have xz:=xk.alloc (.cells #[.bool (y.pis k),.bool (y.pwr k),.int .i64 (y.pfr k)] 50);generalize wr.alloc (.cells #[.bool (y.pis k),.bool (y.pwr k),.int .i64 (y.pfr k)] 50)=w3 at *;have q0:=b3.cell 0;have q1:=b3.cell 1;have q2:=b3.cell 2;have HPT:=lh_ (show pteT y k=if y.pis k=false then [0,0] else if y.pwr k=true then [2,b8 (y.pfr k)] else [1,b8 (y.pfr k)] from rfl);have HU:=lh_ (u8_b8 HFP.out.1 HFP.out.2.1);clear bk b3 xk HFP c0 c1 c2;generalize wr.heap.size=gp at *;generalize y.pis k=pis at *;generalize y.pwr k=pwr at *;generalize y.pfr k=pfr at *;generalize pteT y k=PT at *;have e1:(⟨#[0,0]⟩:ByteArray)=str [0,0]:=rfl;have e2:(⟨#[2]⟩:ByteArray)=str [2]:=rfl;have e3:(⟨#[1]⟩:ByteArray)=str [1]:=rfl;cases pis with
   | false =>
    obtain rfl:=HPT.out;go_wp2_with fail;go_roundw;case rel=>exact⟨k+1,by omega,by go_num,by rw[HT.out];rfl,xz⟩
    case measure=>simp[intOf];omega
   | true =>
    have hc:=conv_box1 (w3.alloc (.cells #[.int .u8 ((b8 pfr).toNat:Int)] 5)) w3.heap.size ((b8 pfr).toNat:Int) (Box.new _ _ _);rw[b8_self]at hc;have hu:=HU.out;cases pwr with
    | true =>
     obtain rfl:=HPT.out;go_wp2_with fail;go_roundw;case rel=>exact⟨k+1,by omega,by go_num,by rw[HT.out];simp[str_app,← List.append_assoc],xz.alloc _⟩
     case measure=>simp[intOf];omega
    | false =>
     obtain rfl:=HPT.out;go_wp2_with fail;go_roundw;case rel=>exact⟨k+1,by omega,by go_num,by rw[HT.out];simp[str_app,← List.append_assoc],xz.alloc _⟩
     case measure=>simp[intOf];omega
  ·obtain rfl:k=16:=by omega
   have HT:=lh_ (show spaceT y=(List.range 16).flatMap (pteT y) from rfl);generalize (List.range 16).flatMap (pteT y)=P at *;go_wp2_with fail;go_ret;exact⟨by rw[HT.out];rfl,x0.trans xk⟩
theorem fdsC_cell (p:PrT) {k j:Nat}(hk:k<8) (hj:j<3):(fdsL p).toArray[k*3+j]? =(fdL p k)[j]? :=by
 rw[List.getElem?_toArray];have h1:=flat_at (fdL p) 3 (List.range 8) (λ_ _=>rfl) k (by rw[List.length_range];exact hk) j hj;rw[List.getElem_range]at h1;exact h1
theorem rfdsT_any (y:PrT) (w:World) (hf:PrFit y) :
  Calls prog 155 #[.agg (fdsL y).toArray] w λe w'=>e=.returned (.string (str (fdsT y)))/\Ext w w':=by
 have HF:=lh_ hf;have hz:=str_size;have hap:=str_app;have b0:=Box.new w 55 (fdsL y).toArray;have x0:Ext w (w.alloc (.cells (fdsL y).toArray 55)):=(Ext.refl w).alloc _;clear hf;go_enter func155,ntmps155;go_upto_region 1 with fail;change Code.wp _ _ _ _ (w.alloc (.cells (fdsL y).toArray 55));generalize w.alloc (.cells (fdsL y).toArray 55)=w0 at b0 x0 ⊢;generalize w.heap.size=G at b0 ⊢;go_upto_region 3 with fail;go_loopw [3,4] (λu i wx=>∃k:Nat,k<=8/\i=.int .i64 k/\u=.string (str ((List.range k).flatMap (fdT y)))/\Ext w0 wx) (λ_ i _=>8-(intOf i).toNat);case atStart=>exact⟨0,by omega,rfl,rfl,Ext.refl _⟩
 case round =>
  obtain⟨k,hk,rfl,rfl,xk⟩:=hrel;by_cases hlt:k<8
  ·have hki:(k:Int)<8:=by omega
   have HT:=lh_ (range_more (fdT y) k);have HFD:=lh_ (show fdT y k=[b8 (y.fk k)]++(putL (y.fn k) 8++putL (y.fp k) 8) from rfl);have bk:=b0.ext xk;have HC0:=lh_ (λ(w':World) (x:Ext wr w')=>show w'.cell? ⟨G,k*3,none⟩=some (.int .i64 (y.fk k)) from((bk.ext x).cell (k*3)).trans (fdsC_cell y hlt (j:=0) (by decide)));have HC1:=lh_ (λ(w':World) (x:Ext wr w')=>show w'.cell? ⟨G,k*3+1,none⟩=some (.int .i64 (y.fn k)) from((bk.ext x).cell (k*3+1)).trans (fdsC_cell y hlt (j:=1) (by decide)));have HC2:=lh_ (λ(w':World) (x:Ext wr w')=>show w'.cell? ⟨G,k*3+2,none⟩=some (.int .i64 (y.fp k)) from((bk.ext x).cell (k*3+2)).trans (fdsC_cell y hlt (j:=2) (by decide)));have HU:=lh_ (u8_b8 (HF.out.fk k hlt).1 (HF.out.fk k hlt).2);have HN0:=lh_ (HF.out.fn k hlt);have HP0:=lh_ (HF.out.fp k hlt);have HUN:=lh_ (show IntKind.u64.wrap (y.fn k)=y.fn k by rw[IntKind.wrap_u64];have:=HN0.out;omega);have HUP:=lh_ (show IntKind.u64.wrap (y.fp k)=y.fp k by rw[IntKind.wrap_u64];have:=HP0.out;omega);have hzl:((List.range k).flatMap (fdT y)).length=k*17:=by rw[flatMap_len _ _ 17 (λi _=>fdT_len _ _)];simp
   clear bk;generalize (List.range k).flatMap (fdT y)=P at *;generalize fdT y k=FT at *;generalize y.fk k=fk at *;generalize y.fn k=fn at *;generalize y.fp k=fp at *;go_upto_region 5 with fail;refine wp_region_web' 23 [[],[],[1],[2],[3],[4],[5],[6],[0,7],[],[9],[10],[11],[12],[13],[8,14],[],[16],[17],[18],[19],[20],[15,21]] (listV [isV (.string (str P)),isV (.int .i64 (k:Int)),isV (.pointer (some ⟨G,k*3,none⟩)),isV (.pointer (some ⟨G,k*3,none⟩)),isV (.int .i64 fk),isV (.int .u8 ((b8 fk).toNat:Int)),rowV 1 5 #[.int .u8 ((b8 fk).toNat:Int)],isV (.string (str [b8 fk])),isV (.string (str (P++[b8 fk]))),isV (.int .i64 (k:Int)),isV (.pointer (some ⟨G,k*3,none⟩)),isV (.pointer (some ⟨G,k*3+1,none⟩)),isV (.int .i64 fn),isV (.int .u64 fn),isV (.string (str (putL fn 8))),isV (.string (str (P++[b8 fk]++putL fn 8))),isV (.int .i64 (k:Int)),isV (.pointer (some ⟨G,k*3,none⟩)),isV (.pointer (some ⟨G,k*3+2,none⟩)),isV (.int .i64 fp),isV (.int .u64 fp),isV (.string (str (putL fp 8))),isV (.string (str (P++[b8 fk]++putL fn 8++putL fp 8)))]) (by kernel_rfl) (by kernel_rfl) (listV_ext (λp hp=>by simp only[List.mem_cons,List.not_mem_nil,or_false]at hp;rcases hp with rfl|rfl|rfl|rfl|rfl|rfl|rfl|rfl|rfl|rfl|rfl|rfl|rfl|rfl|rfl|rfl|rfl|rfl|rfl|rfl|rfl|rfl|rfl<;>first|exact lasts_is _|exact lasts_row _ _ _)) (λus=>?_);simp only[List.take_succ_cons,List.take_zero,List.drop_succ_cons,List.drop_zero];rw[mWalk];refine And.intro (λw' hx hd=>?_) ?_
   ·clear hd;refine web_of_list 9 rfl (by simp) rfl ?_;go_wp2_with fail;exact⟨Ext.refl _,rfl⟩
   simp only[pS_,pN_,sA_,s0_,s1_];rw[mWalk];refine And.intro (λw' hx hd=>?_) ?_
   ·clear hd;refine web_of_list 10 rfl (by simp[Act.put]) rfl ?_;go_wp2_with fail;exact⟨Ext.refl _,rfl⟩
   simp only[pS_,pN_,sA_,s0_,s1_];rw[mWalk];refine And.intro (λw' hx hd=>?_) ?_
   ·have h1:=hd 1 (by simp);clear hd;generalize us 1=u1 at *;obtain rfl:u1=.int .i64 (k:Int):=h1;refine web_of_list 11 rfl (by simp[Act.put]) rfl ?_;go_wp2_with fail;exact⟨Ext.refl _,rfl⟩
   simp only[pS_,pN_,sA_,s0_,s1_];rw[mWalk];refine And.intro (λw' hx hd=>?_) ?_
   ·have h2:=hd 2 (by simp);clear hd;generalize us 2=u2 at *;obtain rfl:u2=.pointer (some ⟨G,k*3,none⟩):=h2;refine web_of_list 12 rfl (by simp[Act.put]) rfl ?_;go_wp2_with fail;exact⟨Ext.refl _,rfl⟩
   simp only[pS_,pN_,sA_,s0_,s1_];rw[mWalk];refine And.intro (λw' hx hd=>?_) ?_
   ·have h3:=hd 3 (by simp);clear hd;generalize us 3=u3 at *;obtain rfl:u3=.pointer (some ⟨G,k*3,none⟩):=h3;have q0:=HC0.out w' hx;refine web_of_list 13 rfl (by simp[Act.put]) rfl ?_;go_wp2_with fail;exact⟨Ext.refl _,rfl⟩
   simp only[pS_,pN_,sA_,s0_,s1_];rw[mWalk];refine And.intro (λw' hx hd=>?_) ?_
   ·have h4:=hd 4 (by simp);clear hd;generalize us 4=u4 at *;obtain rfl:u4=.int .i64 fk:=h4;have hu:=HU.out;refine web_of_list 14 rfl (by simp[Act.put]) rfl ?_;go_wp2_with fail;exact⟨Ext.refl _,rfl⟩
   simp only[pS_,pN_,sA_,s0_,s1_];rw[mWalk];refine And.intro (λw' hx hd=>?_) ?_
   ·have h5:=hd 5 (by simp);clear hd;generalize us 5=u5 at *;obtain rfl:u5=.int .u8 ((b8 fk).toNat:Int):=h5;refine web_of_list 15 rfl (by simp[Act.put]) rfl ?_;go_wp2_with fail;exact⟨(Ext.refl w').alloc _,_,rfl,Box.new _ _ _⟩
   simp only[pS_,pN_,sA_,s0_,s1_];rw[mWalk];refine And.intro (λw' hx hd=>?_) ?_
   ·have h6:=hd 6 (by simp);clear hd;generalize us 6=u6 at *;obtain⟨g15,rfl,bg15⟩:=h6;have hc:=conv_box1 w' g15 ((b8 fk).toNat:Int) bg15;rw[b8_self]at hc;refine web_of_list 16 rfl (by simp[Act.put]) rfl ?_;go_wp2_with fail;exact⟨Ext.refl _,rfl⟩
   simp only[pS_,pN_,sA_,s0_,s1_];rw[mWalk];refine And.intro (λw' hx hd=>?_) ?_
   ·have h0:=hd 0 (by simp);have h7:=hd 7 (by simp);clear hd;generalize us 0=u0 at *;generalize us 7=u7 at *;obtain rfl:u0=.string (str P):=h0;obtain rfl:u7=.string (str [b8 fk]):=h7;refine web_of_list 17 rfl (by simp[Act.put]) rfl ?_;go_wp2_with fail;exact⟨Ext.refl _,rfl⟩
   simp only[pS_,pN_,sA_,s0_,s1_];rw[mWalk];refine And.intro (λw' hx hd=>?_) ?_
   ·clear hd;refine web_of_list 18 rfl (by simp[Act.put]) rfl ?_;go_wp2_with fail;exact⟨Ext.refl _,rfl⟩
   simp only[pS_,pN_,sA_,s0_,s1_];rw[mWalk];refine And.intro (λw' hx hd=>?_) ?_
   ·have h9:=hd 9 (by simp);clear hd;generalize us 9=u9 at *;obtain rfl:u9=.int .i64 (k:Int):=h9;refine web_of_list 19 rfl (by simp[Act.put]) rfl ?_;go_wp2_with fail;exact⟨Ext.refl _,rfl⟩
   simp only[pS_,pN_,sA_,s0_,s1_];rw[mWalk];refine And.intro (λw' hx hd=>?_) ?_
   ·have h10:=hd 10 (by simp);clear hd;generalize us 10=u10 at *;obtain rfl:u10=.pointer (some ⟨G,k*3,none⟩):=h10;refine web_of_list 20 rfl (by simp[Act.put]) rfl ?_;go_wp2_with fail;exact⟨Ext.refl _,rfl⟩
   simp only[pS_,pN_,sA_,s0_,s1_];rw[mWalk];refine And.intro (λw' hx hd=>?_) ?_
   ·have h11:=hd 11 (by simp);clear hd;generalize us 11=u11 at *;obtain rfl:u11=.pointer (some ⟨G,k*3+1,none⟩):=h11;have q0:=HC1.out w' hx;refine web_of_list 21 rfl (by simp[Act.put]) rfl ?_;go_wp2_with fail;exact⟨Ext.refl _,rfl⟩
   simp only[pS_,pN_,sA_,s0_,s1_];rw[mWalk];refine And.intro (λw' hx hd=>?_) ?_
   ·have h12:=hd 12 (by simp);clear hd;generalize us 12=u12 at *;obtain rfl:u12=.int .i64 fn:=h12;have hu:=HUN.out;refine web_of_list 22 rfl (by simp[Act.put]) rfl ?_;go_wp2_with fail;exact⟨Ext.refl _,rfl⟩
   simp only[pS_,pN_,sA_,s0_,s1_];rw[mWalk];refine And.intro (λw' hx hd=>?_) ?_
   ·have h13:=hd 13 (by simp);clear hd;generalize us 13=u13 at *;obtain rfl:u13=.int .u64 fn:=h13;refine web_of_list 23 rfl (by simp[Act.put]) rfl ?_;go_wp2_with (go_at_call 85;refine(rput_8 fn _ HN0.out.1 (by have:=HN0.out.2;omega)).mono ?_;rintro e w2 ⟨rfl,x2⟩)
    first|exact⟨x2,rfl⟩|exact rfl
   simp only[pS_,pN_,sA_,s0_,s1_];rw[mWalk];refine And.intro (λw' hx hd=>?_) ?_
   ·have h8:=hd 8 (by simp);have h14:=hd 14 (by simp);clear hd;generalize us 8=u8 at *;generalize us 14=u14 at *;obtain rfl:u8=.string (str (P++[b8 fk])):=h8;obtain rfl:u14=.string (str (putL fn 8)):=h14;have hp8:=putL_len fn 8;refine web_of_list 24 rfl (by simp[Act.put]) rfl ?_;go_wp2_with fail;exact⟨Ext.refl _,rfl⟩
   simp only[pS_,pN_,sA_,s0_,s1_];rw[mWalk];refine And.intro (λw' hx hd=>?_) ?_
   ·clear hd;refine web_of_list 25 rfl (by simp[Act.put]) rfl ?_;go_wp2_with fail;exact⟨Ext.refl _,rfl⟩
   simp only[pS_,pN_,sA_,s0_,s1_];rw[mWalk];refine And.intro (λw' hx hd=>?_) ?_
   ·have h16:=hd 16 (by simp);clear hd;generalize us 16=u16 at *;obtain rfl:u16=.int .i64 (k:Int):=h16;refine web_of_list 26 rfl (by simp[Act.put]) rfl ?_;go_wp2_with fail;exact⟨Ext.refl _,rfl⟩
   simp only[pS_,pN_,sA_,s0_,s1_];rw[mWalk];refine And.intro (λw' hx hd=>?_) ?_
   ·have h17:=hd 17 (by simp);clear hd;generalize us 17=u17 at *;obtain rfl:u17=.pointer (some ⟨G,k*3,none⟩):=h17;refine web_of_list 27 rfl (by simp[Act.put]) rfl ?_;go_wp2_with fail;exact⟨Ext.refl _,rfl⟩
   simp only[pS_,pN_,sA_,s0_,s1_];rw[mWalk];refine And.intro (λw' hx hd=>?_) ?_
   ·have h18:=hd 18 (by simp);clear hd;generalize us 18=u18 at *;obtain rfl:u18=.pointer (some ⟨G,k*3+2,none⟩):=h18;have q0:=HC2.out w' hx;refine web_of_list 28 rfl (by simp[Act.put]) rfl ?_;go_wp2_with fail;exact⟨Ext.refl _,rfl⟩
   simp only[pS_,pN_,sA_,s0_,s1_];rw[mWalk];refine And.intro (λw' hx hd=>?_) ?_
   ·have h19:=hd 19 (by simp);clear hd;generalize us 19=u19 at *;obtain rfl:u19=.int .i64 fp:=h19;have hu:=HUP.out;refine web_of_list 29 rfl (by simp[Act.put]) rfl ?_;go_wp2_with fail;exact⟨Ext.refl _,rfl⟩
   simp only[pS_,pN_,sA_,s0_,s1_];rw[mWalk];refine And.intro (λw' hx hd=>?_) ?_
   ·have h20:=hd 20 (by simp);clear hd;generalize us 20=u20 at *;obtain rfl:u20=.int .u64 fp:=h20;refine web_of_list 30 rfl (by simp[Act.put]) rfl ?_;go_wp2_with (go_at_call 85;refine(rput_8 fp _ HP0.out.1 (by have:=HP0.out.2;omega)).mono ?_;rintro e w2 ⟨rfl,x2⟩)
    first|exact⟨x2,rfl⟩|exact rfl
   simp only[pS_,pN_,sA_,s0_,s1_];rw[mWalk];refine And.intro (λw' hx hd=>?_) ?_
   ·have h15:=hd 15 (by simp);have h21:=hd 21 (by simp);clear hd;generalize us 15=u15 at *;generalize us 21=u21 at *;obtain rfl:u15=.string (str (P++[b8 fk]++putL fn 8)):=h15;obtain rfl:u21=.string (str (putL fp 8)):=h21;have hp8:=putL_len fn 8;have hp9:=putL_len fp 8;refine web_of_list 31 rfl (by simp[Act.put]) rfl ?_;go_wp2_with fail;exact⟨Ext.refl _,rfl⟩
   simp only[pS_,pN_,sA_,s0_,s1_];rw[mWalk];intro w' hx hv;have h22:=hv 22 (by omega);clear hv;generalize us 22=u22 at *;obtain rfl:u22=.string (str (P++[b8 fk]++putL fn 8++putL fp 8)):=h22;go_wp2_with fail;go_roundw;case rel=>exact⟨k+1,by omega,by go_num,by rw[HT.out,HFD.out];simp[List.append_assoc],xk.trans hx⟩
   case measure=>simp[intOf];omega
  ·obtain rfl:k=8:=by omega
   have HT:=lh_ (show fdsT y=(List.range 8).flatMap (fdT y) from rfl);generalize (List.range 8).flatMap (fdT y)=P at *;go_wp2_with fail;go_ret;exact⟨by rw[HT.out];rfl,x0.trans xk⟩
theorem pr_cpuC (p:PrT):∀j v,(cpuC p)[j]? =some v->(prL p).toArray[3+j]? =some v:=λj v hv=>by
 have hj:j<17:=by have:=(List.getElem?_eq_some_iff.1 hv).1;exact this
 rw[List.getElem?_toArray];have e:(prL p).drop 3=cpuC p++(spaceL p++fdsL p++[.bool p.mask,.int .u32 p.code,.int .i64 p.why,.int .u64 p.num]):=rfl;rw[← List.getElem?_drop,e,List.getElem?_append_left (by exact hj)];exact hv
theorem cpuCSz:(prog.info? 48).map (·.size)=some 17:=by kernel_rfl
section
variable {ops:Array Oper}{rest:List Oper}{o:Oper}{a:Act}{w:World}{Q:Exit->Act->World->Prop}
theorem wp_ld_cpuC (x:Operand) (hgd:o.guard=none) (ho:o.op=.load 48 x) (g:Nat) (t:TypeId) (p:PrT) (hx:a.eval x=.pointer (some ⟨g,3,none⟩))
  (hb:Box w g t (prL p).toArray) (hK:wpList prog ops Q rest (a.put o.dst (.agg (cpuC p).toArray)) w):wpList prog ops Q (o::rest) a w :=
 wpList_load_mid hgd _ x ho g 3 hx _ _ (box_range hb (pr_cpuC p)) underlying48 rfl (by exact cpuCSz) hK
end
theorem rprocT_any (y:PrT) (w:World) (hf:PrFit y) :
  Calls prog 83 #[.agg (prL y).toArray] w λe w'=>e=.returned (.string (str (procT y)))/\Ext w w':=by
 have HF:=lh_ hf;have HSum:=lh_ (show sumL (procL y)<=1000000000 by
  have:=sumL_few 136 (procL y) (procL_few hf);rw[procL_len]at this;omega)
 have HUC:=lh_ (show IntKind.u64.wrap y.code=y.code by rw[IntKind.wrap_u64];have:=hf.code;omega);clear hf;go_enter func83,ntmps83;go_upto_region 1 with fail;have bC:=Box.new w 57 (prL y).toArray;have xC:Ext w (w.alloc (.cells (prL y).toArray 57)):=(Ext.refl w).alloc _;change Code.wp _ _ _ _ (w.alloc (.cells (prL y).toArray 57));generalize w.alloc (.cells (prL y).toArray 57)=w0 at bC xC ⊢;generalize w.heap.size=G at bC ⊢;refine wp_region_known 31 [[],[0],[1],[],[3],[4],[],[6],[7],[],[9],[10],[],[12],[13],[],[15],[16],[],[18],[19],[],[21],[22],[23],[],[25],[26],[],[28],[29],[2,5,8,11,14,17,20,24,27,30]] [(.pointer (some ⟨G,0,none⟩)),(.int .i64 y.pid),(.string (str (Lib.itoa y.pid))),(.pointer (some ⟨G,1,none⟩)),(.int .i64 y.parent),(.string (str (Lib.itoa y.parent))),(.pointer (some ⟨G,2,none⟩)),(.int .i64 y.state),(.string (str (Lib.itoa y.state))),(.pointer (some ⟨G,3,none⟩)),(.agg (cpuC y).toArray),(.string (str (cpuT y))),(.pointer (some ⟨G,20,none⟩)),(.agg (spaceL y).toArray),(.string (str (spaceT y))),(.pointer (some ⟨G,68,none⟩)),(.agg (fdsL y).toArray),(.string (str (fdsT y))),(.pointer (some ⟨G,92,none⟩)),(.bool y.mask),(.string (str (flagT y.mask))),(.pointer (some ⟨G,93,none⟩)),(.int .u32 y.code),(.int .u64 y.code),(.string (str (putL y.code 4))),(.pointer (some ⟨G,94,none⟩)),(.int .i64 y.why),(.string (str (Lib.itoa y.why))),(.pointer (some ⟨G,95,none⟩)),(.int .u64 y.num),(.string (str (putL y.num 8)))] (by kernel_rfl) (by kernel_rfl) rfl ?_;simp only[List.take_succ_cons,List.take_zero,List.drop_succ_cons,List.drop_zero]
 iterate 2
  refine vW rfl (by simp[Act.put]) (λw' hx=>?_) ?_
  ·have c0:w'.cell? ⟨G,0,none⟩=some (.int .i64 y.pid):=(bC.ext hx).cell 0;go_wp2_with fail;exact Ext.refl _
  simp only[pS_,pN_,sA_,s0_,s1_]
 refine vW rfl (by simp[Act.put]) (λw' hx=>?_) ?_
 ·go_wp2_with (go_at_call 86;refine(rdecT_any y.pid _ HF.out.pid).mono ?_;rintro e w2 ⟨rfl,x2⟩)
 simp only[pS_,pN_,sA_,s0_,s1_]
 iterate 2
  refine vW rfl (by simp[Act.put]) (λw' hx=>?_) ?_
  ·have c0:w'.cell? ⟨G,1,none⟩=some (.int .i64 y.parent):=(bC.ext hx).cell 1;go_wp2_with fail;exact Ext.refl _
  simp only[pS_,pN_,sA_,s0_,s1_]
 refine vW rfl (by simp[Act.put]) (λw' hx=>?_) ?_
 ·go_wp2_with (go_at_call 86;refine(rdecT_any y.parent _ HF.out.parent).mono ?_;rintro e w2 ⟨rfl,x2⟩)
 simp only[pS_,pN_,sA_,s0_,s1_]
 iterate 2
  refine vW rfl (by simp[Act.put]) (λw' hx=>?_) ?_
  ·have c0:w'.cell? ⟨G,2,none⟩=some (.int .i64 y.state):=(bC.ext hx).cell 2;go_wp2_with fail;exact Ext.refl _
  simp only[pS_,pN_,sA_,s0_,s1_]
 refine vW rfl (by simp[Act.put]) (λw' hx=>?_) ?_
 ·go_wp2_with (go_at_call 86;refine(rdecT_any y.state _ HF.out.state).mono ?_;rintro e w2 ⟨rfl,x2⟩)
 simp only[pS_,pN_,sA_,s0_,s1_];refine vW rfl (by simp[Act.put]) (λw' hx=>?_) ?_
 ·go_wp2_with fail;exact Ext.refl _
 simp only[pS_,pN_,sA_,s0_,s1_];refine vW rfl (by simp[Act.put]) (λw' hx=>?_) ?_
 ·have b':=bC.ext hx;go_wp2_with (refine wp_ld_cpuC _ rfl rfl G _ y rfl b' ?_)
  exact Ext.refl _
 simp only[pS_,pN_,sA_,s0_,s1_];refine vW rfl (by simp[Act.put]) (λw' hx=>?_) ?_
 ·go_wp2_with (go_at_call 153;refine(rcpuT_any y _ HF.out).mono ?_;rintro e w2 ⟨rfl,x2⟩)
 simp only[pS_,pN_,sA_,s0_,s1_];refine vW rfl (by simp[Act.put]) (λw' hx=>?_) ?_
 ·go_wp2_with fail;exact Ext.refl _
 simp only[pS_,pN_,sA_,s0_,s1_];refine vW rfl (by simp[Act.put]) (λw' hx=>?_) ?_
 ·have b':=bC.ext hx;go_wp2_with (refine wp_ld_space _ rfl rfl G _ y rfl b' ?_)
  exact Ext.refl _
 simp only[pS_,pN_,sA_,s0_,s1_];refine vW rfl (by simp[Act.put]) (λw' hx=>?_) ?_
 ·go_wp2_with (go_at_call 154;refine(rspaceT_any y _ HF.out).mono ?_;rintro e w2 ⟨rfl,x2⟩)
 simp only[pS_,pN_,sA_,s0_,s1_];refine vW rfl (by simp[Act.put]) (λw' hx=>?_) ?_
 ·go_wp2_with fail;exact Ext.refl _
 simp only[pS_,pN_,sA_,s0_,s1_];refine vW rfl (by simp[Act.put]) (λw' hx=>?_) ?_
 ·have b':=bC.ext hx;go_wp2_with (refine wp_ld_fds _ rfl rfl G _ y rfl b' ?_)
  exact Ext.refl _
 simp only[pS_,pN_,sA_,s0_,s1_];refine vW rfl (by simp[Act.put]) (λw' hx=>?_) ?_
 ·go_wp2_with (go_at_call 155;refine(rfdsT_any y _ HF.out).mono ?_;rintro e w2 ⟨rfl,x2⟩)
 simp only[pS_,pN_,sA_,s0_,s1_]
 iterate 2
  refine vW rfl (by simp[Act.put]) (λw' hx=>?_) ?_
  ·have c0:w'.cell? ⟨G,92,none⟩=some (.bool y.mask):=(bC.ext hx).cell 92;go_wp2_with fail;exact Ext.refl _
  simp only[pS_,pN_,sA_,s0_,s1_]
 refine vW rfl (by simp[Act.put]) (λw' hx=>?_) ?_
 ·go_wp2_with (go_at_call 87;refine(rflagT_any y.mask _).mono ?_;rintro e w2 ⟨rfl,x2⟩)
 simp only[pS_,pN_,sA_,s0_,s1_]
 iterate 3
  refine vW rfl (by simp[Act.put]) (λw' hx=>?_) ?_
  ·have c0:w'.cell? ⟨G,93,none⟩=some (.int .u32 y.code):=(bC.ext hx).cell 93;have hu:=HUC.out;go_wp2_with fail;exact Ext.refl _
  simp only[pS_,pN_,sA_,s0_,s1_]
 refine vW rfl (by simp[Act.put]) (λw' hx=>?_) ?_
 ·go_wp2_with (go_at_call 85;refine(rput_4 y.code _ HF.out.code.1 (by have:=HF.out.code.2;omega)).mono ?_;rintro e w2 ⟨rfl,x2⟩)
 simp only[pS_,pN_,sA_,s0_,s1_]
 iterate 2
  refine vW rfl (by simp[Act.put]) (λw' hx=>?_) ?_
  ·have c0:w'.cell? ⟨G,94,none⟩=some (.int .i64 y.why):=(bC.ext hx).cell 94;go_wp2_with fail;exact Ext.refl _
  simp only[pS_,pN_,sA_,s0_,s1_]
 refine vW rfl (by simp[Act.put]) (λw' hx=>?_) ?_
 ·go_wp2_with (go_at_call 86;refine(rdecT_any y.why _ HF.out.why).mono ?_;rintro e w2 ⟨rfl,x2⟩)
 simp only[pS_,pN_,sA_,s0_,s1_]
 iterate 2
  refine vW rfl (by simp[Act.put]) (λw' hx=>?_) ?_
  ·have c0:w'.cell? ⟨G,95,none⟩=some (.int .u64 y.num):=(bC.ext hx).cell 95;go_wp2_with fail;exact Ext.refl _
  simp only[pS_,pN_,sA_,s0_,s1_]
 refine vW rfl (by simp[Act.put]) (λw' hx=>?_) ?_
 ·go_wp2_with (go_at_call 85;refine(rput_8 y.num _ HF.out.num.1 HF.out.num.2).mono ?_;rintro e w2 ⟨rfl,x2⟩)
 simp only[pS_,pN_,sA_,s0_,s1_];rw[vWalk];intro wq hxq;refine row_step (n:=10) (T:=9) (cs:=#[.string (str (Lib.itoa y.pid)),.string (str (Lib.itoa y.parent)),.string (str (Lib.itoa y.state)),.string (str (cpuT y)),.string (str (spaceT y)),.string (str (fdsT y)),.string (str (flagT y.mask)),.string (str (putL y.code 4)),.string (str (Lib.itoa y.why)),.string (str (putL y.num 8))]) rfl (by simp[Act.put]) rfl ?_ (λg34 w' hxw bg34=>?_)
 ·go_wp2_with fail;exact⟨(Ext.refl wq).alloc _,_,rfl,Box.new _ _ _⟩
 simp only[pS_,pN_,sA_,s0_,s1_];have hx:=hxq.trans hxw;clear hxq hxw;have HS:=lh_ (strs_ofBox (ss:=procL y) bg34);clear bg34;go_wp2_with (go_at_call 84;refine(rrow_any (some ⟨g34,0,none⟩) 10 10 (procL y) _ HS.out HSum.out (by decide)).mono ?_;rintro e w2 ⟨rfl,x2⟩)
 go_ret;exact⟨rfl,(xC.trans hx).trans x2⟩
end Go.Proofs.YtfaplefkakpgcaaGreatDoor
