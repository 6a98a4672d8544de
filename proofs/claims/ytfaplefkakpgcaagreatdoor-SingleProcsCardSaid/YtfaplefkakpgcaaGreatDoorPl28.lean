import Derived.Test.YtfaplefkakpgcaaGreatDoorPl26
import Derived.Test.YtfaplefkakpgcaaGreatDoorPl27
set_option linter.unusedVariables false
set_option linter.unusedSimpArgs false
set_option maxHeartbeats 32000000
set_option maxRecDepth 100000
namespace Go.Proofs.YtfaplefkakpgcaaGreatDoor
open Go.Proofs.Tryz
open Go.RowKit
theorem TF (l:List (List UInt8)):l.flatMap Nv=Q5 l:=by
 unfold Q5 Nv;induction l with
 | nil=>rfl
 | cons a l ih=>rw[bL,ih];rfl
theorem Dv {a b:QF}(h0:a.pid=b.pid) (h1:a.parent=b.parent) (h2:a.state=b.state) (h3:∀i<16,a.reg i=b.reg i) (h4:a.pc=b.pc) (h5:∀i<16,a.pis i=b.pis i/\a.pwr i=b.pwr i/\a.pfr i=b.pfr i) (h6:∀i<8,a.fk i=b.fk i/\a.fn i=b.fn i/\a.fp i=b.fp i)
  (h7:a.mask=b.mask) (h8:a.code=b.code) (h9:a.why=b.why) (GL:a.num=b.num):Qq a=Qq b:=by
 unfold Qq;have e1:(List.range 16).map (λi=>Value.int .u32 (a.reg i))=(List.range 16).map (λi=>Value.int .u32 (b.reg i)):=zQ (λi hi=>by rw[h3 i (Mo.1 hi)]);have e2:(List.range 16).flatMap (Kf a)=(List.range 16).flatMap (Kf b):=by rw[fq,fq];congr 1;apply zQ;intro i hi;obtain⟨k1,k2,k3⟩:=h5 i (Mo.1 hi);unfold Kf;rw[k1,k2,k3]
 have e3:(List.range 8).flatMap (GH a)=(List.range 8).flatMap (GH b):=by rw[fq,fq];congr 1;apply zQ;intro i hi;obtain⟨k1,k2,k3⟩:=h6 i (Mo.1 hi);unfold GH;rw[k1,k2,k3]
 rw[h0,h1,h2,e1,h4,e2,e3,h7,h8,h9,GL]
def QF.setPte (q:QF) (i:Nat) (b w:Bool) (f:Int):QF:={ q with pis:=λj=>if j=i then b else q.pis j,pwr:=λj=>if j=i then w else q.pwr j,pfr:=λj=>if j=i then f else q.pfr j }
theorem BC (q:QF) (i:Nat) (hi:i<16) (b w:Bool) (f:Int):Mc (Qq q).toArray (20+i*3) [.bool b,.bool w,.int .i64 f]=(Qq (q.setPte i b w f)).toArray:=by
 rcases(by omega:i=0\/i=1\/i=2\/i=3\/i=4\/i=5\/i=6\/i=7\/i=8\/i=9\/i=10\/i=11\/i=12\/i=13\/i=14\/i=15) with rfl|rfl|rfl|rfl|rfl|rfl|rfl|rfl|rfl|rfl|rfl|rfl|rfl|rfl|rfl|rfl<;>kernel_rfl
theorem LI {y:QF}{next:Int}{free:List Nat}{F:Nat->Int × Int × Int}{j:Nat}(h:y.pis j=true):Qq ((JI y next free F j).setPte j true (y.pwr j) ((free.getD (QL y j) 0:Nat):Int))=Qq (JI y next free F (j+1)):=by
 refine Dv rfl rfl rfl (λ_ _=>rfl) rfl (λi _=>?_) (λ_ _=>⟨rfl,rfl,rfl⟩) rfl rfl rfl rfl;unfold JI QF.setPte;simp only;by_cases e:i=j
 ·subst e;simp[h]
 ·rw[QD e,QD e,QD e];have e1:(i<j+1)↔i<j:=by omega
  simp[e1]
theorem LJ {y:QF}{next:Int}{free:List Nat}{F:Nat->Int × Int × Int}{j:Nat}(h:y.pis j=false):Qq (JI y next free F j)=Qq (JI y next free F (j+1)):=by
 refine Dv rfl rfl rfl (λ_ _=>rfl) rfl (λi _=>?_) (λ_ _=>⟨rfl,rfl,rfl⟩) rfl rfl rfl rfl;unfold JI;simp only;by_cases e:i=j
 ·subst e;simp[h]
 ·have e1:(i<j+1)↔i<j:=by omega
  simp[e1]
def Cs (p:QF):List Value:=(List.range 16).map (λi=>.int .u32 (p.reg i))++[.int .u32 p.pc]
theorem um (p:QF):∀j v,(Cs p)[j]? =some v->(Qq p).toArray[3+j]? =some v:=λj v hv=>by
 have hj:j<17:=by have:=(Ax.1 hv).1;exact this
 rw[MR];have e:(Qq p).drop 3=Cs p++(Jw p++Jf p++[.bool p.mask,.int .u32 p.code,.int .i64 p.why,.int .u64 p.num]):=rfl;rw[←EM,e,iM (by exact hj)];exact hv
theorem Qaf:(prog.info? 48).map (·.size)=some 17:=by kernel_rfl
section
variable {ops:Array Oper}{rest:List Oper}{o:Oper}{a:Act}{w:World}{Q:Exit->Act->World->Prop}
theorem fU (x:Operand) (J7:o.guard=none) (ho:o.op=.load 48 x) (g:Nat) (t:TypeId) (p:QF) (hx:a.eval x=.pointer (some ⟨g,3,none⟩))
  (hb:Box w g t (Qq p).toArray) (hK:wpList prog ops Q rest (a.put o.dst (.agg (Cs p).toArray)) w):wpList prog ops Q (o::rest) a w :=
 wpList_load_mid J7 _ x ho g 3 hx _ _ (Xe hb (um p)) underlying48 rfl (by exact Qaf) hK
end
theorem Zf.setFr {w:World}{B g i:Nat}{m:QO}{d:Qz}(h:Zf w B m d) (hA:m.fr.A=some ⟨g,0,none⟩) (r:List UInt8):Zf (w.setCell ⟨g,i,none⟩ (.string (Qb r))) B m { d with fr:=d.fr.set i r }:=by
 have hg:(Value.slice m.fr.A m.fr.n m.fr.c).ownBlock=some g:=by rw[hA];rfl
 have Jt:∀{e:TypeId}{z n:Nat}{v:Value}{xs:List Value},w.ownsRow B e z v n xs->9≠e->v.ownBlock≠some (⟨g,i,none⟩:Addr).block:=λ{e z n v xs} ho he hb=>by
  rcases ho.2 with⟨rfl,_⟩|⟨g2,cap,cur,rfl,_,h2,_⟩
  ·cases hb
  ·have e2:g2=g:=by simpa[Value.ownBlock]using hb
   subst e2;rcases h.fr.2 with⟨e1,_⟩|⟨g3,cap3,cur3,e1,_,h3,_⟩
   ·rw[e1]at hg;cases hg
   ·rw[e1]at hg;have e3:g3=g2:=by simpa[Value.ownBlock]using hg
    subst e3;rw[h2]at h3;injection h3 with h3;injection h3 with _ h3;exact he h3.symm
 have hfr:=h.fr;rw[TF,hA]at hfr;refine⟨?_,zS h.pr (Jt h.pr (by decide)) _,zS h.pi (Jt h.pi (by decide)) _,zS h.bl (h.apart g hg) _,zS h.pe (Jt h.pe (by decide)) _,zS h.di (Jt h.di (by decide)) _,by rw[Wft];exact h.frn,h.prn,h.pin,h.bln,h.pen,h.din,h.apart⟩;rw[TF,hA];exact UL hfr r
theorem jo {a b c:Value}:(prog.info? 24).map (·.size)=some (#[a,b,c]:Array Value).size:=by kernel_rfl
theorem N2 (w:World) :
  Calls prog 27 #[.agg #[.slice none 0 0,.slice none 0 0,.string ⟨#[]⟩]] w λe w'=>e=.returned (.tuple #[.agg QB.cells,.int .i64 3])/\Ext w w':=by
 have HR:=Qa (λw=>NJ [] w (by decide) (by decide));have x0:=((Qg w).alloc (.cells #[.slice none 0 0,.slice none 0 0,.string (Qb [])] 24)).alloc (.cells QB.cells 38);have bx:=(Qs w 24 #[.slice none 0 0,.slice none 0 0,.string (Qb [])]).ext ((Qg _).alloc (.cells QB.cells 38));have br:=Qs (w.alloc (.cells #[.slice none 0 0,.slice none 0 0,.string (Qb [])] 24)) 38 QB.cells;rw[YB]at br;go_enter func27,ntmps27;go_upto_region 1 with fail;change Code.wp _ _ _ _ ((w.alloc (.cells #[.slice none 0 0,.slice none 0 0,.string (Qb [])] 24)).alloc (.cells QB.cells 38));generalize (w.alloc (.cells #[.slice none 0 0,.slice none 0 0,.string (Qb [])] 24)).alloc (.cells QB.cells 38)=w0 at x0 bx br ⊢;obtain⟨G,hG⟩:∃G,G=w.heap.size:=⟨_,rfl⟩
 rw[←hG]at bx br ⊢;have HG:=Qa hG;clear hG;have q2:w0.cell? ⟨G,2,none⟩=some (.string (Qb [])):=bx.cell 2
 go_upto_region 2 with(first
  | (go_at_call 68;refine(HR.o _).mono ?_;rintro e w1 ⟨rfl,x1⟩)
  | (refine Qr _ _ rfl rfl w1.heap.size QB _ _ rfl rfl (Qs _ _ _) rfl ?_;intro w2 b2 g2))
 have y2:Ext w1 w2:=((Qg w1).alloc _).grown g2 (λj e=>by cases e;exact Q4 _);have Sf:=br.ext (x1.trans y2);go_wp2_with (refine Qr _ _ rfl rfl (G+1) QB _ _ rfl rfl Sf rfl ?_;intro w9 b9 g9)
 exact Jv (Qd rfl _ _ (G+1) _ _ _ _ rfl rfl b9 underlying38 rfl J1) rfl ⟨rfl,(x0.trans (x1.trans y2)).grown g9 (λj e=>by cases e;rw[←HG.o];exact WQ _)⟩
theorem Hw (b:List UInt8):(Qv b).2=0->((Qv b).1.map (λt=>t.length+1)).sum<=b.length:=by
 induction hn:b.length using Nat.strongRecOn generalizing b with
 | ind n ih =>
  subst hn;intro h;by_cases hb:b=[]
  ·subst hb;rw[UU];simp
  ·rw[Yf b hb]at h ⊢;split at h
   ·rename_i h1;exact absurd h h1
   ·rename_i h1;rw[QD h1];split at h
    ·simp at h
    ·rename_i h2;rw[QD h2];split at h
     ·rename_i h3;exact absurd h h3
     ·rename_i h3;rw[QD h3];have hu:=Xu b (by simpa using h1);have hl:0<b.length:=sx.2 hb;have k:=ih _ (by simp only[Nx];omega) ((b.drop (Qm b).2.1).drop (Qm b).1) rfl (by simpa using h3);simp only[P4,na,MT,Nx]at k h2 ⊢;omega
theorem UD {s:List UInt8}{v:Int}(h:QZ s=some v):Up v/\Lib.itoa v=s:=by
 unfold QZ at h;split at h
 ·rename_i n hp;split at h
  ·rename_i e;injection h with h;subst h;exact⟨N6 hp,e⟩
  ·cases h
 ·cases h
theorem jv (v:Int):0<(Lib.itoa v).length:=by
 unfold Lib.itoa;split
 ·simp
 ·exact sx.2 (WW _)
theorem YI {z:Option Nat}{s:List UInt8}{l:List (List UInt8)}(h:Ql z s=some l):Qv s=(l,0):=by
 unfold Ql at h;split at h
 ·rename_i k;injection h with h;rw[←h];exact Prod.ext rfl k.1
 ·cases h
theorem DR {s:List UInt8}{y:ZY}(h:Jm s=some y):3<=s.length:=by
 obtain⟨a,h1,h2⟩:=DQ h;have h3:=Hw s (by rw[YI h1]);rw[YI h1]at h3;have h4:=jv y.1;rw[(UD h2).2]at h4;simp only[P4,Gz,na,zf]at h3;omega
theorem Tu {α β:Type} {f:α->Option β}:∀{l:List α}{l':List β},Zp f l=some l'->l'.length=l.length/\∀y∈l',∃x∈l,f x=some y
 | [],l',h=>by injection h with h;subst h;exact⟨rfl,λy hy=>by cases hy⟩
 | x::l,l',h=>by
  rw[Zp]at h;obtain⟨y,h1,h2⟩:=Jk h;obtain⟨t,h3,h4⟩:=WG h2;subst h4;obtain⟨k1,k2⟩:=Tu h3;refine⟨by simp[k1],λz hz=>?_⟩;rcases Pm.1 hz with rfl|hz
  ·exact⟨x,Gq,h1⟩
  ·obtain⟨u,hu,e⟩:=k2 z hz;exact⟨u,EL _ hu,e⟩
theorem Ce {α β:Type} {f:α->Option β}:∀{l:List α}{l':List β},Zp f l=some l'->∀x∈l,∃y,f x=some y
 | [],_,_=>λx hx=>by cases hx
 | x::l,l',h=>by
  rw[Zp]at h;obtain⟨y,h1,h2⟩:=Jk h;obtain⟨t,h3,_⟩:=WG h2;intro u hu;rcases Pm.1 hu with rfl|hu
  ·exact⟨y,h1⟩
  ·exact Ce h3 u hu
theorem B8:∀l:List (List UInt8),(∀t∈l,3<=t.length)->4*l.length<=(l.map (λt=>t.length+1)).sum
 | [],_=>by simp
 | t::l,h=>by have h1:=h t Gq;have h2:=B8 l (λx hx=>h x (EL _ hx));simp only[XN,P4,na];omega
theorem UW {s:List UInt8}{l:List ZY}(h:QK s=some l):4*l.length<=s.length:=by
 unfold QK at h;obtain⟨T,h1,h2⟩:=Jk h;have h3:=Hw s (by rw[YI h1]);rw[YI h1]at h3;have h4:=B8 T (λt ht=>by
  obtain⟨y,hy⟩:=Ce h2 t ht;exact DR hy)
 rw[(Tu h2).1];exact YR h4 h3
theorem TY {z:Nat}{s:List UInt8}{n:Int}(h:ZF z s=some n):0<=n/\n<((256^z:Nat):Int):=by
 unfold ZF at h;split at h
 ·rename_i hl;injection h with h;subst h;have:=TX s;rw[hl]at this;omega
 ·cases h
theorem eL {s:List UInt8}{y:QF}(h:JV s=some y):(∀i<16,0<=y.reg i/\y.reg i<4294967296)/\(0<=y.pc/\y.pc<4294967296)/\(0<=y.code/\y.code<4294967296)/\(0<=y.num/\y.num<18446744073709551616):=by
 obtain⟨t0,t1,t2,t3,t4,t5,t6,t7,t8,t9,pid,par,st,mask,code,why,num,_,_,_,_,_,_,_,_,h7,_,h9,rfl⟩:=Bw h;have e4:((256^4:Nat):Int)=4294967296:=by decide
 have e8:((256^8:Nat):Int)=18446744073709551616:=by decide
 have k7:=TY h7;have k9:=TY h9;rw[e4]at k7;rw[e8]at k9;refine⟨λi _=>?_,?_,k7,k9⟩
 ·have:=N4 t3 (4*i) 4;rw[e4]at this;exact this
 ·have:=N4 t3 64 4;rw[e4]at this;exact this
structure ql (s:List UInt8) (z:QO) (e:Qz):Prop where
 fit:KF z e
 dwf:(Lit.int .i64 z.dleft).wf=true
 prl:e.pr.length<=s.length
 pil:e.pi.length<=s.length
 pel:e.pe.length<=s.length
 dil:e.di.length<=s.length
 pe4:4*e.pe.length<=s.length
 pi4:4*e.pi.length<=s.length
 initl:z.init.length<=s.length
 innl:z.inn.length<=s.length
theorem Uk {s:List UInt8}{z:QO}{e:Qz}(h:Ye s=some (z,e)):ql s z e:=by
 obtain⟨t1,t2,t3,t4,t5,t6,t7,t8,t9,t10,t11,t12,t13,t14,t15,p0,p1,p2,p3,p4,p5,p6,p7,p8,p9,p10,p11,p12,p13,p14,p15,r1,r2,r3,r4,r5,r6,_,_⟩:=PG h;have hf:=Zd p0;have e8:((256^8:Nat):Int)=18446744073709551616:=by decide
 have k1:=TY p1;have Mb:=TY p10;rw[e8]at k1 Mb;have Sw:=UW p12;have h13:=UW p13;have oZ:=UW p14;have f6:=hf t6 (by simp);have f8:=hf t8 (by simp);have f12:=hf t12 (by simp);have f13:=hf t13 (by simp);have f14:=hf t14 (by simp);have f15:=hf t15 (by simp);obtain⟨T,q1,q2⟩:=Jk p15;have hT:=(YL t15).1;rw[YI q1]at hT;have hT2:=(Tu q2).1;have AA:=(UD p11).1;refine⟨⟨k1,Mb,AA,(UD p3).1,λy hy=>?_⟩,?_,by simp only at hT;omega,by omega,by omega,by omega,by omega,by omega,by rw[p6];exact f6,by rw[p8];exact f8⟩
 ·obtain⟨x,_,hx⟩:=(Tu q2).2 y hy;exact eL hx
 ·unfold Up at AA;have e1:IntKind.i64.min= -9223372036854775808:=by decide
  have e2:IntKind.i64.max=9223372036854775807:=by decide
  unfold Lit.wf;simp only[Vg,MS,e1,e2];exact AA
theorem BK {s:List UInt8}{p:QO × Qz}(h:Ye s=some p) (hs:s.length<=4000):p.2.pe.length<=1000:=by
 obtain⟨z,e⟩:=p;have:=(Uk h).pe4;show e.pe.length<=1000;omega
theorem NX {p q:Prop}(h:p↔q) (c:Int):Xo p c=Xo q c:=by rw[propext h]
theorem dm {m z:QO}(s:Zv z m):YU z↔YU m:=by
 constructor<;>intro h
 ·exact⟨by rw[←s.quantum];exact h.quantum,by rw[←s.left,←s.quantum];exact h.left,by rw[←s.cur];exact h.cur,by rw[←s.next];exact h.next,by rw[←s.newPipe];exact h.newPipe⟩
 ·exact⟨by rw[s.quantum];exact h.quantum,by rw[s.left,s.quantum];exact h.left,by rw[s.cur];exact h.cur,by rw[s.next];exact h.next,by rw[s.newPipe];exact h.newPipe⟩
theorem IA {m z:QO}{d:Qz}(s:Zv z m) (hf:z.fr.n=m.fr.n):Zg z d d.pr.length↔Zg m d d.pr.length:=by
 constructor<;>intro h i hi hk<;>obtain⟨a,b⟩:=h i hi hk
 ·exact⟨⟨by rw[←s.next];exact a.pid,a.state,a.reg,a.par,a.why,a.code,λj hj=>by have:=a.page j hj;unfold KV at *;rw[←hf];exact this,a.fd⟩,b⟩
 ·exact⟨⟨by rw[s.next];exact a.pid,a.state,a.reg,a.par,a.why,a.code,λj hj=>by have:=a.page j hj;unfold KV at *;rw[hf];exact this,a.fd⟩,b⟩
theorem Iq {m z:QO}{l:List ZY}(s:Zv z m):Zo z l l.length↔Zo m l l.length:=by
 unfold Zo;rw[s.newPipe]
theorem Fl {m z:QO}{d:Qz}(s:Zv z m) (hf:z.fr.n=m.fr.n) (hr:z.pr.n=m.pr.n) (hp:z.pi.n=m.pi.n):Zk z d=Zk m d:=by
 unfold Zk Kc E2 DX Io gO;rw[NX (dm s),hf,hr,hp,NX (IA s hf),NX (Iq s),s.inn,s.init]
theorem Ww {m z:QO}{d d':Qz}(h:KF m d) (s:Zv z m) (hd:d'.pr=d.pr):KF z d' :=
 ⟨by rw[s.clock];exact h.clock,by rw[s.told];exact h.told,by rw[s.dleft];exact h.dleft,by rw[s.cur];exact h.cur,by rw[hd];exact h.pr⟩
def JY (FB BB:List (List UInt8)) (e:Qz):Qz:={ e with fr:=FB,bl:=BB }
def jn (z:QO) (d:Qz):QO:={ z with fr:=⟨none,d.fr.length,0⟩,pr:=⟨none,d.pr.length,0⟩,pi:=⟨none,d.pi.length,0⟩ }
noncomputable def V7 (FB BB:List (List UInt8)) (s:List UInt8):Int:=match Ye s with
 | none=>3
 | some (z,e)=>GX (Zk (jn z (JY FB BB e)) (JY FB BB e)) (if Z7 z (JY FB BB e)=s then 0 else 3)
def Wd (FB BB:List (List UInt8)) (s:List UInt8) (w:World) (e:Ending) (w':World):Prop :=
 (V7 FB BB s≠0/\e=.returned (.tuple #[.agg QB.cells,.int .i64 (V7 FB BB s)])/\Ext w w')\/
 (V7 FB BB s=0/\∃z0 e0 z,Ye s=some (z0,e0)/\e=.returned (.tuple #[.agg z.cells,.int .i64 0])/\Ext w w'/\Zv z z0/\Q0 w' z (JY FB BB e0)/\Z3 z (JY FB BB e0)/\KF z (JY FB BB e0)/\Z7 z (JY FB BB e0)=s)
theorem jm (fr bl:Sl) (FB BB:List (List UInt8)) (s:List UInt8) (w:World) (hs:s.length<=4000) (hq:Ye s=none) (hD0:ZG w) :
  Calls prog 27 #[.agg #[.slice fr.A fr.n fr.c,.slice bl.A bl.n bl.c,.string (Qb s)]] w (Wd FB BB s w):=by
 have HR:=Qa (λw hD=>(T9 s w (by omega) hD).mono (λe w' k=>by rw[hq]at k;exact(k:e=.returned (.tuple #[.agg QB.cells,.bool false])/\Ext w w')));have x0:=((Qg w).alloc (.cells #[.slice fr.A fr.n fr.c,.slice bl.A bl.n bl.c,.string (Qb s)] 24)).alloc (.cells QB.cells 38);have bx:=(Qs w 24 #[.slice fr.A fr.n fr.c,.slice bl.A bl.n bl.c,.string (Qb s)]).ext ((Qg _).alloc (.cells QB.cells 38));have br:=Qs (w.alloc (.cells #[.slice fr.A fr.n fr.c,.slice bl.A bl.n bl.c,.string (Qb s)] 24)) 38 QB.cells;rw[YB]at br;have HD:=Qa (hD0.ext x0);have HE:=Qa (show V7 FB BB s=3 by unfold V7;rw[hq]);clear hD0 hq hs;go_enter func27,ntmps27;go_upto_region 1 with fail;change Code.wp _ _ _ _ ((w.alloc (.cells #[.slice fr.A fr.n fr.c,.slice bl.A bl.n bl.c,.string (Qb s)] 24)).alloc (.cells QB.cells 38));generalize (w.alloc (.cells #[.slice fr.A fr.n fr.c,.slice bl.A bl.n bl.c,.string (Qb s)] 24)).alloc (.cells QB.cells 38)=w0 at x0 bx br HD ⊢;obtain⟨G,hG⟩:∃G,G=w.heap.size:=⟨_,rfl⟩
 rw[←hG]at bx br ⊢;have HG:=Qa hG;clear hG;have q2:w0.cell? ⟨G,2,none⟩=some (.string (Qb s)):=bx.cell 2
 go_upto_region 2 with(first
  | (go_at_call 68;refine(HR.o _ HD.o).mono ?_;rintro e w1 ⟨rfl,x1⟩)
  | (refine Qr _ _ rfl rfl w1.heap.size QB _ _ rfl rfl (Qs _ _ _) rfl ?_;intro w2 b2 g2))
 have y2:Ext w1 w2:=((Qg w1).alloc _).grown g2 (λj e=>by cases e;exact Q4 _);have Sf:=br.ext (x1.trans y2);go_wp2_with (refine Qr (.tmp 2) _ rfl rfl (G+1) QB _ _ rfl rfl Sf rfl ?_;intro w9 b9 g9)
 refine Jv (Qd rfl _ _ (G+1) _ _ _ _ rfl rfl b9 underlying38 rfl J1) rfl (.inl ⟨by rw[HE.o];decide,by rw[HE.o];rfl,(x0.trans (x1.trans y2)).grown g9 (λj e=>by cases e;rw[←HG.o];exact WQ _)⟩)
theorem SI (fr bl:Sl) (FB BB:List (List UInt8)) (s:List UInt8) (z:QO) (e0:Qz) (w:World) (hF:Q6 Nv w fr.A fr.n FB) (GP:fr.ok) (dD:fr.n<=100000) (hB:Q6 Nv w bl.A bl.n BB) (N0:bl.ok) (hbs:bl.n<=100000)
  (hs:s.length<=4000) (hq:Ye s=some (z,e0)) (U8:e0.pe.length<=1000) (hD0:ZG w) :
  Calls prog 27 #[.agg #[.slice fr.A fr.n fr.c,.slice bl.A bl.n bl.c,.string (Qb s)]] w (Wd FB BB s w):=by
 have HR:=Qa (λw hD=>Dy s z e0 w hq (by omega) hD);have jV:=Uk hq;have Gn:=Qa (λw h=>Rz fr FB w h GP dD);have Pj:=Qa (λw h=>Rz bl BB w h N0 hbs);have x0:=((Qg w).alloc (.cells #[.slice fr.A fr.n fr.c,.slice bl.A bl.n bl.c,.string (Qb s)] 24)).alloc (.cells QB.cells 38);have bx:=(Qs w 24 #[.slice fr.A fr.n fr.c,.slice bl.A bl.n bl.c,.string (Qb s)]).ext ((Qg _).alloc (.cells QB.cells 38));have br:=Qs (w.alloc (.cells #[.slice fr.A fr.n fr.c,.slice bl.A bl.n bl.c,.string (Qb s)] 24)) 38 QB.cells;rw[YB]at br;have HD:=Qa (hD0.ext x0);have HF:=Qa (hF.ext x0);have HB:=Qa (hB.ext x0);have HFS:=Qa (show FB.length<=100000 by rw[←hF.1];exact dD);have HBS:=Qa (show BB.length<=100000 by rw[←hB.1];exact hbs);have HQ:=Qa hq;have mI:=Qa jV;have HS:=Qa hs;have gt:=Qa U8;obtain⟨OUT,NZ⟩:∃OUT,OUT=Wd FB BB s w:=⟨_,rfl⟩
 rw[←NZ];have HO:=Qa NZ;clear hF GP dD hB N0 hbs hs hq jV hD0 U8 NZ;go_enter func27,ntmps27;go_upto_region 1 with fail;change Code.wp _ _ _ _ ((w.alloc (.cells #[.slice fr.A fr.n fr.c,.slice bl.A bl.n bl.c,.string (Qb (s))] 24)).alloc (.cells QB.cells 38));generalize (w.alloc (.cells #[.slice fr.A fr.n fr.c,.slice bl.A bl.n bl.c,.string (Qb (s))] 24)).alloc (.cells QB.cells 38)=w0 at x0 bx br HD HF HB ⊢;obtain⟨G,hG⟩:∃G,G=w.heap.size:=⟨_,rfl⟩
 rw[←hG]at bx br ⊢;have HG:=Qa hG;clear hG;have hgr:G+1<w0.heap.size:=br.lt;have q2:w0.cell? ⟨G,2,none⟩=some (.string (Qb (s))):=bx.cell 2
 go_upto_region 2 with(first
  | (go_at_call 68;refine(HR.o _ HD.o).mono ?_;rintro e w1 ⟨pr,pi,pe,di,rfl,x1,n1,n2,n3,n4,dp,FX,NF,Tn⟩;have ff:=Qa n1;have Rs:=Qa n2;have sN:=Qa n3;have qa:=Qa n4;clear n1 n2 n3 n4)
  | (refine Qr _ _ rfl rfl w1.heap.size ({ z with pr:=pr,pi:=pi,pe:=pe,di:=di }:QO) _ _ rfl rfl (Qs _ _ _) rfl ?_;intro w2 b2 g2))
 have y2:Ext w1 w2:=((Qg w1).alloc _).grown g2 (λj e=>by cases e;exact Q4 _);have X2:=x1.trans y2;have hgM:w0.heap.size<=w1.heap.size:=x1.size;replace dp:=Qc dp y2;replace FX:=Qc FX y2;replace NF:=Qc NF y2;replace Tn:=Qc Tn y2;clear y2 g2 x1 q2 HR;generalize w1.heap.size=gM at *;clear w1;have q0:w2.cell? ⟨G,0,none⟩=some (.slice fr.A fr.n fr.c):=(bx.ext X2).cell 0
 go_upto_region 5 with(first
  | (go_at_call 53;refine(Gn.o _ (HF.o.ext X2)).mono ?_;rintro e w3 ⟨A1,c1,rfl,o3,x3⟩)
  | (refine QJ _ _ _ rfl rfl gM 4 _ _ ({ z with pr:=pr,pi:=pi,pe:=pe,di:=di,fr:=⟨A1,FB.length,c1⟩ }:QO).cells _ rfl rfl rfl Hu (b2.ext x3) (show 4<17 by decide) rfl ?_;intro w4 b4 d4))
 have wE:=b2.ext x3;have wY:=Q8 (Qi o3 d4 wE (by decide)) X2.size;replace dp:=Qi (Qc dp x3) d4 wE (by decide);replace FX:=Qi (Qc FX x3) d4 wE (by decide);replace NF:=Qi (Qc NF x3) d4 wE (by decide);replace Tn:=Qi (Qc Tn x3) d4 wE (by decide);have X4:=d4.past (X2.trans x3) hgM;clear b2 wE o3 x3 d4 q0 X2;clear w2 w3;have q1:w4.cell? ⟨G,1,none⟩=some (.slice bl.A bl.n bl.c):=(bx.ext X4).cell 1
 go_upto_region 6 with(first
  | (go_at_call 53;refine(Pj.o _ (HB.o.ext X4)).mono ?_;rintro e w5 ⟨A2,c2,rfl,o5,x5⟩)
  | (refine QJ _ _ _ rfl rfl gM 13 _ _ ({ z with pr:=pr,pi:=pi,pe:=pe,di:=di,fr:=⟨A1,FB.length,c1⟩,bl:=⟨A2,BB.length,c2⟩ }:QO).cells _ rfl rfl rfl Hu (b4.ext x5) (show 13<17 by decide) rfl ?_;intro w6 b6 d6))
 have tO:=b4.ext x5;have oBl:=Q8 (Qi o5 d6 tO (by decide)) X4.size;replace wY:=Qi (Qc wY x5) d6 tO (by decide);replace dp:=Qi (Qc dp x5) d6 tO (by decide);replace FX:=Qi (Qc FX x5) d6 tO (by decide);replace NF:=Qi (Qc NF x5) d6 tO (by decide);replace Tn:=Qi (Qc Tn x5) d6 tO (by decide);have X6:=Qa (d6.past (X4.trans x5) hgM);clear b4 tO o5 x5 d6 q1 X4;clear w4 w5;have tS:=bx.ext X6.o;have br6:=br.ext X6.o;have qg:Zm (Zv ({ z with pr:=pr,pi:=pi,pe:=pe,di:=di,fr:=⟨A1,FB.length,c1⟩,bl:=⟨A2,BB.length,c2⟩ }:QO) z):=Qa ⟨rfl,rfl,rfl,rfl,rfl,rfl,rfl,rfl,rfl,rfl,rfl⟩;have HTY:Zm (Tt w6 ({ z with pr:=pr,pi:=pi,pe:=pe,di:=di,fr:=⟨A1,FB.length,c1⟩,bl:=⟨A2,BB.length,c2⟩ }:QO)):=Qa ⟨V0 wY (by decide),V0 dp (by decide),V0 FX (by decide),V0 oBl (by decide),V0 NF (by decide),V0 Tn (by decide)⟩;have mM:Zm (Q0 w6 ({ z with pr:=pr,pi:=pi,pe:=pe,di:=di,fr:=⟨A1,FB.length,c1⟩,bl:=⟨A2,BB.length,c2⟩ }:QO) (JY FB BB e0)):=Qa (by
  have k1:=mI.o.prl;have k2:=mI.o.pil;have k3:=mI.o.pel;have k4:=mI.o.dil;have k5:=HS.o;have k6:=mI.o.initl;have k7:=mI.o.innl
  refine⟨J5 wY (λ_ _=>rfl) rfl rfl,J5 dp (λ_ _=>Q2 _) ff.o rfl,J5 FX (λ_ _=>rfl) Rs.o rfl,J5 oBl (λ_ _=>rfl) rfl rfl,J5 NF (λ_ _=>rfl) sN.o rfl,J5 Tn (λ_ _=>rfl) qa.o rfl,
   ZI (s:=⟨A1,FB.length,c1⟩) wY HFS.o,ZI dp (by rw[ff.o];omega),ZI FX (by rw[Rs.o];omega),ZI (s:=⟨A2,BB.length,c2⟩) oBl HBS.o,ZI NF (by rw[sN.o];omega),ZI Tn (by rw[qa.o];omega),?_,?_,?_⟩
  ·show z.init.length<=maxLen;unfold maxLen;omega
  ·show z.inn.length<=maxLen;unfold maxLen;omega
  ·show(Lit.int .i64 z.dleft).wf=true;exact mI.o.dwf)
 have vH:=Qa (show Zk ({ z with pr:=pr,pi:=pi,pe:=pe,di:=di,fr:=⟨A1,FB.length,c1⟩,bl:=⟨A2,BB.length,c2⟩ }:QO) (JY FB BB e0)=Zk (jn z (JY FB BB e0)) (JY FB BB e0) from Fl ⟨rfl,rfl,rfl,rfl,rfl,rfl,rfl,rfl,rfl,rfl,rfl⟩ rfl ff.o Rs.o);have G9:=Qa (show(({ z with pr:=pr,pi:=pi,pe:=pe,di:=di,fr:=⟨A1,FB.length,c1⟩,bl:=⟨A2,BB.length,c2⟩ }:QO)).pr.n=(JY FB BB e0).pr.length from ff.o);have Aq:=Qa (show(({ z with pr:=pr,pi:=pi,pe:=pe,di:=di,fr:=⟨A1,FB.length,c1⟩,bl:=⟨A2,BB.length,c2⟩ }:QO)).pi.n=(JY FB BB e0).pi.length from Rs.o);generalize ({ z with pr:=pr,pi:=pi,pe:=pe,di:=di,fr:=⟨A1,FB.length,c1⟩,bl:=⟨A2,BB.length,c2⟩ }:QO)=M3 at b6 qg HTY mM vH G9 Aq;clear wY dp FX oBl NF Tn ff Rs sN qa HFS HBS Gn Pj HF HB;have vR:=Qa (show M3.pi.n<=4000 by rw[Aq.o];have:=mI.o.pil;have:=HS.o;exact YR mI.o.pil HS.o)
 go_upto_region 7 with(first
  | (refine Qo _ rfl rfl gM _ _ rfl b6 rfl ?_)
  | (go_at_call 17;refine(Hm M3 (JY FB BB e0) _ mM.o vR.o).mono ?_;rintro e w7 ⟨rfl,x7⟩))
 replace b6:=b6.ext x7;replace tS:=tS.ext x7;replace br6:=br6.ext x7;replace mM:=Qa (mM.o.ext x7);replace HTY:=Qa (HTY.o.ext x7);replace X6:=Qa (X6.o.trans x7);clear x7 bx br;by_cases hc:Zk M3 (JY FB BB e0)=0;case neg =>
  have HE:=Qa (show V7 FB BB s=Zk M3 (JY FB BB e0) by unfold V7;rw[HQ.o];simp only;rw[←vH.o,Zy hc]);have HCN:=Qa hc;generalize Zk M3 (JY FB BB e0)=c at *;have GO:(c != 0)=true:=by simpa using hc
  clear hc;go_wp2_with (refine Qr (.tmp 2) _ rfl rfl (G+1) QB _ _ rfl rfl br6 rfl ?_;intro w9 b9 g9)
  refine Jv (Qd rfl _ _ (G+1) _ _ _ _ rfl rfl b9 underlying38 rfl J1) rfl ?_;rw[HO.o];exact .inl ⟨by rw[HE.o];exact HCN.o,by rw[HE.o];rfl,(x0.trans X6.o).grown g9 (λj e=>by cases e;rw[←HG.o];exact WQ _)⟩
 have tw:=XP.1 hc;have U6:=Qa tw;have yI:=Qa (Ww mI.o.fit qg.o (d':=JY FB BB e0) rfl);have HRF:=Qa (Hc tw yI.o G9.o.symm Aq.o.symm gt.o);have qd:=Qa (λw hi hD=>IF M3 (JY FB BB e0) w HRF.o hi hD);have HE:=Qa (show V7 FB BB s=if Z7 M3 (JY FB BB e0)=s then 0 else 3 by unfold V7;rw[HQ.o];simp only;rw[←vH.o,hc,QY,Td qg.o]);rw[hc];obtain⟨t,htt⟩:∃t,t=Z7 M3 (JY FB BB e0):=⟨_,rfl⟩
 rw[←htt]at qd HE;have HT:=Qa htt;clear hc tw htt;go_upto_region 9 with fail;refine JN 4 [[],[0],[],[2]] [.inl (.agg M3.cells),.inl (.string (Qb t)),.inl (.pointer (some ⟨G,2,none⟩)),.inl (.string (Qb s))] (by kernel_rfl) (by kernel_rfl) rfl (λus=>?_);simp only[KG,KI,UY,KJ];refine xW (λw' hx hd=>?_) ?_
 ·go_wp2_with (refine Qo _ rfl rfl gM _ _ rfl (b6.ext hx) rfl ?_)
  exact Qg _
 simp only[S_];refine xW (λw' hx hd=>?_) ?_
 ·go_wp2_with (go_at_call 54;refine(qd.o _ (mM.o.ext hx) (HD.o.ext (X6.o.trans hx))).mono ?_;rintro e w2 ⟨rfl,x2⟩)
  all_goals rfl
 simp only[S_]
 iterate 2
  refine xW (λw' hx hd=>?_) ?_
  ·have c0:w'.cell? ⟨G,2,none⟩=some (.string (Qb s)):=(tS.ext hx).cell 2;go_wp2_with fail;exact Qg _
  simp only[S_]
 rw[Vx];intro w' hx hv;clear hv;have bf:=b6.ext hx;have rf:=br6.ext hx;have xf:=Qa (X6.o.trans hx);have Hf:=Qa (mM.o.ext hx);by_cases he:t=s
 ·have mx:=Qa (show V7 FB BB s=0 by rw[HE.o,QN he]);have HTS:=Qa (show Z7 M3 (JY FB BB e0)=s by rw[←HT.o];exact he);have hq:((Qb t).toList==(Qb s).toList)=true:=by rw[he];simp
  clear he
  go_wp2_with (first
   | (refine Qo _ rfl rfl gM _ _ rfl bf rfl ?_)
   | (refine Qr _ _ rfl rfl (G+1) M3 _ _ rfl rfl rf rfl ?_;intro w9 b9 g9))
  refine Jv (Qd rfl _ _ (G+1) _ _ _ _ rfl rfl b9 underlying38 rfl J1) rfl ?_;rw[HO.o];have hMI:=Hf.o;exact .inr ⟨mx.o,z,e0,M3,HQ.o,rfl,(x0.trans xf.o).grown g9 (λj e=>by cases e;rw[←HG.o];exact WQ _),qg.o,hMI.grown (Tt.ext HTY.o hx) rf g9,U6.o,yI.o,HTS.o⟩
 ·have mx:=Qa (show V7 FB BB s=3 by rw[HE.o,QD he]);have hq:((Qb t).toList==(Qb s).toList)=false:=by rw[Qe,Qe];simpa using he
  clear he;go_wp2_with (refine Qr (.tmp 2) _ rfl rfl (G+1) QB _ _ rfl rfl rf rfl ?_;intro w9 b9 g9)
  refine Jv (Qd rfl _ _ (G+1) _ _ _ _ rfl rfl b9 underlying38 rfl J1) rfl ?_;rw[HO.o];exact .inl ⟨by rw[mx.o];decide,by rw[mx.o];rfl,(x0.trans xf.o).grown g9 (λj e=>by cases e;rw[←HG.o];exact WQ _)⟩
theorem dK (fr bl:Sl) (FB BB:List (List UInt8)) (s:List UInt8) (w:World) (hF:Q6 Nv w fr.A fr.n FB) (GP:fr.ok) (dD:fr.n<=100000) (hB:Q6 Nv w bl.A bl.n BB) (N0:bl.ok) (hbs:bl.n<=100000) (hs:s.length<=4000) (hD0:ZG w) :
  Calls prog 27 #[.agg #[.slice fr.A fr.n fr.c,.slice bl.A bl.n bl.c,.string (Qb s)]] w (Wd FB BB s w):=by
 cases hq:Ye s with
 | none=>exact jm fr bl FB BB s w hs hq hD0
 | some p=>exact SI fr bl FB BB s p.1 p.2 w hF GP dD hB N0 hbs hs hq (BK hq hs) hD0
end Go.Proofs.YtfaplefkakpgcaaGreatDoor
