import Derived.Test.YtfaplefkakpgcaaGreatDoorPl24
import Derived.Test.YtfaplefkakpgcaaGreatDoorPl20
set_option linter.unusedVariables false
set_option linter.unusedSimpArgs false
set_option maxHeartbeats 32000000
set_option maxRecDepth 100000
namespace Go.Proofs.YtfaplefkakpgcaaGreatDoor
open Go.Proofs.Tryz
open Go.RowKit
def mo (s:List UInt8) (k:Nat):QF:={ (default:QF) with
 pis:=λi=>if i<k then !(QG s (2*i)==0) else false
 pwr:=λi=>if i<k then QG s (2*i)==2 else false
 pfr:=λi=>if i<k then (if QG s (2*i)=0 then 0 else QG s (2*i+1)) else 0 }
def fG (s:List UInt8) (k:Nat):Array Value:=(Jw (mo s k)).toArray
def DF:Array Value:=(Jw default).toArray
theorem lo {k:Nat}(h:k<16):k=0\/k=1\/k=2\/k=3\/k=4\/k=5\/k=6\/k=7\/k=8\/k=9\/k=10\/k=11\/k=12\/k=13\/k=14\/k=15:=by omega
theorem WH (s:List UInt8) (k:Nat):(fG s k).size=48:=rfl
theorem ae (s:List UInt8) {k:Nat}(h:k<16):(((fG s k).setIfInBounds (k*3) (.bool (!(QG s (2*k)==0)))).setIfInBounds (k*3+1) (.bool (QG s (2*k)==2))).setIfInBounds (k*3+2) (.int .i64 (if QG s (2*k)=0 then 0 else QG s (2*k+1)))=fG s (k+1):=by
 rcases lo h with rfl|rfl|rfl|rfl|rfl|rfl|rfl|rfl|rfl|rfl|rfl|rfl|rfl|rfl|rfl|rfl<;>kernel_rfl
theorem lY (s:List UInt8) {k:Nat}(h:k<16) (h0:QG s (2*k)=0):fG s k=fG s (k+1):=by
 have e:∀i<16,Kf (mo s k) i=Kf (mo s (k+1)) i:=by
  intro i _;unfold Kf mo;by_cases hk:i<k
  ·simp[hk,show i<k+1 by omega]
  ·by_cases hi:i=k
   ·subst hi;simp[h0]
   ·simp[hk,show¬i<k+1 by omega]
 unfold fG Jw;rw[fq,fq,Kv 16 e]
section
variable {ops:Array Oper}{rest:List Oper}{o:Oper}{a:Act}{w:World}{Q:Exit->Act->World->Prop}
theorem YM (T:TypeId) (x y:Operand) (J7:o.guard=none) (ho:o.op=.store T x y) (g off:Nat) (cs ds:Array Value) (v0 v1 v2:Value) (t:TypeId) (hx:a.eval x=.pointer (some ⟨g,off,none⟩)) (hy:a.eval y=.agg #[v0,v1,v2])
  (hi:(prog.info? T).map (·.size)=some 3) (o0:v0.oneCell'=true) (o1:v1.oneCell'=true) (o2:v2.oneCell'=true) (hb:Box w g t cs) (hof:off+3<=cs.size) (SB:((cs.setIfInBounds off v0).setIfInBounds (off+1) v1).setIfInBounds (off+2) v2=ds)
  (hK:∀w',Box w' g t ds->w.grownBy w' (some g)->wpList prog ops Q rest (a.put o.dst undef) w'):wpList prog ops Q (o::rest) a w:=by
 refine wpList_store_mid J7 _ x y ho g off #[v0,v1,v2] hx hy (λj hj=>?_) hi (all_oneCell_toArray (cs:=[v0,v1,v2]) (λv hv=>by simp only[Pm,Rw,Fe]at hv;rcases hv with rfl|rfl|rfl<;>assumption)) (hK _ ?_ (Ps _ off w))
 ·refine⟨?_,hb.frozen (off+j)⟩;rw[hb.cell (off+j)];have hj3:j<3:=hj;rw[Wd4 (by omega)];rfl
 ·rw[←SB];exact((hb.set off v0).set (off+1) v1).set (off+2) v2
end
theorem Wq {n:Int}(h0:0<=n) (h1:n<256):IntKind.i64.wrap n=n:=by
 have:n%2^64=n:=zY h0 (by omega);unfold IntKind.wrap;simp only[IntKind.bits,IntKind.signed,this];rw[QD];simp;omega
theorem Ua (l:List UInt8) (k:Nat) (h:k<l.length) (w:World):(Instr.index 9 (.string (Qb l)) (.int .i64 (k:Int))).run prog w=.ok (.int .u8 (QG l k)) w:=by
 rw[run_index_string w 9 (Qb l) .i64 (k:Int) underlying9,dif_pos ⟨by omega,by rw[Qh];omega⟩];unfold QG;rw[Yb,ZX h];rfl
theorem VU (s:List UInt8) (i:Nat):0<=QG s i/\QG s i<256:=by
 unfold QG;have:=(s.getD i 0).toNat_lt;omega
theorem Eu {s:List UInt8}(h:∀i<16,LW (QG s (2*i)) (QG s (2*i+1))=true):Yy s=true:=by
 unfold Yy;rw[Rj]
 exactλi hi=>h i (Mo.1 hi)
theorem Hr {s:List UInt8}{i:Nat}(hi:i<16) (h:LW (QG s (2*i)) (QG s (2*i+1))=false):Yy s=false:=by
 cases hq:Yy s
 ·rfl
 ·unfold Yy at hq;rw[Rj]at hq;rw[hq i (Mo.2 hi)]at h;cases h
def sm (s:List UInt8) (w:World) (e:Ending) (w':World):Prop:=((Yy s=true/\e=.returned (.agg (fG s 16)))\/(Yy s=false/\e=JA))/\Ext w w'
theorem Y8:(prog.info? 52).map (·.size)=some (fG [] 16).size:=Ni
theorem MI {s:List UInt8}{k:Nat}:(fG s k).all (·.oneCell')=true:=all_oneCell_toArray (λv hv=>by
 simp only[Jw,Kf,nc,Pm,Rw,Fe]at hv;obtain⟨i,_,h|h|h⟩:=hv<;>(subst h;rfl))
theorem NK (s:List UInt8) (w:World) (hs:s.length=32) :
  Calls prog 192 #[.string (Qb s)] w (sm s w):=by
 go_enter func192,ntmps192;go_upto_region 2 with fail;have b0:=Qs w 52 DF;have x0:Ext w (w.alloc (.cells DF 52)):=(Qg w).alloc _;have z0:(w.alloc (.cells DF 52)).heap.size=w.heap.size+1:=YB _ _;change Code.wp _ _ _ _ ((w.alloc (.cells DF 52)).alloc (.cells DF 52));generalize w.alloc (.cells DF 52)=wa at b0 x0 z0 ⊢;have b1:=Qs wa 52 DF;have x1:Ext w (wa.alloc (.cells DF 52)):=x0.alloc _;have b2:=b0.ext ((Qg wa).alloc (.cells DF 52));rw[z0]at b1;generalize wa.alloc (.cells DF 52)=W0 at b1 x1 b2 ⊢;clear b0 x0 z0;clear wa;go_wp2_with fail;go_loopw [4,5,6,7,22,29] (λ_ _ _ i _ _ wx=>∃k:Nat,k<=16/\i=.int .i64 k/\Box wx (w.heap.size+1) 52 (fG s k)/\Box wx w.heap.size 52 DF/\Ext w wx/\Zm (∀j<k,LW (QG s (2*j)) (QG s (2*j+1))=true)) (λ_ _ _ i _ _ _=>16-(intOf i).toNat);case atStart=>exact⟨0,by omega,rfl,b1,b2,x1,Qa (λj h=>by omega)⟩
 case round =>
  clear b1 b2 x1;obtain⟨k,hk,rfl,bs,br,xk,Yj⟩:=hrel;by_cases Qn:k<16
  ·have Y6:(k:Int)<16:=by omega
   have i1:∀w,(Instr.index 9 (.string (Qb s)) (.int .i64 (2*(k:Int)))).run prog w=.ok (.int .u8 (QG s (2*k))) w:=λw=>Ua s (2*k) (by omega) w;have i2:∀w,(Instr.index 9 (.string (Qb s)) (.int .i64 (2*(k:Int)+1))).run prog w=.ok (.int .u8 (QG s (2*k+1))) w:=λw=>Ua s (2*k+1) (by omega) w;have HP:=Qa (ae s Qn);have HS:=Qa (lY s Qn);have q1:=VU s (2*k);have q2:=VU s (2*k+1);have HN:=Qa (λh=>Hr (s:=s) Qn h);have HO:=Qa (show LW (QG s (2*k)) (QG s (2*k+1))=true->∀j<k+1,LW (QG s (2*j)) (QG s (2*j+1))=true fromλh j hj=>by
    by_cases hjk:j=k
    ·subst hjk;exact h
    ·exact Yj.o j (by omega))
   generalize QG s (2*k)=c at *;generalize QG s (2*k+1)=f at *;have VA:=Wq q2.1 q2.2;clear hs;go_wp2_with fail;go_quiet (fail);have xq:=xk.drewN nq;have bs2:=bs.ext ((Qg wr).drewN nq);have Sf:=br.ext ((Qg wr).drewN nq);clear bs br xk i1 i2;generalize wr.drewN nq=w2 at *;by_cases h0:c=0/\f=0
   ·obtain⟨rfl,rfl⟩:=h0;clear q1 q2 VA;go_wp2_with fail;go_roundw;case rel=>exact⟨k+1,by omega,by go_num,by rw[←HS.o rfl];exact bs2,Sf,xq,Qa (HO.o rfl)⟩
    case measure=>simp[intOf];omega
   ·by_cases h1:c=1
    ·subst h1;go_wp2_with (refine YM _ (.tmp 41) (.tmp 40) rfl rfl (w.heap.size+1) (k*3) _ _ _ _ _ _ rfl rfl Kz rfl rfl rfl bs2 (by rw[WH];omega) HP.o ?_;intro w3 b3 g3)
     go_roundw;case rel=>exact⟨k+1,by omega,by go_num,b3,Sf.grown g3 (by simp),xq.grown g3 (λj e=>by cases e;omega),Qa (HO.o rfl)⟩
     case measure=>simp[intOf];omega
    ·by_cases h2:c=2
     ·subst h2;go_wp2_with (refine YM _ (.tmp 41) (.tmp 40) rfl rfl (w.heap.size+1) (k*3) _ _ _ _ _ _ rfl rfl Kz rfl rfl rfl bs2 (by rw[WH];omega) HP.o ?_;intro w3 b3 g3)
      go_roundw;case rel=>exact⟨k+1,by omega,by go_num,b3,Sf.grown g3 (by simp),xq.grown g3 (λj e=>by cases e;omega),Qa (HO.o rfl)⟩
      case measure=>simp[intOf];omega
     ·have k1:(c==1)=false:=by simpa using h1
      have k2:(c==2)=false:=by simpa using h2
      have hb:Zm (Yy s=false):=Qa (HN.o (by
       unfold LW;rw[k1,k2];cases e0:(c==0)
       ·rfl
       ·have e1:c=0:=by simpa using e0
        have e2:(f==0)=false:=by simp;intro e3;exact h0 ⟨e1,e3⟩
        rw[e2];rfl))
      cases e0:(c==0)
      ·go_wp2_with fail;exact⟨rfl,.inr ⟨hb.o,rfl⟩,xq⟩
      ·have e2:(f==0)=false:=by
        have e1:c=0:=by simpa using e0
        simp;intro e3;exact h0 ⟨e1,e3⟩
       go_wp2_with fail;exact⟨rfl,.inr ⟨hb.o,rfl⟩,xq⟩
  ·obtain rfl:k=16:=by omega
   have hb:=Qa (Eu (s:=s) Yj.o)
   go_wp2_with (first
    | (refine J2 _ (.tmp 3) rfl rfl (w.heap.size+1) _ _ _ rfl bs underlying52 rfl Y8 ?_)
    | (refine JU _ (.tmp 2) (.tmp 43) rfl rfl w.heap.size _ _ _ rfl rfl br Y8 rfl MI ?_;intro w3 b3 g3))
   exact Jv (QQ rfl _ _ w.heap.size _ _ _ rfl b3 underlying52 rfl Y8) rfl ⟨.inl ⟨hb.o,rfl⟩,xk.grown g3 (λj e=>by cases e;exact Q4 _)⟩
theorem Ak {ops:Array Oper}{rest:List Oper}{o:Oper}{a:Act}{w:World}{Q:Exit->Act->World->Prop}{B g n:Nat}{u:Value}{l:List ZY}(y:ZY) (J7:o.guard=none) (sl x:Operand)
  (ho:o.op=.call { callee:=.builtin .append,args:=#[sl,x],argTypes:=#[34,34] }) (hs:a.eval sl=u) (hx:a.eval x=.slice (some ⟨g,0,none⟩) 1 1)
  (h0:w.ownsRow B 92 2 u n (l.flatMap Zn)) (hb:Box w g 92 (Zn y).toArray) (hn:n<=1000000000) (hB:B<=w.heap.size)
  (hK:∀u' w',w'.ownsRow B 92 2 u' (n+1) ((l++[y]).flatMap Zn)->w.grownBy w' u.ownBlock->wpList prog ops Q rest (a.put o.dst u') w'):wpList prog ops Q (o::rest) a w:=by
 refine DU J7 λK KM=>?_;obtain⟨i,hi,hz,h1,h2⟩:=AW lz;obtain⟨v',w',hr,ho2,hg,_,_⟩:=nU (P:=prog) w B 34 o.type 92 i _ 2 24 underlying34 hi hz h1 h2 rfl (by decide) u n (l.flatMap Zn) h0 ⟨g,0,none⟩ 1 1 (Zn y) rfl (λj u hj=>by
  have ha:(⟨g,0,none⟩:Addr).add j=⟨g,j,none⟩:=by unfold Addr.add;split<;>simp_all
  rw[ha,hb.cell j];simpa using hj) (Nn y) (by unfold maxLen;omega) (by omega) hB
 unfold Oper.wp execOp;simp only[ho,resolve,invoke,builtin,Ny,Fb,Mm,bO,P4,Gz,hs,hx,hr];refine KM _ _ (hK v' w' ?_ hg);rw[AU];simpa using ho2
theorem Ti {w w':World}{A:Option Addr}{n m base z:Nat}{ss:List (List UInt8)}{u:Value}{xs:List Value}{t:TypeId}(h:TRow w A n ss) (hg:w.grownBy w' u.ownBlock) (o:w.ownsRow base t z u m xs) (ht:9≠t):TRow w' A n ss:=⟨h.1,λhn=>by
 obtain⟨g,i,cur,fz,e,h1,hc⟩:=h.2 hn;have Qn:g<w.heap.size:=(Fa.1 h1).1;have Jt:some g≠u.ownBlock:=λe2=>by
  rcases o.2 with⟨rfl,_⟩|⟨g',cap,cur',rfl,_,hh,_⟩
  ·simp[Value.ownBlock]at e2
  ·have:g=g':=by simpa[Value.ownBlock]using e2
   subst this;rw[h1]at hh;injection hh with hh;injection hh with _ hh;exact ht hh
 refine⟨g,i,cur,fz,e,(hg.block g Qn Jt).trans h1,λj hj=>?_⟩;rw[←hc j hj];exact Wfk (w:=w) (hg.block g Qn Jt)⟩
theorem QA.grown {w w':World}{b m base z:Nat}{L:List (List UInt8)}{u:Value}{xs:List Value}{t:TypeId}(h:QA w b L) (hg:w.grownBy w' u.ownBlock) (o:w.ownsRow base t z u m xs) (h1:9≠t) (h2:t≠253):QA w' b L:=by
 obtain⟨A,n,c,k1,k2,k3⟩:=h;exact⟨A,n,c,k1.grown hg (QX o k1 h2),Ti k2 hg o h1,k3⟩
theorem QA.but {w w':World}{b b':Nat}{L L':List (List UInt8)}(h:QA w b L) (hk:But b' w w') (h':QA w b' L') (Jt:b≠b'):QA w' b L:=by
 obtain⟨A,n,c,k1,k2,k3⟩:=h;obtain⟨_,_,_,j1,_,_⟩:=h';exact⟨A,n,c,hk.box k1 Jt,k2.but hk j1 (by decide),k3⟩
theorem QA.own {w w':World}{b base z n:Nat}{u:Value}{xs:List Value}{t:TypeId}{L:List (List UInt8)}(h:QA w b L) (hk:But b w w') (o:w.ownsRow base t z u n xs) (ht:t≠253):w'.ownsRow base t z u n xs:=by
 obtain⟨_,_,_,j1,_,_⟩:=h;exact Qi o hk j1 ht
theorem QA.lt {w:World}{b:Nat}{L:List (List UInt8)}(h:QA w b L):b<w.heap.size:=by
 obtain⟨_,_,_,j1,_,_⟩:=h;exact j1.lt
theorem Yw {z:Nat}{s:List UInt8}{l:List (List UInt8)}(h:Ql (some z) s=some l):l.length=z:=by
 unfold Ql at h;split at h
 ·rename_i h1;injection h with h;subst h;exact h1.2 z rfl
 ·cases h
theorem Zd {z:Option Nat}{s:List UInt8}{l:List (List UInt8)}(h:Ql z s=some l):∀t∈l,t.length<=s.length:=by
 unfold Ql at h;split at h
 ·injection h with h;subst h;exact(YL s).2
 ·cases h
theorem DJ {α:Type} {l:List α}(h:l.length=2):∃a b,l=[a,b]:=by
 match l,h with
 | [a,b],_=>exact⟨a,b,rfl⟩
def dW:Value->Nat|.slice _ n _=>n|_=>0
theorem Bf {w:World}{base z n:Nat}{u:Value}{xs:List Value}{t:TypeId}(o:w.ownsRow base t z u n xs):dW u=n:=by
 rcases o.2 with⟨rfl,h⟩|⟨_,_,_,rfl,_⟩
 ·exact h.symm
 ·rfl
theorem Vt {w:World}{base z n:Nat}{u:Value}{xs:List Value}{t:TypeId}(o:w.ownsRow base t z u n xs):∃A c,u=.slice A n c:=by
 rcases o.2 with⟨rfl,rfl⟩|⟨g,cap,_,rfl,_⟩
 ·exact⟨none,0,rfl⟩
 ·exact⟨_,cap,rfl⟩
def EP (s:List UInt8) (w:World) (e:Ending) (w':World):Prop :=
 (∃l u,QK s=some l/\e=.returned u/\w'.ownsRow w.heap.size 92 2 u l.length (l.flatMap Zn)/\Ext w w')\/(QK s=none/\e=JA/\Ext w w')
theorem WC (s:List UInt8) (w:World) (hs:s.length<=100000000) (hD:ZG w) :
  Calls prog 130 #[.string (Qb s)] w (EP s w):=by
 have HO:=Qa (Wx s none w (by omega) (λn h=>by cases h));have jl:=YL s;go_enter func130,ntmps130;go_upto_region 2 with fail;cases hP:Ql none s with
 | none =>
  have go:=Qa (HO.o.mono (λe w' h=>by
   rcases h with⟨l,b,h,_⟩|⟨_,h1,h2⟩
   ·rw[hP]at h;cases h
   ·exact(⟨h1,h2⟩:e=JA/\Ext w w')))
  have hR:QK s=none:=by unfold QK;rw[hP];rfl
  clear HO hP;go_wp2_with (go_at_call 125;refine go.o.mono ?_;rintro e w1 ⟨he,x1⟩;simp only[JA]at he;subst he)
  exact⟨rfl,.inr ⟨hR,rfl,x1⟩⟩
 | some T =>
  have hT:T=(Qv s).1:=by
   unfold Ql at hP;split at hP
   ·injection hP with hP;exact hP.symm
   ·cases hP
  have hTl:∀x∈T,x.length<=100000000:=λx hx=>YR (jl.2 x (hT▸hx)) hs;have hTn:T.length<=100000000:=by rw[hT];exact YR jl.1 hs
  have go:=Qa (HO.o.mono (λe w' h=>by
   rcases h with⟨l,b,h,h1,h2,h3,h4⟩|⟨h,_⟩
   ·have h:=NU (hP.symm.trans h);subst h;exact(⟨b,h1,h2,h3,h4⟩:∃b,e=.returned (.pointer (some ⟨b,0,none⟩))/\w.heap.size<=b/\QA w' b T/\Ext w w')
   ·exact absurd (hP.symm.trans h) (by simp)))
  have hR:Zm (QK s=Zp Jm T):=Qa (by unfold QK;rw[hP];rfl);clear HO hP hT jl hs;have vZ:=Qa hTl;clear hTl;go_wp2_with (go_at_call 125;refine go.o.mono ?_;rintro e w1 ⟨cb,rfl,GO,UB,x1⟩)
  have Gn:=Qa UB;have WN:=Qa x1;clear UB x1 go;go_loopw [3,5,6] (λl _ _ wx=>∃done rest,wx.ownsRow w.heap.size 92 2 l done.length (done.flatMap Zn)/\QA wx cb rest/\Ext w wx/\Zm (Zp Jm T=(Zp Jm rest).map (done++·))/\Zm (done.length+rest.length=T.length)/\Zm (∀x∈rest,x.length<=100000000)) (λl _ _ _=>T.length-dW l);case atStart=>exact⟨[],T,⟨rfl,.inl ⟨rfl,rfl⟩⟩,Gn.o,WN.o,Qa (Ut Jm T),Qa (by simp),vZ⟩
  case round =>
   obtain⟨done,rest,o1,UB,x1,hA,E7,Vy⟩:=hrel;have HM:=Qa (TW cb rest wr UB);have DT:=Qa (Un cb rest wr UB);have hL3:=Qa (Bf o1);have G8:=Qa o1;have HX:=Qa x1;have HCb:=Qa UB;have hD1:=Qa hD;have Qn:=Qa UB.lt;clear Gn WN hD;cases rest with
   | nil =>
    have hE:Zm (EP s w (.returned u3) wr):=Qa (.inl ⟨done,_,by rw[hR.o];exact Rx hA.o,rfl,o1,x1⟩);clear o1 UB x1 GO hTn;go_wp2_with (go_at_call 131;refine HM.o.mono ?_;rintro e w2 ⟨rfl,rfl⟩)
    go_ret;exact hE.o
   | cons x rest =>
    have bG:=Qa (DT.o.mono (λe w' h=>(⟨h.1,h.2.1,h.2.2⟩:e=.returned (.string (Qb x))/\QA w' cb rest/\But cb wr w')));have hx:x.length<=100000000:=Vy.o x Gq;have HOx:=Qa (λw=>Wx x (some 2) w (by omega) (λn h=>by cases h;decide));have hF:Zm (Jm x=none->∀w',Ext w w'->EP s w JA w'):=Qa (λh w' x=>.inr ⟨by rw[hR.o];exact KX hA.o h,rfl,x⟩);clear DT o1 UB x1;cases hP:Ql (some 2) x with
    | none =>
     have hw:Zm (Jm x=none):=Qa (by unfold Jm;rw[hP];rfl);have gr:=Qa (λw=>(HOx.o w).mono (λe w' h=>by
      rcases h with⟨l,b,h,_⟩|⟨_,h1,h2⟩
      ·rw[hP]at h;cases h
      ·exact(⟨h1,h2⟩:e=JA/\Ext w w')))
     clear hP HOx hx hTn
     go_wp2_with (first
      | (go_at_call 131;refine HM.o.mono ?_;rintro e w2 ⟨rfl,rfl⟩)
      | (go_at_call 126;refine bG.o.mono ?_;rintro e w2 ⟨rfl,k1,k2⟩)
      | (go_at_call 125;refine(gr.o _).mono ?_;rintro e w3 ⟨he,x3⟩;simp only[JA]at he;subst he))
     exact⟨rfl,hF.o hw.o _ ((k2.past HX.o GO).trans x3)⟩
    | some l =>
     have Rm:l.length=2:=Yw hP;obtain⟨t0,t1,rfl⟩:=DJ Rm;have wT:t0.length<=281474976710656:=by have:=Zd hP t0 (by simp);omega
     have hW:Zm (Jm x=(QZ t0).map λn=>(n,t1)):=Qa (by unfold Jm;rw[hP];rfl);have gr:=Qa (λw=>(HOx.o w).mono (λe w' h=>by
      rcases h with⟨l,b,h,h1,h2,h3,h4⟩|⟨h,_⟩
      ·have h:=NU (hP.symm.trans h);subst h;exact(⟨b,h1,h2,h3,h4⟩:∃b,e=.returned (.pointer (some ⟨b,0,none⟩))/\w.heap.size<=b/\QA w' b [t0,t1]/\Ext w w')
      ·exact absurd (hP.symm.trans h) (by simp)))
     have mw:=Qa (λb w' h hD'=>M0 b [t0,t1] w' h hD' (by
      intro s hs;rcases Pm.1 hs with rfl|hs
      ·exact wT
      ·rw[bK.1 hs];have:=Zd hP t1 (by simp);omega))
     clear hP HOx wT Rm;cases hi:QZ t0 with
     | none =>
      have hw:Zm (Jm x=none):=Qa (by rw[hW.o,hi];rfl);have HDy:=Qa (λb w' h hD'=>(mw.o b w' h hD').mono (λe w2 h=>(⟨h.1.trans (by rw[hi]),h.2.1,h.2.2⟩:e=JA/\QA w2 b [t1]/\But b w' w2)));clear hi mw hx hTn
      go_wp2_with (first
       | (go_at_call 131;refine HM.o.mono ?_;rintro e w2 ⟨rfl,rfl⟩)
       | (go_at_call 126;refine bG.o.mono ?_;rintro e w2 ⟨rfl,k1,k2⟩)
       | (go_at_call 125;refine(gr.o _).mono ?_;rintro e w3 ⟨ob,rfl,hob,Mw,x3⟩;have y3:=Qa ((k2.past HX.o GO).trans x3);have RK:=Qa (YR (k2.past HX.o GO).size hob))
       | (go_at_call 128;refine(HDy.o ob _ Mw (λw' k=>hD1.o.ext (k.past y3.o RK.o))).mono ?_;rintro e w4 ⟨he,k4,b4⟩;simp only[JA]at he;subst he))
      exact⟨rfl,hF.o hw.o _ (b4.past y3.o RK.o)⟩
     | some n =>
      have hw:Zm (Jm x=some (n,t1)):=Qa (by rw[hW.o,hi];rfl);have HDy:=Qa (λb w' h hD'=>(mw.o b w' h hD').mono (λe w2 h=>(⟨h.1.trans (by rw[hi]),h.2.1,h.2.2⟩:e=.returned (.int .i64 n)/\QA w2 b [t1]/\But b w' w2)));have HT3:=Qa (λb w' h=>(Un b [t1] w' h).mono (λe w2 h=>(⟨h.1,h.2.1,h.2.2⟩:e=.returned (.string (Qb t1))/\QA w2 b []/\But b w' w2)));have cy:done.length<=1000000000:=by have:=E7.o;omega
      have HDn:=Qa cy;have xJ:=Qa GO;clear hi mw hx hTn cy GO
      go_wp2_with (first
       | (go_at_call 131;refine HM.o.mono ?_;rintro e w2 ⟨rfl,rfl⟩)
       | (go_at_call 126;refine(HT3.o ob _ k4).mono ?_;rintro e w5 ⟨rfl,k5,b5⟩;have vP:=Qa (k4.own b5 HO4.o (by decide));have mu:=Qa (ru.o.but b5 k4 Jt.o);have y5:=Qa (b5.past (b4.past y3.o RK.o) RK.o))
       | (go_at_call 126;refine bG.o.mono ?_;rintro e w2 ⟨rfl,k1,k2⟩;have go:=Qa (HCb.o.own k2 G8.o (by decide)))
       | (go_at_call 125;refine(gr.o _).mono ?_;rintro e w3 ⟨ob,rfl,hob,Mw,x3⟩;have y3:=Qa ((k2.past HX.o xJ.o).trans x3);have RK:=Qa (YR (k2.past HX.o xJ.o).size hob);have HO3:=Qa (Qc go.o x3);have HC3:=Qa (k1.ext x3);have Jt:=Qa (ze (Ca k1.lt hob)))
       | (go_at_call 128;refine(HDy.o ob _ Mw (λw' k=>hD1.o.ext (k.past y3.o RK.o))).mono ?_;rintro e w4 ⟨rfl,k4,b4⟩;have HO4:=Qa (Mw.own b4 HO3.o (by decide));have ru:=Qa (HC3.o.but b4 Mw Jt.o))
       | (refine Ak (n,t1) rfl (.tmp 16) (.tmp 21) rfl rfl rfl (Qc vP.o ((Qg _).alloc _)) (Qs _ _ _) HDn.o (y5.o.alloc _).size ?_;intro u6 w6 o6 g6))
      have oz:=Qc vP.o ((Qg _).alloc (.cells #[.int .i64 n,.string (Qb t1)] 92));have y6:=Qa (vz (y5.o.alloc _) g6 (y5.o.alloc _).size (λk hk=>QU oz hk));have HC6:=Qa ((mu.o.ext ((Qg _).alloc _)).grown g6 oz (by decide) (by decide));go_roundw;case rel=>exact⟨done++[(n,t1)],rest,(by rw[VL];exact o6),HC6.o,y6.o,Qa (WR hA.o hw.o),Qa (by have:=E7.o;simp only[VL,XN,Mn]at *;omega),Qa (λx hx=>Vy.o x (EL _ hx))⟩
      case measure => have e1:=Bf o6;have e2:=hL3.o;have e3:=E7.o;simp only[XN]at e3;omega
theorem JD {b:Nat}{w:World}{t:List UInt8}{L:List (List UInt8)}{n:Int}(h:QA w b (t::L)) (hi:QZ t=some n) (hD:∀w',But b w w'->ZG w') (hL:∀s∈t::L,s.length<=281474976710656) :
  Calls prog 128 #[.pointer (some ⟨b,0,none⟩)] w λe w'=>e=.returned (.int .i64 n)/\QA w' b L/\But b w w' :=
 (M0 b (t::L) w h hD hL).mono (λe w' h=>⟨h.1.trans (by rw[hi]),h.2⟩)
theorem JT {b:Nat}{w:World}{t:List UInt8}{L:List (List UInt8)}(h:QA w b (t::L)) :
  Calls prog 126 #[.pointer (some ⟨b,0,none⟩)] w λe w'=>e=.returned (.string (Qb t))/\QA w' b L/\But b w w' :=
 (Un b (t::L) w h).mono (λe w' h=>⟨h.1,h.2⟩)
theorem WY {b z:Nat}{w:World}{t t':List UInt8}{L:List (List UInt8)}(h:QA w b (t::L)) (hz:z<=1000) (hi:Zx z t=some t') :
  Calls prog 190 #[.pointer (some ⟨b,0,none⟩),.int .i64 z] w λe w'=>e=.returned (.string (Qb t'))/\QA w' b L/\But b w w' :=
 (RH z b (t::L) w h hz).mono (λe w' h=>⟨h.1.trans (by rw[hi]),h.2⟩)
theorem WS {b z:Nat}{w:World}{t:List UInt8}{L:List (List UInt8)}{n:Int}(h:QA w b (t::L)) (hz:z=4\/z=8) (hi:ZF z t=some n) :
  Calls prog 127 #[.pointer (some ⟨b,0,none⟩),.int .i64 z] w λe w'=>e=.returned (.int .u64 n)/\QA w' b L/\But b w w' :=
 (Fh z b (t::L) w h hz).mono (λe w' h=>⟨h.1.trans (by rw[hi]),h.2⟩)
theorem Fk {b:Nat}{w:World}{t:List UInt8}{L:List (List UInt8)}{n:Bool}(h:QA w b (t::L)) (hi:ZH t=some n) :
  Calls prog 129 #[.pointer (some ⟨b,0,none⟩)] w λe w'=>e=.returned (.bool n)/\QA w' b L/\But b w w' :=
 (Fi b (t::L) w h).mono (λe w' h=>⟨h.1.trans (by rw[hi]),h.2⟩)
theorem Ug {s:List UInt8}{z:Option Nat}{l:List (List UInt8)}(h:Ql z s=some l) (w:World) (hs:s.length<=1000000000) (hz:∀n,z=some n->n<=1000) :
  Calls prog 125 #[.string (Qb s),.int .i64 (zI z)] w λe w'=>∃b,e=.returned (.pointer (some ⟨b,0,none⟩))/\w.heap.size<=b/\QA w' b l/\Ext w w' :=
 (Wx s z w hs hz).mono (λe w' k=>by
  rcases k with⟨l',b,h1,h2,h3,h4,h5⟩|⟨h1,_⟩
  ·have h6:=NU (h.symm.trans h1);subst h6;exact⟨b,h2,h3,h4,h5⟩
  ·rw[h]at h1;cases h1)
theorem Ev {s s':List UInt8}(h:JQ s=some s') (w:World):s'=s/\Calls prog 192 #[.string (Qb s)] w λe w'=>e=.returned (.agg (fG s 16))/\Ext w w':=by
 unfold JQ at h;split at h
 ·rename_i k;injection h with h;refine⟨h.symm,(NK s w k.1).mono (λe w' q=>⟨?_,q.2⟩)⟩;rcases q.1 with⟨_,q⟩|⟨q,_⟩
  ·exact q
  ·rw[k.2]at q;cases q
 ·cases h
theorem QA.butT {w w':World}{b b':Nat}{L:List (List UInt8)}{T:TypeId}{cs:Array Value}(h:QA w b L) (hk:But b' w w') (hb:Box w b' T cs) (h1:9≠T) (Jt:b≠b'):QA w' b L:=by
 obtain⟨A,n,c,k1,k2,k3⟩:=h;exact⟨A,n,c,hk.box k1 Jt,k2.but hk hb h1,k3⟩
abbrev Tp:QF:=default
structure PS (w W:World) (rb pb cb:Nat) (y:QF) (L:List (List UInt8)):Prop where
 box:Box W pb 57 (Qq y).toArray
 res:Box W rb 57 (Qq Tp).toArray
 cur:QA W cb L
 ext:Ext w W
 ne:rb≠pb
 nec:pb≠cb
 ner:rb≠cb
 lr:w.heap.size<=rb
 lp:w.heap.size<=pb
 lc:w.heap.size<=cb
namespace PS
variable {w W W':World}{rb pb cb:Nat}{y:QF}{L L':List (List UInt8)}
theorem call (h:PS w W rb pb cb y L) (k:QA W' cb L') (b:But cb W W'):PS w W' rb pb cb y L' :=
 ⟨b.box h.box h.nec,b.box h.res h.ner,k,b.past h.ext h.lc,h.ne,h.nec,h.ner,h.lr,h.lp,h.lc⟩
theorem more (h:PS w W rb pb cb y L) (x:Ext W W'):PS w W' rb pb cb y L :=
 ⟨h.box.ext x,h.res.ext x,h.cur.ext x,h.ext.trans x,h.ne,h.nec,h.ner,h.lr,h.lp,h.lc⟩
theorem but (h:PS w W rb pb cb y L) (b:But pb W W') (y':QF) (hb:Box W' pb 57 (Qq y').toArray):PS w W' rb pb cb y' L :=
 ⟨hb,b.box h.res h.ne,h.cur.butT b h.box (by decide) (AX h.nec),b.past h.ext h.lp,h.ne,h.nec,h.ner,h.lr,h.lp,h.lc⟩
theorem set (h:PS w W rb pb cb y L) (i:Nat) (v:Value) (y':QF) (e:(Qq y).toArray.setIfInBounds i v=(Qq y').toArray):PS w (W.setCell ⟨pb,i,none⟩ v) rb pb cb y' L :=
 h.but ((But.refl pb W).setCell i v) y' (e▸h.box.set i v)
theorem dec (h:PS w W rb pb cb y L) (hD:ZG w):∀W',But cb W W'->ZG W':=λW' b=>hD.ext (b.past h.ext h.lc)
end PS
theorem Od {l:List (List UInt8)}(h:l.length=10):∃a b c d e f g i j k,l=[a,b,c,d,e,f,g,i,j,k]:=by
 match l,h with
 | [a,b,c,d,e,f,g,i,j,k],_=>exact⟨a,b,c,d,e,f,g,i,j,k,rfl⟩
theorem Bw {s:List UInt8}{y:QF}(h:JV s=some y):∃t0 t1 t2 t3 t4 t5 t6 t7 t8 t9 pid par st mask code why num,Ql (some 10) s=some [t0,t1,t2,t3,t4,t5,t6,t7,t8,t9]/\QZ t0=some pid/\QZ t1=some par/\QZ t2=some st/\Zx 68 t3=some t3/\JQ t4=some t4/\Zx 136 t5=some t5/\ZH t6=some mask/\ZF 4 t7=some code/\QZ t8=some why/\ZF 8 t9=some num/\y=XY pid par st t3 t4 t5 mask code why num:=by
 unfold JV at h;cases h1:Ql (some 10) s with
 | none=>rw[h1]at h;cases h
 | some l =>
  obtain⟨t0,t1,t2,t3,t4,t5,t6,t7,t8,t9,rfl⟩:=Od (Yw h1);rw[h1]at h;simp only[qt,qo,qp]at h;cases e0:QZ t0 with|none=>rw[e0]at h;cases h|some pid =>
  cases e1:QZ t1 with|none=>rw[e0,e1]at h;cases h|some par =>
  cases e2:QZ t2 with|none=>rw[e0,e1,e2]at h;cases h|some st =>
  cases e3:Zx 68 t3 with|none=>rw[e0,e1,e2,e3]at h;cases h|some cpu =>
  cases e4:JQ t4 with|none=>rw[e0,e1,e2,e3,e4]at h;cases h|some sp =>
  cases e5:Zx 136 t5 with|none=>rw[e0,e1,e2,e3,e4,e5]at h;cases h|some fds =>
  cases e6:ZH t6 with|none=>rw[e0,e1,e2,e3,e4,e5,e6]at h;cases h|some mask =>
  cases e7:ZF 4 t7 with|none=>rw[e0,e1,e2,e3,e4,e5,e6,e7]at h;cases h|some code =>
  cases e8:QZ t8 with|none=>rw[e0,e1,e2,e3,e4,e5,e6,e7,e8]at h;cases h|some why =>
  cases e9:ZF 8 t9 with|none=>rw[e0,e1,e2,e3,e4,e5,e6,e7,e8,e9]at h;cases h|some num =>
  rw[e0,e1,e2,e3,e4,e5,e6,e7,e8,e9]at h;simp only[qt,vt]at h;injection h with h;have f3:cpu=t3:=by unfold Zx at e3;split at e3<;>first|(injection e3 with e3;exact e3.symm)|cases e3
  have f5:fds=t5:=by unfold Zx at e5;split at e5<;>first|(injection e5 with e5;exact e5.symm)|cases e5
  have f4:sp=t4:=by unfold JQ at e4;split at e4<;>first|(injection e4 with e4;exact e4.symm)|cases e4
  subst f3 f4 f5;exact⟨t0,t1,t2,cpu,sp,fds,t6,t7,t8,t9,pid,par,st,mask,code,why,num,rfl,e0,e1,e2,e3,e4,e5,e6,e7,e8,e9,h.symm⟩
def AH (y:QF) (f:Nat->Int) (k:Nat):QF:={ y with reg:=λi=>if i<k then f i else 0 }
def Ro (y:QF) (f g h:Nat->Int) (k:Nat):QF:={ y with
 fk:=λi=>if i<k then f i else 0
 fn:=λi=>if i<k then g i else 0
 fp:=λi=>if i<k then h i else 0 }
theorem Qdf {k:Nat}(h:k<8):k=0\/k=1\/k=2\/k=3\/k=4\/k=5\/k=6\/k=7:=by omega
theorem aX (y:QF) (f:Nat->Int) {k:Nat}(h:k<16):(Qq (AH y f k)).toArray.setIfInBounds (3+k) (.int .u32 (f k))=(Qq (AH y f (k+1))).toArray:=by
 rcases lo h with rfl|rfl|rfl|rfl|rfl|rfl|rfl|rfl|rfl|rfl|rfl|rfl|rfl|rfl|rfl|rfl<;>kernel_rfl
theorem DE {α:Type} (a b:List α) (i:Nat) (v:α) (h:a.length=i) (j:Nat):(a++b).toArray.setIfInBounds (i+j) v=(a++(b.toArray.setIfInBounds j v).toList).toArray:=by
 apply tA.1;rw[Wdv,List.set_append_right _ _ (by omega),Wdv,show i+j-a.length=j by omega]
theorem O3 (y:QF) (f g h:Nat->Int) {k:Nat}(hk:k<8):(((Jf (Ro y f g h k)).toArray.setIfInBounds (k*3) (.int .i64 (f k))).setIfInBounds (k*3+1) (.int .i64 (g k))).setIfInBounds (k*3+2) (.int .i64 (h k))=(Jf (Ro y f g h (k+1))).toArray:=by
 rcases Qdf hk with rfl|rfl|rfl|rfl|rfl|rfl|rfl|rfl<;>kernel_rfl
theorem Hn {α:Type} (a b:List α) (j:Nat) (v:α) (h:j<a.length):(a++b).toArray.setIfInBounds j v=((a.toArray.setIfInBounds j v).toList++b).toArray:=by
 apply tA.1;rw[Wdv,List.set_append_left _ _ h,Wdv]
theorem aW (y:QF):(Qq y).toArray=((Qq y).take 68++(Jf y++[Value.bool y.mask,Value.int .u32 y.code,Value.int .i64 y.why,Value.int .u64 y.num])).toArray:=by
 conv=>lhs;rw[←vk 68 (Qq y)]
 rfl
theorem pg (y:QF) (f g h:Nat->Int) {k:Nat}(hk:k<8):(((Qq (Ro y f g h k)).toArray.setIfInBounds (68+k*3) (.int .i64 (f k))).setIfInBounds (68+k*3+1) (.int .i64 (g k))).setIfInBounds (68+k*3+2) (.int .i64 (h k))=(Qq (Ro y f g h (k+1))).toArray:=by
 have hl:((Qq y).take 68).length=68:=rfl;have hf:(Jf (Ro y f g h k)).length=24:=rfl;rw[aW,aW (Ro y f g h (k+1)),show(Qq (Ro y f g h k)).take 68=(Qq y).take 68 from rfl,show(Qq (Ro y f g h (k+1))).take 68=(Qq y).take 68 from rfl];rw[show 68+k*3+1=68+(k*3+1) from rfl,show 68+k*3+2=68+(k*3+2) from rfl,DE _ _ 68 _ hl,DE _ _ 68 _ hl,DE _ _ 68 _ hl];simp only[Wfn];rw[Hn _ _ _ _ (by rw[hf];omega),Hn _ _ _ _ (by rw[Weu,Wex,NS,hf];omega)];simp only[Wfn];rw[Hn _ _ _ _ (by rw[Weu,Wex,Wex,NS,hf];omega)];simp only[Wfn];rw[O3 y f g h hk];rfl
theorem PS.eq {w W:World}{rb pb cb:Nat}{y y':QF}{L:List (List UInt8)}(h:PS w W rb pb cb y L) (e:Qq y=Qq y'):PS w W rb pb cb y' L :=
 ⟨e▸h.box,h.res,h.cur,h.ext,h.ne,h.nec,h.ner,h.lr,h.lp,h.lc⟩
section
variable {ops:Array Oper}{rest:List Oper}{o:Oper}{a:Act}{w0 W:World}{Q:Exit->Act->World->Prop}{rb pb cb:Nat}{y:QF}{L:List (List UInt8)}
theorem Xy (S:PS w0 W rb pb cb y L) (y':QF) (T:TypeId) (x z:Operand) (J7:o.guard=none) (ho:o.op=.store T x z) (i:Nat) (v:Value) (hx:a.eval x=.pointer (some ⟨pb,i,none⟩)) (hy:a.eval z=v) (hv:v.oneCell'=true)
  (hi:(prog.info? T).map (·.size)=some 1) (Qn:i<96) (he:(Qq y).toArray.setIfInBounds i v=(Qq y').toArray)
  (hK:∀W',PS w0 W' rb pb cb y' L->wpList prog ops Q rest (a.put o.dst undef) W'):wpList prog ops Q (o::rest) a W :=
 QJ T x z J7 ho pb i v _ _ _ hx hy hv hi S.box Qn he (λW' b d=>hK W' (S.but d y' b))
end
theorem NY (s:List UInt8) (i z:Nat):(Qb s).extract i (i+z)=Qb ((s.drop i).take z):=by rw[J6,show i+z-i=z by omega]
theorem E3 (s:List UInt8) (i z:Nat) (hz:z=4\/z=8) (h:i+z<=s.length) (w:World) :
  Calls prog 164 #[.string ((Qb s).extract i (i+z))] w λe w'=>e=.returned (.int .u64 (QE s i z))/\w=w':=by
 rw[NY];have hl:((s.drop i).take z).length=z:=by rw[MT,Nx];omega
 exact jO _ w (by rw[hl];exact hz)
theorem TX:∀l:List UInt8,Z1 l<256^l.length
 | []=>by decide
 | c::l=>by have:=TX l;have h2:=c.toNat_lt;rw[XN,vv];show c.toNat+256*Z1 l<_;omega
theorem N4 (s:List UInt8) (i z:Nat):0<=QE s i z/\QE s i z<((256^z:Nat):Int):=by
 unfold QE;refine⟨Int.natCast_nonneg _,?_⟩;have h:=TX ((s.drop i).take z);have h2:256^((s.drop i).take z).length<=256^z:=sw (by decide) (by rw[MT];exact Nat.min_le_left _ _);omega
theorem Kw (s:List UInt8) (o n i z:Nat) (h:i+z<=n):QE ((s.drop o).take n) i z=QE s (o+i) z:=by
 unfold QE;rw[List.drop_take,tE,nf,vu (by omega)]
theorem Tx (s:List UInt8) (o n i:Nat) (h:i<n):QG ((s.drop o).take n) i=QG s (o+i):=by
 unfold QG;simp[Yb,Cb,EM,h]
theorem kU (y:QF) (hz:∀i,y.fk i=0/\y.fn i=0/\y.fp i=0) (f g h:Nat->Int):Qq y=Qq (Ro y f g h 0) :=
 Ed rfl rfl rfl (λ_ _=>rfl) rfl (λ_ _=>⟨rfl,rfl,rfl⟩) (λi _=>⟨by simp[Ro,(hz i).1],by simp[Ro,(hz i).2.1],by simp[Ro,(hz i).2.2]⟩) rfl rfl rfl rfl
theorem fH {s:List UInt8}(h:JQ s=some s):Zx 32 s=some s:=by
 unfold JQ at h;split at h
 ·rename_i k;exact QN k.1
 ·cases h
theorem aO {t:List UInt8}{n:Int}(h:ZF 4 t=some n):IntKind.u32.wrap n=n:=by
 unfold ZF at h;split at h
 ·rename_i hl;injection h with h;subst h;have:=TX t;rw[hl]at this;rw[IntKind.wrap_u32'];have h2:(256:Nat)^4=4294967296:=by decide
  omega
 ·cases h
theorem bo {w w':World}{g:Nat}(h:w.grownBy w' (some g)):But g w w':=⟨h.os,h.tape,h.output,h.size,λk hk Jt=>h.block k hk (λe=>Jt (by injection e))⟩
theorem Ee (pid par st:Int) (t3 t4 t5:List UInt8) (mask:Bool) (code why num:Int) :
  Qq { (Ro (({ (AH { Tp with pid:=pid,parent:=par,state:=st } (λi=>QE t3 (4*i) 4) 16) with pc:=QE t3 64 4 }:QF).pages (mo t4 16)) (λi=>QG t5 (17*i)) (λi=>wrap64 (QE t5 (17*i+1) 8)) (λi=>wrap64 (QE t5 (17*i+9) 8)) 8) with mask:=mask,code:=code,why:=why,num:=num }
   = Qq (XY pid par st t3 t4 t5 mask code why num) :=
 Ed rfl rfl rfl (λi hi=>by simp[Ro,QF.pages,AH,XY,hi]) rfl (λi hi=>⟨by simp[Ro,QF.pages,mo,XY,hi],by simp[Ro,QF.pages,mo,XY,hi],by simp[Ro,QF.pages,mo,XY,hi]⟩) (λi hi=>⟨by simp[Ro,XY,hi],by simp[Ro,XY,hi],by simp[Ro,XY,hi]⟩) rfl rfl rfl rfl
theorem DL (s:List UInt8) (i:Nat):IntKind.u32.wrap (QE s i 4)=QE s i 4:=by
 have h:=N4 s i 4;rw[IntKind.wrap_u32'];omega
theorem Xk {b:Nat}{w:World}{t:List UInt8}{L:List (List UInt8)}(h:QA w b (t::L)) (hi:QZ t=none) (hD:∀w',But b w w'->ZG w') (hL:∀s∈t::L,s.length<=281474976710656) :
  Calls prog 128 #[.pointer (some ⟨b,0,none⟩)] w λe w'=>e=JA/\QA w' b L/\But b w w' :=
 (M0 b (t::L) w h hD hL).mono (λe w' h=>⟨h.1.trans (by rw[hi]),h.2⟩)
theorem Lc {b z:Nat}{w:World}{t:List UInt8}{L:List (List UInt8)}(h:QA w b (t::L)) (hz:z<=1000) (hi:Zx z t=none) :
  Calls prog 190 #[.pointer (some ⟨b,0,none⟩),.int .i64 z] w λe w'=>e=JA/\QA w' b L/\But b w w' :=
 (RH z b (t::L) w h hz).mono (λe w' h=>⟨h.1.trans (by rw[hi]),h.2⟩)
theorem Ty {b z:Nat}{w:World}{t:List UInt8}{L:List (List UInt8)}(h:QA w b (t::L)) (hz:z=4\/z=8) (hi:ZF z t=none) :
  Calls prog 127 #[.pointer (some ⟨b,0,none⟩),.int .i64 z] w λe w'=>e=JA/\QA w' b L/\But b w w' :=
 (Fh z b (t::L) w h hz).mono (λe w' h=>⟨h.1.trans (by rw[hi]),h.2⟩)
theorem Cp {b:Nat}{w:World}{t:List UInt8}{L:List (List UInt8)}(h:QA w b (t::L)) (hi:ZH t=none) :
  Calls prog 129 #[.pointer (some ⟨b,0,none⟩)] w λe w'=>e=JA/\QA w' b L/\But b w w' :=
 (Fi b (t::L) w h).mono (λe w' h=>⟨h.1.trans (by rw[hi]),h.2⟩)
theorem MC {s:List UInt8}{z:Option Nat}(h:Ql z s=none) (w:World) (hs:s.length<=1000000000) (hz:∀n,z=some n->n<=1000) :
  Calls prog 125 #[.string (Qb s),.int .i64 (zI z)] w λe w'=>e=JA/\Ext w w' :=
 (Wx s z w hs hz).mono (λe w' k=>by
  rcases k with⟨l',b,h1,_⟩|⟨_,h1,h2⟩
  ·rw[h]at h1;cases h1
  ·exact⟨h1,h2⟩)
theorem Sr {z:Nat}{s t:List UInt8}(h:Zx z s=some t):t=s:=by
 unfold Zx at h;split at h
 ·injection h with h;exact h.symm
 ·cases h
theorem lZ {s:List UInt8}(h:Zx 32 s=some s) (h2:JQ s=none) (w:World):Calls prog 192 #[.string (Qb s)] w λe w'=>e=JA/\Ext w w':=by
 have hl:s.length=32:=by
  unfold Zx at h;split at h
  ·assumption
  ·cases h
 refine(NK s w hl).mono (λe w' q=>⟨?_,q.2⟩);rcases q.1 with⟨q,_⟩|⟨_,q⟩
 ·unfold JQ at h2;rw[QN ⟨hl,q⟩]at h2;cases h2
 ·exact q
theorem I9 {s:List UInt8}(h:Zx 32 s=none):JQ s=none:=by
 unfold Zx at h;split at h
 ·cases h
 ·rename_i k;unfold JQ;rw[QD (λq=>k q.1)]
theorem J3 {α β:Type} {o:Option α}{f:α->Option β}{y:α}{r:Option β}(h:o.bind f=r) (ho:o=some y):f y=r:=by rw[ho]at h;exact h
theorem Jn {α β:Type} {o:Option α}{f:α->Option β}{r:Option β}(h:o.bind f=r) (ho:o=none):r=none:=by rw[ho]at h;exact h.symm
theorem kD {α β:Type} {o:Option α}{f:α->β}{y:α}{r:Option β}(h:o.map f=r) (ho:o=some y):r=some (f y):=by rw[ho]at h;exact h.symm
theorem Di {α β:Type} {o:Option α}{f:α->β}{r:Option β}(h:o.map f=r) (ho:o=none):r=none:=by rw[ho]at h;exact h.symm
def zL:Option QF->Ending
 | some y=>.returned (.agg (Qq y).toArray)
 | none=>JA
theorem T8 (s:List UInt8) (w:World) (hs:s.length<=100000000) (hD:ZG w) :
  Calls prog 132 #[.string (Qb s)] w λe w'=>e=zL (JV s)/\Ext w w':=by
 generalize hP:JV s=r;cases GL:Ql (some 10) s with
 | none =>
  have HO:=Qa (λw=>MC GL w (by omega) (λn h=>by cases h;decide));obtain rfl:r=none:=by unfold JV at hP;rw[GL]at hP;exact hP.symm
  clear hP hs hD GL;go_enter func132,ntmps132;go_upto_region 1 with fail;have x0:Ext w (w.alloc (.cells (Qq Tp).toArray 57)):=(Qg w).alloc _;change Code.wp _ _ _ _ (w.alloc (.cells (Qq Tp).toArray 57));generalize w.alloc (.cells (Qq Tp).toArray 57)=w0 at x0 ⊢;go_wp2_with (go_at_call 125;refine(HO.o _).mono ?_;rintro e w1 ⟨he,x1⟩;simp only[JA]at he;subst he)
  exact⟨rfl,rfl,x0.trans x1⟩
 | some l =>
 obtain⟨t0,t1,t2,t3,t4,t5,t6,t7,t8,t9,rfl⟩:=Od (Yw GL);unfold JV at hP;rw[GL]at hP;simp only[qt,qo,qp]at hP;have Lm:∀t∈[t0,t1,t2,t3,t4,t5,t6,t7,t8,t9],t.length<=281474976710656:=λt ht=>by have:=Zd GL t ht;omega
 have HO:=Qa (λw=>Ug GL w (by omega) (λn h=>by cases h;decide));have gd:=Qa Lm;have ge:=Qa (λt ht=>Lm t (EL _ ht));have EK:=Qa (λt ht=>ge.o t (EL _ ht));have HL8:=Qa (show∀t∈[t8,t9],t.length<=281474976710656 fromλt ht=>Lm t (by simp only[Pm,Rw,Fe]at ht ⊢;rcases ht with rfl|rfl<;>simp));have Vm:=Qa hD;have XG:=Qa hP;clear GL Lm hs hD hP;go_enter func132,ntmps132;go_upto_region 1 with fail;have b0:=Qs w 57 (Qq Tp).toArray;have x0:Ext w (w.alloc (.cells (Qq Tp).toArray 57)):=(Qg w).alloc _;have z0:(w.alloc (.cells (Qq Tp).toArray 57)).heap.size=w.heap.size+1:=YB _ _;change Code.wp _ _ _ _ (w.alloc (.cells (Qq Tp).toArray 57));generalize w.alloc (.cells (Qq Tp).toArray 57)=w0 at b0 x0 z0 ⊢;go_upto_region 2 with(go_at_call 125;refine(HO.o _).mono ?_;rintro e w1 ⟨cb,rfl,GO,UB,x1⟩)
 have b1:=b0.ext x1;have x1':=x0.trans x1;have VA:w.heap.size+1<=w1.heap.size:=by rw[←z0];exact x1.size
 have Qka:=UB.lt;rw[z0]at GO;clear b0 x0 z0 x1 HO;clear w0;go_upto_region 3 with fail
 have S:PS w (w1.alloc (.cells (Qq Tp).toArray 57)) w.heap.size w1.heap.size cb Tp [t0,t1,t2,t3,t4,t5,t6,t7,t8,t9] :=
  ⟨Qs w1 _ _,b1.ext ((Qg _).alloc _),UB.ext ((Qg _).alloc _),x1'.alloc _,by omega,by omega,by omega,Q4 _,by omega,by omega⟩
 change Code.wp _ _ _ _ (w1.alloc (.cells (Qq Tp).toArray 57));generalize w1.alloc (.cells (Qq Tp).toArray 57)=W0 at S ⊢;generalize w1.heap.size=pb at S ⊢;generalize pE:w.heap.size=rb at S ⊢;clear b1 x1' VA GO Qka UB;clear w1;cases e0:QZ t0 with
 | none =>
  obtain rfl:=Jn XG.o e0;have HN:=Qa e0;clear e0 XG
  go_wp2_with (first
   | (go_at_call 128;refine(Xk S.cur HN.o (S.dec Vm.o) gd.o).mono ?_;rintro e wz ⟨he,kz,dz⟩;simp only[JA]at he;subst he))
  exact⟨rfl,rfl,dz.past S.ext S.lc⟩
 | some pid =>
 have H0:=Qa e0;replace XG:=Qa (J3 XG.o e0);clear e0;cases e0:QZ t1 with
 | none =>
  obtain rfl:=Jn XG.o e0;have HN:=Qa e0;clear e0 XG
  go_wp2_with (first
   | (go_at_call 128;refine(Xk S1.cur HN.o (S1.dec Vm.o) ge.o).mono ?_;rintro e wz ⟨he,kz,dz⟩;simp only[JA]at he;subst he)
   | (go_at_call 128;refine(JD S.cur H0.o (S.dec Vm.o) gd.o).mono ?_;rintro e w1 ⟨rfl,k1,d1⟩;have S1:=S.call k1 d1))
  exact⟨rfl,rfl,dz.past S1.ext S1.lc⟩
 | some par =>
 have H1:=Qa e0;replace XG:=Qa (J3 XG.o e0);clear e0;cases e0:QZ t2 with
 | none =>
  obtain rfl:=Jn XG.o e0;have HN:=Qa e0;clear e0 XG
  go_wp2_with (first
   | (go_at_call 128;refine(Xk S2.cur HN.o (S2.dec Vm.o) EK.o).mono ?_;rintro e wz ⟨he,kz,dz⟩;simp only[JA]at he;subst he)
   | (go_at_call 128;refine(JD S1.cur H1.o (S1.dec Vm.o) ge.o).mono ?_;rintro e w2 ⟨rfl,k2,d2⟩;have S2:=S1.call k2 d2)
   | (go_at_call 128;refine(JD S.cur H0.o (S.dec Vm.o) gd.o).mono ?_;rintro e w1 ⟨rfl,k1,d1⟩;have S1:=S.call k1 d1))
  exact⟨rfl,rfl,dz.past S2.ext S2.lc⟩
 | some st =>
 have H2:=Qa e0;replace XG:=Qa (J3 XG.o e0);clear e0
 go_upto_region 4 with(first
  | (go_at_call 128;refine(JD S2.cur H2.o (S2.dec Vm.o) EK.o).mono ?_;rintro e w3 ⟨rfl,k3,d3⟩;have S3:=S2.call k3 d3)
  | (go_at_call 128;refine(JD S1.cur H1.o (S1.dec Vm.o) ge.o).mono ?_;rintro e w2 ⟨rfl,k2,d2⟩;have S2:=S1.call k2 d2)
  | (go_at_call 128;refine(JD S.cur H0.o (S.dec Vm.o) gd.o).mono ?_;rintro e w1 ⟨rfl,k1,d1⟩;have S1:=S.call k1 d1)
  | (refine Xy S3 { Tp with pid:=pid } _ _ _ rfl rfl 0 _ rfl rfl rfl YT (by decide) rfl ?_;intro w4 S4)
  | (refine Xy S4 { Tp with pid:=pid,parent:=par } _ _ _ rfl rfl 1 _ rfl rfl rfl YT (by decide) rfl ?_;intro w5 S5)
  | (refine Xy S5 { Tp with pid:=pid,parent:=par,state:=st } _ _ _ rfl rfl 2 _ rfl rfl rfl YT (by decide) rfl ?_;intro w6 S6))
 clear S S1 S2 S3 S4 S5 k1 k2 k3 d1 d2 d3 H0 H1 H2 gd ge EK;clear w1 w2 w3 w4 w5;clear W0;cases e0:Zx 68 t3 with
 | none =>
  obtain rfl:=Jn XG.o e0;have HN:=Qa e0;clear e0 XG
  go_wp2_with (first
   | (go_at_call 190;refine(Lc S6.cur (by decide) HN.o).mono ?_;rintro e wz ⟨he,kz,dz⟩;simp only[JA]at he;subst he))
  exact⟨rfl,rfl,dz.past S6.ext S6.lc⟩
 | some cpu =>
 have H3:=Qa e0;replace XG:=Qa (J3 XG.o e0);clear e0;obtain rfl:=Sr H3.o;go_upto_region 5 with(go_at_call 190;refine(WY S6.cur (by decide) H3.o).mono ?_;rintro e w7 ⟨rfl,k7,d7⟩;have S7:=S6.call k7 d7)
 have S8:=S7.eq (show _=Qq (AH { Tp with pid:=pid,parent:=par,state:=st } (λi=>QE cpu (4*i) 4) 0) from rfl);clear S6 S7 k7 d7;clear w6;generalize wX:({ Tp with pid:=pid,parent:=par,state:=st }:QF)=y3 at S8;have zA:=Qa wX;clear wX;have hl3:(Qb cpu).size=68:=by
  rw[Qh];have:=H3.o;unfold Zx at this;split at this
  ·assumption
  ·cases this
 have hn3:cpu.length=68:=by rw[Qh]at hl3;exact hl3
 go_wp2_with fail;go_loopw [6,23] (λ_ i wx=>∃k:Nat,k<=16/\i=.int .i64 k/\PS w wx rb pb cb (AH y3 (λi=>QE cpu (4*i) 4) k) [t4,t5,t6,t7,t8,t9]) (λ_ i _=>16-(intOf i).toNat);case atStart=>exact⟨0,by omega,rfl,S8⟩
 case round =>
  clear S8;obtain⟨k,hk,rfl,S1⟩:=hrel;by_cases Qn:k<16
  ·have Y6:(k:Int)<16:=by omega
   have HP:Zm ((Qq (AH y3 (λi=>QE cpu (4*i) 4) k)).toArray.setIfInBounds (3+k) (.int .u32 (QE cpu (4*k) 4))=(Qq (AH y3 (λi=>QE cpu (4*i) 4) (k+1))).toArray):=Qa (aX y3 (λi=>QE cpu (4*i) 4) Qn);have HG:=Qa (E3 cpu (4*k) 4 (.inl rfl) (by omega));have hu:=DL cpu (4*k);generalize QE cpu (4*k) 4=r at *;clear hn3
   go_wp2_with (first
    | (go_at_call 164;refine(HG.o _).mono ?_;rintro e w2 ⟨rfl,rfl⟩)
    | (refine Xy S1 _ _ _ _ rfl rfl (3+k) _ rfl rfl rfl Ew (by omega) HP.o ?_;intro w3 S2))
   go_roundw;case rel=>exact⟨k+1,by omega,by go_num,S2⟩
   case measure=>simp[intOf];omega
  ·obtain rfl:k=16:=by omega
   have HG:=Qa (E3 cpu 64 4 (.inl rfl) (by omega));have hu:=DL cpu 64;have fg:Zm ((Qq (AH y3 (λi=>QE cpu (4*i) 4) 16)).toArray.setIfInBounds 19 (.int .u32 (QE cpu 64 4))=(Qq { (AH y3 (λi=>QE cpu (4*i) 4) 16) with pc:=QE cpu 64 4 }).toArray):=Qa rfl;generalize gD:QE cpu 64 4=pc at *;generalize hyR:AH y3 (λi=>QE cpu (4*i) 4) 16=yR at *;have HPc:=Qa gD;have zD:=Qa hyR;clear gD hyR hn3
   go_upto_region 11 with(first
    | (go_at_call 164;refine(HG.o _).mono ?_;rintro e w2 ⟨rfl,rfl⟩)
    | (refine Xy S1 { yR with pc:=pc } _ _ _ rfl rfl 19 _ rfl rfl rfl Ew (by decide) fg.o ?_;intro w3 S2))
   generalize hyP:({ yR with pc:=pc }:QF)=yP at *;have zC:=Qa hyP;clear hyP S1 HG hu fg Qn hk;clear wr;cases e1:Zx 32 t4 with
   | none =>
    obtain rfl:=Jn XG.o (I9 e1);have HN:=Qa e1;clear e1 XG;go_wp2_with (go_at_call 190;refine(Lc S2.cur (by decide) HN.o).mono ?_;rintro e wz ⟨he,kz,dz⟩;simp only[JA]at he;subst he)
    exact⟨rfl,rfl,dz.past S2.ext S2.lc⟩
   | some sp0 =>
   obtain rfl:=Sr e1;cases e0:JQ sp0 with
   | none =>
    obtain rfl:=Jn XG.o e0;have yp:=Qa (λw=>lZ e1 e0 w);have HF4:=Qa e1;clear e0 e1 XG
    go_wp2_with (first
     | (go_at_call 190;refine(WY S2.cur (by decide) HF4.o).mono ?_;rintro e w4 ⟨rfl,k4,d4⟩;have S4:=S2.call k4 d4)
     | (go_at_call 192;refine(yp.o _).mono ?_;rintro e w5 ⟨he,x5⟩;simp only[JA]at he;subst he))
    exact⟨rfl,rfl,S4.ext.trans x5⟩
   | some sp =>
   replace XG:=Qa (J3 XG.o e0);obtain rfl:sp=sp0:=(Ev e0 w).1;have H4:=Qa e0;clear e0 e1;have yp:=Qa (λw=>(Ev H4.o w).2);have HF4:=Qa (fH H4.o);unfold fG at yp;generalize hyq:mo sp 16=q at *;have HQ:=Qa hyq;clear hyq
   go_upto_region 12 with(first
    | (go_at_call 190;refine(WY S2.cur (by decide) HF4.o).mono ?_;rintro e w4 ⟨rfl,k4,d4⟩;have S4:=S2.call k4 d4)
    | (go_at_call 192;refine(yp.o _).mono ?_;rintro e w5 ⟨rfl,x5⟩;have S5:=S4.more x5)
    | (refine PU _ _ rfl rfl pb yP q _ rfl rfl S5.box ?_;intro w6 b6 d6;have S6:=S5.but d6 _ b6))
   generalize hyS:yP.pages q=yS at *;have zE:=Qa hyS;clear hyS S2 S4 S5 k4 d4 x5 d6 b6 yp HF4;clear w3 w4 w5;have HZ:=Qa (show∀i,yS.fk i=0/\yS.fn i=0/\yS.fp i=0 fromλi=>by rw[←zE.o,←zC.o,←zD.o,←zA.o];exact⟨rfl,rfl,rfl⟩);cases e0:Zx 136 t5 with
   | none =>
    obtain rfl:=Jn XG.o e0;have HN:=Qa e0;clear e0 XG
    go_wp2_with (first
     | (go_at_call 190;refine(Lc S6.cur (by decide) HN.o).mono ?_;rintro e wz ⟨he,kz,dz⟩;simp only[JA]at he;subst he))
    exact⟨rfl,rfl,dz.past S6.ext S6.lc⟩
   | some fds =>
   have H5:=Qa e0;replace XG:=Qa (J3 XG.o e0);clear e0;obtain rfl:=Sr H5.o;have hl5:(Qb fds).size=136:=by
    rw[Qh];have:=H5.o;unfold Zx at this;split at this
    ·assumption
    ·cases this
   have uF:fds.length=136:=by rw[Qh]at hl5;exact hl5
   go_upto_region 13 with(go_at_call 190;refine(WY S6.cur (by decide) H5.o).mono ?_;rintro e w7 ⟨rfl,k7,d7⟩;have S7:=S6.call k7 d7)
   have S8:=S7.eq (kU yS HZ.o (λi=>QG fds (17*i)) (λi=>wrap64 (QE fds (17*i+1) 8)) (λi=>wrap64 (QE fds (17*i+9) 8)));clear S6 S7 k7 d7;clear w6;go_wp2_with fail;go_loopw [8,9,52] (λ_ _ i wx=>∃k:Nat,k<=8/\i=.int .i64 k/\PS w wx rb pb cb (Ro yS (λi=>QG fds (17*i)) (λi=>wrap64 (QE fds (17*i+1) 8)) (λi=>wrap64 (QE fds (17*i+9) 8)) k) [t6,t7,t8,t9]) (λ_ _ i _=>8-(intOf i).toNat);case atStart=>exact⟨0,by omega,rfl,S8⟩
   case round =>
    clear S8;obtain⟨k,hk,rfl,S1⟩:=hrel;by_cases Qn:k<8
    ·have Y6:(k:Int)<8:=by omega
     have HP:Zm ((((Qq (Ro yS (λi=>QG fds (17*i)) (λi=>wrap64 (QE fds (17*i+1) 8)) (λi=>wrap64 (QE fds (17*i+9) 8)) k)).toArray.setIfInBounds (68+k*3) (.int .i64 (QG fds (17*k)))).setIfInBounds (68+k*3+1) (.int .i64 (wrap64 (QE fds (17*k+1) 8)))).setIfInBounds (68+k*3+2) (.int .i64 (wrap64 (QE fds (17*k+9) 8)))=(Qq (Ro yS (λi=>QG fds (17*i)) (λi=>wrap64 (QE fds (17*i+1) 8)) (λi=>wrap64 (QE fds (17*i+9) 8)) (k+1))).toArray):=Qa (pg yS (λi=>QG fds (17*i)) (λi=>wrap64 (QE fds (17*i+1) 8)) (λi=>wrap64 (QE fds (17*i+9) 8)) Qn);have HX:(Qb fds).extract (17*k) (17*(k+1))=Qb ((fds.drop (17*k)).take 17):=by rw[J6,show 17*(k+1)-17*k=17 by omega]
     have e0:=Tx fds (17*k) 17 0 (by decide);have e1:=Kw fds (17*k) 17 1 8 (by decide);have e2:=Kw fds (17*k) 17 9 8 (by decide);have XS:((fds.drop (17*k)).take 17).length=17:=by rw[MT,Nx];omega
     go_wp2_with fail;rw[HX];clear HX;generalize (fds.drop (17*k)).take 17=p at *;rw[nb]at e0;rw[←e0,←e1,←e2]at HP;clear e0 e1 e2;have hps:(Qb p).size=17:=by rw[Qh];exact XS
     have i0:∀w,(Instr.index 9 (.string (Qb p)) (.int .i64 0)).run prog w=.ok (.int .u8 (QG p 0)) w:=λw=>Ua p 0 (by omega) w;have HG1:=Qa (λw=>E3 p 1 8 (.inr rfl) (by omega) w);have vN:=Qa (λw=>E3 p 9 8 (.inr rfl) (by omega) w);have q0:=VU p 0;have hw0:=Wq q0.1 q0.2;clear q0;generalize QG p 0=c0 at *;generalize QE p 1 8=c1 at *;generalize QE p 9 8=c2 at *;refine Ja 15 (by kernel_rfl) (by kernel_rfl) ?_;simp only[KG,KI,UY,KJ];repeat (go_big_quiet_step ((first|(with_reducible exact Jb (HG1.o _))|(with_reducible exact Jb (vN.o _)))))
     refine VI ?_;rintro w2 ⟨x2,rfl⟩;have S2:=S1.more x2.ext;generalize x2.now=w2 at *;go_wp2_with (refine YM _ _ _ rfl rfl pb (68+k*3) _ _ _ _ _ _ rfl rfl KL rfl rfl rfl S2.box (by rw[NS,Q2];omega) HP.o ?_;intro w3 b3 g3)
     go_roundw;case rel=>exact⟨k+1,by omega,by go_num,S2.but (bo g3) _ b3⟩
     case measure=>simp[intOf];omega
    ·obtain rfl:k=8:=by omega
     have qW:=Qa (λmask code why num=>Ee pid par st cpu sp fds mask code why num);rw[zA.o,zD.o,HPc.o,zC.o,HQ.o,zE.o]at qW;generalize hyF:Ro yS (λi=>QG fds (17*i)) (λi=>wrap64 (QE fds (17*i+1) 8)) (λi=>wrap64 (QE fds (17*i+9) 8)) 8=yF at *;clear hyF zA zD HPc zC HQ zE HZ hl3 hl5 uF Qn hk;cases e0:ZH t6 with
     | none =>
      obtain rfl:=Jn XG.o e0;have HN:=Qa e0;clear e0 XG
      go_wp2_with (first
       | (go_at_call 129;refine(Cp S1.cur HN.o).mono ?_;rintro e wz ⟨he,kz,dz⟩;simp only[JA]at he;subst he))
      exact⟨rfl,rfl,dz.past S1.ext S1.lc⟩
     | some mask =>
     have H6:=Qa e0;replace XG:=Qa (J3 XG.o e0);clear e0
     go_upto_region 20 with(first
      | (go_at_call 129;refine(Fk S1.cur H6.o).mono ?_;rintro e w2 ⟨rfl,k2,d2⟩;have S2:=S1.call k2 d2)
      | (refine Xy S2 { yF with mask:=mask } _ _ _ rfl rfl 92 _ rfl rfl rfl Pe (by decide) rfl ?_;intro w3 S3))
     cases e0:ZF 4 t7 with
     | none =>
      obtain rfl:=Jn XG.o e0;have HN:=Qa e0;clear e0 XG
      go_wp2_with (first
       | (go_at_call 127;refine(Ty S3.cur (.inl rfl) HN.o).mono ?_;rintro e wz ⟨he,kz,dz⟩;simp only[JA]at he;subst he))
      exact⟨rfl,rfl,dz.past S3.ext S3.lc⟩
     | some code =>
     have H7:=Qa e0;replace XG:=Qa (J3 XG.o e0);clear e0;have aB:=aO H7.o
     go_upto_region 21 with(first
      | (go_at_call 127;refine(WS S3.cur (.inl rfl) H7.o).mono ?_;rintro e w4 ⟨rfl,k4,d4⟩;have S4:=S3.call k4 d4)
      | (refine Xy S4 { yF with mask:=mask,code:=code } _ _ _ rfl rfl 93 _ rfl rfl rfl Ew (by decide) rfl ?_;intro w5 S5))
     cases e0:QZ t8 with
     | none =>
      obtain rfl:=Jn XG.o e0;have HN:=Qa e0;clear e0 XG
      go_wp2_with (first
       | (go_at_call 128;refine(Xk S5.cur HN.o (S5.dec Vm.o) HL8.o).mono ?_;rintro e wz ⟨he,kz,dz⟩;simp only[JA]at he;subst he))
      exact⟨rfl,rfl,dz.past S5.ext S5.lc⟩
     | some why =>
     have H8:=Qa e0;replace XG:=Qa (J3 XG.o e0);clear e0
     go_upto_region 22 with(first
      | (go_at_call 128;refine(JD S5.cur H8.o (S5.dec Vm.o) HL8.o).mono ?_;rintro e w6 ⟨rfl,k6,d6⟩;have S6:=S5.call k6 d6)
      | (refine Xy S6 { yF with mask:=mask,code:=code,why:=why } _ _ _ rfl rfl 94 _ rfl rfl rfl YT (by decide) rfl ?_;intro w7 S7))
     cases e0:ZF 8 t9 with
     | none =>
      obtain rfl:=Di XG.o e0;have HN:=Qa e0;clear e0 XG
      go_wp2_with (first
       | (go_at_call 127;refine(Ty S7.cur (.inr rfl) HN.o).mono ?_;rintro e wz ⟨he,kz,dz⟩;simp only[JA]at he;subst he))
      exact⟨rfl,rfl,dz.past S7.ext S7.lc⟩
     | some num =>
     have H9:=Qa e0;obtain rfl:=kD XG.o e0;clear e0
     go_upto_region 23 with(first
      | (go_at_call 127;refine(WS S7.cur (.inr rfl) H9.o).mono ?_;rintro e w8 ⟨rfl,k8,d8⟩;have S8:=S7.call k8 d8)
      | (refine Xy S8 { yF with mask:=mask,code:=code,why:=why,num:=num } _ _ _ rfl rfl 95 _ rfl rfl rfl Ex (by decide) rfl ?_;intro w9 S9))
     generalize hyZ:({ yF with mask:=mask,code:=code,why:=why,num:=num }:QF)=yZ at *;have HYZ:=Qa hyZ;clear hyZ;have h0:=S9.lr
     go_wp2_with (first
      | (refine QT _ rfl rfl pb 0 yZ rfl (Xe S9.box (λj v h=>by rw[Nz,MR];exact h)) ?_)
      | (refine J0 _ _ rfl rfl rb yZ _ _ rfl rfl S9.res (by rw[NS,Q2]) ?_;intro gP VM g10))
     refine Jv (QQ rfl _ _ rb _ _ _ rfl VM underlying57 rfl (by rw[NS,Q2];exact R0)) rfl ⟨by show _=Ending.returned (.agg (Qq _).toArray);rw[←qW.o mask code why num,HYZ.o],S9.ext.grown g10 (λj e=>by cases e;exact h0)⟩
theorem Dx (s:List UInt8) (y:QF) (w:World) (hP:JV s=some y) (hs:s.length<=100000000) (hD:ZG w) :
  Calls prog 132 #[.string (Qb s)] w λe w'=>e=.returned (.agg (Qq y).toArray)/\Ext w w' :=
 (T8 s w hs hD).mono (λe w' h=>⟨h.1.trans (by rw[hP];rfl),h.2⟩)
structure KF (m:QO) (d:Qz):Prop where
 clock:0<=m.clock/\m.clock<18446744073709551616
 told:0<=m.told/\m.told<18446744073709551616
 dleft:Up m.dleft
 cur:Up m.cur
 pr:∀y∈d.pr,(∀i<16,0<=y.reg i/\y.reg i<4294967296)/\(0<=y.pc/\y.pc<4294967296)/\(0<=y.code/\y.code<4294967296)/\(0<=y.num/\y.num<18446744073709551616)
theorem XT {n b:Int}(h0:0<=n) (h1:n<=b) (hb:b<=9223372036854775807):Up n:=⟨by omega,by omega⟩
theorem Bs {m:QO}{l:List ZY}(h:Zo m l l.length) (hn:m.newPipe<=1000000000):∀y∈l,1<=y.1/\y.1<=1000000000/\y.2.length<=64:=by
 intro y hy;obtain⟨i,hi,rfl⟩:=Fd hy;obtain⟨h1,h2,h3,_⟩:=h i hi hi;exact⟨h1,by omega,h3⟩
theorem dX {m:QO}{d:Qz}(h:Zg m d d.pr.length) (hn:m.next<=1000000000) {n:Int}(hl:XM d.pr n):1<=n/\n<=1000000000:=by
 obtain⟨y,hy,rfl,_⟩:=hl;obtain⟨i,hi,rfl⟩:=Fd hy;have:=(h i hi hi).1.pid;omega
theorem kh {m:QO}{d:Qz}(h:iI m d) (hw:KF m d):∀y∈d.pr,Wg y:=by
 intro y hy;have hf:=hw.pr y hy;obtain⟨i,hi,rfl⟩:=Fd hy;have k:=(h.pr i hi hi).1;have hn:=h.nums.next.2;refine⟨?_,?_,?_,?_,hf.1,hf.2.1,hf.2.2.1,hf.2.2.2,?_,?_,?_,?_⟩
 ·have:=k.pid;exact XT (b:=1000000000) (by omega) (by omega) (by omega)
 ·rcases k.par with hl|⟨_,e⟩
  ·have:=dX h.pr hn hl;exact XT (b:=1000000000) (by omega) (by omega) (by omega)
  ·rw[e];exact⟨by omega,by omega⟩
 ·have:=k.state;exact XT (b:=3) (by omega) (by omega) (by omega)
 ·have:=k.why;exact XT (b:=5) (by omega) (by omega) (by omega)
 ·intro j hj;have hp:=k.page j hj;have hr:=h.frn;rcases hp with⟨e1,e2,e3⟩|⟨e1,_,e3,e4,_⟩
  ·exact⟨by omega,by omega,λ_=>⟨e2,e3⟩⟩
  ·exact⟨e3,by omega,λe=>by rw[e1]at e;cases e⟩
 ·intro j hj;rcases(k.fd j hj).1 with⟨e,_,_⟩|⟨e,_⟩|⟨e,_,_⟩<;>omega
 ·intro j hj;rcases(k.fd j hj).1 with⟨_,e,_⟩|⟨_,e1,e2,_⟩|⟨_,_,y,hy,e⟩
  ·omega
  ·omega
  ·have:=Bs h.pi h.nums.newPipe.2 y hy;omega
 ·intro j hj;rcases(k.fd j hj).1 with⟨_,_,e⟩|⟨_,_,_,e1,e2⟩|⟨_,e,_⟩<;>omega
theorem Hc {m:QO}{d:Qz}(h:Z3 m d) (hw:KF m d) (aH:d.pr.length=m.pr.n) (U1:d.pi.length=m.pi.n) (U8:d.pe.length<=1000):Y4 m d:=by
 have hr:=h.rest;obtain⟨hj,hd1,hd2,_⟩:=h.disk;have hd:=Yn hj;have n1:=hr.nums.quantum;have n2:=hr.nums.left;have n3:=hr.nums.next;have n4:=hr.nums.newPipe;have hm:=hd.most;have Tm:=hr.prn;have U7:=hr.pin;refine⟨hw.clock,hw.told,XT (b:=1000) (by omega) n1.2 (by omega),hw.cur,?_,?_,?_,hw.dleft,?_,?_,?_,?_,?_,kh hr hw,U8,by omega,by omega,by omega⟩
 ·exact XT (b:=1000) n2.1 (by omega) (by omega)
 ·exact XT (b:=1000000000) (by omega) n3.2 (by omega)
 ·exact XT (b:=1000000000) (by omega) n4.2 (by omega)
 ·have:=hr.texts.2;omega
 ·have:=hr.texts.1;omega
 ·intro x hx;have:=hd.pend x hx;exact⟨XT (b:=256) this.1 (by omega) (by omega),by omega⟩
 ·intro x hx;obtain⟨i,hi,rfl⟩:=Fd hx;obtain⟨k1,k2,k3,_⟩:=hd2 i hi;exact⟨XT (b:=256) k1 (by omega) (by omega),by omega⟩
 ·intro x hx;obtain⟨k1,k2,k3⟩:=Bs hr.pi n4.2 x hx;exact⟨XT (b:=1000000000) (by omega) k2 (by omega),by omega⟩
def Zc (l:List QF) (pid:Int):Option QF:=l.find? λp=>p.pid==pid&&(p.state==1||p.state==2)
def QL (y:QF):Nat->Nat
 | 0=>0
 | j+1=>QL y j+(if y.pis j=true then 1 else 0)
def Jc (n:Nat) (l:List QF):List Nat:=(List.range n).filter λi=>Q7 l (i:Int) l.length==0
def NB (src:List (List UInt8)) (y:QF) (free:List Nat) (fr:List (List UInt8)):Nat->List (List UInt8)
 | 0=>fr
 | j+1=>if y.pis j=true then (NB src y free fr j).set (free.getD (QL y j) 0) (src.getD (y.pfr j).toNat []) else NB src y free fr j
def JI (y:QF) (next:Int) (free:List Nat) (fds:Nat->Int × Int × Int) (j:Nat):QF where
 pid:=next
 parent:=0
 state:=1
 reg:=y.reg
 pc:=y.pc
 pis:=λi=>decide (i<j)&&y.pis i
 pwr:=λi=>decide (i<j)&&(y.pis i&&y.pwr i)
 pfr:=λi=>if i<j/\y.pis i=true then (free.getD (QL y i) 0:Nat) else 0
 fk:=λi=>(fds i).1
 fn:=λi=>(fds i).2.1
 fp:=λi=>(fds i).2.2
 mask:=y.mask
 code:=0
 why:=0
 num:=0
def Uu (src:List (List UInt8)) (y:QF) (next:Int) (n:Nat) (d:Qz) (fds:Nat->Int × Int × Int):Qz :=
 { d with fr:=NB src y (Jc n d.pr) d.fr 16,pr:=d.pr++[JI y next (Jc n d.pr) fds 16] }
theorem Si (y:QF):∀{i j:Nat},i<=j->QL y i<=QL y j:=by
 intro i j h;induction h with
 | refl=>exact Q4 _
 | step _ ih=>exact YR ih (Nat.le_add_right _ _)
theorem M2 {y:QF}{i j:Nat}(h:i<j) (hi:y.pis i=true):QL y i<QL y j:=by
 have:=Si y (show i+1<=j from h);rw[QL,QN hi]at this;omega
theorem cm {n:Nat}{l:List QF}{f:Nat}:f∈Jc n l↔f<n/\Q7 l (f:Int) l.length=0:=by
 unfold Jc;rw[List.mem_filter,Mo,ng]
theorem Le {n:Nat}{l:List QF}{c:Nat}(h:c<(Jc n l).length):(Jc n l).getD c 0<n/\Q7 l (((Jc n l).getD c 0:Nat):Int) l.length=0:=by
 rw[Yb,ZX h];exact cm.1 (NT h)
theorem Uy (src:List (List UInt8)) (y:QF) (free:List Nat) (fr:List (List UInt8)):∀j,(NB src y free fr j).length=fr.length
 | 0=>rfl
 | j+1=>by
  rw[NB];split
  ·rw[Wft];exact Uy src y free fr j
  ·exact Uy src y free fr j
def OC (f:Int × Int × Int):Prop:=(f.1=0/\f.2.1=0/\f.2.2=0)\/((f.1=1\/f.1=2)/\f.2.1=0/\f.2.2=0)\/(f.1=3/\1<=f.2.1/\f.2.1<=64/\0<=f.2.2/\f.2.2<=8960)
theorem UH {l:List QF}{pid:Int}{y:QF}(h:Zc l pid=some y):y∈l/\y.pid=pid/\(y.state=1\/y.state=2):=by
 unfold Zc at h;have h1:=List.find?_some h;have h2:=List.mem_of_find?_eq_some h;simp only[Vg,iQ,ng]at h1;exact⟨h2,h1.1,h1.2⟩
theorem Z3.proc {m:QO}{d:Qz}(h:Z3 m d) {y:QF}(hy:y∈d.pr):Xa m d y:=by
 obtain⟨i,hi,rfl⟩:=Fd hy;exact(h.rest.pr i hi hi).1
section
variable {ops:Array Oper}{rest:List Oper}{o:Oper}{a:Act}{w:World}{Q:Exit->Act->World->Prop}
theorem Je {w:World}{g:Nat}{t:TypeId}{p:QF}(h:Box w g t (Qq p).toArray):w.rangeAt g 0 (Qq p):=λj v hj=>by
 rw[Nz];exact(h.cell j).trans (by rw[←hj];simp)
theorem ZD (x:Operand) (hw:Region.wanted o (yielded ops a.tmps)=true) (ho:o.op=.load 57 x) (g:Nat) (p:QF) (t:TypeId) (hx:a.eval x=.pointer (some ⟨g,0,none⟩))
  (hb:Box w g t (Qq p).toArray) (hK:wpList prog ops Q rest (a.put o.dst (.agg (Qq p).toArray)) w):wpList prog ops Q (o::rest) a w:=by
 unfold wpList;rw[QN hw];exact .inl (wp_load_mid _ x ho g 0 hx _ _ (Je hb) underlying57 rfl (by rw[Q2];exact R0) hK)
end
theorem Vv (y:QF) (w:World) :
  Calls prog 158 #[.agg (Qq y).toArray] w λe w'=>e=.returned (.bool (y.state==1||y.state==2))/\Ext w w':=by
 have b0:=Qs w 57 (Qq y).toArray;have x0:=(Qg w).alloc (.cells (Qq y).toArray 57);go_enter func158,ntmps158;go_upto_region 1 with fail;generalize w.alloc (.cells (Qq y).toArray 57)=w1 at *;have c2:w1.cell? ⟨w.heap.size,2,none⟩=some (.int .i64 y.state):=b0.cell 2;clear b0;rcases VS (y.state==1) with h1|h1<;>rcases VS (y.state==2) with h2|h2<;>go_wp2_with fail
 all_goals
  go_ret;exact⟨by rw[h1,h2];rfl,x0⟩
theorem cQ (m:QO) (d:Qz) (y:QF) (w:World) (h:Xa m d y) :
  Calls prog 90 #[.agg (Qq y).toArray] w λe w'=>e=.returned (.bool true)/\Ext w w':=by
 have HL:=Qa (λw=>Vv y w);have b0:=Qs w 57 (Qq y).toArray;have x0:=(Qg w).alloc (.cells (Qq y).toArray 57);have Qb4:=h.reg;have Kq:=h.state;have uK:=h.why;have Pu:=h.code;clear h;go_enter func90,ntmps90;go_upto_region 1 with fail;generalize w.alloc (.cells (Qq y).toArray 57)=w1 at *;generalize w.heap.size=G at *;have cf:∀wx,Ext w1 wx->wx.cell? ⟨G,2,none⟩=some (.int .i64 y.state)/\wx.cell? ⟨G,3,none⟩=some (.int .u32 0)/\wx.cell? ⟨G,93,none⟩=some (.int .u32 y.code)/\wx.cell? ⟨G,94,none⟩=some (.int .i64 y.why)/\wx.cell? ⟨G,95,none⟩=some (.int .u64 y.num):=λwx x => ⟨(b0.ext x).cell 2,by rw[←Qb4];exact(b0.ext x).cell 3,(b0.ext x).cell 93,(b0.ext x).cell 94,(b0.ext x).cell 95⟩
 have CF:=Qa cf;clear cf Qb4;have EK:=HL.o;generalize y.state=s at *;have D1:=Qa EK;clear HL EK;generalize y.why=wy at *;generalize y.num=nm at *;generalize y.code=cd at *;rcases Kq with rfl|rfl|rfl
 ·obtain⟨rfl,rfl⟩:wy=0/\nm=0:=by omega
  obtain rfl:cd=0:=by omega
  clear uK Pu
  go_wp2_with (first
   | (refine QT (.tmp 1) rfl rfl G 0 y rfl (Je b0) ?_)
   | (go_at_call 158;refine(D1.o _).mono ?_;rintro e w2 ⟨rfl,x2⟩;obtain⟨c2,c3,c93,c94,c95⟩:=CF.o _ x2))
  go_ret;exact⟨rfl,x0.trans x2⟩
 ·obtain⟨VA,uJ⟩:1<=wy/\wy<=5:=by omega
  have e1:decide (wy<1)=false:=by simp;omega
  have e2:decide (5<wy)=false:=by simp;omega
  obtain rfl:cd=0:=by omega
  clear uK Pu
  go_wp2_with (first
   | (refine QT (.tmp 1) rfl rfl G 0 y rfl (Je b0) ?_)
   | (go_at_call 158;refine(D1.o _).mono ?_;rintro e w2 ⟨rfl,x2⟩;obtain⟨c2,c3,c93,c94,c95⟩:=CF.o _ x2))
  go_ret;exact⟨rfl,x0.trans x2⟩
 ·obtain⟨rfl,rfl⟩:wy=0/\nm=0:=by omega
  clear uK Pu
  go_wp2_with (first
   | (refine QT (.tmp 1) rfl rfl G 0 y rfl (Je b0) ?_)
   | (go_at_call 158;refine(D1.o _).mono ?_;rintro e w2 ⟨rfl,x2⟩;obtain⟨c2,c3,c93,c94,c95⟩:=CF.o _ x2))
  go_ret;exact⟨rfl,x0.trans x2⟩
theorem LT (i:Int) (s:ByteArray) (g:Nat) (id:Int) (w:World) (h:Box w g 3 #[.int .i64 id]) :
  Calls prog 208 #[.agg #[.int .i64 i,.string s],.pointer (some ⟨g,0,none⟩)] w λe w'=>e=.returned (.bool (i==id))/\Ext w w':=by
 have x0:=(Qg w).alloc (.cells #[.int .i64 i,.string s] 95);have c0:(w.alloc (.cells #[.int .i64 i,.string s] 95)).cell? ⟨g,0,none⟩=some (.int .i64 id):=(h.ext x0).cell 0;clear h;go_enter func208,ntmps208;go_wp2_with fail;go_ret;exact⟨rfl,x0⟩
theorem kP (A:Option Addr) (n c:Nat) (l:List ZY) (g:Nat) (id:Int) (w:World) (hv:Cd w A n l) (hn:n<=4000) (hb:Box w g 3 #[.int .i64 id]) (hy:∃y∈l,y.1=id) :
  Calls prog 207 #[.slice A n c,.func (.func 208) #[] #[.pointer (some ⟨g,0,none⟩)]] w λe w'=>(∃k:Nat,k<=4000/\e=.returned (.int .i64 k))/\Ext w w':=by
 have HP:=Qa (λi s w h=>LT i s g id w h);obtain⟨rfl,Y7⟩:=hv;have HY:=Qa hy;clear hy;go_enter func207,ntmps207;go_wp2_with fail;go_loopw [8] (λi wx=>∃k:Nat,k<=l.length/\i=.int .i64 k/\Ext w wx/\∀(j:Nat) (h:j<l.length),j<k->l[j].1≠id) (λi _=>l.length-(intOf i).toNat);case atStart=>exact⟨0,by omega,rfl,Qg _,λj h hk=>by omega⟩
 case round =>
  obtain⟨k,hk,rfl,xk,Xz⟩:=hrel;have WM:=Qa Xz;clear Xz;by_cases Qn:k<l.length
  ·obtain⟨b,o,rfl,Qf⟩:=Y7 (by omega);have e1:=xk.keep (Qf k Qn).1;have e2:=xk.keep (Qf k Qn).2;have Y6:(k:Int)<(l.length:Int):=by omega
   have N0:=hb.ext xk;have HD:=Qa (λ(h:l[k].1≠id)=>show∀(j:Nat) (h:j<l.length),j<k+1->l[j].1≠id fromλj hj hjk=>by
    by_cases e:j<k
    ·exact WM.o j hj e
    ·obtain rfl:j=k:=by omega
     exact h)
   generalize l[k]=y at *;clear Qf;rcases VS (y.1==id) with hd|hd
   ·go_wp2_with (go_at_call 208;refine(HP.o _ _ _ N0).mono ?_;rintro e w2 ⟨rfl,x2⟩)
    go_ret;exact⟨⟨k,by omega,rfl⟩,xk.trans x2⟩
   ·go_wp2_with (go_at_call 208;refine(HP.o _ _ _ N0).mono ?_;rintro e w2 ⟨rfl,x2⟩)
    go_roundw;case rel=>exact⟨k+1,by omega,by go_num,xk.trans x2,HD.o (by simpa using hd)⟩
    case measure=>simp[intOf];omega
  ·exfalso;obtain⟨y,hy,he⟩:=HY.o;obtain⟨j,hj,rfl⟩:=Fd hy;exact WM.o j hj (by omega) he
theorem eD (m:QO) (d:Qz) (id:Int) (w:World) (h:Q0 w m d) (hn:m.pi.n<=4000) (hy:∃y∈d.pi,y.1=id) :
  Calls prog 161 #[.agg m.cells,.int .i64 id] w λe w'=>(∃k:Nat,k<=4000/\e=.returned (.int .i64 k))/\Ext w w':=by
 have ou:∀(fn:Fn) (first cap:Array Value) (w:World),(Instr.makeFunc fn first cap).run prog w=.ok (.func fn first cap) w:=λ_ _ _ _=>rfl;have x1:Ext w (w.alloc (.cells m.cells 38)):=(Qg _).alloc _;have x2:=x1.alloc (.cells #[.int .i64 id] 3);have ba:=(Qs w 38 m.cells).ext ((Qg _).alloc (.cells #[.int .i64 id] 3));have bi:=Qs (w.alloc (.cells m.cells 38)) 3 #[.int .i64 id];rw[YB]at bi;have q8:((w.alloc (.cells m.cells 38)).alloc (.cells #[.int .i64 id] 3)).cell? ⟨w.heap.size,8,none⟩=some (.slice m.pi.A m.pi.n m.pi.c):=ba.cell 8;have HV:=Qa (h.pi.wrs.ext x2);have HP:=Qa (λwx h1 h2=>kP m.pi.A m.pi.n m.pi.c d.pi (w.heap.size+1) id wx h1 hn h2 hy);clear h hy x1;go_enter func161,ntmps161;go_upto_region 1 with fail;generalize (w.alloc (.cells m.cells 38)).alloc (.cells #[.int .i64 id] 3)=w2 at *;generalize w.heap.size=G at *;go_wp2_with (go_at_call 207;refine(HP.o _ HV.o bi).mono ?_;rintro e w3 ⟨⟨k,hk,rfl⟩,x3⟩)
 go_ret;exact⟨⟨k,hk,rfl⟩,x2.trans x3⟩
theorem Pz (q y:QF) (g:Nat) (w:World) (h:Box w g 57 (Qq y).toArray) :
  Calls prog 160 #[.agg (Qq q).toArray,.pointer (some ⟨g,0,none⟩)] w λe w'=>e=.returned (.bool (q.pid==y.parent&&(q.state==1||q.state==2)))/\Ext w w':=by
 have HL:=Qa (λw=>Vv q w);have b0:=Qs w 57 (Qq q).toArray;have x0:=(Qg w).alloc (.cells (Qq q).toArray 57);have c1:(w.alloc (.cells (Qq q).toArray 57)).cell? ⟨g,1,none⟩=some (.int .i64 y.parent):=(h.ext x0).cell 1;clear h;go_enter func160,ntmps160;go_upto_region 1 with fail;generalize w.alloc (.cells (Qq q).toArray 57)=w1 at *;have c0:w1.cell? ⟨w.heap.size,0,none⟩=some (.int .i64 q.pid):=b0.cell 0;rcases VS (q.pid==y.parent) with h1|h1
 ·go_wp2_with (first
   | (refine ZD (.tmp 2) rfl rfl w.heap.size q 57 rfl b0 ?_)
   | (go_at_call 158;refine(HL.o _).mono ?_;rintro e w2 ⟨rfl,x2⟩))
  go_ret;exact⟨by rw[h1];rfl,x0.trans x2⟩
 ·go_wp2_with fail;go_ret;exact⟨by rw[h1];rfl,x0⟩
theorem eK (A:Option Addr) (n c:Nat) (l:List QF) (g:Nat) (p:QF) (w:World) (hv:Q6 Qq w A n l) (hn:n<=4000) (hb:Box w g 57 (Qq p).toArray) (hy:XM l p.parent) :
  Calls prog 206 #[.slice A n c,.func (.func 160) #[] #[.pointer (some ⟨g,0,none⟩)]] w λe w'=>(∃k:Nat,k<=4000/\e=.returned (.int .i64 k))/\Ext w w':=by
 have HP:=Qa (λq w h=>Pz q p g w h);obtain⟨rfl,Y7⟩:=hv;have HY:=Qa hy;clear hy;go_enter func206,ntmps206;go_wp2_with fail;go_loopw [8] (λi wx=>∃k:Nat,k<=l.length/\i=.int .i64 k/\Ext w wx/\∀(j:Nat) (h:j<l.length),j<k->¬(l[j].pid=p.parent/\(l[j].state=1\/l[j].state=2))) (λi _=>l.length-(intOf i).toNat);case atStart=>exact⟨0,by omega,rfl,Qg _,λj h hk=>by omega⟩
 case round =>
  obtain⟨k,hk,rfl,xk,Xz⟩:=hrel;have WM:=Qa Xz;clear Xz;by_cases Qn:k<l.length
  ·obtain⟨b,o,rfl,Qf⟩:=Y7 (by omega);have r1:=Ze (Z6 Qf Qn) xk;have Y6:(k:Int)<(l.length:Int):=by omega
   have N0:=hb.ext xk;have HD:=Qa (λ(h:¬(l[k].pid=p.parent/\(l[k].state=1\/l[k].state=2)))=>show∀(j:Nat) (h:j<l.length),j<k+1->¬(l[j].pid=p.parent/\(l[j].state=1\/l[j].state=2)) fromλj hj hjk=>by
    by_cases e:j<k
    ·exact WM.o j hj e
    ·obtain rfl:j=k:=by omega
     exact h)
   generalize l[k]=y at *;clear Qf;rcases VS (y.pid==p.parent&&(y.state==1||y.state==2)) with hd|hd
   ·go_wp2_with (first
     | (refine QT (.tmp 14) rfl rfl b (o+k*96) y rfl r1 ?_)
     | (go_at_call 160;refine(HP.o _ _ N0).mono ?_;rintro e w2 ⟨rfl,x2⟩))
    go_ret;exact⟨⟨k,by omega,rfl⟩,xk.trans x2⟩
   ·go_wp2_with (first
     | (refine QT (.tmp 14) rfl rfl b (o+k*96) y rfl r1 ?_)
     | (go_at_call 160;refine(HP.o _ _ N0).mono ?_;rintro e w2 ⟨rfl,x2⟩))
    go_roundw;case rel=>exact⟨k+1,by omega,by go_num,xk.trans x2,HD.o (by
     rintro⟨h1,h2⟩;rw[show(y.pid==p.parent)=true by simpa using h1,Bool.true_and]at hd;rcases h2 with h2|h2<;>simp[h2]at hd)⟩
    case measure=>simp[intOf];omega
  ·exfalso;obtain⟨y,hy,he⟩:=HY.o;obtain⟨j,hj,rfl⟩:=Fd hy;exact WM.o j hj (by omega) he
theorem Iw (A:Option Addr) (n c:Nat) (l:List QF) (g:Nat) (p:QF) (w:World) (hv:Q6 Qq w A n l) (hn:n<=4000) (hb:Box w g 57 (Qq p).toArray) (hy:XM l p.parent) :
  Calls prog 159 #[.slice A n c,.func (.func 160) #[] #[.pointer (some ⟨g,0,none⟩)]] w λe w'=>e=.returned (.bool true)/\Ext w w':=by
 have HP:=Qa (λw h1 h2=>eK A n c l g p w h1 hn h2 hy);go_enter func159,ntmps159;have d:∀k:Nat,decide ((0:Int)<=(k:Int))=true:=λk=>by simp
 go_wp2_with (go_at_call 206;refine(HP.o _ hv hb).mono ?_;rintro e w2 ⟨⟨k,hk,rfl⟩,x2⟩)
 go_ret;exact⟨rfl,x2⟩
theorem LO (m:QO) (d:Qz) (y:QF) (w:World) (hi:Q0 w m d) (hn:m.pr.n<=4000) (Kq:y.state=1\/y.state=2\/y.state=3) (hpar:XM d.pr y.parent\/(y.state≠3/\y.parent=0)) :
  Calls prog 91 #[.agg m.cells,.agg (Qq y).toArray] w λe w'=>e=.returned (.bool true)/\Ext w w':=by
 have ou:∀(fn:Fn) (first cap:Array Value) (w:World),(Instr.makeFunc fn first cap).run prog w=.ok (.func fn first cap) w:=λ_ _ _ _=>rfl;have HL:=Qa (λw=>Vv y w);have x0:=((Qg w).alloc (.cells m.cells 38)).alloc (.cells (Qq y).toArray 57);have bm:=(Qs w 38 m.cells).ext ((Qg _).alloc (.cells (Qq y).toArray 57));have bp:=Qs (w.alloc (.cells m.cells 38)) 57 (Qq y).toArray;rw[YB]at bp;have HR:=Qa (hi.pr.ext x0);clear hi;go_enter func91,ntmps91;go_upto_region 1 with fail;generalize (w.alloc (.cells m.cells 38)).alloc (.cells (Qq y).toArray 57)=w1 at *;generalize w.heap.size=G at *;have c1:w1.cell? ⟨G+1,1,none⟩=some (.int .i64 y.parent):=bp.cell 1;have HC:=Qa (λw h1 h2 hy=>Iw m.pr.A m.pr.n m.pr.c d.pr (G+1) y w h1 hn h2 hy);have q5:∀wx,Ext w1 wx->wx.cell? ⟨G,5,none⟩=some (.slice m.pr.A m.pr.n m.pr.c):=λwx x=>(bm.ext x).cell 5;have HQ:=Qa q5;clear q5;have Y1:(y.parent=0/\(y.state==1||y.state==2)=true)\/(XM d.pr y.parent/\(y.parent≠0\/(y.state==1||y.state==2)=false)):=by
  by_cases e:y.parent=0/\(y.state==1||y.state==2)=true
  ·exact .inl e
  ·refine .inr ⟨?_,?_⟩
   ·rcases hpar with h|⟨h1,h2⟩
    ·exact h
    ·refine absurd ⟨h2,?_⟩ e;rcases Kq with h|h|h
     ·simp[h]
     ·simp[h]
     ·exact absurd h h1
   ·by_cases e0:y.parent=0
    ·right;simpa[e0]using e
    ·exact .inl e0
 clear Kq hpar;rcases Y1 with⟨h1,h2⟩|⟨h1,h2⟩
 ·have e1:(y.parent==0)=true:=by simpa using h1
  clear h1
  go_wp2_with (first
   | (refine ZD (.tmp 3) rfl rfl (G+1) y 57 rfl bp ?_)
   | (go_at_call 158;refine(HL.o _).mono ?_;rintro e w2 ⟨rfl,x2⟩))
  go_ret;exact⟨rfl,x0.trans x2⟩
 ·have HY:=Qa h1;clear h1;rcases VS (y.parent==0) with e1|e1
  ·have h3:(y.state==1||y.state==2)=false:=by
    rcases h2 with h2|h2
    ·exact absurd (by simpa using e1) h2
    ·exact h2
   clear h2
   go_wp2_with (first
    | (refine ZD (.tmp 3) rfl rfl (G+1) y 57 rfl bp ?_)
    | (go_at_call 158;refine(HL.o _).mono ?_;rintro e w2 ⟨rfl,x2⟩;have q5:=HQ.o _ x2)
    | (go_at_call 159;refine(HC.o _ (HR.o.ext x2) (bp.ext x2) HY.o).mono ?_;rintro e w3 ⟨rfl,x3⟩))
   go_ret;exact⟨rfl,(x0.trans x2).trans x3⟩
  ·clear h2;have q5:=HQ.o _ (Qg _)
   go_wp2_with (first
    | (go_at_call 159;refine(HC.o _ HR.o bp HY.o).mono ?_;rintro e w3 ⟨rfl,x3⟩))
   go_ret;exact⟨rfl,x0.trans x3⟩
theorem dx (m:QO) (d:Qz) (y:QF) (w:World) (hi:Q0 w m d) (hn:m.pr.n<=4000) (h:Xa m d y) :
  Calls prog 91 #[.agg m.cells,.agg (Qq y).toArray] w λe w'=>e=.returned (.bool true)/\Ext w w':=LO m d y w hi hn h.state h.par
theorem O4 (m:QO) (d:Qz) (k n p:Int) (w:World) (hi:Q0 w m d) (hn:m.pi.n<=4000) (h:Gm d.pi k n p) (h0:k≠0) :
  Calls prog 92 #[.agg m.cells,.agg #[.int .i64 k,.int .i64 n,.int .i64 p]] w λe w'=>e=.returned (.bool true)/\Ext w w':=by
 have HP:=Qa (λid w h hy=>eD m d id w h hn hy);have x0:=((Qg w).alloc (.cells m.cells 38)).alloc (.cells #[.int .i64 k,.int .i64 n,.int .i64 p] 54);have bm:=(Qs w 38 m.cells).ext ((Qg _).alloc (.cells #[.int .i64 k,.int .i64 n,.int .i64 p] 54));have HM:=Qa (hi.ext x0);clear hi;have dk:∀k:Nat,decide ((0:Int)<=(k:Int))=true:=λk=>by simp
 go_enter func92,ntmps92;rcases h with⟨h1,rfl,rfl⟩|⟨rfl,h1,h2,h3,h4⟩|⟨h1,rfl,hy⟩
 ·rcases h1 with rfl|rfl|rfl
  ·exact absurd rfl h0
  ·go_wp2_with fail;go_ret;exact⟨rfl,x0⟩
  ·go_wp2_with fail;go_ret;exact⟨rfl,x0⟩
 ·have e1:decide (1<=n)=true:=Xd h1;have e2:decide (n<=64)=true:=Xd h2;have e3:decide (0<=p)=true:=Xd h3;have e4:decide (p<=8960)=true:=Xd h4;clear h1 h2 h3 h4;go_wp2_with fail;go_ret;exact⟨rfl,x0⟩
 ·have HY:=Qa hy;clear hy
  rcases h1 with rfl|rfl<;>go_wp2_with (first
   | (refine Jz (.tmp 2) rfl rfl w.heap.size m 38 rfl bm ?_)
   | (go_at_call 161;refine(HP.o _ _ HM.o HY.o).mono ?_;rintro e w2 ⟨⟨q,hq,rfl⟩,x2⟩))
  all_goals
   go_ret;exact⟨rfl,x0.trans x2⟩
def Tq (y:QF):Prop:=(y.state=1\/y.state=2\/y.state=3)/\y.reg 0=0/\((y.state=2/\1<=y.why/\y.why<=5)\/(y.state≠2/\y.why=0/\y.num=0))/\(y.state=3\/y.code=0)
def iG (d:Qz) (y:QF):Prop:=XM d.pr y.parent\/(y.state≠3/\y.parent=0)
def Pk (m:QO) (y:QF) (j:Nat):Prop :=
 (y.pis j=false/\y.pwr j=false/\y.pfr j=0)\/(y.pis j=true/\y.state≠3/\0<=y.pfr j/\y.pfr j<(m.fr.n:Int))
def rj (d:Qz) (y:QF) (j:Nat):Prop:=Gm d.pi (y.fk j) (y.fn j) (y.fp j)/\(y.state=3->y.fk j=0)
structure qk (m:QO) (d:Qz) (y:QF):Prop where
 pid:1<=y.pid/\y.pid<m.next
 fields:Tq y
 par:iG d y
 page:∀j<16,Pk m y j
 fd:∀j<8,rj d y j
def eB (l:List QF) (k:Nat):Int:=if 0<k then (l.getD (k-1) default).pid else 0
def Wh (m:QO) (d:Qz) (k:Nat):Prop:=(∀i,i<k->i<d.pr.length->qk m d (d.pr.getD i default)/\eB d.pr i<(d.pr.getD i default).pid)/\∀fr,Q7 d.pr fr k<=1
theorem Wh.zero (m:QO) (d:Qz):Wh m d 0:=⟨λ_ h=>absurd h (zT _),λ_=>by rw[Q7];omega⟩
theorem Wh.next {m:QO}{d:Qz}{k:Nat}(h:Wh m d k) (hp:qk m d (d.pr.getD k default)) (hl:eB d.pr k<(d.pr.getD k default).pid) (hu:∀fr,Q7 d.pr fr k+Zw (d.pr.getD k default) fr 16<=1):Wh m d (k+1):=by
 refine⟨λi hi rQ=>?_,λfr=>by rw[Q7];exact hu fr⟩;by_cases e:i<k
 ·exact h.1 i e rQ
 ·obtain rfl:i=k:=by omega
  exact⟨hp,hl⟩
theorem oJ {y:QF}{j:Nat}(h:y.pis j=true):∀{n:Nat},j<n->1<=Zw y (y.pfr j) n:=by
 intro n hn;have h1:Zw y (y.pfr j) (j+1)<=Zw y (y.pfr j) n:=Cr _ _ hn;rw[Zw,QN ⟨h,rfl⟩]at h1;omega
theorem fR {l:List QF}{k j:Nat}(hk:k<l.length) (hj:j<16) (h:(l.getD k default).pis j=true):1<=Q7 l ((l.getD k default).pfr j) l.length:=by
 have h1:Q7 l ((l.getD k default).pfr j) (k+1)<=Q7 l ((l.getD k default).pfr j) l.length:=Hz l _ hk;rw[Q7]at h1;have:=oJ h hj;omega
theorem Wh.all {m:QO}{d:Qz}(h:Wh m d d.pr.length):Zg m d d.pr.length:=by
 intro i hi _;have e:d.pr.getD i default=d.pr[i]:=by rw[Yb,ZX hi];rfl
 obtain⟨hp,hl⟩:=h.1 i hi hi;refine⟨?_,λh0=>?_⟩
 ·rw[←e];refine⟨hp.pid,hp.fields.1,hp.fields.2.1,hp.par,hp.fields.2.2.1,hp.fields.2.2.2,λj hj=>?_,hp.fd⟩;rcases hp.page j hj with h1|⟨h1,h2,h3,h4⟩
  ·exact .inl h1
  ·refine .inr ⟨h1,h2,h3,h4,?_⟩;have a1:=h.2 ((d.pr.getD i default).pfr j);have a2:=fR hi hj h1;omega
 ·rw[eB,QN h0,e]at hl;rw[Yb,ZX (by omega)]at hl;exact hl
theorem Zg.at {m:QO}{d:Qz}(h:Zg m d d.pr.length) {k:Nat}(hk:k<d.pr.length):Xa m d (d.pr.getD k default)/\eB d.pr k<(d.pr.getD k default).pid:=by
 obtain⟨h1,h2⟩:=h k hk hk;have e:d.pr.getD k default=d.pr[k]:=by rw[Yb,ZX hk];rfl
 rw[e];refine⟨h1,?_⟩;unfold eB;split
 ·rename_i h0;rw[Yb,ZX (by omega)];exact h2 h0
 ·have:=h1.pid.1;omega
theorem KV.w {m:QO}{d:Qz}{y:QF}{j:Nat}(h:KV m d y j):Pk m y j:=h.elim .inl λh=>.inr ⟨h.1,h.2.1,h.2.2.1,h.2.2.2.1⟩
theorem Oj {l:List QF}{k j:Nat}(h:∀fr,Q7 l fr k+Zw (l.getD k default) fr j<=1) (hm:(l.getD k default).pis j=true->¬Ml l k j ((l.getD k default).pfr j)):∀fr,Q7 l fr k+Zw (l.getD k default) fr (j+1)<=1:=by
 intro fr;rw[Zw];split
 ·rename_i c;have h1:=hm c.1;rw[c.2]at h1;unfold Ml at h1;omega
 ·exact h fr
def Wf (m:QO) (l:List QF) (k j:Nat):Prop:=(∀i,i<j->Pk m (l.getD k default) i)/\∀fr,Q7 l fr k+Zw (l.getD k default) fr j<=1
theorem Wf.zero {m:QO}{d:Qz}{k:Nat}(h:Wh m d k):Wf m d.pr k 0:=⟨λ_ h=>absurd h (zT _),λfr=>by rw[Zw];exact h.2 fr⟩
theorem Wf.next {m:QO}{l:List QF}{k j:Nat}(h:Wf m l k j) (hp:Pk m (l.getD k default) j) (hm:(l.getD k default).pis j=true->¬Ml l k j ((l.getD k default).pfr j)):Wf m l k (j+1):=by
 refine⟨λi hi=>?_,Oj h.2 hm⟩;by_cases e:i<j
 ·exact h.1 i e
 ·obtain rfl:i=j:=by omega
  exact hp
def gT (d:Qz) (y:QF) (j:Nat):Prop:=∀i,i<j->rj d y i
theorem gT.next {d:Qz}{y:QF}{j:Nat}(h:gT d y j) (hp:rj d y j):gT d y (j+1):=by
 intro i hi;by_cases e:i<j
 ·exact h i e
 ·obtain rfl:i=j:=by omega
  exact hp
noncomputable def Xo (p:Prop) (c:Int):Int:=@ite Int p (Classical.propDecidable p) 0 c
theorem QM {p:Prop}(h:p) (c:Int):Xo p c=0:=QN h
theorem J4 {p:Prop}(h:¬p) (c:Int):Xo p c=c:=QD h
theorem iz (p:Prop) (c:Int):(p->Xo p c=0)/\(¬p->Xo p c=c):=⟨λh=>QM h c,λh=>J4 h c⟩
theorem VX {p:Prop}{c:Int}(hc:c≠0):Xo p c=0↔p:=⟨λh=>by
 rcases Classical.em p with hp|hp
 ·exact hp
 ·rw[J4 hp]at h;exact absurd h hc,λh=>QM h c⟩
def GX (a b:Int):Int:=if a=0 then b else a
theorem Uh {a b:Int}:GX a b=0↔a=0/\b=0:=by unfold GX;split<;>simp_all
theorem Zy {a:Int}(h:a≠0) (b:Int):GX a b=a:=QD h
theorem QY (b:Int):GX 0 b=b:=QN rfl
noncomputable def Kc (m:QO):Int:=Xo (YU m) 2
noncomputable def E2 (m:QO) (d:Qz):Int:=GX (Xo (1<=m.fr.n/\m.fr.n<=64) 6) (Xo (∀b∈d.fr,b.length=128) 3)
noncomputable def DX (m:QO) (d:Qz):Int:=GX (Xo (m.pr.n<=8) 6) (Xo (Zg m d d.pr.length) 3)
noncomputable def Io (m:QO) (d:Qz):Int:=GX (Xo (m.pi.n<=64) 6) (Xo (Zo m d.pi d.pi.length) 3)
noncomputable def gO (m:QO):Int:=Xo (m.inn.length<=65536/\m.init.length<=128) 6
def KD (n:Nat) (l:List ZY) (k:Nat):Prop:=∀(i:Nat) (h:i<l.length),i<k->0<=l[i].1/\l[i].1<(n:Int)/\l[i].2.length=128/\(0<i->(l[i-1]'(by omega)).1<l[i].1)
noncomputable def ai (d:Qz):Int:=GX (ZN d.bl d.pe) (GX (Xo (33<d.bl.length) 3) (GX (Xo (d.di.length<=32) 6) (GX (Xo (KD (d.bl.length-33) d.di d.di.length) 3) (Xo (∃I,Ji (QS d.bl d.pe d.di) I) 3))))
noncomputable def Zk (m:QO) (d:Qz):Int:=GX (Kc m) (GX (E2 m d) (GX (DX m d) (GX (Io m d) (GX (gO m) (ai d)))))
theorem Ga {d:Qz}:ai d=0↔V4 d:=by
 unfold ai V4;simp only[Uh,VX (show(3:Int)≠0 by omega),VX (show(6:Int)≠0 by omega)];unfold ZR;constructor
 ·rintro⟨h1,h2,h3,h4,h5⟩;exact⟨by rw[QD (by omega),QD (by omega)],h3,λi h=>h4 i h h,h5⟩
 ·rintro⟨h1,h3,h4,h5⟩;split at h1
  ·exact absurd h1 ‹_›
  ·split at h1
   ·cases h1
   ·exact⟨Decidable.of_not_not ‹_›,by omega,h3,λi h _=>h4 i h,h5⟩
theorem XP {m:QO}{d:Qz}:Zk m d=0↔Z3 m d:=by
 unfold Zk Kc E2 DX Io gO;simp only[Uh,VX (show(2:Int)≠0 by omega),VX (show(3:Int)≠0 by omega),VX (show(6:Int)≠0 by omega),Ga];constructor
 ·rintro⟨h1,⟨h2,h3⟩,⟨h4,h5⟩,⟨h6,h7⟩,h8,h9⟩;exact⟨⟨h1,h2,h3,h4,h5,h6,h7,h8⟩,h9⟩
 ·rintro⟨⟨h1,h2,h3,h4,h5,h6,h7,h8⟩,h9⟩;exact⟨h1,⟨h2,h3⟩,⟨h4,h5⟩,⟨h6,h7⟩,h8,h9⟩
def bI (e:Ending) (p:Prop):Prop:=∃b,e=.returned (.bool b)/\(b=true↔p)
theorem bI.yes {p:Prop}(h:p):bI (.returned (.bool true)) p:=⟨true,rfl,λ_=>h,λ_=>rfl⟩
theorem bI.no {p:Prop}(h:¬p):bI (.returned (.bool false)) p:=⟨false,rfl,(λh=>by cases h),λh2=>absurd h2 h⟩
theorem bI.out_yes {e:Ending}{p:Prop}(h:bI e p) (hp:p):e=.returned (.bool true):=by
 obtain⟨b,rfl,hb⟩:=h;rw[hb.2 hp]
theorem bI.out_no {e:Ending}{p:Prop}(h:bI e p) (hp:¬p):e=.returned (.bool false):=by
 obtain⟨b,rfl,hb⟩:=h;cases b
 ·rfl
 ·exact absurd (hb.1 rfl) hp
theorem BZ (y:QF) (w:World) :
  Calls prog 90 #[.agg (Qq y).toArray] w λe w'=>bI e (Tq y)/\Ext w w':=by
 have HL:=Qa (λw=>Vv y w);have b0:=Qs w 57 (Qq y).toArray;have x0:=(Qg w).alloc (.cells (Qq y).toArray 57);obtain⟨P,hP⟩:∃P,P=Tq y:=⟨_,rfl⟩
 rw[←hP];have HPP:=Qa hP;clear hP;go_enter func90,ntmps90;go_upto_region 1 with fail;generalize w.alloc (.cells (Qq y).toArray 57)=w1 at *;generalize w.heap.size=G at *;have cf:∀wx,Ext w1 wx->wx.cell? ⟨G,2,none⟩=some (.int .i64 y.state)/\wx.cell? ⟨G,3,none⟩=some (.int .u32 (y.reg 0))/\wx.cell? ⟨G,93,none⟩=some (.int .u32 y.code)/\wx.cell? ⟨G,94,none⟩=some (.int .i64 y.why)/\wx.cell? ⟨G,95,none⟩=some (.int .u64 y.num):=λwx x => ⟨(b0.ext x).cell 2,(b0.ext x).cell 3,(b0.ext x).cell 93,(b0.ext x).cell 94,(b0.ext x).cell 95⟩
 have CF:=Qa cf;clear cf;have EK:=HL.o;have HF:=HPP.o;unfold Tq at HF;have Y1:y.state=1\/y.state=2\/y.state=3\/((y.state==1)=false/\(y.state==2)=false/\(y.state != 3)=true/\¬P):=by
  by_cases h1:y.state=1
  ·exact .inl h1
  ·by_cases h2:y.state=2
   ·exact .inr (.inl h2)
   ·by_cases h3:y.state=3
    ·exact .inr (.inr (.inl h3))
    ·exact .inr (.inr (.inr ⟨by simpa using h1,by simpa using h2,by simpa using h3,λh=>by rw[HF]at h;rcases h.1 with h|h|h<;>contradiction⟩))
 have EI:=Qa HF;clear HF HPP HL;generalize y.state=s at *;generalize y.why=wy at *;generalize y.num=nm at *;generalize y.code=cd at *;generalize y.reg 0=rg at *;have D1:=Qa EK;clear EK;have r0:=VS (rg != 0);have r1:=VS (cd==0);have r2:=VS (wy != 0);have r3:=VS (nm != 0);have r4:=VS (decide (wy<1));have r5:=VS (decide (5<wy));have Rr:=Qa (λ(b:Bool) (h:b=true↔P)=>show bI (.returned (.bool b)) P from⟨b,rfl,h⟩);rcases Y1 with rfl|rfl|rfl|⟨s1,s2,s3,hnp⟩
 ·clear r4 r5;rcases r0 with r0|r0
  ·clear r1 r2 r3
   go_wp2_with (first
    | (refine QT (.tmp 1) rfl rfl G 0 y rfl (Je b0) ?_)
    | (go_at_call 158;refine(D1.o _).mono ?_;rintro e w2 ⟨rfl,x2⟩;obtain⟨c2,c3,c93,c94,c95⟩:=CF.o _ x2))
   go_ret;refine⟨Rr.o _ ?_,x0.trans x2⟩;rw[EI.o];simp at r0;simp;omega
  ·rcases r2 with r2|r2
   ·clear r1 r3
    go_wp2_with (first
     | (refine QT (.tmp 1) rfl rfl G 0 y rfl (Je b0) ?_)
     | (go_at_call 158;refine(D1.o _).mono ?_;rintro e w2 ⟨rfl,x2⟩;obtain⟨c2,c3,c93,c94,c95⟩:=CF.o _ x2))
    go_ret;refine⟨Rr.o _ ?_,x0.trans x2⟩;rw[EI.o];simp at r2;simp;omega
   ·rcases r3 with r3|r3
    ·clear r1
     go_wp2_with (first
      | (refine QT (.tmp 1) rfl rfl G 0 y rfl (Je b0) ?_)
      | (go_at_call 158;refine(D1.o _).mono ?_;rintro e w2 ⟨rfl,x2⟩;obtain⟨c2,c3,c93,c94,c95⟩:=CF.o _ x2))
     go_ret;refine⟨Rr.o _ ?_,x0.trans x2⟩;rw[EI.o];simp at r3;simp;omega
    ·go_wp2_with (first
      | (refine QT (.tmp 1) rfl rfl G 0 y rfl (Je b0) ?_)
      | (go_at_call 158;refine(D1.o _).mono ?_;rintro e w2 ⟨rfl,x2⟩;obtain⟨c2,c3,c93,c94,c95⟩:=CF.o _ x2))
     go_ret;refine⟨Rr.o _ ?_,x0.trans x2⟩;rw[EI.o];simp at r0 r2 r3;simp;omega
 ·clear r2 r3;rcases r0 with r0|r0
  ·clear r1 r4 r5
   go_wp2_with (first
    | (refine QT (.tmp 1) rfl rfl G 0 y rfl (Je b0) ?_)
    | (go_at_call 158;refine(D1.o _).mono ?_;rintro e w2 ⟨rfl,x2⟩;obtain⟨c2,c3,c93,c94,c95⟩:=CF.o _ x2))
   go_ret;refine⟨Rr.o _ ?_,x0.trans x2⟩;rw[EI.o];simp at r0;simp;omega
  ·rcases r4 with r4|r4
   ·clear r1 r5
    go_wp2_with (first
     | (refine QT (.tmp 1) rfl rfl G 0 y rfl (Je b0) ?_)
     | (go_at_call 158;refine(D1.o _).mono ?_;rintro e w2 ⟨rfl,x2⟩;obtain⟨c2,c3,c93,c94,c95⟩:=CF.o _ x2))
    go_ret;refine⟨Rr.o _ ?_,x0.trans x2⟩;rw[EI.o];simp at r4;simp;omega
   ·rcases r5 with r5|r5
    ·clear r1
     go_wp2_with (first
      | (refine QT (.tmp 1) rfl rfl G 0 y rfl (Je b0) ?_)
      | (go_at_call 158;refine(D1.o _).mono ?_;rintro e w2 ⟨rfl,x2⟩;obtain⟨c2,c3,c93,c94,c95⟩:=CF.o _ x2))
     go_ret;refine⟨Rr.o _ ?_,x0.trans x2⟩;rw[EI.o];simp at r5;simp;omega
    ·go_wp2_with (first
      | (refine QT (.tmp 1) rfl rfl G 0 y rfl (Je b0) ?_)
      | (go_at_call 158;refine(D1.o _).mono ?_;rintro e w2 ⟨rfl,x2⟩;obtain⟨c2,c3,c93,c94,c95⟩:=CF.o _ x2))
     go_ret;refine⟨Rr.o _ ?_,x0.trans x2⟩;rw[EI.o];simp at r0 r4 r5;simp;omega
 ·clear r1 r4 r5;rcases r0 with r0|r0
  ·clear r2 r3
   go_wp2_with (first
    | (refine QT (.tmp 1) rfl rfl G 0 y rfl (Je b0) ?_)
    | (go_at_call 158;refine(D1.o _).mono ?_;rintro e w2 ⟨rfl,x2⟩;obtain⟨c2,c3,c93,c94,c95⟩:=CF.o _ x2))
   go_ret;refine⟨Rr.o _ ?_,x0.trans x2⟩;rw[EI.o];simp at r0;simp;omega
  ·rcases r2 with r2|r2
   ·clear r3
    go_wp2_with (first
     | (refine QT (.tmp 1) rfl rfl G 0 y rfl (Je b0) ?_)
     | (go_at_call 158;refine(D1.o _).mono ?_;rintro e w2 ⟨rfl,x2⟩;obtain⟨c2,c3,c93,c94,c95⟩:=CF.o _ x2))
    go_ret;refine⟨Rr.o _ ?_,x0.trans x2⟩;rw[EI.o];simp at r2;simp;omega
   ·rcases r3 with r3|r3
    ·go_wp2_with (first
      | (refine QT (.tmp 1) rfl rfl G 0 y rfl (Je b0) ?_)
      | (go_at_call 158;refine(D1.o _).mono ?_;rintro e w2 ⟨rfl,x2⟩;obtain⟨c2,c3,c93,c94,c95⟩:=CF.o _ x2))
     go_ret;refine⟨Rr.o _ ?_,x0.trans x2⟩;rw[EI.o];simp at r3;simp;omega
    ·go_wp2_with (first
      | (refine QT (.tmp 1) rfl rfl G 0 y rfl (Je b0) ?_)
      | (go_at_call 158;refine(D1.o _).mono ?_;rintro e w2 ⟨rfl,x2⟩;obtain⟨c2,c3,c93,c94,c95⟩:=CF.o _ x2))
     go_ret;refine⟨Rr.o _ ?_,x0.trans x2⟩;rw[EI.o];simp at r0 r2 r3;simp;omega
 ·have HNP:=Qa hnp;clear hnp r0 r1 r2 r3 r4 r5
  go_wp2_with (first
   | (refine QT (.tmp 1) rfl rfl G 0 y rfl (Je b0) ?_)
   | (go_at_call 158;refine(D1.o _).mono ?_;rintro e w2 ⟨rfl,x2⟩;obtain⟨c2,c3,c93,c94,c95⟩:=CF.o _ x2))
  go_ret;exact⟨Rr.o _ ⟨(λh=>by cases h),λh=>absurd h HNP.o⟩,x0.trans x2⟩
theorem pZ (A:Option Addr) (n c:Nat) (l:List ZY) (g:Nat) (id:Int) (w:World) (hv:Cd w A n l) (hn:n<=4000) (hb:Box w g 3 #[.int .i64 id]) (hy:¬∃y∈l,y.1=id) :
  Calls prog 207 #[.slice A n c,.func (.func 208) #[] #[.pointer (some ⟨g,0,none⟩)]] w λe w'=>e=.returned (.int .i64 (-1))/\Ext w w':=by
 have HP:=Qa (λi s w h=>LT i s g id w h);obtain⟨rfl,Y7⟩:=hv;have HY:=Qa hy;clear hy;go_enter func207,ntmps207;go_wp2_with fail;go_loopw [8] (λi wx=>∃k:Nat,k<=l.length/\i=.int .i64 k/\Ext w wx) (λi _=>l.length-(intOf i).toNat);case atStart=>exact⟨0,by omega,rfl,Qg _⟩
 case round =>
  obtain⟨k,hk,rfl,xk⟩:=hrel;by_cases Qn:k<l.length
  ·obtain⟨b,o,rfl,Qf⟩:=Y7 (by omega);have e1:=xk.keep (Qf k Qn).1;have e2:=xk.keep (Qf k Qn).2;have Y6:(k:Int)<(l.length:Int):=by omega
   have N0:=hb.ext xk;have hd:(l[k].1==id)=false:=by have:l[k].1≠id:=λh=>HY.o ⟨_,NT Qn,h⟩;simpa using this
   generalize l[k]=y at *;clear Qf;go_wp2_with (go_at_call 208;refine(HP.o _ _ _ N0).mono ?_;rintro e w2 ⟨rfl,x2⟩)
   go_roundw;case rel=>exact⟨k+1,by omega,by go_num,xk.trans x2⟩
   case measure=>simp[intOf];omega
  ·have Vq:¬(k:Int)<(l.length:Int):=by omega
   go_wp2_with fail;go_ret;exact⟨rfl,xk⟩
theorem kQ (m:QO) (d:Qz) (id:Int) (w:World) (h:Q0 w m d) (hn:m.pi.n<=4000) (hy:¬∃y∈d.pi,y.1=id) :
  Calls prog 161 #[.agg m.cells,.int .i64 id] w λe w'=>e=.returned (.int .i64 (-1))/\Ext w w':=by
 have ou:∀(fn:Fn) (first cap:Array Value) (w:World),(Instr.makeFunc fn first cap).run prog w=.ok (.func fn first cap) w:=λ_ _ _ _=>rfl;have x1:Ext w (w.alloc (.cells m.cells 38)):=(Qg _).alloc _;have x2:=x1.alloc (.cells #[.int .i64 id] 3);have ba:=(Qs w 38 m.cells).ext ((Qg _).alloc (.cells #[.int .i64 id] 3));have bi:=Qs (w.alloc (.cells m.cells 38)) 3 #[.int .i64 id];rw[YB]at bi;have q8:((w.alloc (.cells m.cells 38)).alloc (.cells #[.int .i64 id] 3)).cell? ⟨w.heap.size,8,none⟩=some (.slice m.pi.A m.pi.n m.pi.c):=ba.cell 8;have HV:=Qa (h.pi.wrs.ext x2);have HP:=Qa (λwx h1 h2=>pZ m.pi.A m.pi.n m.pi.c d.pi (w.heap.size+1) id wx h1 hn h2 hy);clear h hy x1;go_enter func161,ntmps161;go_upto_region 1 with fail;generalize (w.alloc (.cells m.cells 38)).alloc (.cells #[.int .i64 id] 3)=w2 at *;generalize w.heap.size=G at *;go_wp2_with (go_at_call 207;refine(HP.o _ HV.o bi).mono ?_;rintro e w3 ⟨rfl,x3⟩)
 go_ret;exact⟨rfl,x2.trans x3⟩
theorem oU (m:QO) (d:Qz) (k n p:Int) (w:World) (hi:Q0 w m d) (hn:m.pi.n<=4000) (h:¬Gm d.pi k n p) :
  Calls prog 92 #[.agg m.cells,.agg #[.int .i64 k,.int .i64 n,.int .i64 p]] w λe w'=>e=.returned (.bool false)/\Ext w w':=by
 have HP:=Qa (λid w h hy=>kQ m d id w h hn hy);have x0:=((Qg w).alloc (.cells m.cells 38)).alloc (.cells #[.int .i64 k,.int .i64 n,.int .i64 p] 54);have bm:=(Qs w 38 m.cells).ext ((Qg _).alloc (.cells #[.int .i64 k,.int .i64 n,.int .i64 p] 54));have HM:=Qa (hi.ext x0);clear hi;go_enter func92,ntmps92;unfold Gm at h;by_cases k1:k=1
 ·subst k1;by_cases SD:n=0
  ·subst SD;have hp:(p==0)=false:=by
    have:p≠0:=λh2=>h (.inl ⟨by omega,rfl,h2⟩);simpa using this
   clear h;go_wp2_with fail;go_ret;exact⟨rfl,x0⟩
  ·have hp:(n==0)=false:=by simpa using SD
   clear h SD;go_wp2_with fail;go_ret;exact⟨rfl,x0⟩
 ·by_cases k2:k=2
  ·subst k2;by_cases SD:n=0
   ·subst SD;have hp:(p==0)=false:=by
     have:p≠0:=λh2=>h (.inl ⟨by omega,rfl,h2⟩);simpa using this
    clear h k1;go_wp2_with fail;go_ret;exact⟨rfl,x0⟩
   ·have hp:(n==0)=false:=by simpa using SD
    clear h SD k1;go_wp2_with fail;go_ret;exact⟨rfl,x0⟩
  ·by_cases k3:k=3
   ·subst k3;have h4:¬(1<=n/\n<=64/\0<=p/\p<=8960):=λh2=>h (.inr (.inl ⟨rfl,h2⟩));clear h k1 k2;by_cases a1:1<=n
    ·have e1:decide (1<=n)=true:=Xd a1;by_cases a2:n<=64
     ·have e2:decide (n<=64)=true:=Xd a2;by_cases a3:0<=p
      ·have e3:decide (0<=p)=true:=Xd a3;have e4:decide (p<=8960)=false:=XI (λh=>h4 ⟨a1,a2,a3,h⟩);clear a1 a2 a3 h4;go_wp2_with fail;go_ret;exact⟨rfl,x0⟩
      ·have e3:decide (0<=p)=false:=XI a3;clear a1 a2 a3 h4;go_wp2_with fail;go_ret;exact⟨rfl,x0⟩
     ·have e2:decide (n<=64)=false:=XI a2;clear a1 a2 h4;go_wp2_with fail;go_ret;exact⟨rfl,x0⟩
    ·have e1:decide (1<=n)=false:=XI a1;clear a1 h4;go_wp2_with fail;go_ret;exact⟨rfl,x0⟩
   ·by_cases k45:k=4\/k=5
    ·by_cases wR:p=0
     ·subst wR;have HY:=Qa (show¬∃y∈d.pi,y.1=n fromλh2=>h (.inr (.inr ⟨k45,rfl,h2⟩)));clear h k1 k2 k3
      rcases k45 with rfl|rfl<;>go_wp2_with (first
       | (refine Jz (.tmp 2) rfl rfl w.heap.size m 38 rfl bm ?_)
       | (go_at_call 161;refine(HP.o _ _ HM.o HY.o).mono ?_;rintro e w2 ⟨rfl,x2⟩))
      all_goals
       go_ret;exact⟨rfl,x0.trans x2⟩
     ·have hp:(p==0)=false:=by simpa using wR
      clear h k1 k2 k3 wR;rcases k45 with rfl|rfl<;>go_wp2_with fail
      all_goals
       go_ret;exact⟨rfl,x0⟩
    ·have e1:(k==1)=false:=by simpa using k1
     have e2:(k==2)=false:=by simpa using k2
     have e3:(k==3)=false:=by simpa using k3
     have e4:(k==4)=false:=by have:k≠4:=λh=>k45 (.inl h);simpa using this
     have e5:(k==5)=false:=by have:k≠5:=λh=>k45 (.inr h);simpa using this
     clear h k1 k2 k3 k45;go_wp2_with fail;go_ret;exact⟨rfl,x0⟩
end Go.Proofs.YtfaplefkakpgcaaGreatDoor
