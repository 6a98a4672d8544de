import Derived.Test.YtfaplefkakpgcaaGreatDoorQa23
import Derived.Test.YtfaplefkakpgcaaGreatDoorQa19
set_option linter.unusedVariables false
set_option linter.unusedSimpArgs false
set_option maxHeartbeats 32000000
set_option maxRecDepth 100000
namespace Go.Proofs.YtfaplefkakpgcaaGreatDoor
open Go.Proofs.Tryz
open Go.RowKit
def eN (s:List UInt8) (k:Nat):QN:={ (default:QN) with
 pis:=λi=>if i<k then !(Qw s (2*i)==0) else false
 pwr:=λi=>if i<k then Qw s (2*i)==2 else false
 pfr:=λi=>if i<k then (if Qw s (2*i)=0 then 0 else Qw s (2*i+1)) else 0 }
def Sp (s:List UInt8) (k:Nat):Array Value:=(ZA (eN s k)).toArray
def O3:Array Value:=(ZA default).toArray
theorem aQ {k:Nat}(h:k<16):k=0\/k=1\/k=2\/k=3\/k=4\/k=5\/k=6\/k=7\/k=8\/k=9\/k=10\/k=11\/k=12\/k=13\/k=14\/k=15:=by omega
theorem GU (s:List UInt8) (k:Nat):(Sp s k).size=48:=rfl
theorem eM (s:List UInt8) {k:Nat}(h:k<16):(((Sp s k).setIfInBounds (k*3) (.bool (!(Qw s (2*k)==0)))).setIfInBounds (k*3+1) (.bool (Qw s (2*k)==2))).setIfInBounds (k*3+2) (.int .i64 (if Qw s (2*k)=0 then 0 else Qw s (2*k+1)))=Sp s (k+1):=by
 rcases aQ h with rfl|rfl|rfl|rfl|rfl|rfl|rfl|rfl|rfl|rfl|rfl|rfl|rfl|rfl|rfl|rfl<;>kernel_rfl
theorem O2 (s:List UInt8) {k:Nat}(h:k<16) (h0:Qw s (2*k)=0):Sp s k=Sp s (k+1):=by
 have e:∀i<16,WG (eN s k) i=WG (eN s (k+1)) i:=by
  intro i _;unfold WG eN;by_cases hk:i<k
  ·simp[hk,show i<k+1 by omega]
  ·by_cases hi:i=k
   ·subst hi;simp[h0]
   ·simp[hk,show¬i<k+1 by omega]
 unfold Sp ZA;rw[A0,A0,XU 16 e]
section
variable {ops:Array Oper}{rest:List Oper}{o:Oper}{a:Act}{w:World}{Q:Exit->Act->World->Prop}
theorem KY (T:TypeId) (x y:Operand) (Q7:o.guard=none) (ho:o.op=.store T x y) (g off:Nat) (cs ds:Array Value) (v0 v1 v2:Value) (t:TypeId) (hx:a.eval x=.pointer (some ⟨g,off,none⟩)) (hy:a.eval y=.agg #[v0,v1,v2])
  (hi:(prog.info? T).map (·.size)=some 3) (o0:v0.oneCell'=true) (o1:v1.oneCell'=true) (o2:v2.oneCell'=true) (hb:Box w g t cs) (hof:off+3<=cs.size) (Bo:((cs.setIfInBounds off v0).setIfInBounds (off+1) v1).setIfInBounds (off+2) v2=ds)
  (hK:∀w',Box w' g t ds->w.grownBy w' (some g)->wpList prog ops Q rest (a.put o.dst undef) w'):wpList prog ops Q (o::rest) a w:=by
 refine wpList_store_mid Q7 _ x y ho g off #[v0,v1,v2] hx hy (λj hj=>?_) hi (all_oneCell_toArray (cs:=[v0,v1,v2]) (λv hv=>by simp only[TA,Td,L1]at hv;rcases hv with rfl|rfl|rfl<;>assumption)) (hK _ ?_ (Kx _ off w))
 ·refine⟨?_,hb.frozen (off+j)⟩;rw[hb.cell (off+j)];have hj3:j<3:=hj;rw[pg (by omega)];rfl
 ·rw[←Bo];exact((hb.set off v0).set (off+1) v1).set (off+2) v2
end
theorem Gh {n:Int}(h0:0<=n) (h1:n<256):IntKind.i64.wrap n=n:=by
 have:n%2^64=n:=mP h0 (by omega);unfold IntKind.wrap;simp only[IntKind.bits,IntKind.signed,this];rw[Qr];simp;omega
theorem Rd (l:List UInt8) (k:Nat) (h:k<l.length) (w:World):(Instr.index 9 (.string (Qb l)) (.int .i64 (k:Int))).run prog w=.ok (.int .u8 (Qw l k)) w:=by
 rw[run_index_string w 9 (Qb l) .i64 (k:Int) underlying9,dif_pos ⟨by omega,by rw[Qh];omega⟩];unfold Qw;rw[ZG,JZ h];rfl
theorem WZ (s:List UInt8) (i:Nat):0<=Qw s i/\Qw s i<256:=by
 unfold Qw;have:=(s.getD i 0).toNat_lt;omega
theorem Ax {s:List UInt8}(h:∀i<16,GD (Qw s (2*i)) (Qw s (2*i+1))=true):XF s=true:=by
 unfold XF;rw[Pv]
 exactλi hi=>h i (Pw.1 hi)
theorem EY {s:List UInt8}{i:Nat}(hi:i<16) (h:GD (Qw s (2*i)) (Qw s (2*i+1))=false):XF s=false:=by
 cases hq:XF s
 ·rfl
 ·unfold XF at hq;rw[Pv]at hq;rw[hq i (Pw.2 hi)]at h;cases h
def gl (s:List UInt8) (w:World) (e:Ending) (w':World):Prop:=((XF s=true/\e=.returned (.agg (Sp s 16)))\/(XF s=false/\e=QZ))/\Ext w w'
theorem LN:(prog.info? 52).map (·.size)=some (Sp [] 16).size:=Nu
theorem eL {s:List UInt8}{k:Nat}:(Sp s k).all (·.oneCell')=true:=all_oneCell_toArray (λv hv=>by
 simp only[ZA,WG,mE,TA,Td,L1]at hv;obtain⟨i,_,h|h|h⟩:=hv<;>(subst h;rfl))
theorem UF (s:List UInt8) (w:World) (hs:s.length=32) :
  Calls prog 192 #[.string (Qb s)] w (gl s w):=by
 go_enter func192,ntmps192;go_upto_region 2 with fail;have b0:=QA w 52 O3;have x0:Ext w (w.alloc (.cells O3 52)):=(Qf w).alloc _;have z0:(w.alloc (.cells O3 52)).heap.size=w.heap.size+1:=Ki _ _;change Code.wp _ _ _ _ ((w.alloc (.cells O3 52)).alloc (.cells O3 52));generalize w.alloc (.cells O3 52)=wa at b0 x0 z0 ⊢;have b1:=QA wa 52 O3;have x1:Ext w (wa.alloc (.cells O3 52)):=x0.alloc _;have b2:=b0.ext ((Qf wa).alloc (.cells O3 52));rw[z0]at b1;generalize wa.alloc (.cells O3 52)=W0 at b1 x1 b2 ⊢;clear b0 x0 z0;clear wa;go_wp2_with fail;go_loopw [4,5,6,7,22,29] (λ_ _ _ i _ _ wx=>∃k:Nat,k<=16/\i=.int .i64 k/\Box wx (w.heap.size+1) 52 (Sp s k)/\Box wx w.heap.size 52 O3/\Ext w wx/\Zv (∀j<k,GD (Qw s (2*j)) (Qw s (2*j+1))=true)) (λ_ _ _ i _ _ _=>16-(intOf i).toNat);case atStart=>exact⟨0,by omega,rfl,b1,b2,x1,Qa (λj h=>by omega)⟩
 case round =>
  clear b1 b2 x1;obtain⟨k,hk,rfl,bs,br,xk,ZL⟩:=hrel;by_cases Qo:k<16
  ·have Vf:(k:Int)<16:=by omega
   have i1:∀w,(Instr.index 9 (.string (Qb s)) (.int .i64 (2*(k:Int)))).run prog w=.ok (.int .u8 (Qw s (2*k))) w:=λw=>Rd s (2*k) (by omega) w;have i2:∀w,(Instr.index 9 (.string (Qb s)) (.int .i64 (2*(k:Int)+1))).run prog w=.ok (.int .u8 (Qw s (2*k+1))) w:=λw=>Rd s (2*k+1) (by omega) w;have HP:=Qa (eM s Qo);have HS:=Qa (O2 s Qo);have q1:=WZ s (2*k);have q2:=WZ s (2*k+1);have HN:=Qa (λh=>EY (s:=s) Qo h);have HO:=Qa (show GD (Qw s (2*k)) (Qw s (2*k+1))=true->∀j<k+1,GD (Qw s (2*j)) (Qw s (2*j+1))=true fromλh j hj=>by
    by_cases hjk:j=k
    ·subst hjk;exact h
    ·exact ZL.o j (by omega))
   generalize Qw s (2*k)=c at *;generalize Qw s (2*k+1)=f at *;have Xo:=Gh q2.1 q2.2;clear hs;go_wp2_with fail;go_quiet (fail);have xq:=xk.drewN nq;have rr:=bs.ext ((Qf wr).drewN nq);have iD:=br.ext ((Qf wr).drewN nq);clear bs br xk i1 i2;generalize wr.drewN nq=w2 at *;by_cases h0:c=0/\f=0
   ·obtain⟨rfl,rfl⟩:=h0;clear q1 q2 Xo;go_wp2_with fail;go_roundw;case rel=>exact⟨k+1,by omega,by go_num,by rw[←HS.o rfl];exact rr,iD,xq,Qa (HO.o rfl)⟩
    case measure=>simp[intOf];omega
   ·by_cases h1:c=1
    ·subst h1;go_wp2_with (refine KY _ (.tmp 41) (.tmp 40) rfl rfl (w.heap.size+1) (k*3) _ _ _ _ _ _ rfl rfl LD rfl rfl rfl rr (by rw[GU];omega) HP.o ?_;intro w3 b3 g3)
     go_roundw;case rel=>exact⟨k+1,by omega,by go_num,b3,iD.grown g3 (by simp),xq.grown g3 (λj e=>by cases e;omega),Qa (HO.o rfl)⟩
     case measure=>simp[intOf];omega
    ·by_cases h2:c=2
     ·subst h2;go_wp2_with (refine KY _ (.tmp 41) (.tmp 40) rfl rfl (w.heap.size+1) (k*3) _ _ _ _ _ _ rfl rfl LD rfl rfl rfl rr (by rw[GU];omega) HP.o ?_;intro w3 b3 g3)
      go_roundw;case rel=>exact⟨k+1,by omega,by go_num,b3,iD.grown g3 (by simp),xq.grown g3 (λj e=>by cases e;omega),Qa (HO.o rfl)⟩
      case measure=>simp[intOf];omega
     ·have k1:(c==1)=false:=by simpa using h1
      have k2:(c==2)=false:=by simpa using h2
      have hb:Zv (XF s=false):=Qa (HN.o (by
       unfold GD;rw[k1,k2];cases e0:(c==0)
       ·rfl
       ·have e1:c=0:=by simpa using e0
        have e2:(f==0)=false:=by simp;intro e3;exact h0 ⟨e1,e3⟩
        rw[e2];rfl))
      cases e0:(c==0)
      ·go_wp2_with fail;exact⟨rfl,.inr ⟨hb.o,rfl⟩,xq⟩
      ·have e2:(f==0)=false:=by
        have e1:c=0:=by simpa using e0
        simp;intro e3;exact h0 ⟨e1,e3⟩
       go_wp2_with fail;exact⟨rfl,.inr ⟨hb.o,rfl⟩,xq⟩
  ·obtain rfl:k=16:=by omega
   have hb:=Qa (Ax (s:=s) ZL.o)
   go_wp2_with (first
    | (refine XZ _ (.tmp 3) rfl rfl (w.heap.size+1) _ _ _ rfl bs underlying52 rfl LN ?_)
    | (refine Yv _ (.tmp 2) (.tmp 43) rfl rfl w.heap.size _ _ _ rfl rfl br LN rfl eL ?_;intro w3 b3 g3))
   exact ZD (QG rfl _ _ w.heap.size _ _ _ rfl b3 underlying52 rfl LN) rfl ⟨.inl ⟨hb.o,rfl⟩,xk.grown g3 (λj e=>by cases e;exact QW _)⟩
theorem aZ {ops:Array Oper}{rest:List Oper}{o:Oper}{a:Act}{w:World}{Q:Exit->Act->World->Prop}{B g n:Nat}{u:Value}{l:List Zs}(y:Zs) (Q7:o.guard=none) (sl x:Operand)
  (ho:o.op=.call { callee:=.builtin .append,args:=#[sl,x],argTypes:=#[34,34] }) (hs:a.eval sl=u) (hx:a.eval x=.slice (some ⟨g,0,none⟩) 1 1)
  (h0:w.ownsRow B 92 2 u n (l.flatMap Yd)) (hb:Box w g 92 (Yd y).toArray) (hn:n<=1000000000) (hB:B<=w.heap.size)
  (hK:∀u' w',w'.ownsRow B 92 2 u' (n+1) ((l++[y]).flatMap Yd)->w.grownBy w' u.ownBlock->wpList prog ops Q rest (a.put o.dst u') w'):wpList prog ops Q (o::rest) a w:=by
 refine DC Q7 λK Ky=>?_;obtain⟨i,hi,hz,h1,h2⟩:=SQ jk;obtain⟨v',w',hr,ho2,hg,_,_⟩:=mM (P:=prog) w B 34 o.type 92 i _ 2 24 underlying34 hi hz h1 h2 rfl (by decide) u n (l.flatMap Yd) h0 ⟨g,0,none⟩ 1 1 (Yd y) rfl (λj u hj=>by
  have ha:(⟨g,0,none⟩:Addr).add j=⟨g,j,none⟩:=by unfold Addr.add;split<;>simp_all
  rw[ha,hb.cell j];simpa using hj) (Cq y) (by unfold maxLen;omega) (by omega) hB
 unfold Oper.wp execOp;simp only[ho,resolve,invoke,builtin,WW,Fp,MZ,fG,FN,Cy,hs,hx,hr];refine Ky _ _ (hK v' w' ?_ hg);rw[AY];simpa using ho2
theorem Dd {w w':World}{A:Option Addr}{n m base z:Nat}{ss:List (List UInt8)}{u:Value}{xs:List Value}{t:TypeId}(h:TRow w A n ss) (hg:w.grownBy w' u.ownBlock) (o:w.ownsRow base t z u m xs) (ht:9≠t):TRow w' A n ss:=⟨h.1,λhn=>by
 obtain⟨g,i,cur,fz,e,h1,hc⟩:=h.2 hn;have Qo:g<w.heap.size:=(SK.1 h1).1;have QY:some g≠u.ownBlock:=λe2=>by
  rcases o.2 with⟨rfl,_⟩|⟨g',cap,cur',rfl,_,hh,_⟩
  ·simp[Value.ownBlock]at e2
  ·have:g=g':=by simpa[Value.ownBlock]using e2
   subst this;rw[h1]at hh;injection hh with hh;injection hh with _ hh;exact ht hh
 refine⟨g,i,cur,fz,e,(hg.block g Qo QY).trans h1,λj hj=>?_⟩;rw[←hc j hj];exact mG (w:=w) (hg.block g Qo QY)⟩
theorem Qq.grown {w w':World}{b m base z:Nat}{L:List (List UInt8)}{u:Value}{xs:List Value}{t:TypeId}(h:Qq w b L) (hg:w.grownBy w' u.ownBlock) (o:w.ownsRow base t z u m xs) (h1:9≠t) (h2:t≠253):Qq w' b L:=by
 obtain⟨A,n,c,k1,k2,k3⟩:=h;exact⟨A,n,c,k1.grown hg (Jz o k1 h2),Dd k2 hg o h1,k3⟩
theorem Qq.but {w w':World}{b b':Nat}{L L':List (List UInt8)}(h:Qq w b L) (hk:But b' w w') (h':Qq w b' L') (QY:b≠b'):Qq w' b L:=by
 obtain⟨A,n,c,k1,k2,k3⟩:=h;obtain⟨_,_,_,j1,_,_⟩:=h';exact⟨A,n,c,hk.box k1 QY,k2.but hk j1 (by decide),k3⟩
theorem Qq.own {w w':World}{b base z n:Nat}{u:Value}{xs:List Value}{t:TypeId}{L:List (List UInt8)}(h:Qq w b L) (hk:But b w w') (o:w.ownsRow base t z u n xs) (ht:t≠253):w'.ownsRow base t z u n xs:=by
 obtain⟨_,_,_,j1,_,_⟩:=h;exact QX o hk j1 ht
theorem Qq.lt {w:World}{b:Nat}{L:List (List UInt8)}(h:Qq w b L):b<w.heap.size:=by
 obtain⟨_,_,_,j1,_,_⟩:=h;exact j1.lt
theorem Ul {z:Nat}{s:List UInt8}{l:List (List UInt8)}(h:Jm (some z) s=some l):l.length=z:=by
 unfold Jm at h;split at h
 ·rename_i h1;injection h with h;subst h;exact h1.2 z rfl
 ·cases h
theorem Z8 {z:Option Nat}{s:List UInt8}{l:List (List UInt8)}(h:Jm z s=some l):∀t∈l,t.length<=s.length:=by
 unfold Jm at h;split at h
 ·injection h with h;subst h;exact(VV s).2
 ·cases h
theorem aM {α:Type} {l:List α}(h:l.length=2):∃a b,l=[a,b]:=by
 match l,h with
 | [a,b],_=>exact⟨a,b,rfl⟩
def BQ:Value->Nat|.slice _ n _=>n|_=>0
theorem Gw {w:World}{base z n:Nat}{u:Value}{xs:List Value}{t:TypeId}(o:w.ownsRow base t z u n xs):BQ u=n:=by
 rcases o.2 with⟨rfl,h⟩|⟨_,_,_,rfl,_⟩
 ·exact h.symm
 ·rfl
theorem KF {w:World}{base z n:Nat}{u:Value}{xs:List Value}{t:TypeId}(o:w.ownsRow base t z u n xs):∃A c,u=.slice A n c:=by
 rcases o.2 with⟨rfl,rfl⟩|⟨g,cap,_,rfl,_⟩
 ·exact⟨none,0,rfl⟩
 ·exact⟨_,cap,rfl⟩
def M0 (s:List UInt8) (w:World) (e:Ending) (w':World):Prop :=
 (∃l u,JB s=some l/\e=.returned u/\w'.ownsRow w.heap.size 92 2 u l.length (l.flatMap Yd)/\Ext w w')\/(JB s=none/\e=QZ/\Ext w w')
theorem KM (s:List UInt8) (w:World) (hs:s.length<=100000000) (hD:JW w) :
  Calls prog 130 #[.string (Qb s)] w (M0 s w):=by
 have HO:=Qa (KD s none w (by omega) (λn h=>by cases h));have IX:=VV s;go_enter func130,ntmps130;go_upto_region 2 with fail;cases hP:Jm none s with
 | none =>
  have et:=Qa (HO.o.mono (λe w' h=>by
   rcases h with⟨l,b,h,_⟩|⟨_,h1,h2⟩
   ·rw[hP]at h;cases h
   ·exact(⟨h1,h2⟩:e=QZ/\Ext w w')))
  have hR:JB s=none:=by unfold JB;rw[hP];rfl
  clear HO hP;go_wp2_with (go_at_call 125;refine et.o.mono ?_;rintro e w1 ⟨he,x1⟩;simp only[QZ]at he;subst he)
  exact⟨rfl,.inr ⟨hR,rfl,x1⟩⟩
 | some T =>
  have hT:T=(QD s).1:=by
   unfold Jm at hP;split at hP
   ·injection hP with hP;exact hP.symm
   ·cases hP
  have vS:∀x∈T,x.length<=100000000:=λx hx=>Y6 (IX.2 x (hT▸hx)) hs;have pz:T.length<=100000000:=by rw[hT];exact Y6 IX.1 hs
  have et:=Qa (HO.o.mono (λe w' h=>by
   rcases h with⟨l,b,h,h1,h2,h3,h4⟩|⟨h,_⟩
   ·have h:=L0 (hP.symm.trans h);subst h;exact(⟨b,h1,h2,h3,h4⟩:∃b,e=.returned (.pointer (some ⟨b,0,none⟩))/\w.heap.size<=b/\Qq w' b T/\Ext w w')
   ·exact absurd (hP.symm.trans h) (by simp)))
  have hR:Zv (JB s=ZR JG T):=Qa (by unfold JB;rw[hP];rfl);clear HO hP hT IX hs;have HTl:=Qa vS;clear vS;go_wp2_with (go_at_call 125;refine et.o.mono ?_;rintro e w1 ⟨cb,rfl,Bk,US,x1⟩)
  have ad:=Qa US;have Cv:=Qa x1;clear US x1 et;go_loopw [3,5,6] (λl _ _ wx=>∃done rest,wx.ownsRow w.heap.size 92 2 l done.length (done.flatMap Yd)/\Qq wx cb rest/\Ext w wx/\Zv (ZR JG T=(ZR JG rest).map (done++·))/\Zv (done.length+rest.length=T.length)/\Zv (∀x∈rest,x.length<=100000000)) (λl _ _ _=>T.length-BQ l);case atStart=>exact⟨[],T,⟨rfl,.inl ⟨rfl,rfl⟩⟩,ad.o,Cv.o,Qa (UM JG T),Qa (by simp),HTl⟩
  case round =>
   obtain⟨done,rest,o1,US,x1,hA,kU,ZS⟩:=hrel;have HM:=Qa (WA cb rest wr US);have pV:=Qa (Vz cb rest wr US);have hL3:=Qa (Gw o1);have HO1:=Qa o1;have HX:=Qa x1;have HCb:=Qa US;have vL:=Qa hD;have Qo:=Qa US.lt;clear ad Cv hD;cases rest with
   | nil =>
    have hE:Zv (M0 s w (.returned u3) wr):=Qa (.inl ⟨done,_,by rw[hR.o];exact WY hA.o,rfl,o1,x1⟩);clear o1 US x1 Bk pz;go_wp2_with (go_at_call 131;refine HM.o.mono ?_;rintro e w2 ⟨rfl,rfl⟩)
    go_ret;exact hE.o
   | cons x rest =>
    have L6:=Qa (pV.o.mono (λe w' h=>(⟨h.1,h.2.1,h.2.2⟩:e=.returned (.string (Qb x))/\Qq w' cb rest/\But cb wr w')));have hx:x.length<=100000000:=ZS.o x LY;have pQ:=Qa (λw=>KD x (some 2) w (by omega) (λn h=>by cases h;decide));have hF:Zv (JG x=none->∀w',Ext w w'->M0 s w QZ w'):=Qa (λh w' x=>.inr ⟨by rw[hR.o];exact K5 hA.o h,rfl,x⟩);clear pV o1 US x1;cases hP:Jm (some 2) x with
    | none =>
     have hw:Zv (JG x=none):=Qa (by unfold JG;rw[hP];rfl);have Sz:=Qa (λw=>(pQ.o w).mono (λe w' h=>by
      rcases h with⟨l,b,h,_⟩|⟨_,h1,h2⟩
      ·rw[hP]at h;cases h
      ·exact(⟨h1,h2⟩:e=QZ/\Ext w w')))
     clear hP pQ hx pz
     go_wp2_with (first
      | (go_at_call 131;refine HM.o.mono ?_;rintro e w2 ⟨rfl,rfl⟩)
      | (go_at_call 126;refine L6.o.mono ?_;rintro e w2 ⟨rfl,k1,k2⟩)
      | (go_at_call 125;refine(Sz.o _).mono ?_;rintro e w3 ⟨he,x3⟩;simp only[QZ]at he;subst he))
     exact⟨rfl,hF.o hw.o _ ((k2.past HX.o Bk).trans x3)⟩
    | some l =>
     have IQ:l.length=2:=Ul hP;obtain⟨t0,t1,rfl⟩:=aM IQ;have nh:t0.length<=281474976710656:=by have:=Z8 hP t0 (by simp);omega
     have hW:Zv (JG x=(Zd t0).map λn=>(n,t1)):=Qa (by unfold JG;rw[hP];rfl);have Sz:=Qa (λw=>(pQ.o w).mono (λe w' h=>by
      rcases h with⟨l,b,h,h1,h2,h3,h4⟩|⟨h,_⟩
      ·have h:=L0 (hP.symm.trans h);subst h;exact(⟨b,h1,h2,h3,h4⟩:∃b,e=.returned (.pointer (some ⟨b,0,none⟩))/\w.heap.size<=b/\Qq w' b [t0,t1]/\Ext w w')
      ·exact absurd (hP.symm.trans h) (by simp)))
     have bJ:=Qa (λb w' h hD'=>TH b [t0,t1] w' h hD' (by
      intro s hs;rcases TA.1 hs with rfl|hs
      ·exact nh
      ·rw[SJ.1 hs];have:=Z8 hP t1 (by simp);omega))
     clear hP pQ nh IQ;cases hi:Zd t0 with
     | none =>
      have hw:Zv (JG x=none):=Qa (by rw[hW.o,hi];rfl);have qc:=Qa (λb w' h hD'=>(bJ.o b w' h hD').mono (λe w2 h=>(⟨h.1.trans (by rw[hi]),h.2.1,h.2.2⟩:e=QZ/\Qq w2 b [t1]/\But b w' w2)));clear hi bJ hx pz
      go_wp2_with (first
       | (go_at_call 131;refine HM.o.mono ?_;rintro e w2 ⟨rfl,rfl⟩)
       | (go_at_call 126;refine L6.o.mono ?_;rintro e w2 ⟨rfl,k1,k2⟩)
       | (go_at_call 125;refine(Sz.o _).mono ?_;rintro e w3 ⟨ob,rfl,hob,Mf,x3⟩;have y3:=Qa ((k2.past HX.o Bk).trans x3);have Ng:=Qa (Y6 (k2.past HX.o Bk).size hob))
       | (go_at_call 128;refine(qc.o ob _ Mf (λw' k=>vL.o.ext (k.past y3.o Ng.o))).mono ?_;rintro e w4 ⟨he,k4,b4⟩;simp only[QZ]at he;subst he))
      exact⟨rfl,hF.o hw.o _ (b4.past y3.o Ng.o)⟩
     | some n =>
      have hw:Zv (JG x=some (n,t1)):=Qa (by rw[hW.o,hi];rfl);have qc:=Qa (λb w' h hD'=>(bJ.o b w' h hD').mono (λe w2 h=>(⟨h.1.trans (by rw[hi]),h.2.1,h.2.2⟩:e=.returned (.int .i64 n)/\Qq w2 b [t1]/\But b w' w2)));have HT3:=Qa (λb w' h=>(Vz b [t1] w' h).mono (λe w2 h=>(⟨h.1,h.2.1,h.2.2⟩:e=.returned (.string (Qb t1))/\Qq w2 b []/\But b w' w2)));have Bl:done.length<=1000000000:=by have:=kU.o;omega
      have pE:=Qa Bl;have kw:=Qa Bk;clear hi bJ hx pz Bl Bk
      go_wp2_with (first
       | (go_at_call 131;refine HM.o.mono ?_;rintro e w2 ⟨rfl,rfl⟩)
       | (go_at_call 126;refine(HT3.o ob _ k4).mono ?_;rintro e w5 ⟨rfl,k5,b5⟩;have uK:=Qa (k4.own b5 HO4.o (by decide));have gK:=Qa (qX.o.but b5 k4 QY.o);have y5:=Qa (b5.past (b4.past y3.o Ng.o) Ng.o))
       | (go_at_call 126;refine L6.o.mono ?_;rintro e w2 ⟨rfl,k1,k2⟩;have et:=Qa (HCb.o.own k2 HO1.o (by decide)))
       | (go_at_call 125;refine(Sz.o _).mono ?_;rintro e w3 ⟨ob,rfl,hob,Mf,x3⟩;have y3:=Qa ((k2.past HX.o kw.o).trans x3);have Ng:=Qa (Y6 (k2.past HX.o kw.o).size hob);have HO3:=Qa (Qe et.o x3);have qW:=Qa (k1.ext x3);have QY:=Qa (mW (ao k1.lt hob)))
       | (go_at_call 128;refine(qc.o ob _ Mf (λw' k=>vL.o.ext (k.past y3.o Ng.o))).mono ?_;rintro e w4 ⟨rfl,k4,b4⟩;have HO4:=Qa (Mf.own b4 HO3.o (by decide));have qX:=Qa (qW.o.but b4 Mf QY.o))
       | (refine aZ (n,t1) rfl (.tmp 16) (.tmp 21) rfl rfl rfl (Qe uK.o ((Qf _).alloc _)) (QA _ _ _) pE.o (y5.o.alloc _).size ?_;intro u6 w6 o6 g6))
      have oz:=Qe uK.o ((Qf _).alloc (.cells #[.int .i64 n,.string (Qb t1)] 92));have y6:=Qa (Below.grown (y5.o.alloc _) g6 (y5.o.alloc _).size (λk hk=>Jc oz hk));have HC6:=Qa ((gK.o.ext ((Qf _).alloc _)).grown g6 oz (by decide) (by decide));go_roundw;case rel=>exact⟨done++[(n,t1)],rest,(by rw[Kh];exact o6),HC6.o,y6.o,Qa (WX hA.o hw.o),Qa (by have:=kU.o;simp only[Kh,YV,Tz]at *;omega),Qa (λx hx=>ZS.o x (LX _ hx))⟩
      case measure => have e1:=Gw o6;have e2:=hL3.o;have e3:=kU.o;simp only[YV]at e3;omega
theorem Q3 {b:Nat}{w:World}{t:List UInt8}{L:List (List UInt8)}{n:Int}(h:Qq w b (t::L)) (hi:Zd t=some n) (hD:∀w',But b w w'->JW w') (hL:∀s∈t::L,s.length<=281474976710656) :
  Calls prog 128 #[.pointer (some ⟨b,0,none⟩)] w λe w'=>e=.returned (.int .i64 n)/\Qq w' b L/\But b w w' :=
 (TH b (t::L) w h hD hL).mono (λe w' h=>⟨h.1.trans (by rw[hi]),h.2⟩)
theorem Jd {b:Nat}{w:World}{t:List UInt8}{L:List (List UInt8)}(h:Qq w b (t::L)) :
  Calls prog 126 #[.pointer (some ⟨b,0,none⟩)] w λe w'=>e=.returned (.string (Qb t))/\Qq w' b L/\But b w w' :=
 (Vz b (t::L) w h).mono (λe w' h=>⟨h.1,h.2⟩)
theorem Ud {b z:Nat}{w:World}{t t':List UInt8}{L:List (List UInt8)}(h:Qq w b (t::L)) (hz:z<=1000) (hi:Y8 z t=some t') :
  Calls prog 190 #[.pointer (some ⟨b,0,none⟩),.int .i64 z] w λe w'=>e=.returned (.string (Qb t'))/\Qq w' b L/\But b w w' :=
 (Na z b (t::L) w h hz).mono (λe w' h=>⟨h.1.trans (by rw[hi]),h.2⟩)
theorem K7 {b z:Nat}{w:World}{t:List UInt8}{L:List (List UInt8)}{n:Int}(h:Qq w b (t::L)) (hz:z=4\/z=8) (hi:VL z t=some n) :
  Calls prog 127 #[.pointer (some ⟨b,0,none⟩),.int .i64 z] w λe w'=>e=.returned (.int .u64 n)/\Qq w' b L/\But b w w' :=
 (PW z b (t::L) w h hz).mono (λe w' h=>⟨h.1.trans (by rw[hi]),h.2⟩)
theorem PY {b:Nat}{w:World}{t:List UInt8}{L:List (List UInt8)}{n:Bool}(h:Qq w b (t::L)) (hi:Vl t=some n) :
  Calls prog 129 #[.pointer (some ⟨b,0,none⟩)] w λe w'=>e=.returned (.bool n)/\Qq w' b L/\But b w w' :=
 (PX b (t::L) w h).mono (λe w' h=>⟨h.1.trans (by rw[hi]),h.2⟩)
theorem Vv {s:List UInt8}{z:Option Nat}{l:List (List UInt8)}(h:Jm z s=some l) (w:World) (hs:s.length<=1000000000) (hz:∀n,z=some n->n<=1000) :
  Calls prog 125 #[.string (Qb s),.int .i64 (zI z)] w λe w'=>∃b,e=.returned (.pointer (some ⟨b,0,none⟩))/\w.heap.size<=b/\Qq w' b l/\Ext w w' :=
 (KD s z w hs hz).mono (λe w' k=>by
  rcases k with⟨l',b,h1,h2,h3,h4,h5⟩|⟨h1,_⟩
  ·have h6:=L0 (h.symm.trans h1);subst h6;exact⟨b,h2,h3,h4,h5⟩
  ·rw[h]at h1;cases h1)
theorem MJ {s s':List UInt8}(h:XG s=some s') (w:World):s'=s/\Calls prog 192 #[.string (Qb s)] w λe w'=>e=.returned (.agg (Sp s 16))/\Ext w w':=by
 unfold XG at h;split at h
 ·rename_i k;injection h with h;refine⟨h.symm,(UF s w k.1).mono (λe w' q=>⟨?_,q.2⟩)⟩;rcases q.1 with⟨_,q⟩|⟨q,_⟩
  ·exact q
  ·rw[k.2]at q;cases q
 ·cases h
theorem Qq.butT {w w':World}{b b':Nat}{L:List (List UInt8)}{T:TypeId}{cs:Array Value}(h:Qq w b L) (hk:But b' w w') (hb:Box w b' T cs) (h1:9≠T) (QY:b≠b'):Qq w' b L:=by
 obtain⟨A,n,c,k1,k2,k3⟩:=h;exact⟨A,n,c,hk.box k1 QY,k2.but hk hb h1,k3⟩
abbrev LC:QN:=default
structure PS (w W:World) (rb pb cb:Nat) (y:QN) (L:List (List UInt8)):Prop where
 box:Box W pb 57 (QJ y).toArray
 res:Box W rb 57 (QJ LC).toArray
 cur:Qq W cb L
 ext:Ext w W
 ne:rb≠pb
 nec:pb≠cb
 ner:rb≠cb
 lr:w.heap.size<=rb
 lp:w.heap.size<=pb
 lc:w.heap.size<=cb
namespace PS
variable {w W W':World}{rb pb cb:Nat}{y:QN}{L L':List (List UInt8)}
theorem call (h:PS w W rb pb cb y L) (k:Qq W' cb L') (b:But cb W W'):PS w W' rb pb cb y L' :=
 ⟨b.box h.box h.nec,b.box h.res h.ner,k,b.past h.ext h.lc,h.ne,h.nec,h.ner,h.lr,h.lp,h.lc⟩
theorem more (h:PS w W rb pb cb y L) (x:Ext W W'):PS w W' rb pb cb y L :=
 ⟨h.box.ext x,h.res.ext x,h.cur.ext x,h.ext.trans x,h.ne,h.nec,h.ner,h.lr,h.lp,h.lc⟩
theorem but (h:PS w W rb pb cb y L) (b:But pb W W') (y':QN) (hb:Box W' pb 57 (QJ y').toArray):PS w W' rb pb cb y' L :=
 ⟨hb,b.box h.res h.ne,h.cur.butT b h.box (by decide) (Fq h.nec),b.past h.ext h.lp,h.ne,h.nec,h.ner,h.lr,h.lp,h.lc⟩
theorem set (h:PS w W rb pb cb y L) (i:Nat) (v:Value) (y':QN) (e:(QJ y).toArray.setIfInBounds i v=(QJ y').toArray):PS w (W.setCell ⟨pb,i,none⟩ v) rb pb cb y' L :=
 h.but ((But.refl pb W).setCell i v) y' (e▸h.box.set i v)
theorem dec (h:PS w W rb pb cb y L) (hD:JW w):∀W',But cb W W'->JW W':=λW' b=>hD.ext (b.past h.ext h.lc)
end PS
theorem ji {l:List (List UInt8)}(h:l.length=10):∃a b c d e f g i j k,l=[a,b,c,d,e,f,g,i,j,k]:=by
 match l,h with
 | [a,b,c,d,e,f,g,i,j,k],_=>exact⟨a,b,c,d,e,f,g,i,j,k,rfl⟩
def OC (y:QN) (f:Nat->Int) (k:Nat):QN:={ y with reg:=λi=>if i<k then f i else 0 }
def Ts (y:QN) (f g h:Nat->Int) (k:Nat):QN:={ y with
 fk:=λi=>if i<k then f i else 0
 fn:=λi=>if i<k then g i else 0
 fp:=λi=>if i<k then h i else 0 }
theorem ou {k:Nat}(h:k<8):k=0\/k=1\/k=2\/k=3\/k=4\/k=5\/k=6\/k=7:=by omega
theorem eB (y:QN) (f:Nat->Int) {k:Nat}(h:k<16):(QJ (OC y f k)).toArray.setIfInBounds (3+k) (.int .u32 (f k))=(QJ (OC y f (k+1))).toArray:=by
 rcases aQ h with rfl|rfl|rfl|rfl|rfl|rfl|rfl|rfl|rfl|rfl|rfl|rfl|rfl|rfl|rfl|rfl<;>kernel_rfl
theorem LM {α:Type} (a b:List α) (i:Nat) (v:α) (h:a.length=i) (j:Nat):(a++b).toArray.setIfInBounds (i+j) v=(a++(b.toArray.setIfInBounds j v).toList).toArray:=by
 apply mF.1;rw[pf,List.set_append_right _ _ (by omega),pf,show i+j-a.length=j by omega]
theorem cg (y:QN) (f g h:Nat->Int) {k:Nat}(hk:k<8):(((N5 (Ts y f g h k)).toArray.setIfInBounds (k*3) (.int .i64 (f k))).setIfInBounds (k*3+1) (.int .i64 (g k))).setIfInBounds (k*3+2) (.int .i64 (h k))=(N5 (Ts y f g h (k+1))).toArray:=by
 rcases ou hk with rfl|rfl|rfl|rfl|rfl|rfl|rfl|rfl<;>kernel_rfl
theorem RT {α:Type} (a b:List α) (j:Nat) (v:α) (h:j<a.length):(a++b).toArray.setIfInBounds j v=((a.toArray.setIfInBounds j v).toList++b).toArray:=by
 apply mF.1;rw[pf,List.set_append_left _ _ h,pf]
theorem Cf (y:QN):(QJ y).toArray=((QJ y).take 68++(N5 y++[Value.bool y.mask,Value.int .u32 y.code,Value.int .i64 y.why,Value.int .u64 y.num])).toArray:=by
 conv=>lhs;rw[←fH 68 (QJ y)]
 rfl
theorem dw (y:QN) (f g h:Nat->Int) {k:Nat}(hk:k<8):(((QJ (Ts y f g h k)).toArray.setIfInBounds (68+k*3) (.int .i64 (f k))).setIfInBounds (68+k*3+1) (.int .i64 (g k))).setIfInBounds (68+k*3+2) (.int .i64 (h k))=(QJ (Ts y f g h (k+1))).toArray:=by
 have hl:((QJ y).take 68).length=68:=rfl;have hf:(N5 (Ts y f g h k)).length=24:=rfl;rw[Cf,Cf (Ts y f g h (k+1)),show(QJ (Ts y f g h k)).take 68=(QJ y).take 68 from rfl,show(QJ (Ts y f g h (k+1))).take 68=(QJ y).take 68 from rfl];rw[show 68+k*3+1=68+(k*3+1) from rfl,show 68+k*3+2=68+(k*3+2) from rfl,LM _ _ 68 _ hl,LM _ _ 68 _ hl,LM _ _ 68 _ hl];simp only[rW];rw[RT _ _ _ _ (by rw[hf];omega),RT _ _ _ _ (by rw[be,mD,N1,hf];omega)];simp only[rW];rw[RT _ _ _ _ (by rw[be,mD,mD,N1,hf];omega)];simp only[rW];rw[cg y f g h hk];rfl
theorem PS.eq {w W:World}{rb pb cb:Nat}{y y':QN}{L:List (List UInt8)}(h:PS w W rb pb cb y L) (e:QJ y=QJ y'):PS w W rb pb cb y' L :=
 ⟨e▸h.box,h.res,h.cur,h.ext,h.ne,h.nec,h.ner,h.lr,h.lp,h.lc⟩
section
variable {ops:Array Oper}{rest:List Oper}{o:Oper}{a:Act}{w0 W:World}{Q:Exit->Act->World->Prop}{rb pb cb:Nat}{y:QN}{L:List (List UInt8)}
theorem Ys (S:PS w0 W rb pb cb y L) (y':QN) (T:TypeId) (x z:Operand) (Q7:o.guard=none) (ho:o.op=.store T x z) (i:Nat) (v:Value) (hx:a.eval x=.pointer (some ⟨pb,i,none⟩)) (hy:a.eval z=v) (hv:v.oneCell'=true)
  (hi:(prog.info? T).map (·.size)=some 1) (Qo:i<96) (he:(QJ y).toArray.setIfInBounds i v=(QJ y').toArray)
  (hK:∀W',PS w0 W' rb pb cb y' L->wpList prog ops Q rest (a.put o.dst undef) W'):wpList prog ops Q (o::rest) a W :=
 Z5 T x z Q7 ho pb i v _ _ _ hx hy hv hi S.box Qo he (λW' b d=>hK W' (S.but d y' b))
end
theorem FX (s:List UInt8) (i z:Nat):(Qb s).extract i (i+z)=Qb ((s.drop i).take z):=by rw[JJ,show i+z-i=z by omega]
theorem Lg (s:List UInt8) (i z:Nat) (hz:z=4\/z=8) (h:i+z<=s.length) (w:World) :
  Calls prog 164 #[.string ((Qb s).extract i (i+z))] w λe w'=>e=.returned (.int .u64 (Qz s i z))/\w=w':=by
 rw[FX];have hl:((s.drop i).take z).length=z:=by rw[WV,WQ];omega
 exact IC _ w (by rw[hl];exact hz)
theorem Rt:∀l:List UInt8,Yp l<256^l.length
 | []=>by decide
 | c::l=>by have:=Rt l;have h2:=c.toNat_lt;rw[YV,mV];show c.toNat+256*Yp l<_;omega
theorem Ew (s:List UInt8) (i z:Nat):0<=Qz s i z/\Qz s i z<((256^z:Nat):Int):=by
 unfold Qz;refine⟨Int.natCast_nonneg _,?_⟩;have h:=Rt ((s.drop i).take z);have h2:256^((s.drop i).take z).length<=256^z:=mI (by decide) (by rw[WV];exact Nat.min_le_left _ _);omega
theorem NL (s:List UInt8) (o n i z:Nat) (h:i+z<=n):Qz ((s.drop o).take n) i z=Qz s (o+i) z:=by
 unfold Qz;rw[List.drop_take,hO,hU,gz (by omega)]
theorem M4 (s:List UInt8) (o n i:Nat) (h:i<n):Qw ((s.drop o).take n) i=Qw s (o+i):=by
 unfold Qw;simp[ZG,Ty,Fm,h]
theorem OA (y:QN) (hz:∀i,y.fk i=0/\y.fn i=0/\y.fp i=0) (f g h:Nat->Int):QJ y=QJ (Ts y f g h 0) :=
 Nn rfl rfl rfl (λ_ _=>rfl) rfl (λ_ _=>⟨rfl,rfl,rfl⟩) (λi _=>⟨by simp[Ts,(hz i).1],by simp[Ts,(hz i).2.1],by simp[Ts,(hz i).2.2]⟩) rfl rfl rfl rfl
theorem Ay {s:List UInt8}(h:XG s=some s):Y8 32 s=some s:=by
 unfold XG at h;split at h
 ·rename_i k;exact Qv k.1
 ·cases h
theorem dl {t:List UInt8}{n:Int}(h:VL 4 t=some n):IntKind.u32.wrap n=n:=by
 unfold VL at h;split at h
 ·rename_i hl;injection h with h;subst h;have:=Rt t;rw[hl]at this;rw[IntKind.wrap_u32'];have h2:(256:Nat)^4=4294967296:=by decide
  omega
 ·cases h
theorem CG {w w':World}{g:Nat}(h:w.grownBy w' (some g)):But g w w':=⟨h.os,h.tape,h.output,h.size,λk hk QY=>h.block k hk (λe=>QY (by injection e))⟩
theorem Aj (pid par st:Int) (t3 t4 t5:List UInt8) (mask:Bool) (code why num:Int) :
  QJ { (Ts (({ (OC { LC with pid:=pid,parent:=par,state:=st } (λi=>Qz t3 (4*i) 4) 16) with pc:=Qz t3 64 4 }:QN).pages (eN t4 16)) (λi=>Qw t5 (17*i)) (λi=>wrap64 (Qz t5 (17*i+1) 8)) (λi=>wrap64 (Qz t5 (17*i+9) 8)) 8) with mask:=mask,code:=code,why:=why,num:=num }
   = QJ (Xy pid par st t3 t4 t5 mask code why num) :=
 Nn rfl rfl rfl (λi hi=>by simp[Ts,QN.pages,OC,Xy,hi]) rfl (λi hi=>⟨by simp[Ts,QN.pages,eN,Xy,hi],by simp[Ts,QN.pages,eN,Xy,hi],by simp[Ts,QN.pages,eN,Xy,hi]⟩) (λi hi=>⟨by simp[Ts,Xy,hi],by simp[Ts,Xy,hi],by simp[Ts,Xy,hi]⟩) rfl rfl rfl rfl
theorem aP (s:List UInt8) (i:Nat):IntKind.u32.wrap (Qz s i 4)=Qz s i 4:=by
 have h:=Ew s i 4;rw[IntKind.wrap_u32'];omega
theorem Yj {b:Nat}{w:World}{t:List UInt8}{L:List (List UInt8)}(h:Qq w b (t::L)) (hi:Zd t=none) (hD:∀w',But b w w'->JW w') (hL:∀s∈t::L,s.length<=281474976710656) :
  Calls prog 128 #[.pointer (some ⟨b,0,none⟩)] w λe w'=>e=QZ/\Qq w' b L/\But b w w' :=
 (TH b (t::L) w h hD hL).mono (λe w' h=>⟨h.1.trans (by rw[hi]),h.2⟩)
theorem TU {b z:Nat}{w:World}{t:List UInt8}{L:List (List UInt8)}(h:Qq w b (t::L)) (hz:z<=1000) (hi:Y8 z t=none) :
  Calls prog 190 #[.pointer (some ⟨b,0,none⟩),.int .i64 z] w λe w'=>e=QZ/\Qq w' b L/\But b w w' :=
 (Na z b (t::L) w h hz).mono (λe w' h=>⟨h.1.trans (by rw[hi]),h.2⟩)
theorem Wi {b z:Nat}{w:World}{t:List UInt8}{L:List (List UInt8)}(h:Qq w b (t::L)) (hz:z=4\/z=8) (hi:VL z t=none) :
  Calls prog 127 #[.pointer (some ⟨b,0,none⟩),.int .i64 z] w λe w'=>e=QZ/\Qq w' b L/\But b w w' :=
 (PW z b (t::L) w h hz).mono (λe w' h=>⟨h.1.trans (by rw[hi]),h.2⟩)
theorem Hk {b:Nat}{w:World}{t:List UInt8}{L:List (List UInt8)}(h:Qq w b (t::L)) (hi:Vl t=none) :
  Calls prog 129 #[.pointer (some ⟨b,0,none⟩)] w λe w'=>e=QZ/\Qq w' b L/\But b w w' :=
 (PX b (t::L) w h).mono (λe w' h=>⟨h.1.trans (by rw[hi]),h.2⟩)
theorem Tp {s:List UInt8}{z:Option Nat}(h:Jm z s=none) (w:World) (hs:s.length<=1000000000) (hz:∀n,z=some n->n<=1000) :
  Calls prog 125 #[.string (Qb s),.int .i64 (zI z)] w λe w'=>e=QZ/\Ext w w' :=
 (KD s z w hs hz).mono (λe w' k=>by
  rcases k with⟨l',b,h1,_⟩|⟨_,h1,h2⟩
  ·rw[h]at h1;cases h1
  ·exact⟨h1,h2⟩)
theorem F2 {z:Nat}{s t:List UInt8}(h:Y8 z s=some t):t=s:=by
 unfold Y8 at h;split at h
 ·injection h with h;exact h.symm
 ·cases h
theorem O5 {s:List UInt8}(h:Y8 32 s=some s) (h2:XG s=none) (w:World):Calls prog 192 #[.string (Qb s)] w λe w'=>e=QZ/\Ext w w':=by
 have hl:s.length=32:=by
  unfold Y8 at h;split at h
  ·assumption
  ·cases h
 refine(UF s w hl).mono (λe w' q=>⟨?_,q.2⟩);rcases q.1 with⟨q,_⟩|⟨_,q⟩
 ·unfold XG at h2;rw[Qv ⟨hl,q⟩]at h2;cases h2
 ·exact q
theorem E2 {s:List UInt8}(h:Y8 32 s=none):XG s=none:=by
 unfold Y8 at h;split at h
 ·cases h
 ·rename_i k;unfold XG;rw[Qr (λq=>k q.1)]
theorem Jp {α β:Type} {o:Option α}{f:α->Option β}{y:α}{r:Option β}(h:o.bind f=r) (ho:o=some y):f y=r:=by rw[ho]at h;exact h
theorem QK {α β:Type} {o:Option α}{f:α->Option β}{r:Option β}(h:o.bind f=r) (ho:o=none):r=none:=by rw[ho]at h;exact h.symm
theorem Oe {α β:Type} {o:Option α}{f:α->β}{y:α}{r:Option β}(h:o.map f=r) (ho:o=some y):r=some (f y):=by rw[ho]at h;exact h.symm
theorem Lw {α β:Type} {o:Option α}{f:α->β}{r:Option β}(h:o.map f=r) (ho:o=none):r=none:=by rw[ho]at h;exact h.symm
def mC:Option QN->Ending
 | some y=>.returned (.agg (QJ y).toArray)
 | none=>QZ
theorem WI (s:List UInt8) (w:World) (hs:s.length<=100000000) (hD:JW w) :
  Calls prog 132 #[.string (Qb s)] w λe w'=>e=mC (XD s)/\Ext w w':=by
 generalize hP:XD s=r;cases DV:Jm (some 10) s with
 | none =>
  have HO:=Qa (λw=>Tp DV w (by omega) (λn h=>by cases h;decide));obtain rfl:r=none:=by unfold XD at hP;rw[DV]at hP;exact hP.symm
  clear hP hs hD DV;go_enter func132,ntmps132;go_upto_region 1 with fail;have x0:Ext w (w.alloc (.cells (QJ LC).toArray 57)):=(Qf w).alloc _;change Code.wp _ _ _ _ (w.alloc (.cells (QJ LC).toArray 57));generalize w.alloc (.cells (QJ LC).toArray 57)=w0 at x0 ⊢;go_wp2_with (go_at_call 125;refine(HO.o _).mono ?_;rintro e w1 ⟨he,x1⟩;simp only[QZ]at he;subst he)
  exact⟨rfl,rfl,x0.trans x1⟩
 | some l =>
 obtain⟨t0,t1,t2,t3,t4,t5,t6,t7,t8,t9,rfl⟩:=ji (Ul DV);unfold XD at hP;rw[DV]at hP;simp only[Option.bind_some,pY,pZ]at hP;have TZ:∀t∈[t0,t1,t2,t3,t4,t5,t6,t7,t8,t9],t.length<=281474976710656:=λt ht=>by have:=Z8 DV t ht;omega
 have HO:=Qa (λw=>Vv DV w (by omega) (λn h=>by cases h;decide));have lO:=Qa TZ;have lP:=Qa (λt ht=>TZ t (LX _ ht));have AU:=Qa (λt ht=>lP.o t (LX _ ht));have uI:=Qa (show∀t∈[t8,t9],t.length<=281474976710656 fromλt ht=>TZ t (by simp only[TA,Td,L1]at ht ⊢;rcases ht with rfl|rfl<;>simp));have YU:=Qa hD;have YQ:=Qa hP;clear DV TZ hs hD hP;go_enter func132,ntmps132;go_upto_region 1 with fail;have b0:=QA w 57 (QJ LC).toArray;have x0:Ext w (w.alloc (.cells (QJ LC).toArray 57)):=(Qf w).alloc _;have z0:(w.alloc (.cells (QJ LC).toArray 57)).heap.size=w.heap.size+1:=Ki _ _;change Code.wp _ _ _ _ (w.alloc (.cells (QJ LC).toArray 57));generalize w.alloc (.cells (QJ LC).toArray 57)=w0 at b0 x0 z0 ⊢;go_upto_region 2 with(go_at_call 125;refine(HO.o _).mono ?_;rintro e w1 ⟨cb,rfl,Bk,US,x1⟩)
 have b1:=b0.ext x1;have wH:=x0.trans x1;have Xo:w.heap.size+1<=w1.heap.size:=by rw[←z0];exact x1.size
 have sR:=US.lt;rw[z0]at Bk;clear b0 x0 z0 x1 HO;clear w0;go_upto_region 3 with fail
 have S:PS w (w1.alloc (.cells (QJ LC).toArray 57)) w.heap.size w1.heap.size cb LC [t0,t1,t2,t3,t4,t5,t6,t7,t8,t9] :=
  ⟨QA w1 _ _,b1.ext ((Qf _).alloc _),US.ext ((Qf _).alloc _),wH.alloc _,by omega,by omega,by omega,QW _,by omega,by omega⟩
 change Code.wp _ _ _ _ (w1.alloc (.cells (QJ LC).toArray 57));generalize w1.alloc (.cells (QJ LC).toArray 57)=W0 at S ⊢;generalize w1.heap.size=pb at S ⊢;generalize hrb:w.heap.size=rb at S ⊢;clear b1 wH Xo Bk sR US;clear w1;cases e0:Zd t0 with
 | none =>
  obtain rfl:=QK YQ.o e0;have HN:=Qa e0;clear e0 YQ
  go_wp2_with (first
   | (go_at_call 128;refine(Yj S.cur HN.o (S.dec YU.o) lO.o).mono ?_;rintro e wz ⟨he,kz,dz⟩;simp only[QZ]at he;subst he))
  exact⟨rfl,rfl,dz.past S.ext S.lc⟩
 | some pid =>
 have H0:=Qa e0;replace YQ:=Qa (Jp YQ.o e0);clear e0;cases e0:Zd t1 with
 | none =>
  obtain rfl:=QK YQ.o e0;have HN:=Qa e0;clear e0 YQ
  go_wp2_with (first
   | (go_at_call 128;refine(Yj S1.cur HN.o (S1.dec YU.o) lP.o).mono ?_;rintro e wz ⟨he,kz,dz⟩;simp only[QZ]at he;subst he)
   | (go_at_call 128;refine(Q3 S.cur H0.o (S.dec YU.o) lO.o).mono ?_;rintro e w1 ⟨rfl,k1,d1⟩;have S1:=S.call k1 d1))
  exact⟨rfl,rfl,dz.past S1.ext S1.lc⟩
 | some par =>
 have H1:=Qa e0;replace YQ:=Qa (Jp YQ.o e0);clear e0;cases e0:Zd t2 with
 | none =>
  obtain rfl:=QK YQ.o e0;have HN:=Qa e0;clear e0 YQ
  go_wp2_with (first
   | (go_at_call 128;refine(Yj S2.cur HN.o (S2.dec YU.o) AU.o).mono ?_;rintro e wz ⟨he,kz,dz⟩;simp only[QZ]at he;subst he)
   | (go_at_call 128;refine(Q3 S1.cur H1.o (S1.dec YU.o) lP.o).mono ?_;rintro e w2 ⟨rfl,k2,d2⟩;have S2:=S1.call k2 d2)
   | (go_at_call 128;refine(Q3 S.cur H0.o (S.dec YU.o) lO.o).mono ?_;rintro e w1 ⟨rfl,k1,d1⟩;have S1:=S.call k1 d1))
  exact⟨rfl,rfl,dz.past S2.ext S2.lc⟩
 | some st =>
 have H2:=Qa e0;replace YQ:=Qa (Jp YQ.o e0);clear e0
 go_upto_region 4 with(first
  | (go_at_call 128;refine(Q3 S2.cur H2.o (S2.dec YU.o) AU.o).mono ?_;rintro e w3 ⟨rfl,k3,d3⟩;have S3:=S2.call k3 d3)
  | (go_at_call 128;refine(Q3 S1.cur H1.o (S1.dec YU.o) lP.o).mono ?_;rintro e w2 ⟨rfl,k2,d2⟩;have S2:=S1.call k2 d2)
  | (go_at_call 128;refine(Q3 S.cur H0.o (S.dec YU.o) lO.o).mono ?_;rintro e w1 ⟨rfl,k1,d1⟩;have S1:=S.call k1 d1)
  | (refine Ys S3 { LC with pid:=pid } _ _ _ rfl rfl 0 _ rfl rfl rfl KS (by decide) rfl ?_;intro w4 S4)
  | (refine Ys S4 { LC with pid:=pid,parent:=par } _ _ _ rfl rfl 1 _ rfl rfl rfl KS (by decide) rfl ?_;intro w5 S5)
  | (refine Ys S5 { LC with pid:=pid,parent:=par,state:=st } _ _ _ rfl rfl 2 _ rfl rfl rfl KS (by decide) rfl ?_;intro w6 S6))
 clear S S1 S2 S3 S4 S5 k1 k2 k3 d1 d2 d3 H0 H1 H2 lO lP AU;clear w1 w2 w3 w4 w5;clear W0;cases e0:Y8 68 t3 with
 | none =>
  obtain rfl:=QK YQ.o e0;have HN:=Qa e0;clear e0 YQ
  go_wp2_with (first
   | (go_at_call 190;refine(TU S6.cur (by decide) HN.o).mono ?_;rintro e wz ⟨he,kz,dz⟩;simp only[QZ]at he;subst he))
  exact⟨rfl,rfl,dz.past S6.ext S6.lc⟩
 | some cpu =>
 have H3:=Qa e0;replace YQ:=Qa (Jp YQ.o e0);clear e0;obtain rfl:=F2 H3.o;go_upto_region 5 with(go_at_call 190;refine(Ud S6.cur (by decide) H3.o).mono ?_;rintro e w7 ⟨rfl,k7,d7⟩;have S7:=S6.call k7 d7)
 have S8:=S7.eq (show _=QJ (OC { LC with pid:=pid,parent:=par,state:=st } (λi=>Qz cpu (4*i) 4) 0) from rfl);clear S6 S7 k7 d7;clear w6;generalize tR:({ LC with pid:=pid,parent:=par,state:=st }:QN)=y3 at S8;have rN:=Qa tR;clear tR;have sg:(Qb cpu).size=68:=by
  rw[Qh];have:=H3.o;unfold Y8 at this;split at this
  ·assumption
  ·cases this
 have nb:cpu.length=68:=by rw[Qh]at sg;exact sg
 go_wp2_with fail;go_loopw [6,23] (λ_ i wx=>∃k:Nat,k<=16/\i=.int .i64 k/\PS w wx rb pb cb (OC y3 (λi=>Qz cpu (4*i) 4) k) [t4,t5,t6,t7,t8,t9]) (λ_ i _=>16-(intOf i).toNat);case atStart=>exact⟨0,by omega,rfl,S8⟩
 case round =>
  clear S8;obtain⟨k,hk,rfl,S1⟩:=hrel;by_cases Qo:k<16
  ·have Vf:(k:Int)<16:=by omega
   have HP:Zv ((QJ (OC y3 (λi=>Qz cpu (4*i) 4) k)).toArray.setIfInBounds (3+k) (.int .u32 (Qz cpu (4*k) 4))=(QJ (OC y3 (λi=>Qz cpu (4*i) 4) (k+1))).toArray):=Qa (eB y3 (λi=>Qz cpu (4*i) 4) Qo);have HG:=Qa (Lg cpu (4*k) 4 (.inl rfl) (by omega));have hu:=aP cpu (4*k);generalize Qz cpu (4*k) 4=r at *;clear nb
   go_wp2_with (first
    | (go_at_call 164;refine(HG.o _).mono ?_;rintro e w2 ⟨rfl,rfl⟩)
    | (refine Ys S1 _ _ _ _ rfl rfl (3+k) _ rfl rfl rfl aF (by omega) HP.o ?_;intro w3 S2))
   go_roundw;case rel=>exact⟨k+1,by omega,by go_num,S2⟩
   case measure=>simp[intOf];omega
  ·obtain rfl:k=16:=by omega
   have HG:=Qa (Lg cpu 64 4 (.inl rfl) (by omega));have hu:=aP cpu 64;have bM:Zv ((QJ (OC y3 (λi=>Qz cpu (4*i) 4) 16)).toArray.setIfInBounds 19 (.int .u32 (Qz cpu 64 4))=(QJ { (OC y3 (λi=>Qz cpu (4*i) 4) 16) with pc:=Qz cpu 64 4 }).toArray):=Qa rfl;generalize qJ:Qz cpu 64 4=pc at *;generalize hyR:OC y3 (λi=>Qz cpu (4*i) 4) 16=yR at *;have pS:=Qa qJ;have rP:=Qa hyR;clear qJ hyR nb
   go_upto_region 11 with(first
    | (go_at_call 164;refine(HG.o _).mono ?_;rintro e w2 ⟨rfl,rfl⟩)
    | (refine Ys S1 { yR with pc:=pc } _ _ _ rfl rfl 19 _ rfl rfl rfl aF (by decide) bM.o ?_;intro w3 S2))
   generalize hyP:({ yR with pc:=pc }:QN)=yP at *;have rO:=Qa hyP;clear hyP S1 HG hu bM Qo hk;clear wr;cases e1:Y8 32 t4 with
   | none =>
    obtain rfl:=QK YQ.o (E2 e1);have HN:=Qa e1;clear e1 YQ;go_wp2_with (go_at_call 190;refine(TU S2.cur (by decide) HN.o).mono ?_;rintro e wz ⟨he,kz,dz⟩;simp only[QZ]at he;subst he)
    exact⟨rfl,rfl,dz.past S2.ext S2.lc⟩
   | some sp0 =>
   obtain rfl:=F2 e1;cases e0:XG sp0 with
   | none =>
    obtain rfl:=QK YQ.o e0;have lq:=Qa (λw=>O5 e1 e0 w);have pG:=Qa e1;clear e0 e1 YQ
    go_wp2_with (first
     | (go_at_call 190;refine(Ud S2.cur (by decide) pG.o).mono ?_;rintro e w4 ⟨rfl,k4,d4⟩;have S4:=S2.call k4 d4)
     | (go_at_call 192;refine(lq.o _).mono ?_;rintro e w5 ⟨he,x5⟩;simp only[QZ]at he;subst he))
    exact⟨rfl,rfl,S4.ext.trans x5⟩
   | some sp =>
   replace YQ:=Qa (Jp YQ.o e0);obtain rfl:sp=sp0:=(MJ e0 w).1;have H4:=Qa e0;clear e0 e1;have lq:=Qa (λw=>(MJ H4.o w).2);have pG:=Qa (Ay H4.o);unfold Sp at lq;generalize hyq:eN sp 16=q at *;have HQ:=Qa hyq;clear hyq
   go_upto_region 12 with(first
    | (go_at_call 190;refine(Ud S2.cur (by decide) pG.o).mono ?_;rintro e w4 ⟨rfl,k4,d4⟩;have S4:=S2.call k4 d4)
    | (go_at_call 192;refine(lq.o _).mono ?_;rintro e w5 ⟨rfl,x5⟩;have S5:=S4.more x5)
    | (refine Fj _ _ rfl rfl pb yP q _ rfl rfl S5.box ?_;intro w6 b6 d6;have S6:=S5.but d6 _ b6))
   generalize hyS:yP.pages q=yS at *;have rQ:=Qa hyS;clear hyS S2 S4 S5 k4 d4 x5 d6 b6 lq pG;clear w3 w4 w5;have HZ:=Qa (show∀i,yS.fk i=0/\yS.fn i=0/\yS.fp i=0 fromλi=>by rw[←rQ.o,←rO.o,←rP.o,←rN.o];exact⟨rfl,rfl,rfl⟩);cases e0:Y8 136 t5 with
   | none =>
    obtain rfl:=QK YQ.o e0;have HN:=Qa e0;clear e0 YQ
    go_wp2_with (first
     | (go_at_call 190;refine(TU S6.cur (by decide) HN.o).mono ?_;rintro e wz ⟨he,kz,dz⟩;simp only[QZ]at he;subst he))
    exact⟨rfl,rfl,dz.past S6.ext S6.lc⟩
   | some fds =>
   have H5:=Qa e0;replace YQ:=Qa (Jp YQ.o e0);clear e0;obtain rfl:=F2 H5.o;have si:(Qb fds).size=136:=by
    rw[Qh];have:=H5.o;unfold Y8 at this;split at this
    ·assumption
    ·cases this
   have io:fds.length=136:=by rw[Qh]at si;exact si
   go_upto_region 13 with(go_at_call 190;refine(Ud S6.cur (by decide) H5.o).mono ?_;rintro e w7 ⟨rfl,k7,d7⟩;have S7:=S6.call k7 d7)
   have S8:=S7.eq (OA yS HZ.o (λi=>Qw fds (17*i)) (λi=>wrap64 (Qz fds (17*i+1) 8)) (λi=>wrap64 (Qz fds (17*i+9) 8)));clear S6 S7 k7 d7;clear w6;go_wp2_with fail;go_loopw [8,9,52] (λ_ _ i wx=>∃k:Nat,k<=8/\i=.int .i64 k/\PS w wx rb pb cb (Ts yS (λi=>Qw fds (17*i)) (λi=>wrap64 (Qz fds (17*i+1) 8)) (λi=>wrap64 (Qz fds (17*i+9) 8)) k) [t6,t7,t8,t9]) (λ_ _ i _=>8-(intOf i).toNat);case atStart=>exact⟨0,by omega,rfl,S8⟩
   case round =>
    clear S8;obtain⟨k,hk,rfl,S1⟩:=hrel;by_cases Qo:k<8
    ·have Vf:(k:Int)<8:=by omega
     have HP:Zv ((((QJ (Ts yS (λi=>Qw fds (17*i)) (λi=>wrap64 (Qz fds (17*i+1) 8)) (λi=>wrap64 (Qz fds (17*i+9) 8)) k)).toArray.setIfInBounds (68+k*3) (.int .i64 (Qw fds (17*k)))).setIfInBounds (68+k*3+1) (.int .i64 (wrap64 (Qz fds (17*k+1) 8)))).setIfInBounds (68+k*3+2) (.int .i64 (wrap64 (Qz fds (17*k+9) 8)))=(QJ (Ts yS (λi=>Qw fds (17*i)) (λi=>wrap64 (Qz fds (17*i+1) 8)) (λi=>wrap64 (Qz fds (17*i+9) 8)) (k+1))).toArray):=Qa (dw yS (λi=>Qw fds (17*i)) (λi=>wrap64 (Qz fds (17*i+1) 8)) (λi=>wrap64 (Qz fds (17*i+9) 8)) Qo);have HX:(Qb fds).extract (17*k) (17*(k+1))=Qb ((fds.drop (17*k)).take 17):=by rw[JJ,show 17*(k+1)-17*k=17 by omega]
     have e0:=M4 fds (17*k) 17 0 (by decide);have e1:=NL fds (17*k) 17 1 8 (by decide);have e2:=NL fds (17*k) 17 9 8 (by decide);have Uz:((fds.drop (17*k)).take 17).length=17:=by rw[WV,WQ];omega
     go_wp2_with fail;rw[HX];clear HX;generalize (fds.drop (17*k)).take 17=p at *;rw[fO]at e0;rw[←e0,←e1,←e2]at HP;clear e0 e1 e2;have vo:(Qb p).size=17:=by rw[Qh];exact Uz
     have i0:∀w,(Instr.index 9 (.string (Qb p)) (.int .i64 0)).run prog w=.ok (.int .u8 (Qw p 0)) w:=λw=>Rd p 0 (by omega) w;have HG1:=Qa (λw=>Lg p 1 8 (.inr rfl) (by omega) w);have HG2:=Qa (λw=>Lg p 9 8 (.inr rfl) (by omega) w);have q0:=WZ p 0;have hw0:=Gh q0.1 q0.2;clear q0;generalize Qw p 0=c0 at *;generalize Qz p 1 8=c1 at *;generalize Qz p 9 8=c2 at *;refine Qc 15 (by kernel_rfl) (by kernel_rfl) ?_;simp only[Yh,Yt,YB,Yu];repeat (go_big_quiet_step ((first|(with_reducible exact Jq (HG1.o _))|(with_reducible exact Jq (HG2.o _)))))
     refine Y7 ?_;rintro w2 ⟨x2,rfl⟩;have S2:=S1.more x2.ext;generalize x2.now=w2 at *;go_wp2_with (refine KY _ _ _ rfl rfl pb (68+k*3) _ _ _ _ _ _ rfl rfl Is rfl rfl rfl S2.box (by rw[N1,Zo];omega) HP.o ?_;intro w3 b3 g3)
     go_roundw;case rel=>exact⟨k+1,by omega,by go_num,S2.but (CG g3) _ b3⟩
     case measure=>simp[intOf];omega
    ·obtain rfl:k=8:=by omega
     have ed:=Qa (λmask code why num=>Aj pid par st cpu sp fds mask code why num);rw[rN.o,rP.o,pS.o,rO.o,HQ.o,rQ.o]at ed;generalize hyF:Ts yS (λi=>Qw fds (17*i)) (λi=>wrap64 (Qz fds (17*i+1) 8)) (λi=>wrap64 (Qz fds (17*i+9) 8)) 8=yF at *;clear hyF rN rP pS rO HQ rQ HZ sg si io Qo hk;cases e0:Vl t6 with
     | none =>
      obtain rfl:=QK YQ.o e0;have HN:=Qa e0;clear e0 YQ
      go_wp2_with (first
       | (go_at_call 129;refine(Hk S1.cur HN.o).mono ?_;rintro e wz ⟨he,kz,dz⟩;simp only[QZ]at he;subst he))
      exact⟨rfl,rfl,dz.past S1.ext S1.lc⟩
     | some mask =>
     have H6:=Qa e0;replace YQ:=Qa (Jp YQ.o e0);clear e0
     go_upto_region 20 with(first
      | (go_at_call 129;refine(PY S1.cur H6.o).mono ?_;rintro e w2 ⟨rfl,k2,d2⟩;have S2:=S1.call k2 d2)
      | (refine Ys S2 { yF with mask:=mask } _ _ _ rfl rfl 92 _ rfl rfl rfl LR (by decide) rfl ?_;intro w3 S3))
     cases e0:VL 4 t7 with
     | none =>
      obtain rfl:=QK YQ.o e0;have HN:=Qa e0;clear e0 YQ
      go_wp2_with (first
       | (go_at_call 127;refine(Wi S3.cur (.inl rfl) HN.o).mono ?_;rintro e wz ⟨he,kz,dz⟩;simp only[QZ]at he;subst he))
      exact⟨rfl,rfl,dz.past S3.ext S3.lc⟩
     | some code =>
     have H7:=Qa e0;replace YQ:=Qa (Jp YQ.o e0);clear e0;have DX:=dl H7.o
     go_upto_region 21 with(first
      | (go_at_call 127;refine(K7 S3.cur (.inl rfl) H7.o).mono ?_;rintro e w4 ⟨rfl,k4,d4⟩;have S4:=S3.call k4 d4)
      | (refine Ys S4 { yF with mask:=mask,code:=code } _ _ _ rfl rfl 93 _ rfl rfl rfl aF (by decide) rfl ?_;intro w5 S5))
     cases e0:Zd t8 with
     | none =>
      obtain rfl:=QK YQ.o e0;have HN:=Qa e0;clear e0 YQ
      go_wp2_with (first
       | (go_at_call 128;refine(Yj S5.cur HN.o (S5.dec YU.o) uI.o).mono ?_;rintro e wz ⟨he,kz,dz⟩;simp only[QZ]at he;subst he))
      exact⟨rfl,rfl,dz.past S5.ext S5.lc⟩
     | some why =>
     have H8:=Qa e0;replace YQ:=Qa (Jp YQ.o e0);clear e0
     go_upto_region 22 with(first
      | (go_at_call 128;refine(Q3 S5.cur H8.o (S5.dec YU.o) uI.o).mono ?_;rintro e w6 ⟨rfl,k6,d6⟩;have S6:=S5.call k6 d6)
      | (refine Ys S6 { yF with mask:=mask,code:=code,why:=why } _ _ _ rfl rfl 94 _ rfl rfl rfl KS (by decide) rfl ?_;intro w7 S7))
     cases e0:VL 8 t9 with
     | none =>
      obtain rfl:=Lw YQ.o e0;have HN:=Qa e0;clear e0 YQ
      go_wp2_with (first
       | (go_at_call 127;refine(Wi S7.cur (.inr rfl) HN.o).mono ?_;rintro e wz ⟨he,kz,dz⟩;simp only[QZ]at he;subst he))
      exact⟨rfl,rfl,dz.past S7.ext S7.lc⟩
     | some num =>
     have H9:=Qa e0;obtain rfl:=Oe YQ.o e0;clear e0
     go_upto_region 23 with(first
      | (go_at_call 127;refine(K7 S7.cur (.inr rfl) H9.o).mono ?_;rintro e w8 ⟨rfl,k8,d8⟩;have S8:=S7.call k8 d8)
      | (refine Ys S8 { yF with mask:=mask,code:=code,why:=why,num:=num } _ _ _ rfl rfl 95 _ rfl rfl rfl aG (by decide) rfl ?_;intro w9 S9))
     generalize hyZ:({ yF with mask:=mask,code:=code,why:=why,num:=num }:QN)=yZ at *;have HYZ:=Qa hyZ;clear hyZ;have h0:=S9.lr
     go_wp2_with (first
      | (refine Zk _ rfl rfl pb 0 yZ rfl (Xm S9.box (λj v h=>by rw[Ux,MY];exact h)) ?_)
      | (refine VA _ _ rfl rfl rb yZ _ _ rfl rfl S9.res (by rw[N1,Zo]) ?_;intro Dg CA pw))
     refine ZD (QG rfl _ _ rb _ _ _ rfl CA underlying57 rfl (by rw[N1,Zo];exact RH)) rfl ⟨by show _=Ending.returned (.agg (QJ _).toArray);rw[←ed.o mask code why num,HYZ.o],S9.ext.grown pw (λj e=>by cases e;exact h0)⟩
theorem LE (s:List UInt8) (y:QN) (w:World) (hP:XD s=some y) (hs:s.length<=100000000) (hD:JW w) :
  Calls prog 132 #[.string (Qb s)] w λe w'=>e=.returned (.agg (QJ y).toArray)/\Ext w w' :=
 (WI s w hs hD).mono (λe w' h=>⟨h.1.trans (by rw[hP];rfl),h.2⟩)
structure MX (m:Q1) (d:QL):Prop where
 clock:0<=m.clock/\m.clock<18446744073709551616
 told:0<=m.told/\m.told<18446744073709551616
 dleft:Pu m.dleft
 cur:Pu m.cur
 pr:∀y∈d.pr,(∀i<16,0<=y.reg i/\y.reg i<4294967296)/\(0<=y.pc/\y.pc<4294967296)/\(0<=y.code/\y.code<4294967296)/\(0<=y.num/\y.num<18446744073709551616)
theorem Xx {n b:Int}(h0:0<=n) (h1:n<=b) (hb:b<=9223372036854775807):Pu n:=⟨by omega,by omega⟩
theorem Gz {m:Q1}{l:List Zs}(h:ZX m l l.length) (hn:m.newPipe<=1000000000):∀y∈l,1<=y.1/\y.1<=1000000000/\y.2.length<=64:=by
 intro y hy;obtain⟨i,hi,rfl⟩:=aj hy;obtain⟨h1,h2,h3,_⟩:=h i hi hi;exact⟨h1,by omega,h3⟩
theorem BR {m:Q1}{d:QL}(h:J3 m d d.pr.length) (hn:m.next<=1000000000) {n:Int}(hl:VC d.pr n):1<=n/\n<=1000000000:=by
 obtain⟨y,hy,rfl,_⟩:=hl;obtain⟨i,hi,rfl⟩:=aj hy;have:=(h i hi hi).1.pid;omega
theorem OG {m:Q1}{d:QL}(h:SG m d) (hw:MX m d):∀y∈d.pr,VX y:=by
 intro y hy;have hf:=hw.pr y hy;obtain⟨i,hi,rfl⟩:=aj hy;have k:=(h.pr i hi hi).1;have hn:=h.nums.next.2;refine⟨?_,?_,?_,?_,hf.1,hf.2.1,hf.2.2.1,hf.2.2.2,?_,?_,?_,?_⟩
 ·have:=k.pid;exact Xx (b:=1000000000) (by omega) (by omega) (by omega)
 ·rcases k.par with hl|⟨_,e⟩
  ·have:=BR h.pr hn hl;exact Xx (b:=1000000000) (by omega) (by omega) (by omega)
  ·rw[e];exact⟨by omega,by omega⟩
 ·have:=k.state;exact Xx (b:=3) (by omega) (by omega) (by omega)
 ·have:=k.why;exact Xx (b:=5) (by omega) (by omega) (by omega)
 ·intro j hj;have hp:=k.page j hj;have hr:=h.frn;rcases hp with⟨e1,e2,e3⟩|⟨e1,_,e3,e4,_⟩
  ·exact⟨by omega,by omega,λ_=>⟨e2,e3⟩⟩
  ·exact⟨e3,by omega,λe=>by rw[e1]at e;cases e⟩
 ·intro j hj;rcases(k.fd j hj).1 with⟨e,_,_⟩|⟨e,_⟩|⟨e,_,_⟩<;>omega
 ·intro j hj;rcases(k.fd j hj).1 with⟨_,e,_⟩|⟨_,e1,e2,_⟩|⟨_,_,y,hy,e⟩
  ·omega
  ·omega
  ·have:=Gz h.pi h.nums.newPipe.2 y hy;omega
 ·intro j hj;rcases(k.fd j hj).1 with⟨_,_,e⟩|⟨_,_,_,e1,e2⟩|⟨_,e,_⟩<;>omega
theorem ON {m:Q1}{d:QL}(h:YR m d) (hw:MX m d) (ip:d.pr.length=m.pr.n) (Bw:d.pi.length=m.pi.n) (T9:d.pe.length<=1000):Xf m d:=by
 have hr:=h.rest;obtain⟨hj,DY,Ef,_⟩:=h.disk;have hd:=Zw hj;have n1:=hr.nums.quantum;have n2:=hr.nums.left;have n3:=hr.nums.next;have n4:=hr.nums.newPipe;have hm:=hd.most;have Eh:=hr.prn;have UT:=hr.pin;refine⟨hw.clock,hw.told,Xx (b:=1000) (by omega) n1.2 (by omega),hw.cur,?_,?_,?_,hw.dleft,?_,?_,?_,?_,?_,OG hr hw,T9,by omega,by omega,by omega⟩
 ·exact Xx (b:=1000) n2.1 (by omega) (by omega)
 ·exact Xx (b:=1000000000) (by omega) n3.2 (by omega)
 ·exact Xx (b:=1000000000) (by omega) n4.2 (by omega)
 ·have:=hr.texts.2;omega
 ·have:=hr.texts.1;omega
 ·intro x hx;have:=hd.pend x hx;exact⟨Xx (b:=256) this.1 (by omega) (by omega),by omega⟩
 ·intro x hx;obtain⟨i,hi,rfl⟩:=aj hx;obtain⟨k1,k2,k3,_⟩:=Ef i hi;exact⟨Xx (b:=256) k1 (by omega) (by omega),by omega⟩
 ·intro x hx;obtain⟨k1,k2,k3⟩:=Gz hr.pi n4.2 x hx;exact⟨Xx (b:=1000000000) (by omega) k2 (by omega),by omega⟩
section
variable {ops:Array Oper}{rest:List Oper}{o:Oper}{a:Act}{w:World}{Q:Exit->Act->World->Prop}
theorem Um {w:World}{g:Nat}{t:TypeId}{p:QN}(h:Box w g t (QJ p).toArray):w.rangeAt g 0 (QJ p):=λj v hj=>by
 rw[Ux];exact(h.cell j).trans (by rw[←hj];simp)
theorem XH (x:Operand) (hw:Region.wanted o (yielded ops a.tmps)=true) (ho:o.op=.load 57 x) (g:Nat) (p:QN) (t:TypeId) (hx:a.eval x=.pointer (some ⟨g,0,none⟩))
  (hb:Box w g t (QJ p).toArray) (hK:wpList prog ops Q rest (a.put o.dst (.agg (QJ p).toArray)) w):wpList prog ops Q (o::rest) a w:=by
 unfold wpList;rw[Qv hw];exact .inl (wp_load_mid _ x ho g 0 hx _ _ (Um hb) underlying57 rfl (by rw[Zo];exact RH) hK)
end
theorem KR (y:QN) (w:World) :
  Calls prog 158 #[.agg (QJ y).toArray] w λe w'=>e=.returned (.bool (y.state==1||y.state==2))/\Ext w w':=by
 have b0:=QA w 57 (QJ y).toArray;have x0:=(Qf w).alloc (.cells (QJ y).toArray 57);go_enter func158,ntmps158;go_upto_region 1 with fail;generalize w.alloc (.cells (QJ y).toArray 57)=w1 at *;have c2:w1.cell? ⟨w.heap.size,2,none⟩=some (.int .i64 y.state):=b0.cell 2;clear b0;rcases UK (y.state==1) with h1|h1<;>rcases UK (y.state==2) with h2|h2<;>go_wp2_with fail
 all_goals
  go_ret;exact⟨by rw[h1,h2];rfl,x0⟩
theorem CX (m:Q1) (d:QL) (y:QN) (w:World) (h:Yy m d y) :
  Calls prog 90 #[.agg (QJ y).toArray] w λe w'=>e=.returned (.bool true)/\Ext w w':=by
 have HL:=Qa (λw=>KR y w);have b0:=QA w 57 (QJ y).toArray;have x0:=(Qf w).alloc (.cells (QJ y).toArray 57);have nj:=h.reg;have Ko:=h.state;have iy:=h.why;have IK:=h.code;clear h;go_enter func90,ntmps90;go_upto_region 1 with fail;generalize w.alloc (.cells (QJ y).toArray 57)=w1 at *;generalize w.heap.size=G at *;have cf:∀wx,Ext w1 wx->wx.cell? ⟨G,2,none⟩=some (.int .i64 y.state)/\wx.cell? ⟨G,3,none⟩=some (.int .u32 0)/\wx.cell? ⟨G,93,none⟩=some (.int .u32 y.code)/\wx.cell? ⟨G,94,none⟩=some (.int .i64 y.why)/\wx.cell? ⟨G,95,none⟩=some (.int .u64 y.num):=λwx x => ⟨(b0.ext x).cell 2,by rw[←nj];exact(b0.ext x).cell 3,(b0.ext x).cell 93,(b0.ext x).cell 94,(b0.ext x).cell 95⟩
 have CF:=Qa cf;clear cf nj;have AU:=HL.o;generalize y.state=s at *;have qr:=Qa AU;clear HL AU;generalize y.why=wy at *;generalize y.num=nm at *;generalize y.code=cd at *;rcases Ko with rfl|rfl|rfl
 ·obtain⟨rfl,rfl⟩:wy=0/\nm=0:=by omega
  obtain rfl:cd=0:=by omega
  clear iy IK
  go_wp2_with (first
   | (refine Zk (.tmp 1) rfl rfl G 0 y rfl (Um b0) ?_)
   | (go_at_call 158;refine(qr.o _).mono ?_;rintro e w2 ⟨rfl,x2⟩;obtain⟨c2,c3,c93,c94,c95⟩:=CF.o _ x2))
  go_ret;exact⟨rfl,x0.trans x2⟩
 ·obtain⟨Xo,hw2⟩:1<=wy/\wy<=5:=by omega
  have e1:decide (wy<1)=false:=by simp;omega
  have e2:decide (5<wy)=false:=by simp;omega
  obtain rfl:cd=0:=by omega
  clear iy IK
  go_wp2_with (first
   | (refine Zk (.tmp 1) rfl rfl G 0 y rfl (Um b0) ?_)
   | (go_at_call 158;refine(qr.o _).mono ?_;rintro e w2 ⟨rfl,x2⟩;obtain⟨c2,c3,c93,c94,c95⟩:=CF.o _ x2))
  go_ret;exact⟨rfl,x0.trans x2⟩
 ·obtain⟨rfl,rfl⟩:wy=0/\nm=0:=by omega
  clear iy IK
  go_wp2_with (first
   | (refine Zk (.tmp 1) rfl rfl G 0 y rfl (Um b0) ?_)
   | (go_at_call 158;refine(qr.o _).mono ?_;rintro e w2 ⟨rfl,x2⟩;obtain⟨c2,c3,c93,c94,c95⟩:=CF.o _ x2))
  go_ret;exact⟨rfl,x0.trans x2⟩
theorem EE (i:Int) (s:ByteArray) (g:Nat) (id:Int) (w:World) (h:Box w g 3 #[.int .i64 id]) :
  Calls prog 208 #[.agg #[.int .i64 i,.string s],.pointer (some ⟨g,0,none⟩)] w λe w'=>e=.returned (.bool (i==id))/\Ext w w':=by
 have x0:=(Qf w).alloc (.cells #[.int .i64 i,.string s] 95);have c0:(w.alloc (.cells #[.int .i64 i,.string s] 95)).cell? ⟨g,0,none⟩=some (.int .i64 id):=(h.ext x0).cell 0;clear h;go_enter func208,ntmps208;go_wp2_with fail;go_ret;exact⟨rfl,x0⟩
theorem Ow (A:Option Addr) (n c:Nat) (l:List Zs) (g:Nat) (id:Int) (w:World) (hv:Fr w A n l) (hn:n<=4000) (hb:Box w g 3 #[.int .i64 id]) (hy:∃y∈l,y.1=id) :
  Calls prog 207 #[.slice A n c,.func (.func 208) #[] #[.pointer (some ⟨g,0,none⟩)]] w λe w'=>(∃k:Nat,k<=4000/\e=.returned (.int .i64 k))/\Ext w w':=by
 have HP:=Qa (λi s w h=>EE i s g id w h);obtain⟨rfl,Kl⟩:=hv;have HY:=Qa hy;clear hy;go_enter func207,ntmps207;go_wp2_with fail;go_loopw [8] (λi wx=>∃k:Nat,k<=l.length/\i=.int .i64 k/\Ext w wx/\∀(j:Nat) (h:j<l.length),j<k->l[j].1≠id) (λi _=>l.length-(intOf i).toNat);case atStart=>exact⟨0,by omega,rfl,Qf _,λj h hk=>by omega⟩
 case round =>
  obtain⟨k,hk,rfl,xk,Ll⟩:=hrel;have lV:=Qa Ll;clear Ll;by_cases Qo:k<l.length
  ·obtain⟨b,o,rfl,Qd⟩:=Kl (by omega);have e1:=xk.keep (Qd k Qo).1;have e2:=xk.keep (Qd k Qo).2;have Vf:(k:Int)<(l.length:Int):=by omega
   have Sh:=hb.ext xk;have HD:=Qa (λ(h:l[k].1≠id)=>show∀(j:Nat) (h:j<l.length),j<k+1->l[j].1≠id fromλj hj hjk=>by
    by_cases e:j<k
    ·exact lV.o j hj e
    ·obtain rfl:j=k:=by omega
     exact h)
   generalize l[k]=y at *;clear Qd;rcases UK (y.1==id) with hd|hd
   ·go_wp2_with (go_at_call 208;refine(HP.o _ _ _ Sh).mono ?_;rintro e w2 ⟨rfl,x2⟩)
    go_ret;exact⟨⟨k,by omega,rfl⟩,xk.trans x2⟩
   ·go_wp2_with (go_at_call 208;refine(HP.o _ _ _ Sh).mono ?_;rintro e w2 ⟨rfl,x2⟩)
    go_roundw;case rel=>exact⟨k+1,by omega,by go_num,xk.trans x2,HD.o (by simpa using hd)⟩
    case measure=>simp[intOf];omega
  ·exfalso;obtain⟨y,hy,he⟩:=HY.o;obtain⟨j,hj,rfl⟩:=aj hy;exact lV.o j hj (by omega) he
theorem Af (m:Q1) (d:QL) (id:Int) (w:World) (h:Jg w m d) (hn:m.pi.n<=4000) (hy:∃y∈d.pi,y.1=id) :
  Calls prog 161 #[.agg m.cells,.int .i64 id] w λe w'=>(∃k:Nat,k<=4000/\e=.returned (.int .i64 k))/\Ext w w':=by
 have kV:∀(fn:Fn) (first cap:Array Value) (w:World),(Instr.makeFunc fn first cap).run prog w=.ok (.func fn first cap) w:=λ_ _ _ _=>rfl;have x1:Ext w (w.alloc (.cells m.cells 38)):=(Qf _).alloc _;have x2:=x1.alloc (.cells #[.int .i64 id] 3);have ba:=(QA w 38 m.cells).ext ((Qf _).alloc (.cells #[.int .i64 id] 3));have bi:=QA (w.alloc (.cells m.cells 38)) 3 #[.int .i64 id];rw[Ki]at bi;have q8:((w.alloc (.cells m.cells 38)).alloc (.cells #[.int .i64 id] 3)).cell? ⟨w.heap.size,8,none⟩=some (.slice m.pi.A m.pi.n m.pi.c):=ba.cell 8;have HV:=Qa (h.pi.wrs.ext x2);have HP:=Qa (λwx h1 h2=>Ow m.pi.A m.pi.n m.pi.c d.pi (w.heap.size+1) id wx h1 hn h2 hy);clear h hy x1;go_enter func161,ntmps161;go_upto_region 1 with fail;generalize (w.alloc (.cells m.cells 38)).alloc (.cells #[.int .i64 id] 3)=w2 at *;generalize w.heap.size=G at *;go_wp2_with (go_at_call 207;refine(HP.o _ HV.o bi).mono ?_;rintro e w3 ⟨⟨k,hk,rfl⟩,x3⟩)
 go_ret;exact⟨⟨k,hk,rfl⟩,x2.trans x3⟩
theorem Gx (q y:QN) (g:Nat) (w:World) (h:Box w g 57 (QJ y).toArray) :
  Calls prog 160 #[.agg (QJ q).toArray,.pointer (some ⟨g,0,none⟩)] w λe w'=>e=.returned (.bool (q.pid==y.parent&&(q.state==1||q.state==2)))/\Ext w w':=by
 have HL:=Qa (λw=>KR q w);have b0:=QA w 57 (QJ q).toArray;have x0:=(Qf w).alloc (.cells (QJ q).toArray 57);have c1:(w.alloc (.cells (QJ q).toArray 57)).cell? ⟨g,1,none⟩=some (.int .i64 y.parent):=(h.ext x0).cell 1;clear h;go_enter func160,ntmps160;go_upto_region 1 with fail;generalize w.alloc (.cells (QJ q).toArray 57)=w1 at *;have c0:w1.cell? ⟨w.heap.size,0,none⟩=some (.int .i64 q.pid):=b0.cell 0;rcases UK (q.pid==y.parent) with h1|h1
 ·go_wp2_with (first
   | (refine XH (.tmp 2) rfl rfl w.heap.size q 57 rfl b0 ?_)
   | (go_at_call 158;refine(HL.o _).mono ?_;rintro e w2 ⟨rfl,x2⟩))
  go_ret;exact⟨by rw[h1];rfl,x0.trans x2⟩
 ·go_wp2_with fail;go_ret;exact⟨by rw[h1];rfl,x0⟩
theorem Ai (A:Option Addr) (n c:Nat) (l:List QN) (g:Nat) (p:QN) (w:World) (hv:Q8 QJ w A n l) (hn:n<=4000) (hb:Box w g 57 (QJ p).toArray) (hy:VC l p.parent) :
  Calls prog 206 #[.slice A n c,.func (.func 160) #[] #[.pointer (some ⟨g,0,none⟩)]] w λe w'=>(∃k:Nat,k<=4000/\e=.returned (.int .i64 k))/\Ext w w':=by
 have HP:=Qa (λq w h=>Gx q p g w h);obtain⟨rfl,Kl⟩:=hv;have HY:=Qa hy;clear hy;go_enter func206,ntmps206;go_wp2_with fail;go_loopw [8] (λi wx=>∃k:Nat,k<=l.length/\i=.int .i64 k/\Ext w wx/\∀(j:Nat) (h:j<l.length),j<k->¬(l[j].pid=p.parent/\(l[j].state=1\/l[j].state=2))) (λi _=>l.length-(intOf i).toNat);case atStart=>exact⟨0,by omega,rfl,Qf _,λj h hk=>by omega⟩
 case round =>
  obtain⟨k,hk,rfl,xk,Ll⟩:=hrel;have lV:=Qa Ll;clear Ll;by_cases Qo:k<l.length
  ·obtain⟨b,o,rfl,Qd⟩:=Kl (by omega);have r1:=Z9 (XC Qd Qo) xk;have Vf:(k:Int)<(l.length:Int):=by omega
   have Sh:=hb.ext xk;have HD:=Qa (λ(h:¬(l[k].pid=p.parent/\(l[k].state=1\/l[k].state=2)))=>show∀(j:Nat) (h:j<l.length),j<k+1->¬(l[j].pid=p.parent/\(l[j].state=1\/l[j].state=2)) fromλj hj hjk=>by
    by_cases e:j<k
    ·exact lV.o j hj e
    ·obtain rfl:j=k:=by omega
     exact h)
   generalize l[k]=y at *;clear Qd;rcases UK (y.pid==p.parent&&(y.state==1||y.state==2)) with hd|hd
   ·go_wp2_with (first
     | (refine Zk (.tmp 14) rfl rfl b (o+k*96) y rfl r1 ?_)
     | (go_at_call 160;refine(HP.o _ _ Sh).mono ?_;rintro e w2 ⟨rfl,x2⟩))
    go_ret;exact⟨⟨k,by omega,rfl⟩,xk.trans x2⟩
   ·go_wp2_with (first
     | (refine Zk (.tmp 14) rfl rfl b (o+k*96) y rfl r1 ?_)
     | (go_at_call 160;refine(HP.o _ _ Sh).mono ?_;rintro e w2 ⟨rfl,x2⟩))
    go_roundw;case rel=>exact⟨k+1,by omega,by go_num,xk.trans x2,HD.o (by
     rintro⟨h1,h2⟩;rw[show(y.pid==p.parent)=true by simpa using h1,Bool.true_and]at hd;rcases h2 with h2|h2<;>simp[h2]at hd)⟩
    case measure=>simp[intOf];omega
  ·exfalso;obtain⟨y,hy,he⟩:=HY.o;obtain⟨j,hj,rfl⟩:=aj hy;exact lV.o j hj (by omega) he
theorem EJ (A:Option Addr) (n c:Nat) (l:List QN) (g:Nat) (p:QN) (w:World) (hv:Q8 QJ w A n l) (hn:n<=4000) (hb:Box w g 57 (QJ p).toArray) (hy:VC l p.parent) :
  Calls prog 159 #[.slice A n c,.func (.func 160) #[] #[.pointer (some ⟨g,0,none⟩)]] w λe w'=>e=.returned (.bool true)/\Ext w w':=by
 have HP:=Qa (λw h1 h2=>Ai A n c l g p w h1 hn h2 hy);go_enter func159,ntmps159;have d:∀k:Nat,decide ((0:Int)<=(k:Int))=true:=λk=>by simp
 go_wp2_with (go_at_call 206;refine(HP.o _ hv hb).mono ?_;rintro e w2 ⟨⟨k,hk,rfl⟩,x2⟩)
 go_ret;exact⟨rfl,x2⟩
theorem Ez (m:Q1) (d:QL) (y:QN) (w:World) (hi:Jg w m d) (hn:m.pr.n<=4000) (Ko:y.state=1\/y.state=2\/y.state=3) (hpar:VC d.pr y.parent\/(y.state≠3/\y.parent=0)) :
  Calls prog 91 #[.agg m.cells,.agg (QJ y).toArray] w λe w'=>e=.returned (.bool true)/\Ext w w':=by
 have kV:∀(fn:Fn) (first cap:Array Value) (w:World),(Instr.makeFunc fn first cap).run prog w=.ok (.func fn first cap) w:=λ_ _ _ _=>rfl;have HL:=Qa (λw=>KR y w);have x0:=((Qf w).alloc (.cells m.cells 38)).alloc (.cells (QJ y).toArray 57);have bm:=(QA w 38 m.cells).ext ((Qf _).alloc (.cells (QJ y).toArray 57));have bp:=QA (w.alloc (.cells m.cells 38)) 57 (QJ y).toArray;rw[Ki]at bp;have HR:=Qa (hi.pr.ext x0);clear hi;go_enter func91,ntmps91;go_upto_region 1 with fail;generalize (w.alloc (.cells m.cells 38)).alloc (.cells (QJ y).toArray 57)=w1 at *;generalize w.heap.size=G at *;have c1:w1.cell? ⟨G+1,1,none⟩=some (.int .i64 y.parent):=bp.cell 1;have HC:=Qa (λw h1 h2 hy=>EJ m.pr.A m.pr.n m.pr.c d.pr (G+1) y w h1 hn h2 hy);have q5:∀wx,Ext w1 wx->wx.cell? ⟨G,5,none⟩=some (.slice m.pr.A m.pr.n m.pr.c):=λwx x=>(bm.ext x).cell 5;have HQ:=Qa q5;clear q5;have nG:(y.parent=0/\(y.state==1||y.state==2)=true)\/(VC d.pr y.parent/\(y.parent≠0\/(y.state==1||y.state==2)=false)):=by
  by_cases e:y.parent=0/\(y.state==1||y.state==2)=true
  ·exact .inl e
  ·refine .inr ⟨?_,?_⟩
   ·rcases hpar with h|⟨h1,h2⟩
    ·exact h
    ·refine absurd ⟨h2,?_⟩ e;rcases Ko with h|h|h
     ·simp[h]
     ·simp[h]
     ·exact absurd h h1
   ·by_cases e0:y.parent=0
    ·right;simpa[e0]using e
    ·exact .inl e0
 clear Ko hpar;rcases nG with⟨h1,h2⟩|⟨h1,h2⟩
 ·have e1:(y.parent==0)=true:=by simpa using h1
  clear h1
  go_wp2_with (first
   | (refine XH (.tmp 3) rfl rfl (G+1) y 57 rfl bp ?_)
   | (go_at_call 158;refine(HL.o _).mono ?_;rintro e w2 ⟨rfl,x2⟩))
  go_ret;exact⟨rfl,x0.trans x2⟩
 ·have HY:=Qa h1;clear h1;rcases UK (y.parent==0) with e1|e1
  ·have h3:(y.state==1||y.state==2)=false:=by
    rcases h2 with h2|h2
    ·exact absurd (by simpa using e1) h2
    ·exact h2
   clear h2
   go_wp2_with (first
    | (refine XH (.tmp 3) rfl rfl (G+1) y 57 rfl bp ?_)
    | (go_at_call 158;refine(HL.o _).mono ?_;rintro e w2 ⟨rfl,x2⟩;have q5:=HQ.o _ x2)
    | (go_at_call 159;refine(HC.o _ (HR.o.ext x2) (bp.ext x2) HY.o).mono ?_;rintro e w3 ⟨rfl,x3⟩))
   go_ret;exact⟨rfl,(x0.trans x2).trans x3⟩
  ·clear h2;have q5:=HQ.o _ (Qf _)
   go_wp2_with (first
    | (go_at_call 159;refine(HC.o _ HR.o bp HY.o).mono ?_;rintro e w3 ⟨rfl,x3⟩))
   go_ret;exact⟨rfl,x0.trans x3⟩
theorem Ac (m:Q1) (d:QL) (y:QN) (w:World) (hi:Jg w m d) (hn:m.pr.n<=4000) (h:Yy m d y) :
  Calls prog 91 #[.agg m.cells,.agg (QJ y).toArray] w λe w'=>e=.returned (.bool true)/\Ext w w':=Ez m d y w hi hn h.state h.par
theorem cr (m:Q1) (d:QL) (k n p:Int) (w:World) (hi:Jg w m d) (hn:m.pi.n<=4000) (h:FH d.pi k n p) (h0:k≠0) :
  Calls prog 92 #[.agg m.cells,.agg #[.int .i64 k,.int .i64 n,.int .i64 p]] w λe w'=>e=.returned (.bool true)/\Ext w w':=by
 have HP:=Qa (λid w h hy=>Af m d id w h hn hy);have x0:=((Qf w).alloc (.cells m.cells 38)).alloc (.cells #[.int .i64 k,.int .i64 n,.int .i64 p] 54);have bm:=(QA w 38 m.cells).ext ((Qf _).alloc (.cells #[.int .i64 k,.int .i64 n,.int .i64 p] 54));have HM:=Qa (hi.ext x0);clear hi;have dk:∀k:Nat,decide ((0:Int)<=(k:Int))=true:=λk=>by simp
 go_enter func92,ntmps92;rcases h with⟨h1,rfl,rfl⟩|⟨rfl,h1,h2,h3,h4⟩|⟨h1,rfl,hy⟩
 ·rcases h1 with rfl|rfl|rfl
  ·exact absurd rfl h0
  ·go_wp2_with fail;go_ret;exact⟨rfl,x0⟩
  ·go_wp2_with fail;go_ret;exact⟨rfl,x0⟩
 ·have e1:decide (1<=n)=true:=Ve h1;have e2:decide (n<=64)=true:=Ve h2;have e3:decide (0<=p)=true:=Ve h3;have e4:decide (p<=8960)=true:=Ve h4;clear h1 h2 h3 h4;go_wp2_with fail;go_ret;exact⟨rfl,x0⟩
 ·have HY:=Qa hy;clear hy
  rcases h1 with rfl|rfl<;>go_wp2_with (first
   | (refine Y2 (.tmp 2) rfl rfl w.heap.size m 38 rfl bm ?_)
   | (go_at_call 161;refine(HP.o _ _ HM.o HY.o).mono ?_;rintro e w2 ⟨⟨q,hq,rfl⟩,x2⟩))
  all_goals
   go_ret;exact⟨rfl,x0.trans x2⟩
theorem Ex (m:Q1) (w:World) (h:Yx m) :
  Calls prog 44 #[.agg m.cells] w λe w'=>e=.returned (.int .i64 0)/\Ext w w':=by
 have x0:=(Qf w).alloc (.cells m.cells 38);have bm:=QA w 38 m.cells;obtain⟨⟨a1,a2⟩,⟨b1,b2⟩,c1,⟨d1,d2⟩,⟨e1,e2⟩⟩:=h;have f1:decide (m.quantum<1)=false:=by simp;omega
 have f2:decide (1000<m.quantum)=false:=by simp;omega
 have f3:decide (m.left<0)=false:=by simp;omega
 have f4:decide (m.quantum<m.left)=false:=by simp;omega
 have f5:decide (m.cur<0)=false:=by simp;omega
 have f6:decide (m.next<1)=false:=by simp;omega
 have f7:decide (1000000000<m.next)=false:=by simp;omega
 have f8:decide (m.newPipe<1)=false:=by simp;omega
 have f9:decide (1000000000<m.newPipe)=false:=by simp;omega
 clear a1 a2 b1 b2 c1 d1 d2 e1 e2;go_enter func44,ntmps44;go_upto_region 1 with fail;generalize w.alloc (.cells m.cells 38)=w1 at *;obtain⟨k0,k1,k2,k3,k4,k5,k6,k7,k8,k9,k10,k11,BF,I2,bE,k15,k16⟩:=Vs bm;clear k0 k4 k5 k7 k8 k10 k11 BF I2 bE k15 k16 bm;go_wp2_with fail;go_ret;exact⟨rfl,x0⟩
theorem aI (m:Q1) (w:World) (h:m.inn.length<=65536/\m.init.length<=128) :
  Calls prog 48 #[.agg m.cells] w λe w'=>e=.returned (.int .i64 0)/\Ext w w':=by
 have x0:=(Qf w).alloc (.cells m.cells 38);have bm:=QA w 38 m.cells;obtain⟨a1,a2⟩:=h;have hz:=Qh;have f1:decide (65536<(m.inn.length:Int))=false:=by simp;omega
 have f2:decide (128<(m.init.length:Int))=false:=by simp;omega
 clear a1 a2;go_enter func48,ntmps48;go_upto_region 1 with fail;generalize w.alloc (.cells m.cells 38)=w1 at *;obtain⟨k0,k1,k2,k3,k4,k5,k6,k7,k8,k9,k10,k11,BF,I2,bE,k15,k16⟩:=Vs bm;clear k0 k1 k2 k3 k4 k5 k6 k8 k9 k11 BF I2 bE k15 k16 bm;go_wp2_with fail;go_ret;exact⟨rfl,x0⟩
theorem Ba (m:Q1) (d:QL) (w:World) (hi:Jg w m d) (h:1<=m.fr.n/\m.fr.n<=64) (hf:∀b∈d.fr,b.length=128) :
  Calls prog 45 #[.agg m.cells] w λe w'=>e=.returned (.int .i64 0)/\Ext w w':=by
 have x0:=(Qf w).alloc (.cells m.cells 38);have bm:=QA w 38 m.cells;obtain⟨Fz,Kl⟩:=hi.fr.strs;clear hi;obtain⟨a1,a2⟩:=h;have hz:=Qh;have f1:decide ((m.fr.n:Int)<1)=false:=by simp;omega
 have f2:decide (64<(m.fr.n:Int))=false:=by simp;omega
 have HF:=Qa hf;have MT:=Qa Fz;clear hf Fz;go_enter func45,ntmps45;go_upto_region 1 with fail;generalize w.alloc (.cells m.cells 38)=w1 at *;obtain⟨k0,k1,k2,k3,k4,k5,k6,k7,k8,k9,k10,k11,BF,I2,bE,k15,k16⟩:=Vs bm;clear k0 k1 k2 k3 k5 k6 k7 k8 k9 k10 k11 BF I2 bE k15 k16 bm;go_wp2_with fail;clear f1 f2 k4;generalize d.fr=l at *;generalize m.fr.A=A at *;generalize m.fr.n=n at *;obtain rfl:n=l.length:=MT.o;go_loop [18] (λi=>∃k:Nat,k<=l.length/\i=.int .i64 k) (λi=>l.length-(intOf i).toNat);case atStart=>exact⟨0,by omega,rfl⟩
 case round =>
  obtain⟨k,hk,rfl⟩:=hrel;by_cases Qo:k<l.length
  ·obtain⟨b,o,rfl,Qd⟩:=Kl (by omega);have e1:=x0.keep (Qd k Qo);have Vf:(k:Int)<(l.length:Int):=by omega
   have hl:=HF.o _ (FM Qo);have Fw:((l[k].length:Int) != 128)=false:=by rw[hl];rfl
   clear Qd hl;generalize l[k]=y at *;go_wp2_with fail;go_round;case rel=>exact⟨k+1,by omega,by go_num⟩
   case measure=>simp[intOf];omega
  ·obtain rfl:k=l.length:=by omega
   go_wp2_with fail;go_ret;exact⟨rfl,x0⟩
theorem Ox (m:Q1) (d:QL) (w:World) (hi:Jg w m d) (hn:m.pi.n<=64) (hp:ZX m d.pi d.pi.length) :
  Calls prog 47 #[.agg m.cells] w λe w'=>e=.returned (.int .i64 0)/\Ext w w':=by
 have x0:=(Qf w).alloc (.cells m.cells 38);have bm:=QA w 38 m.cells;obtain⟨Fz,Kl⟩:=hi.pi.wrs;clear hi;have hz:=Qh;have f2:decide (64<(m.pi.n:Int))=false:=by simp;omega
 have HP:=Qa hp;have MT:=Qa Fz;clear hp Fz;go_enter func47,ntmps47;go_upto_region 1 with fail;generalize w.alloc (.cells m.cells 38)=w1 at *;have k8:w1.cell? ⟨w.heap.size,8,none⟩=some (.slice m.pi.A m.pi.n m.pi.c):=bm.cell 8;have k9:∀wx,Ext w1 wx->wx.cell? ⟨w.heap.size,9,none⟩=some (.int .i64 m.newPipe):=λwx x=>(bm.ext x).cell 9;have K9:=Qa k9;clear k9 bm;go_wp2_with fail;clear f2 k8;generalize hl:d.pi=l at *;clear hl;generalize m.pi.A=A at *;generalize m.pi.n=n at *;obtain rfl:n=l.length:=MT.o;go_loopw [3,13] (λs i wx=>∃k:Nat,k<=l.length/\i=.int .i64 k/\s=.int .i64 (if 0<k then (l.getD (k-1) default).1 else 0)/\Ext w1 wx) (λ_ i _=>l.length-(intOf i).toNat);case atStart=>exact⟨0,by omega,rfl,rfl,Qf _⟩
 case round =>
  obtain⟨k,hk,rfl,rfl,xk⟩:=hrel;by_cases Qo:k<l.length
  ·obtain⟨b,o,rfl,Qd⟩:=Kl (by omega);have e1:=(x0.trans xk).keep (Qd k Qo).1;have e2:=(x0.trans xk).keep (Qd k Qo).2;have Vf:(k:Int)<(l.length:Int):=by omega
   obtain⟨p1,p2,p3,p4⟩:=HP.o k Qo Qo;have g1:decide (l[k].1<=(if 0<k then (l.getD (k-1) default).1 else 0))=false:=by
    simp only[fC];split
    ·rename_i h0;have:=p4 h0;rw[ZG,JZ (by omega)];show¬l[k].1<=(l[k-1]'(by omega)).1;omega
    ·omega
   have g2:decide (m.newPipe<=l[k].1)=false:=by simp;omega
   have g3:decide (64<(l[k].2.length:Int))=false:=by simp;omega
   have g4:l[k]=l.getD k default:=by rw[ZG,JZ Qo];rfl
   have G4:=Qa g4;generalize (if 0<k then (l.getD (k-1) default).1 else 0)=last at *;have xz:=xk.alloc (.cells #[.int .i64 l[k].1,.string (Qb l[k].2)] 95);have k9:=K9.o _ xz;clear Qd p1 p2 p3 p4 g4;generalize l[k]=y at *;go_wp2_with fail;go_roundw;case rel=>exact⟨k+1,by omega,by go_num,by rw[Qv (by omega),Nat.add_sub_cancel,←G4.o],xz⟩
   case measure=>simp[intOf];omega
  ·obtain rfl:k=l.length:=by omega
   go_wp2_with fail
   all_goals
    go_ret;exact⟨rfl,x0.trans xk⟩
def Kg (l:List QN) (k j:Nat) (D:DataW Unit):Prop:=∀fr:Nat,(FK l k j (fr:Int)->D.atKey (.int .i64 (fr:Int)) (.lit (.bool false))=.lit (.bool true))/\(¬FK l k j (fr:Int)->D.atKey (.int .i64 (fr:Int)) (.lit (.bool false))=.lit (.bool false))
theorem Kg.zero (l:List QN):Kg l 0 0 (.map []):=λfr=>⟨λh=>absurd h Oh,λ_=>rfl⟩
theorem Kg.proc {l:List QN}{k:Nat}{D:DataW Unit}(h:Kg l k 16 D):Kg l (k+1) 0 D:=λfr=>⟨λhm=>(h fr).1 (Gq.1 hm),λhm=>(h fr).2 (λh2=>hm (Gq.2 h2))⟩
theorem Kg.skip {l:List QN}{k j:Nat}{D:DataW Unit}(h:Kg l k j D) (hi:(l.getD k default).pis j=false):Kg l k (j+1) D:=λfr=>⟨λhm=>(h fr).1 ((Gr hi).1 hm),λhm=>(h fr).2 (λh2=>hm ((Gr hi).2 h2))⟩
theorem Kg.put {l:List QN}{k j f:Nat}{D:DataW Unit}(h:Kg l k j D) (hD:Maps.IsMap D) (hi:(l.getD k default).pis j=true) (hf:(l.getD k default).pfr j=(f:Int)) (hk:WideAt.IsKeyLit (.int .i64 (f:Int))):Kg l k (j+1) (D.put (.int .i64 (f:Int)) (.lit (.bool true))):=λfr=>by
 by_cases e:fr=f
 ·subst e;refine⟨λ_=>Maps.atKey_put_same hD hk _ _,λhm=>?_⟩;exact absurd ((Rr hi).2 (.inr hf.symm)) hm
 ·have QY:Lit.int .i64 (fr:Int)≠.int .i64 (f:Int):=λh=>by injection h with _ h;omega
  rw[Maps.atKey_put_other QY];refine⟨λhm=>(h fr).1 ?_,λhm=>(h fr).2 (λh2=>hm ((Rr hi).2 (.inl h2)))⟩;rcases(Rr hi).1 hm with h2|h2
  ·exact h2
  ·rw[hf]at h2;omega
theorem SY (w:World):(zeroValue 4).run prog w=.ok (.bool false) w:=by kernel_rfl
theorem BS {w:World}(b n k:Nat) (D:DataW Unit) (q:Bool) (Zt:w.ownsMap prog 3 (plainElem prog 4) b n D) (h1:k<=100000) (dF:D.atKey (.int .i64 (k:Int)) (.lit (.bool false))=.lit (.bool q)) :
  (Instr.lookup 125 (.map (some b)) (.int .i64 (k:Int)) false).run prog w=.ok (.bool q) w:=by
 have hk:=Lt k h1;obtain⟨v,ps,hrun,hv⟩:=Zt.lookup Ri underlying125 (SY w) (zd:=.lit (.bool false)) (zp:=[]) (plainElem_bool underlying4 false) hk;rw[dF]at hv;obtain rfl:v=.bool q:=by
  unfold plainElem at hv;rw[underlying4]at hv;split at hv
  ·injection hv with hv;injection hv with hv _;injection hv with hv;injection hv with hv;rw[←hv]
  ·split at hv<;>cases hv
  ·split at hv<;>cases hv
  ·cases hv
 exact hrun
theorem Ah {w:World}{b o:Nat}{l:List QN}(hc:∀j v,(l.flatMap QJ)[j]? =some v->w.cell? ⟨b,o+j,none⟩=some v) {k:Nat}(hk:k<l.length):w.rangeAt b (o+k*96) (QJ (l.getD k default)):=by
 rw[ZG,JZ hk];exact XC hc hk
def Ug (l:List QN) (k:Nat):Int:=if 0<k then (l.getD (k-1) default).pid else 0
theorem Eo {m:Q1}{d:QL}{k:Nat}(h:J3 m d d.pr.length) (hk:k<d.pr.length):Yy m d (d.pr.getD k default)/\decide ((d.pr.getD k default).pid<=Ug d.pr k)=false:=by
 obtain⟨h1,h2⟩:=h k hk hk;have e:d.pr.getD k default=d.pr[k]:=by rw[ZG,JZ hk];rfl
 rw[e];refine⟨h1,XI ?_⟩;unfold Ug;split
 ·rename_i h0;have:=h2 h0;rw[ZG,JZ (by omega)];show¬d.pr[k].pid<=(d.pr[k-1]'(by omega)).pid;omega
 ·have:=h1.pid.1;omega
theorem OH (m:Q1) (d:QL) (w:World) (hi:Jg w m d) (hn:m.pr.n<=8) (Bw:m.pi.n<=4000) (hp:J3 m d d.pr.length) (Eg:m.fr.n<=64) :
  Calls prog 46 #[.agg m.cells] w λe w'=>e=.returned (.int .i64 0)/\Ext w w':=by
 have lM:=Qa (λy w h=>CX m d y w h);have uQ:=Qa (λy w hi h=>Ac m d y w hi (by omega) h);have pI:=Qa (λk n p w hi h h0=>cr m d k n p w hi (by omega) h h0);have x0:=(Qf w).alloc (.cells m.cells 38);have bm:=QA w 38 m.cells;have HM:=Qa (hi.ext x0);obtain⟨Fz,Kl⟩:=hi.pr;have SB:=Qa Kl;have MT:=Qa Fz;clear Kl Fz;have f1:decide (8<(m.pr.n:Int))=false:=by simp;omega
 have HP:=Qa (λk hk=>Eo (k:=k) hp hk);clear hp;have Fy:=λw=>run_makeMap (P:=prog) 125 w;go_enter func46,ntmps46;go_upto_region 1 with fail;generalize w.alloc (.cells m.cells 38)=w1 at *;have k5:w1.cell? ⟨w.heap.size,5,none⟩=some (.slice m.pr.A m.pr.n m.pr.c):=bm.cell 5;go_upto_region 4 with fail;clear Fy f1 k5;have xm:=x0.alloc (.map #[] 0);have Hg:=bm.ext ((Qf w1).alloc (.map #[] 0));have js:=Qa (HM.o.ext ((Qf w1).alloc (.map #[] 0)));have sw:(w1.alloc (.map #[] 0)).ownsMap prog 3 (plainElem (H:=Unit) prog 4) w1.heap.size 0 (.map []):=World.ownsMap_made w1 prog 3 _;have hMB:(w1.alloc (.map #[] 0)).heap[w1.heap.size]? =some (.map #[] 0):=World.alloc_heap_new w1 _;have hlm:w.heap.size<w1.heap.size:=bm.lt;generalize w1.alloc (.map #[] 0)=w2 at *;generalize hBm:w1.heap.size=Bm at *;generalize hG:w.heap.size=G at *;have k5:w2.cell? ⟨G,5,none⟩=some (.slice m.pr.A m.pr.n m.pr.c):=Hg.cell 5;clear bm;go_upto_region 6 with fail;clear k5;have nS:m.pr.n=d.pr.length:=MT.o;have bD:=SB.o;clear SB;generalize hrA:m.pr.A=A at bD ⊢;generalize Eh:m.pr.n=pn at bD ⊢;have uS:=Qa hrA;obtain rfl:d.pr.length=pn:=by omega
 have hn8:d.pr.length<=8:=by omega
 clear hrA Eh nS hn;go_loopw [4,19] (λs i wx=>∃k:Nat,k<=d.pr.length/\i=.int .i64 k/\s=.int .i64 (Ug d.pr k)/\(∃D,wx.ownsMap prog 3 (plainElem (H:=Unit) prog 4) Bm (16*k) D/\Kg d.pr k 0 D)/\w2.grownBy wx (some Bm)) (λ_ i _=>d.pr.length-(intOf i).toNat);case atStart=>exact⟨0,by omega,rfl,rfl,⟨.map [],sw,Kg.zero _⟩,Z0 _ _⟩
 case round =>
  obtain⟨k,hk,rfl,rfl,⟨D,Zt,nZ⟩,hg⟩:=hrel;have xk:Ext w wr:=xm.grown hg (λj e=>by cases e;omega);have DK:=Hg.grown hg (by intro e;injection e with e;omega);have ju:=Qa (hi.ext xk);have HG:=Qa hg;clear hg;by_cases Qo:k<d.pr.length
  ·obtain⟨b,o,rfl,Qd⟩:=bD (by omega);have r1:=Z9 (Ah Qd Qo) xk;obtain⟨hpo,hlast⟩:=HP.o k Qo;have Vf:(k:Int)<(d.pr.length:Int):=by omega
   have HLN:=Qa (show Ug d.pr (k+1)=(d.pr.getD k default).pid by unfold Ug;rw[Qv (by omega),Nat.add_sub_cancel]);have tE:=hpo.pid;have hnx:decide (m.next<=(d.pr.getD k default).pid)=false:=XI (by omega);have ld:=Qa hpo;have HMT:=Qa nZ;have gW:=Qa (λ(j:Nat) (fr:Int) h1 h2 h3=>dh (l:=d.pr) (k:=k) (j:=j) (fr:=fr) Qo h1 h2 h3);have lS:=Qa (λ(j:Nat) (D:DataW Unit) (h:Kg d.pr k j D) hi=>h.skip hi);have el:=Qa (λ(j f:Nat) (D:DataW Unit) (h:Kg d.pr k j D) hD hi hf hk=>h.put (f:=f) hD hi hf hk);have qt:=Qa (λ(D:DataW Unit) (h:Kg d.pr k 16 D)=>h.proc);clear Qd hpo tE nZ;generalize Ug d.pr k=last at *;generalize d.pr.getD k default=y at *
   go_upto_region 8 with(first
    | (refine Zk (.tmp 21) rfl rfl b (o+k*96) y rfl r1 ?_)
    | (refine VA (.tmp 6) (.tmp 22) rfl rfl wr.heap.size y _ 57 rfl rfl (QA _ _ _) rfl ?_;intro w3 b3 g3))
   have x3:Ext wr w3:=((Qf wr).alloc _).grown g3 (λj e=>by cases e;exact QW _);have pB:=xk.trans x3;have cD:=DK.ext x3;have WD:=KI Zt x3;have uB:=Qa (Qm HG.o x3);have hMk:Bm<wr.heap.size:=Zt.lt;clear g3 r1 Zt x3 DK xk ju;generalize wr.heap.size=P3 at *;have c0:w3.cell? ⟨P3,0,none⟩=some (.int .i64 y.pid):=b3.cell 0;have q6:w3.cell? ⟨G,6,none⟩=some (.int .i64 m.next):=cD.cell 6
   go_upto_region 10 with(first
    | (refine XH (.tmp 6) rfl rfl P3 y 57 rfl b3 ?_)
    | (go_at_call 90;refine(lM.o _ _ ld.o).mono ?_;rintro e w4 ⟨rfl,x4⟩;have b4:=b3.ext x4;have re:=cD.ext x4)
    | (refine Y2 (.tmp 1) rfl rfl G m 38 rfl re ?_)
    | (refine XH (.tmp 6) rfl rfl P3 y 57 rfl b4 ?_)
    | (go_at_call 91;refine(uQ.o _ _ (hi.ext (pB.trans x4)) ld.o).mono ?_;rintro e w5 ⟨rfl,x5⟩))
   have b5:=b4.ext x5;have bm5:=re.ext x5;have jm:=x4.trans x5;have Ru:=KI WD jm;have HG5:=Qa (Qm uB.o jm);have xx5:=pB.trans jm;have hP5:=b5.lt;have hPm:P3≠Bm:=by omega
   have e0:w5.cell? ⟨P3,0,none⟩=some (.int .i64 y.pid):=b5.cell 0;have jv:=Qa ld.o.page;have lH:=Qa ld.o.fd;clear x4 x5 jm b3 b4 cD re c0 q6 WD pB hlast hnx HG uB ld lM uQ
   go_upto_region 12 with(first
    | (refine X3 (.tmp 47) rfl rfl P3 57 y rfl b5 ?_))
   clear e0;go_loopw [49] (λi wx=>∃j:Nat,j<=16/\i=.int .i64 j/\(∃D,wx.ownsMap prog 3 (plainElem (H:=Unit) prog 4) Bm (16*k+j) D/\Kg d.pr k j D)/\w5.grownBy wx (some Bm)) (λi _=>16-(intOf i).toNat);case atStart=>exact⟨0,by omega,rfl,⟨D,Ru,HMT.o⟩,Z0 _ _⟩
   case round =>
    clear Ru;obtain⟨j,hj,rfl,⟨D2,own6,fb⟩,hg6⟩:=hrel;have Sw:=Qa fb;have qe:=Qa hg6;have b6:=b5.grown hg6 (by intro e;injection e with e;omega);have uq:=bm5.grown hg6 (by intro e;injection e with e;omega);have xx6:Ext w wr:=xx5.grown hg6 (λj e=>by cases e;omega);clear fb hg6;by_cases Nf:j<16
    ·have Gd:(j:Int)<16:=by omega
     have ng:=jv.o j Nf;have na:=λfr=>gW.o j fr Nf;have tA:=λf=>el.o j f D2 Sw.o own6.isMap;have vv:=lS.o j D2 Sw.o;clear gW;go_upto_region 14 with(refine YN (.tmp 48) (.tmp 49) rfl rfl y j rfl rfl Nf ?_)
     unfold Uw at ng;generalize hia:y.pis j=ia at *;generalize hiw:y.pwr j=iw at *;generalize hif:y.pfr j=ifr at *;have xq:Ext wr (wr.alloc (.cells #[.bool ia,.bool iw,.int .i64 ifr] 50)):=(Qf _).alloc _;have bq:=QA wr 50 #[.bool ia,.bool iw,.int .i64 ifr];have jJ:=own6.alloc (.cells #[.bool ia,.bool iw,.int .i64 ifr] 50);have b7:=b6.ext xq;have rg:=uq.ext xq;have hQm:wr.heap.size≠Bm:=by have:=own6.lt;omega
     generalize wr.alloc (.cells #[.bool ia,.bool iw,.int .i64 ifr] 50)=wq at *;have q0:=bq.cell 0;have q1:=bq.cell 1;have q2:=bq.cell 2;rcases ng with⟨rfl,rfl,rfl⟩|⟨rfl,qN,hf0,nM,hus⟩
     ·clear tA na;go_wp2_with fail;go_roundw;case rel=>exact⟨j+1,by omega,by go_num,⟨D2,jJ.mono (by omega),vv rfl⟩,Qm qe.o xq⟩
      case measure=>simp[intOf];omega
     ·obtain⟨f,rfl⟩:∃f:Nat,ifr=(f:Int):=⟨ifr.toNat,by omega⟩
      have dF:=(Sw.o f).2 (na _ rfl rfl hus);have qG:f<=100000:=by omega
      have HMp:=Qa (tA f rfl rfl (Ri.key (Lt f qG)));have d2:y.state=3->False:=qN;have s3:(y.state==3)=false:=by simpa using qN
      have s4:decide ((f:Int)<0)=false:=XI (by omega);have s5:decide ((m.fr.n:Int)<=(f:Int))=false:=XI (by omega);have s6:decide (m.fr.n<=f)=false:=XI (by omega);have c2:wq.cell? ⟨P3,2,none⟩=some (.int .i64 y.state):=b7.cell 2;have c4:wq.cell? ⟨G,4,none⟩=some (.slice m.fr.A m.fr.n m.fr.c):=rg.cell 4;have Tj:=BS Bm (16*k+j) f D2 false jJ qG dF;clear tA na vv qN d2 hus hf0 nM dF
      go_wp2_with (first
       | (at_mapUpdate;refine wpList_mapUpdate_own _ rfl _ _ _ 125 rfl 3 4 Ri underlying125 (plainElem (H:=Unit) prog 4) Bm (16*k+j) _ rfl jJ (by unfold maxLen;omega) _ _ (.int .i64 (f:Int)) rfl rfl (Lt f qG) (.lit (.bool true)) [] (plainElem_bool underlying4 true) ?_;intro w8 own8 hg8))
      go_roundw;case rel=>exact⟨j+1,by omega,by go_num,⟨_,own8,HMp.o⟩,TY (Qm qe.o xq) hg8 (λj e=>.inr e)⟩
      case measure=>simp[intOf];omega
    ·have vf:¬(j:Int)<16:=by omega
     have gV:=Qa (show j=16 by omega);have qs:=Qa (show Kg d.pr k 16 D2 by rw[←gV.o];exact Sw.o);clear el lS gW jv Sw;have HG7:=Qa (TY HG5.o qe.o (λj e=>.inr e))
     go_upto_region 22 with(first
      | (refine NA (.tmp 84) rfl rfl P3 57 y rfl b6 ?_))
     generalize hwz:wr=wz at *;clear hwz;go_loopw [86] (λi wx=>∃j:Nat,j<=8/\i=.int .i64 j/\Ext wz wx) (λi _=>8-(intOf i).toNat);case atStart=>exact⟨0,by omega,rfl,Qf _⟩
     case round =>
      obtain⟨j,hj,rfl,xj⟩:=hrel;by_cases Nf:j<8
      ·have Gd:(j:Int)<8:=by omega
       obtain⟨hfd,Wp⟩:=lH.o j Nf;go_upto_region 24 with(refine Nz (.tmp 85) (.tmp 86) rfl rfl y j rfl rfl Nf ?_)
       generalize y.fk j=ik at *;generalize y.fn j=ifn at *;generalize y.fp j=ifp at *;have xq:Ext wr (wr.alloc (.cells #[.int .i64 ik,.int .i64 ifn,.int .i64 ifp] 54)):=(Qf _).alloc _;have bq:=QA wr 54 #[.int .i64 ik,.int .i64 ifn,.int .i64 ifp];have xz:=xj.trans xq;generalize wr.alloc (.cells #[.int .i64 ik,.int .i64 ifn,.int .i64 ifp] 54)=wq at *;have q0:wq.cell? ⟨wr.heap.size,0,none⟩=some (.int .i64 ik):=bq.cell 0;have q1:=bq.cell 1;have q2:=bq.cell 2;have c2:wq.cell? ⟨P3,2,none⟩=some (.int .i64 y.state):=(b6.ext xz).cell 2;have rg:=uq.ext xz;have HMq:=Qa (hi.ext (xx6.trans xz));clear bq xq;by_cases hk0:ik=0
       ·have hz:ifn=0/\ifp=0:=by
         rcases hfd with⟨_,h1,h2⟩|⟨h,_⟩|⟨h,_⟩
         ·exact⟨h1,h2⟩
         ·omega
         ·omega
        obtain⟨rfl,rfl⟩:=hz;subst hk0;clear hfd Wp;go_wp2_with fail;go_roundw;case rel=>exact⟨j+1,by omega,by go_num,xz⟩
        case measure=>simp[intOf];omega
       ·have qN:(y.state==3)=false:=by
         have:y.state≠3:=λh=>hk0 (Wp h);simpa using this
        have Y9:(ik==0)=false:=by simpa using hk0
        have qd:=Qa hfd;have HK0:=Qa hk0;clear hfd Wp hk0
        go_wp2_with (first
         | (refine Y2 (.tmp 1) rfl rfl G m 38 rfl rg ?_)
         | (go_at_call 92;refine(pI.o _ _ _ _ HMq.o qd.o HK0.o).mono ?_;rintro e w9 ⟨rfl,x9⟩))
        go_roundw;case rel=>exact⟨j+1,by omega,by go_num,xz.trans x9⟩
        case measure=>simp[intOf];omega
      ·have hjn8:¬(j:Int)<8:=by omega
       go_wp2_with fail;go_roundw;case rel=>exact⟨k+1,by omega,by go_num,by rw[HLN.o],⟨D2,(KI own6 xj).mono (by omega),qt.o _ qs.o⟩,Qm HG7.o xj⟩
       case measure=>simp[intOf];omega
  ·obtain rfl:k=d.pr.length:=by omega
   go_wp2_with fail;go_ret;exact⟨rfl,xk⟩
theorem AJ (m:Q1) (d:QL) (w:World) (hi:Jg w m d) (h:Y5 d) :
  Calls prog 49 #[.agg m.cells] w λe w'=>e=.returned (.int .i64 0)/\Ext w w':=by
 obtain⟨hj,dI,DZ,I,hgood⟩:=h;have nL:J4 d.bl d.pe=0:=by
  unfold Za at hj;split at hj
  ·rename_i h;exact absurd hj h
  ·rename_i h;exact Decidable.of_not_not h
 have Vb:=Z7 hj;have ZL:=Zw hj;have il:=ZL.least;have HC:=Qa (λw h1 h2=>TM m.bl.A m.pe.A m.bl.n m.bl.c m.pe.n m.pe.c m.dleft d.bl d.pe w h1 h2 (Xr hi.pek.2.1));have HH:=Qa (λw h1 h2=>Ge m.bl.A m.pe.A m.bl.n m.bl.c m.pe.n m.pe.c m.dleft d.bl d.pe w h1 h2 (Xr hi.pek.2.1) hi.blk.2.2);rw[nL]at HC;have HO:=Qa (λA n c w h=>Ly A n c (QH d.bl d.pe d.di) I w h hgood);have x0:=(Qf w).alloc (.cells m.cells 38);have bm:=QA w 38 m.cells;have HM:=Qa (hi.ext x0);obtain⟨DY,Ef⟩:=hi.di.wrs;have Su:=Qa DY;have jp:=Qa DZ;have HV:=Qa (show QH d.bl d.pe d.di=d.di.foldl Yn (Q9 d.bl d.pe) from rfl);have hH33:0<(Q9 d.bl d.pe).length:=by omega
 have uD:=Qa Vb;have fe:(Q9 d.bl d.pe).length<=1000:=by have:=ZL.most;omega
 clear hi hj nL hgood ZL DZ Vb il DY;go_enter func49,ntmps49;go_upto_region 1 with fail;generalize w.alloc (.cells m.cells 38)=w1 at *
 go_upto_region 4 with(first
  | (refine Pg (.tmp 10) rfl rfl w.heap.size m 38 rfl bm ?_)
  | (go_at_call 93;refine(HC.o _ HM.o.bl.strs HM.o.pe.wrs).mono ?_;rintro e w2 ⟨rfl,x2⟩))
 have Hg:=bm.ext x2;have wN:=x0.trans x2
 go_upto_region 5 with(first
  | (refine Pg (.tmp 16) rfl rfl w.heap.size m 38 rfl Hg ?_)
  | (go_at_call 50;refine(HH.o _ (HM.o.ext x2).bl.strs (HM.o.ext x2).pe.wrs).mono ?_;rintro e w3 ⟨A1,c1,rfl,x3,Zu⟩))
 have cD:=Hg.ext x3;have pB:=wN.trans x3;have hGw:w.heap.size<w2.heap.size:=Hg.lt;have c16:w3.cell? ⟨w.heap.size,16,none⟩=some (.slice m.di.A m.di.n m.di.c):=cD.cell 16;have oQ:=Zy Zu (base':=w.heap.size) (by omega);have d32:decide (32<(m.di.n:Int))=false:=by have:=Su.o;simp;omega
 clear bm Hg x2 x3 wN Zu HC HH x0;generalize Q9 d.bl d.pe=H at *;have hH0:((H.length:Int)==0)=false:=by rw[ai];omega
 have nS:m.di.n=d.di.length:=Su.o;go_upto_region 11 with fail;clear d32 hH0 c16;have HOv:=Qa HO.o;have Dw:=Qa HV.o;have tu:=Qa (λk=>JU (d.di.take k) H);have pU:=Qa (λk (h:k<d.di.length)=>Xw h H);have lR:=Qa (show∀(k:Nat) (h:k<d.di.length),0<=(d.di.getD k default).1/\(d.di.getD k default).1<(H.length:Int)/\(d.di.getD k default).2.length=128/\d.di[k]=d.di.getD k default/\decide ((d.di.getD k default).1<=(if 0<k then (d.di.getD (k-1) default).1 else -1))=false fromλk h=>by
  have e:d.di.getD k default=d.di[k]:=by rw[ZG,JZ h];rfl
  obtain⟨h1,h2,h3,h4⟩:=jp.o k h;rw[e];refine⟨h1,by rw[uD.o];exact h2,h3,rfl,XI ?_⟩;split
  ·rename_i h0;have:=h4 h0;rw[ZG,JZ (by omega)];show¬d.di[k].1<=(d.di[k-1]'(by omega)).1;omega
  ·omega)
 clear HV HO jp uD;generalize QH d.bl d.pe d.di=V at *;generalize d.di=l at *;generalize hdA:m.di.A=dA at Ef ⊢;generalize Bl:m.di.n=dn at Ef nS ⊢;clear hdA Bl Su;subst nS;go_loopw [5,29] (λs i wx=>∃k:Nat,k<=l.length/\i=.int .i64 k/\s=.int .i64 (if 0<k then (l.getD (k-1) default).1 else -1)/\Ext w wx/\wx.ownsRow w.heap.size 9 1 (.slice A1 H.length c1) H.length (Q5 ((l.take k).foldl Yn H))) (λ_ i _=>l.length-(intOf i).toNat);case atStart=>exact⟨0,by omega,rfl,rfl,pB,oQ⟩
 case round =>
  obtain⟨k,hk,rfl,rfl,xk,ok⟩:=hrel;by_cases Qo:k<l.length
  ·obtain⟨b2,o2,rfl,Qd⟩:=Ef (by omega);have e1:=xk.keep (Qd k Qo).1;have e2:=xk.keep (Qd k Qo).2;obtain⟨h0,h1,h128,hge,hlast⟩:=lR.o k Qo;have HT:=Qa (pU.o k Qo);have Dw:=Qa (tu.o k);have HN:=Qa (show(if 0<k+1 then (l.getD (k+1-1) default).1 else -1)=(l.getD k default).1 by rw[Qv (by omega),Nat.add_sub_cancel]);have Vf:(k:Int)<(l.length:Int):=by omega
   have hz:=Qh;rw[hge]at e1 e2 HT;clear Qd hge;generalize (if 0<k then (l.getD (k-1) default).1 else (-1:Int))=last at *;generalize l.getD k default=y at *;generalize (l.take k).foldl Yn H=W at *;have d1:decide ((H.length:Int)<=y.1)=false:=XI (by omega);have d2:((y.2.length:Int) != 128)=false:=by rw[h128];rfl
   obtain⟨y1,y2⟩:=y;simp only at h0 h1 h128 d1 d2 e1 e2 hlast HN;obtain⟨q,rfl⟩:∃q:Nat,y1=q:=⟨y1.toNat,by omega⟩
   have ir:q<H.length:=by omega
   have hqI:(q:Int)<(H.length:Int):=h1;have Pr:=Qe ok ((Qf wr).alloc (.cells #[.int .i64 (q:Int),.string (Qb y2)] 92));have HY:=Qa (show Yn W ((q:Int),y2)=W.set q y2 by unfold Yn;simp only;rw[Qv (by have:=Dw.o;omega)];rfl);obtain⟨g,cap,hgc,hg,_⟩:=Strs.own' ok (by omega);injection hgc with hgA _ hgc;subst hgA;subst hgc;have kc:(wr.alloc (.cells #[.int .i64 (q:Int),.string (Qb y2)] 92)).cell? ⟨g,q,none⟩=some (.string (Qb (W.getD q []))):=(Pr.cellAt q (by omega)).trans (by have:=Dw.o;simp[Q5,this,ir,ZG]);have kf:=Pr.frozenAt q;clear h0 h1 h128;go_wp2_with fail;go_roundw;case rel=>exact⟨k+1,by omega,by go_num,by rw[HN.o],(xk.alloc _).setCell hg _,by rw[HT.o,HY.o];exact Tr Pr _⟩
   case measure=>simp[intOf];omega
  ·have Kk:¬(k:Int)<(l.length:Int):=by omega
   obtain rfl:k=l.length:=by omega
   rw[L9,←Dw.o]at ok;have vT:V.length=H.length:=by rw[Dw.o];exact JU _ _
   rw[←vT]at ok ⊢;have hs:=Cz ok;clear vT Dw pU tu lR ok
   go_wp2_with (first
    | (go_at_call 94;refine(HOv.o _ _ _ _ hs).mono ?_;rintro e w6 ⟨rfl,x6⟩)
    | (rw[Vn];refine Qu (.tmp 8) (.tmp 62) rfl rfl w6.heap.size _ [0,0,0,0,0,0] 144 rfl rfl (QA _ _ _) rfl rfl ?_;intro w7 b7 g7))
   all_goals
    go_ret;exact⟨rfl,((xk.trans x6).alloc _).grown g7 (λj e=>by cases e;exact(xk.trans x6).size)⟩
end Go.Proofs.YtfaplefkakpgcaaGreatDoor
