import Derived.Test.YtfaplefkakpgcaaGreatDoorQa39
import Derived.Laws.Tables
import Derived.Lib.SliceRun
import Derived.Test.YtfaplefkakpgcaaGreatDoorQa37
set_option linter.unusedVariables false
set_option linter.unusedSimpArgs false
set_option maxHeartbeats 32000000
set_option maxRecDepth 100000
namespace Go.Proofs.YtfaplefkakpgcaaGreatDoor
open Go.Proofs.Tryz
open Go.RowKit
theorem aN (n:Nat) (V:Nat->BitVec 32):(Js n V).all (·.oneCell')=true:=all_oneCell_toArray (cs:=(List.range n).map λi=>.int .u32 ((V i).toNat:Int)) (λv hv=>by
 obtain⟨i,_,rfl⟩:=Pq.1 hv;rfl)
theorem SR:(prog.info? 110).map (·.size)=some 8:=by kernel_rfl
def Vd:Array Value:=Array.replicate 16 (.int .u32 0)
def M9:List Nat:=[1779033703,3144134277,1013904242,2773480762,1359893119,2600822924,528734635,1541459225]
def Zb (i:Nat):BitVec 32:=BitVec.ofNat 32 (M9.getD i 0)
def oc:List (List Nat):=[[0,1,2,3,4,5,6,7,8,9,10,11,12,13,14,15],[14,10,4,8,9,15,13,6,1,12,0,2,11,7,5,3],[11,8,12,0,5,2,15,13,10,14,3,6,7,1,9,4],[7,9,3,1,13,12,11,14,2,6,5,10,4,0,15,8],[9,0,5,7,2,4,10,15,14,1,11,12,6,8,3,13],[2,12,6,10,0,11,8,3,4,13,7,5,15,14,1,9],[12,5,1,15,14,13,4,10,0,7,6,3,9,2,8,11],[13,11,7,14,12,1,3,9,5,0,15,4,8,6,2,10],[6,15,14,9,11,3,0,8,12,2,13,7,1,4,10,5],[10,2,8,4,7,6,1,5,15,11,9,14,3,12,13,0]]
def Qy (k j:Nat):Nat:=(oc.getD k []).getD j 0
theorem OU {k:Nat}(hk:k<10) {j:Nat}(hj:j<16):Qy k j<16:=by
 have:∀k:Fin 10,∀j:Fin 16,Qy k j<16:=by decide
 exact this ⟨k,hk⟩ ⟨j,hj⟩
def JS (b:Nat->Nat) (i:Nat):BitVec 32:=BitVec.ofNat 32 (b (4*i)+b (4*i+1)*256+b (4*i+2)*65536+b (4*i+3)*16777216)
def Va (h:Nat->BitVec 32) (n:Nat) (last:Bool):Nat->BitVec 32 :=
 let v:=λi=>if i<8 then h i else Zb (i-8)
 let v:=Up v 12 (v 12 ^^^ BitVec.ofNat 32 n)
 let v:=Up v 13 (v 13 ^^^ BitVec.ofNat 32 (n/4294967296))
 if last then Up v 14 (~~~ v 14) else v
def KP (r:Nat->Nat) (m v:Nat->BitVec 32):Nat->BitVec 32 :=
 let v:=VK v 0 4 8 12 (m (r 0)) (m (r 1))
 let v:=VK v 1 5 9 13 (m (r 2)) (m (r 3))
 let v:=VK v 2 6 10 14 (m (r 4)) (m (r 5))
 let v:=VK v 3 7 11 15 (m (r 6)) (m (r 7))
 let v:=VK v 0 5 10 15 (m (r 8)) (m (r 9))
 let v:=VK v 1 6 11 12 (m (r 10)) (m (r 11))
 let v:=VK v 2 7 8 13 (m (r 12)) (m (r 13))
 VK v 3 4 9 14 (m (r 14)) (m (r 15))
def Zp (m v:Nat->BitVec 32):Nat->(Nat->BitVec 32)
 | 0=>v
 | k+1=>KP (Qy k) m (Zp m v k)
def Kc (h m:Nat->BitVec 32) (n:Nat) (last:Bool):Nat->BitVec 32 :=
 λi=>h i ^^^ (Zp m (Va h n last) 10 i ^^^ Zp m (Va h n last) 10 (i+8))
def M8:List Value:=M9.map λ(n:Nat)=>.int .u32 (n:Int)
def Wq (k:Nat):List Value:=(List.range 16).map λj=>.int .u8 (Qy k j:Int)
def WJ:List Value:=(List.range 10).flatMap Wq
def Yg (w:World):Prop:=w.rangeAt 0 0 M8/\w.rangeAt 1 0 WJ
theorem Yg.ext {w w':World}(h:Yg w) (x:Ext w w'):Yg w':=⟨Z9 h.1 x,Z9 h.2 x⟩
theorem Yg.grown {w w':World}{g:Nat}(h:Yg w) (hg:1<g) (x:w.grownBy w' (some g)):Yg w' :=
 ⟨λj v hj=>(mG (w:=w) (x.block 0 (fD w _ (h.1 j v hj)) (λe=>by injection e with e;omega))).trans (h.1 j v hj),
  λj v hj=>(mG (w:=w) (x.block 1 (fD w _ (h.2 j v hj)) (λe=>by injection e with e;omega))).trans (h.2 j v hj)⟩
def Yf (h:Nat->BitVec 32) (b:Nat->Nat) (fill taken:Nat):Array Value :=
 ((List.range 8).map (λi=>Value.int .u32 ((h i).toNat:Int))++((List.range 64).map (λi=>Value.int .u8 (b i:Int))++[Value.int .i64 (fill:Int),Value.int .u64 (taken:Int)])).toArray
section
variable {h:Nat->BitVec 32}{b:Nat->Nat}{fill taken:Nat}
theorem Jv:(Yf h b fill taken).size=74:=by simp[Yf]
theorem Ka {i:Nat}(hi:i<8):(Yf h b fill taken)[i]? =some (.int .u32 ((h i).toNat:Int)):=by
 simp[Yf,List.getElem?_append,hi]
theorem Vx {i:Nat}(hi:i<64):(Yf h b fill taken)[8+i]? =some (.int .u8 (b i:Int)):=by
 simp[Yf,List.getElem?_append,hi]
theorem Zj:(Yf h b fill taken)[72]? =some (.int .i64 (fill:Int)):=by simp[Yf,List.getElem?_append]
theorem J8:(Yf h b fill taken)[73]? =some (.int .u64 (taken:Int)):=by simp[Yf,List.getElem?_append]
theorem Nv {A:Array Value}(hs:A.size=74) (h1:∀i,i<8->A[i]? =some (.int .u32 ((h i).toNat:Int))) (h2:∀i,i<64->A[8+i]? =some (.int .u8 (b i:Int))) (h3:A[72]? =some (.int .i64 (fill:Int))) (h4:A[73]? =some (.int .u64 (taken:Int))):A=Yf h b fill taken:=by
 apply Array.ext_getElem?;intro j;by_cases hj:j<8
 ·rw[h1 j hj,Ka hj]
 ·by_cases Nf:j<72
  ·obtain⟨k,rfl⟩:∃k,j=8+k:=⟨j-8,by omega⟩
   rw[h2 k (by omega),Vx (by omega)]
  ·by_cases e:j=72
   ·subst e;rw[h3,Zj]
   ·by_cases e:j=73
    ·subst e;rw[h4,J8]
    ·rw[Array.getElem?_eq_none (by omega),Array.getElem?_eq_none (by rw[Jv];omega)]
theorem GW {i:Nat}(hi:i<8) (x:BitVec 32):(Yf h b fill taken).setIfInBounds i (.int .u32 (x.toNat:Int))=Yf (Up h i x) b fill taken:=by
 refine Nv (by simp[Jv]) (λj hj=>?_) (λj hj=>?_) ?_ ?_
 ·rw[Array.getElem?_setIfInBounds];by_cases e:i=j
  ·subst e;simp[Up,Jv];omega
  ·rw[Qr e,Ka hj];simp[Up,Fq e]
 ·rw[Array.getElem?_setIfInBounds,Qr (by omega),Vx hj]
 ·rw[Array.getElem?_setIfInBounds,Qr (by omega),Zj]
 ·rw[Array.getElem?_setIfInBounds,Qr (by omega),J8]
theorem NR (f:Nat):(Yf h b fill taken).setIfInBounds 72 (.int .i64 (f:Int))=Yf h b f taken:=by
 refine Nv (by simp[Jv]) (λj hj=>?_) (λj hj=>?_) ?_ ?_
 ·rw[Array.getElem?_setIfInBounds,Qr (by omega),Ka hj]
 ·rw[Array.getElem?_setIfInBounds,Qr (by omega),Vx hj]
 ·simp[Jv]
 ·rw[Array.getElem?_setIfInBounds,Qr (by omega),J8]
theorem WL (f:Nat):(Yf h b fill taken).setIfInBounds 73 (.int .u64 (f:Int))=Yf h b fill f:=by
 refine Nv (by simp[Jv]) (λj hj=>?_) (λj hj=>?_) ?_ ?_
 ·rw[Array.getElem?_setIfInBounds,Qr (by omega),Ka hj]
 ·rw[Array.getElem?_setIfInBounds,Qr (by omega),Vx hj]
 ·rw[Array.getElem?_setIfInBounds,Qr (by omega),Zj]
 ·simp[Jv]
theorem Un {h':Nat->BitVec 32}{b':Nat->Nat}(e1:∀i,i<8->h i=h' i) (e2:∀i,i<64->b i=b' i):Yf h b fill taken=Yf h' b' fill taken :=
 Nv Jv (λi hi=>by rw[Ka hi,e1 i hi]) (λi hi=>by rw[Vx hi,e2 i hi]) Zj J8
end
theorem YL {n:Nat}{V V':Nat->BitVec 32}(e:∀i,i<n->V i=V' i):Js n V=Js n V':=by
 apply Array.ext_getElem?;intro j;by_cases hj:j<n
 ·rw[Y0 hj,Y0 hj,e j hj]
 ·rw[Array.getElem?_eq_none (by simp[J9];omega),Array.getElem?_eq_none (by rw[J9];omega)]
theorem jH (a b k:Nat) (h:b<2^k):a*2^k ||| b=a*2^k+b:=by
 rw[←Nat.shiftLeft_eq];exact(Nat.shiftLeft_add_eq_or_of_lt h a).symm
theorem Ig (n0 n1 n2 n3:Nat) (h0:n0<256) (h1:n1<256) (h2:n2<256) (h3:n3<256) :
  bits .or .u32 (bits .or .u32 (bits .or .u32 (n0:Int) ((n1:Int)*256)) ((n2:Int)*65536)) ((n3:Int)*16777216)=(((BitVec.ofNat 32 (n0+n1*256+n2*65536+n3*16777216)).toNat:Nat):Int):=by
 have e (n:Nat) (h:n<4294967296):(n:Int)=(((BitVec.ofNat 32 n).toNat:Nat):Int):=by rw[BitVec.toNat_ofNat];rw[Nat.mod_eq_of_lt h]
 have aA (p q k:Nat) (hp:p<2^k) (hk:2^k*(q+1)<=4294967296):bits .or .u32 (((BitVec.ofNat 32 p).toNat:Nat):Int) (((BitVec.ofNat 32 (q*2^k)).toNat:Nat):Int)=(((BitVec.ofNat 32 (p+q*2^k)).toNat:Nat):Int):=by
  rw[Ol];congr 2;apply BitVec.eq_of_toNat_eq;have e1:2^k*(q+1)=q*2^k+2^k:=by rw[Nat.mul_add,Nat.mul_one,bh]
  rw[BitVec.toNat_or,BitVec.toNat_ofNat,BitVec.toNat_ofNat,BitVec.toNat_ofNat,Nat.mod_eq_of_lt (show p<2^32 by show p<4294967296;omega),Nat.mod_eq_of_lt (show q*2^k<2^32 by show _<4294967296;omega),Nat.mod_eq_of_lt (show p+q*2^k<2^32 by show _<4294967296;omega),Nat.or_comm,jH _ _ _ hp,Nat.add_comm]
 have s1:=aA n0 n1 8 (by omega) (by omega);have s2:=aA (n0+n1*256) n2 16 (by omega) (by omega);have s3:=aA (n0+n1*256+n2*65536) n3 24 (by omega) (by omega);have c1:(n1:Int)*256=(((n1*256:Nat)):Int):=by omega
 have c2:(n2:Int)*65536=(((n2*65536:Nat)):Int):=by omega
 have c3:(n3:Int)*16777216=(((n3*16777216:Nat)):Int):=by omega
 rw[c1,c2,c3,e n0 (by omega),e (n1*256) (by omega),s1,e (n2*65536) (by omega),s2,e (n3*16777216) (by omega),s3]
theorem N7 {P:Program}{t e n:Nat}{k:IntKind}{cs:Array Value}{i:Nat}{v:Value}(w:World) (hu:P.underlying t=some (.array n e)) (he:P.underlying e=some (.int k)) (hs:(P.info? e).map (·.size)=some 1) (UT:i<n) (hv:cs[i]? =some v) (h1:v.oneCell'=true) :
  (Instr.index t (.agg cs) (.int .i64 (i:Int))).run P w=.ok v w:=by
 cases hq:P.info? e with
 | none=>simp[hq]at hs
 | some j =>
  have hz:j.size=1:=by simpa[hq]using hs
  have Ea:(isAgg e).run P w=.ok false w:=by unfold isAgg;rw[WW,SP he w];rfl
  have h1:(i:Int)<(n:Int):=by omega
  simp[Instr.index,asIntOf,SP hu,h1,sizeOf,typeInfo,hq,part,WW,Ea,hz,hv];intro hc;exact absurd hc (by omega)
theorem Gg:(prog.info? 45).map (·.size)=some 1:=by kernel_rfl
theorem OV:(prog.info? 247).map (·.size)=some 160:=by kernel_rfl
theorem Ch:(prog.info? 246).map (·.size)=some 16:=by kernel_rfl
theorem Bz (k:Nat):(Wq k).toArray.all (·.oneCell')=true:=all_oneCell_toArray (λv hv=>by
 obtain⟨i,_,rfl⟩:=Pq.1 hv;rfl)
theorem Je {k j:Nat}(hj:j<16):(Wq k).toArray[j]? =some (.int .u8 (Qy k j:Int)):=by simp[Wq,hj]
theorem Av:WJ.length=160:=by kernel_rfl
section
variable {ops:Array Oper}{rest:List Oper}{o:Oper}{a:Act}{w:World}{Q:Exit->Act->World->Prop}
theorem NW (x:Operand) (Q7:o.guard=none) (ho:o.op=.load 110 x) (hx:a.eval x=.pointer (some ⟨0,0,none⟩)) (h:Yg w)
  (hK:wpList prog ops Q rest (a.put o.dst (.agg (Js 8 Zb))) w):wpList prog ops Q (o::rest) a w :=
 wpList_load_mid Q7 _ x ho 0 0 hx M8 _ h.1 underlying110 rfl SR (by
  rw[show M8.toArray=Js 8 Zb by kernel_rfl];exact hK)
theorem Dp (x:Operand) (Q7:o.guard=none) (ho:o.op=.load 247 x) (hx:a.eval x=.pointer (some ⟨1,0,none⟩)) (h:Yg w)
  (hK:wpList prog ops Q rest (a.put o.dst (.agg WJ.toArray)) w):wpList prog ops Q (o::rest) a w :=
 wpList_load_mid Q7 _ x ho 1 0 hx WJ _ h.2 underlying247 rfl (by rw[Av];exact OV) hK
theorem Ff (x y:Operand) (Q7:o.guard=none) (ho:o.op=.index 247 x y) (k:Nat) (hx:a.eval x=.agg WJ.toArray) (hy:a.eval y=.int .i64 (k:Int)) (hk:k<10)
  (hK:wpList prog ops Q rest (a.put o.dst (.agg (Wq k).toArray)) w):wpList prog ops Q (o::rest) a w:=by
 refine DC Q7 λK Ky=>?_;unfold Oper.wp execOp;have:=Vc (P:=prog) (cs:=WJ.toArray) (i:=k) w underlying247 underlying246 rfl Ch hk;rw[show WJ.toArray.extract (k*16) (k*16+16)=_ from Lz Wq 10 16 k (λ_=>rfl) hk]at this;simp only[ho,hx,hy,this,WW,Fp,MZ];exact Ky _ _ hK
theorem Pf {n:Nat}(T:TypeId) (hT:prog.underlying T=some (.array n 45)) (x y:Operand) (Q7:o.guard=none) (ho:o.op=.index T x y) (V:Nat->BitVec 32) (i:Nat) (hx:a.eval x=.agg (Js n V)) (hy:a.eval y=.int .i64 (i:Int)) (hi:i<n)
  (hK:wpList prog ops Q rest (a.put o.dst (.int .u32 ((V i).toNat:Int))) w):wpList prog ops Q (o::rest) a w:=by
 refine DC Q7 λK Ky=>?_;unfold Oper.wp execOp;have:=N7 (P:=prog) (cs:=Js n V) (i:=i) w hT underlying45 Gg hi (Y0 hi) rfl;simp only[ho,hx,hy,this,WW,Fp,MZ];exact Ky _ _ hK
theorem AP (x y:Operand) (Q7:o.guard=none) (ho:o.op=.store 246 x y) (g k:Nat) (old:Array Value) (t:TypeId) (hx:a.eval x=.pointer (some ⟨g,0,none⟩)) (hy:a.eval y=.agg (Wq k).toArray)
  (hb:Box w g t old) (hold:old.size=16) (hK:∀w',Box w' g t (Wq k).toArray->w.grownBy w' (some g)->wpList prog ops Q rest (a.put o.dst undef) w'):wpList prog ops Q (o::rest) a w :=
 Yv _ x y Q7 ho g _ old t hx hy hb Ch hold (Bz k) hK
end
theorem ti (x:BitVec 32) (n:Nat):bits .xor .u32 ((x.toNat:Nat):Int) ((n:Int)%4294967296)=(((x ^^^ BitVec.ofNat 32 n).toNat:Nat):Int):=by
 rw[←WN,BitVec.toNat_ofNat];rfl
theorem th (x:BitVec 32) (n:Nat) (h:n<18446744073709551616):bits .xor .u32 ((x.toNat:Nat):Int) ((n:Int)/4294967296)=(((x ^^^ BitVec.ofNat 32 (n/4294967296)).toNat:Nat):Int):=by
 rw[←WN,BitVec.toNat_ofNat,Nat.mod_eq_of_lt (show n/4294967296<2^32 by show _<4294967296;omega)];rfl
theorem tj (x:BitVec 32):bits .xor .u32 4294967295 ((x.toNat:Nat):Int)=(((~~~ x).toNat:Nat):Int):=by
 have h:=WN 4294967295#32 x;rw[show(~~~ x)=4294967295#32 ^^^ x by rw[show 4294967295#32=BitVec.allOnes 32 by decide,BitVec.allOnes_xor]];exact h
theorem ml (h:Nat->BitVec 32):((Js 16 (λ_=>0#32)).toList.take 0++(Js 8 h).toList++(Js 16 (λ_=>0#32)).toList.drop (0+(Js 8 h).toList.length)).toArray=Js 16 (λj=>if j<8 then h j else 0#32):=by kernel_rfl
theorem ZK {w w':World}{g p i:Nat}(h:w.grownBy w' (some g)) (hp:w.heap.size<=p) (v:Value):w.grownBy (w'.setCell ⟨p,i,none⟩ v) (some g) :=
 ⟨h.os,h.tape,h.output,by simp[World.setCell];exact h.size,λk hk QY=>(kC w' ⟨p,i,none⟩ v k (show k≠p by omega)).trans (h.block k hk QY)⟩
theorem Yg.set {w:World}{g i:Nat}(h:Yg w) (hg:1<g) (v:Value):Yg (w.setCell ⟨g,i,none⟩ v):=h.grown hg (Jw (Z0 w _) v)
theorem G5 (h:Nat->BitVec 32) (b:Nat->Nat) (fill taken g:Nat) (t:TypeId) (last:Bool) (w:World) (hB:Box w g t (Yf h b fill taken)) (hg:1<g) (hb:∀i,b i<256) (ht:taken<18446744073709551616) (hT:Yg w) :
  Calls prog 123 #[.pointer (some ⟨g,0,none⟩),.bool last] w λe w'=>e=.returned (.tuple #[])/\Box w' g t (Yf (Kc h (JS b) taken last) b fill taken)/\w.grownBy w' (some g):=by
 go_enter func123,ntmps123;go_upto_region 1 with fail;have nV:=QA w 46 Vd;have x0:Ext w (w.alloc (.cells Vd 46)):=(Qf w).alloc _;change Code.wp _ _ _ _ (w.alloc (.cells Vd 46));have Lh:=hB.ext x0;have aw:=hT.ext x0;have g0:w.grownBy (w.alloc (.cells Vd 46)) (some g):=Qm (Z0 w _) x0;have hgm:g<w.heap.size:=hB.lt;rw[show Vd=Js 16 (λ_=>0#32) by kernel_rfl]at nV;rw[show Vd=Js 16 (λ_=>0#32) by kernel_rfl]at x0 Lh aw g0 ⊢;generalize w.alloc (.cells (Js 16 (λ_=>0#32)) 46)=w1 at *;generalize sc:w.heap.size=gm at *;have ei:=Qa (show w.heap.size<=gm by omega);clear sc;go_wp2_with fail;go_loopw [13] (λi wx=>∃k:Nat,k<=16/\i=.int .i64 k/\Box wx g t (Yf h b fill taken)/\Box wx gm 46 (Js 16 (λj=>if j<k then JS b j else 0#32))/\w.grownBy wx (some g)/\Yg wx) (λi _=>16-(intOf i).toNat);case atStart=>exact⟨0,by omega,rfl,Lh,by rw[YL (V':=λ_=>0#32) (λi _=>by simp)];exact nV,g0,aw⟩
 case round =>
  clear Lh nV g0 aw hB hT;obtain⟨k,hk,rfl,hBk,Fy,gk,Ga⟩:=hrel;by_cases Qo:k<16
  ·have Vf:(k:Int)<16:=by omega
   have c0:∀z:Qg wr,z.now.cell? ⟨g,8+4*k,none⟩=some (.int .u8 (b (4*k):Int)):=λz=>((hBk.ext z.ext).cell _).trans (Vx (by omega));have c1:∀z:Qg wr,z.now.cell? ⟨g,8+(4*k+1),none⟩=some (.int .u8 (b (4*k+1):Int)):=λz=>((hBk.ext z.ext).cell _).trans (Vx (by omega));have c2:∀z:Qg wr,z.now.cell? ⟨g,8+(4*k+2),none⟩=some (.int .u8 (b (4*k+2):Int)):=λz=>((hBk.ext z.ext).cell _).trans (Vx (by omega));have c3:∀z:Qg wr,z.now.cell? ⟨g,8+(4*k+3),none⟩=some (.int .u8 (b (4*k+3):Int)):=λz=>((hBk.ext z.ext).cell _).trans (Vx (by omega));have b0:=hb (4*k);have b1:=hb (4*k+1);have b2:=hb (4*k+2);have b3:=hb (4*k+3);have HW:Zv (JS b k=BitVec.ofNat 32 (b (4*k)+b (4*k+1)*256+b (4*k+2)*65536+b (4*k+3)*16777216)):=Qa rfl;generalize b (4*k)=n0 at *;generalize b (4*k+1)=n1 at *;generalize b (4*k+2)=n2 at *;generalize b (4*k+3)=n3 at *;go_upto_region 5 with fail;try simp only[Act.put]
   refine Qc 39 (by kernel_rfl) (by kernel_rfl) ?_;simp only[Yh,Yt,YB,Yu];repeat (go_big_quiet_step (fail))
   refine Y7 ?_;rintro z ⟨x,rfl⟩;have Bi:=hBk.ext x.ext;have nW:=Fy.ext x.ext;have f1:=nW.frozen k;have i1:=Qs nW Qo;have HO:=Ig n0 n1 n2 n3 b0 b1 b2 b3;rw[←HW.o]at HO;go_wp2_with fail;have XL:=ZH nW k (JS b k);rw[YL (V':=λj=>if j<k+1 then JS b j else 0#32) (λj _=>by
    simp only[Up];by_cases e:j=k
    ·subst e;simp
    ·rw[Qr e];by_cases e2:j<k
     ·rw[Qv e2,Qv (by omega)]
     ·rw[Qr e2,Qr (by omega)])]at XL
   go_roundw;case rel=>exact⟨k+1,by omega,by go_num,Bi.setOther (by omega) _,XL,ZK (Qm gk x.ext) ei.o _,(Ga.ext x.ext).set (by omega) _⟩
   case measure=>simp[intOf];omega
  ·obtain rfl:k=16:=by omega
   have hm:=Fy;rw[YL (V':=JS b) (λj hj=>by rw[Qv hj])]at hm;clear Fy;go_upto_region 8 with fail;have Sm:=QA wr 46 Vd;have x8:Ext wr (wr.alloc (.cells Vd 46)):=(Qf wr).alloc _;change Code.wp _ _ _ _ (wr.alloc (.cells Vd 46));have sD:=hBk.ext x8;have sv:=hm.ext x8;have sM:=Ga.ext x8;have g8:=Qm gk x8;have hgv:gm<wr.heap.size:=hm.lt;have Cu:=Qa (show w.heap.size<=wr.heap.size by have:=ei.o;omega);rw[show Vd=Js 16 (λ_=>0#32) by kernel_rfl]at Sm x8 sD sv sM g8 ⊢;generalize wr.alloc (.cells (Js 16 (λ_=>0#32)) 46)=w8 at *;generalize wr.heap.size=gv at *;clear hBk hm Ga gk x8 hk Qo;try simp only[Act.put]
   refine Qc 5 (by kernel_rfl) (by kernel_rfl) ?_;simp only[Yh,Yt,YB,Yu];repeat (go_big_quiet_step (fail))
   refine Y7 ?_;rintro z ⟨x,rfl⟩;have sE:=sD.ext x.ext;have tO:=Sm.ext x.ext;have nI:=λty=>run_copy_row (P:=prog) x.now 245 245 ty 45 gv 0 8 16 ⟨g,0,none⟩ 8 8 (Js 16 (λ_=>0#32)) 46 (Js 8 h).toList underlying245 Gg tO (by rw[be,J9];rfl) (λj v hj=>by
    have nO:j<8:=by have:=(PO.1 hj).1;rw[be,J9]at this;exact this
    have ha:(⟨g,0,none⟩:Addr).add j=⟨g,j,none⟩:=by unfold Addr.add;split<;>simp_all
    rw[ha,sE.cell j,Ka nO,←Y0 (V:=h) nO,←hj,Array.getElem?_toList]) (by rw[be,J9,J9];omega) (by
    intro v hv;exact(pX.1 (aN 8 h)) v (by simpa using hv))
   rw[ml]at nI;go_upto_region 9 with fail;have gs:=VS x.now gv (Js 16 (λj=>if j<8 then h j else 0#32));have nx:=Wc (ds:=Js 16 (λj=>if j<8 then h j else 0#32)) tO;have mw:=sE.grown gs (by intro e;injection e with e;omega);have nX:=(sv.ext x.ext).grown gs (by intro e;injection e with e;omega);have ie:=(sM.ext x.ext).grown (show 1<gv by omega) gs;have pw:w.grownBy (x.now.setRow gv (Js 16 (λj=>if j<8 then h j else 0#32))) (some g):=World.grownBy.andThen (Qm g8 x.ext) gs (λj e=>by cases e;exact .inl Cu.o);generalize x.now.setRow gv (Js 16 (λj=>if j<8 then h j else 0#32))=Dg at *;clear nI tO sE sD sv sM g8 Sm gs x;go_wp2_with (refine NW (.global 0) rfl rfl rfl ie ?_)
   go_loopw [65] (λi wx=>∃k:Nat,k<=8/\i=.int .i64 k/\Box wx g t (Yf h b fill taken)/\Box wx gm 46 (Js 16 (JS b))/\Box wx gv 46 (Js 16 (λj=>if j<8 then h j else if j<8+k then Zb (j-8) else 0#32))/\w.grownBy wx (some g)/\Yg wx) (λi _=>8-(intOf i).toNat);case atStart=>exact⟨0,by omega,rfl,mw,nX,by rw[YL (V':=λj=>if j<8 then h j else 0#32) (λi _=>by by_cases e:i<8<;>simp[e])];exact nx,pw,ie⟩
   case round =>
    clear mw nX pw ie nx;obtain⟨k,hk,rfl,hBk,Fy,L3,gk,Ga⟩:=hrel;by_cases Qo:k<8
    ·have Vf:(k:Int)<8:=by omega
     have fz:=L3.frozen (8+k);have iz:=Qs L3 (show 8+k<16 by omega);go_wp2_with (refine Pf 110 underlying110 (.tmp 64) (.tmp 65) rfl rfl Zb k rfl rfl Qo ?_)
     have Kl:=ZH L3 (8+k) (Zb k);rw[YL (V':=λj=>if j<8 then h j else if j<8+(k+1) then Zb (j-8) else 0#32) (λj _=>by
      simp only[Up];by_cases e:j=8+k
      ·subst e;rw[Qv rfl,Qr (by omega),Qv (by omega),Nat.add_sub_cancel_left]
      ·rw[Qr e];by_cases e2:j<8
       ·rw[Qv e2,Qv e2]
       ·rw[Qr e2,Qr e2];by_cases e3:j<8+k
        ·rw[Qv e3,Qv (by omega)]
        ·rw[Qr e3,Qr (by omega)])]at Kl
     go_roundw;case rel=>exact⟨k+1,by omega,by go_num,hBk.setOther (by omega) _,Fy.setOther (by omega) _,Kl,ZK gk Cu.o _,Ga.set (by omega) _⟩
     case measure=>simp[intOf];omega
    ·obtain rfl:k=8:=by omega
     have hv:=L3;rw[YL (V':=λj=>if j<8 then h j else Zb (j-8)) (λj hj=>by
      by_cases e2:j<8
      ·rw[Qv e2,Qv e2]
      ·rw[Qr e2,Qr e2,Qv (by omega)])]at hv
     clear L3 hk Qo;obtain⟨V0,hV0⟩:∃V,V=(λj=>if j<8 then h j else Zb (j-8)):=⟨_,rfl⟩
     rw[←hV0]at hv;have ui:=Qa hV0;clear hV0;have BF:∀z:Qg wr,z.now.cell? ⟨gv,12,none⟩=some (.int .u32 ((V0 12).toNat:Int)):=λz=>Qs (hv.ext z.ext) (by omega);have kT:∀z:Qg wr,z.now.cell? ⟨g,73,none⟩=some (.int .u64 (taken:Int)):=λz=>((hBk.ext z.ext).cell 73).trans J8;have hX:=ti (V0 12) taken;go_upto_region 14 with fail;try simp only[Act.put]
     refine Qc 9 (by kernel_rfl) (by kernel_rfl) ?_;simp only[Yh,Yt,YB,Yu];repeat (go_big_quiet_step (fail))
     refine Y7 ?_;rintro z1 ⟨x1,rfl⟩;have Fz:=hv.ext x1.ext;have f1:=Fz.frozen 12;have i1:=Qs Fz (show 12<16 by omega);go_upto_region 15 with fail;have Kl:=ZH Fz 12 (V0 12 ^^^ BitVec.ofNat 32 taken);have IF:=(hBk.ext x1.ext).setOther (show g≠gv by omega) (i:=12) (.int .u32 ((V0 12 ^^^ BitVec.ofNat 32 taken).toNat:Int));have XL:=(Fy.ext x1.ext).setOther (show gm≠gv by omega) (i:=12) (.int .u32 ((V0 12 ^^^ BitVec.ofNat 32 taken).toNat:Int));have g2:=ZK (i:=12) (Qm gk x1.ext) Cu.o (.int .u32 ((V0 12 ^^^ BitVec.ofNat 32 taken).toNat:Int));have dE:=(Ga.ext x1.ext).set (i:=12) (show 1<gv by omega) (.int .u32 ((V0 12 ^^^ BitVec.ofNat 32 taken).toNat:Int));rw[show(V0 12).toNat ^^^ taken%4294967296=(V0 12 ^^^ BitVec.ofNat 32 taken).toNat by rw[BitVec.toNat_xor,BitVec.toNat_ofNat]];generalize x1.now.setCell ⟨gv,12,none⟩ (.int .u32 ((V0 12 ^^^ BitVec.ofNat 32 taken).toNat:Int))=w2 at *;obtain⟨V1,hV1⟩:∃V,V=Up V0 12 (V0 12 ^^^ BitVec.ofNat 32 taken):=⟨_,rfl⟩
     rw[←hV1]at Kl;have MT:=Qa hV1;clear hV1 Fz f1 i1 x1 BF kT hX hBk Fy gk Ga hv;have I2:∀z:Qg w2,z.now.cell? ⟨gv,13,none⟩=some (.int .u32 ((V1 13).toNat:Int)):=λz=>Qs (Kl.ext z.ext) (by omega);have kT:∀z:Qg w2,z.now.cell? ⟨g,73,none⟩=some (.int .u64 (taken:Int)):=λz=>((IF.ext z.ext).cell 73).trans J8;have hX:=th (V1 13) taken ht;try simp only[Act.put]
     refine Qc 10 (by kernel_rfl) (by kernel_rfl) ?_;simp only[Yh,Yt,YB,Yu];repeat (go_big_quiet_step (fail))
     refine Y7 ?_;rintro z1 ⟨x1,rfl⟩;have dN:=Kl.ext x1.ext;have f1:=dN.frozen 13;have i1:=Qs dN (show 13<16 by omega);go_upto_region 16 with fail;have bD:=ZH dN 13 (V1 13 ^^^ BitVec.ofNat 32 (taken/4294967296));have iY:=(IF.ext x1.ext).setOther (show g≠gv by omega) (i:=13) (.int .u32 ((V1 13 ^^^ BitVec.ofNat 32 (taken/4294967296)).toNat:Int));have su:=(XL.ext x1.ext).setOther (show gm≠gv by omega) (i:=13) (.int .u32 ((V1 13 ^^^ BitVec.ofNat 32 (taken/4294967296)).toNat:Int));have g3:=ZK (i:=13) (Qm g2 x1.ext) Cu.o (.int .u32 ((V1 13 ^^^ BitVec.ofNat 32 (taken/4294967296)).toNat:Int));have kM:=(dE.ext x1.ext).set (i:=13) (show 1<gv by omega) (.int .u32 ((V1 13 ^^^ BitVec.ofNat 32 (taken/4294967296)).toNat:Int));rw[show(V1 13).toNat ^^^ taken/4294967296%4294967296=(V1 13 ^^^ BitVec.ofNat 32 (taken/4294967296)).toNat by rw[BitVec.toNat_xor,BitVec.toNat_ofNat]];generalize x1.now.setCell ⟨gv,13,none⟩ (.int .u32 ((V1 13 ^^^ BitVec.ofNat 32 (taken/4294967296)).toNat:Int))=w3 at *;obtain⟨V2,hV2⟩:∃V,V=Up V1 13 (V1 13 ^^^ BitVec.ofNat 32 (taken/4294967296)):=⟨_,rfl⟩
     rw[←hV2]at bD;have SB:=Qa hV2;clear hV2 dN f1 i1 x1 I2 kT hX IF XL g2 dE Kl;go_upto_if 93 with fail;go_cut [94,95,96,97] (λ_ _ _ _ wx=>Box wx gv 46 (Js 16 (if last then Up V2 14 (~~~ V2 14) else V2))/\Box wx g t (Yf h b fill taken)/\Box wx gm 46 (Js 16 (JS b))/\w.grownBy wx (some g)/\Yg wx);case first =>
      have hsg:IntKind.u32.signed=false:=rfl;have hmx:IntKind.u32.max=4294967295:=by decide
      have bE:=Qs bD (show 14<16 by omega);have f14:=bD.frozen 14;have hX:=tj (V2 14);cases last with
      | false => go_wp2_with fail;go_meet;exact⟨bD,iY,su,g3,kM⟩
      | true => go_wp2_with fail;go_meet;rw[Qv trivial,show 4294967295-(V2 14).toNat=(~~~(V2 14)).toNat by simp];exact⟨ZH bD 14 _,iY.setOther (by omega) _,su.setOther (by omega) _,ZK g3 Cu.o _,kM.set (by omega) _⟩
     case rest =>
     obtain⟨hv4,mx,hm4,g4,hT4⟩:=hcut;clear bD iY su g3 kM;rw[show(if last then Up V2 14 (~~~ V2 14) else V2)=Va h taken last by
      have e0:=ui.o;have e1:=MT.o;have e2:=SB.o
      subst e2 e1 e0;rfl]at hv4
     clear ui MT SB;clear V0 V1 V2;go_wp2_with (refine Dp (.global 1) rfl rfl rfl hT4 ?_)
     go_loopw [99] (λi wx=>∃k:Nat,k<=10/\i=.int .i64 k/\Box wx gv 46 (Js 16 (Zp (JS b) (Va h taken last) k))/\Box wx g t (Yf h b fill taken)/\Box wx gm 46 (Js 16 (JS b))/\w.grownBy wx (some g)/\Yg wx) (λi _=>10-(intOf i).toNat);case atStart=>exact⟨0,by omega,rfl,hv4,mx,hm4,g4,hT4⟩
     case round =>
      clear hv4 mx hm4 g4 hT4;obtain⟨k,hk,rfl,L3,hBk,Fy,gk,Ga⟩:=hrel;by_cases Qo:k<10
      ·have Vf:(k:Int)<10:=by omega
       have HR:=Qa (show Zp (JS b) (Va h taken last) (k+1)=KP (Qy k) (JS b) (Zp (JS b) (Va h taken last) k) from rfl);have Uv:=Qa (λj (hj:j<16)=>OU Qo hj);generalize Zp (JS b) (Va h taken last) k=U0 at *;generalize hM:JS b=M at *;clear hM
       go_upto_region 21 with(first
        | (refine Ff (.tmp 98) (.tmp 99) rfl rfl k rfl rfl Qo ?_)
        | (refine AP (.tmp 11) (.tmp 101) rfl rfl wr.heap.size k _ 246 rfl rfl (QA _ _ _) rfl ?_;intro s0 r0 gr))
       have y0:Ext wr s0:=((Qf wr).alloc _).grown gr (λj e=>by cases e;exact QW _);have v0:=L3.ext y0;have B0:=hBk.ext y0;have m0:=Fy.ext y0;have vC:=Qm gk y0;have T0:=Ga.ext y0;have hvr:gv<wr.heap.size:=L3.lt;clear L3 hBk Fy gk Ga gr y0;generalize wr.heap.size=gR at *;have p0:∀z:Qg s0,z.now.cell? ⟨gR,0,none⟩=some (.int .u8 (Qy k 0:Int)):=λz=>((r0.ext z.ext).cell 0).trans (Je (by omega));have p1:∀z:Qg s0,z.now.cell? ⟨gR,1,none⟩=some (.int .u8 (Qy k 1:Int)):=λz=>((r0.ext z.ext).cell 1).trans (Je (by omega));have l1:(Qy k 0:Int)<16:=by have:=Uv.o 0 (by omega);omega
       have l2:(Qy k 1:Int)<16:=by have:=Uv.o 1 (by omega);omega
       have n1:∀z:Qg s0,z.now.cell? ⟨gm,Qy k 0,none⟩=some (.int .u32 ((M (Qy k 0)).toNat:Int)):=λz=>Qs (m0.ext z.ext) (Uv.o _ (by omega));have n2:∀z:Qg s0,z.now.cell? ⟨gm,Qy k 1,none⟩=some (.int .u32 ((M (Qy k 1)).toNat:Int)):=λz=>Qs (m0.ext z.ext) (Uv.o _ (by omega));try simp only[Act.put]
       refine Qc 8 (by kernel_rfl) (by kernel_rfl) ?_;simp only[Yh,Yt,YB,Yu];repeat (go_big_quiet_step (fail))
       refine Y7 ?_;rintro z ⟨x0,rfl⟩;clear p0 p1 l1 l2 n1 n2;go_upto_region 22 with(go_at_call 188;refine(XV U0 gv 0 4 8 12 46 (M (Qy k 0)) (M (Qy k 1)) x0.now (v0.ext x0.ext) (by omega) (by omega) (by omega) (by omega)).mono ?_;rintro e s1 ⟨rfl,v1,gr⟩)
       have r1:=(r0.ext x0.ext).grown gr (by intro e;injection e with e;omega);have B1:=(B0.ext x0.ext).grown gr (by intro e;injection e with e;omega);have m1:=(m0.ext x0.ext).grown gr (by intro e;injection e with e;omega);have T1:=(T0.ext x0.ext).grown (show 1<gv by omega) gr;have vD:w.grownBy s1 (some g):=World.grownBy.andThen (Qm vC x0.ext) gr (λj e=>by cases e;exact .inl Cu.o);obtain⟨U1,hU1⟩:∃V,V=VK U0 0 4 8 12 (M (Qy k 0)) (M (Qy k 1)):=⟨_,rfl⟩
       rw[←hU1]at v1;have ua:=Qa hU1;clear hU1 gr x0 r0 B0 m0 T0 vC v0;clear s0;have p2:∀z:Qg s1,z.now.cell? ⟨gR,2,none⟩=some (.int .u8 (Qy k 2:Int)):=λz=>((r1.ext z.ext).cell 2).trans (Je (by omega));have p3:∀z:Qg s1,z.now.cell? ⟨gR,3,none⟩=some (.int .u8 (Qy k 3:Int)):=λz=>((r1.ext z.ext).cell 3).trans (Je (by omega));have l1:(Qy k 2:Int)<16:=by have:=Uv.o 2 (by omega);omega
       have l2:(Qy k 3:Int)<16:=by have:=Uv.o 3 (by omega);omega
       have n1:∀z:Qg s1,z.now.cell? ⟨gm,Qy k 2,none⟩=some (.int .u32 ((M (Qy k 2)).toNat:Int)):=λz=>Qs (m1.ext z.ext) (Uv.o _ (by omega));have n2:∀z:Qg s1,z.now.cell? ⟨gm,Qy k 3,none⟩=some (.int .u32 ((M (Qy k 3)).toNat:Int)):=λz=>Qs (m1.ext z.ext) (Uv.o _ (by omega));try simp only[Act.put]
       refine Qc 8 (by kernel_rfl) (by kernel_rfl) ?_;simp only[Yh,Yt,YB,Yu];repeat (go_big_quiet_step (fail))
       refine Y7 ?_;rintro z ⟨x1,rfl⟩;clear p2 p3 l1 l2 n1 n2;go_upto_region 23 with(go_at_call 188;refine(XV U1 gv 1 5 9 13 46 (M (Qy k 2)) (M (Qy k 3)) x1.now (v1.ext x1.ext) (by omega) (by omega) (by omega) (by omega)).mono ?_;rintro e s2 ⟨rfl,v2,gr⟩)
       have r2:=(r1.ext x1.ext).grown gr (by intro e;injection e with e;omega);have B2:=(B1.ext x1.ext).grown gr (by intro e;injection e with e;omega);have m2:=(m1.ext x1.ext).grown gr (by intro e;injection e with e;omega);have T2:=(T1.ext x1.ext).grown (show 1<gv by omega) gr;have vE:w.grownBy s2 (some g):=World.grownBy.andThen (Qm vD x1.ext) gr (λj e=>by cases e;exact .inl Cu.o);obtain⟨U2,hU2⟩:∃V,V=VK U1 1 5 9 13 (M (Qy k 2)) (M (Qy k 3)):=⟨_,rfl⟩
       rw[←hU2]at v2;have ub:=Qa hU2;clear hU2 gr x1 r1 B1 m1 T1 vD v1;clear s1;have p4:∀z:Qg s2,z.now.cell? ⟨gR,4,none⟩=some (.int .u8 (Qy k 4:Int)):=λz=>((r2.ext z.ext).cell 4).trans (Je (by omega));have p5:∀z:Qg s2,z.now.cell? ⟨gR,5,none⟩=some (.int .u8 (Qy k 5:Int)):=λz=>((r2.ext z.ext).cell 5).trans (Je (by omega));have l1:(Qy k 4:Int)<16:=by have:=Uv.o 4 (by omega);omega
       have l2:(Qy k 5:Int)<16:=by have:=Uv.o 5 (by omega);omega
       have n1:∀z:Qg s2,z.now.cell? ⟨gm,Qy k 4,none⟩=some (.int .u32 ((M (Qy k 4)).toNat:Int)):=λz=>Qs (m2.ext z.ext) (Uv.o _ (by omega));have n2:∀z:Qg s2,z.now.cell? ⟨gm,Qy k 5,none⟩=some (.int .u32 ((M (Qy k 5)).toNat:Int)):=λz=>Qs (m2.ext z.ext) (Uv.o _ (by omega));try simp only[Act.put]
       refine Qc 8 (by kernel_rfl) (by kernel_rfl) ?_;simp only[Yh,Yt,YB,Yu];repeat (go_big_quiet_step (fail))
       refine Y7 ?_;rintro z ⟨x2,rfl⟩;clear p4 p5 l1 l2 n1 n2;go_upto_region 24 with(go_at_call 188;refine(XV U2 gv 2 6 10 14 46 (M (Qy k 4)) (M (Qy k 5)) x2.now (v2.ext x2.ext) (by omega) (by omega) (by omega) (by omega)).mono ?_;rintro e s3 ⟨rfl,v3,gr⟩)
       have r3:=(r2.ext x2.ext).grown gr (by intro e;injection e with e;omega);have B3:=(B2.ext x2.ext).grown gr (by intro e;injection e with e;omega);have m3:=(m2.ext x2.ext).grown gr (by intro e;injection e with e;omega);have T3:=(T2.ext x2.ext).grown (show 1<gv by omega) gr;have vF:w.grownBy s3 (some g):=World.grownBy.andThen (Qm vE x2.ext) gr (λj e=>by cases e;exact .inl Cu.o);obtain⟨U3,hU3⟩:∃V,V=VK U2 2 6 10 14 (M (Qy k 4)) (M (Qy k 5)):=⟨_,rfl⟩
       rw[←hU3]at v3;have uc:=Qa hU3;clear hU3 gr x2 r2 B2 m2 T2 vE v2;clear s2;have p6:∀z:Qg s3,z.now.cell? ⟨gR,6,none⟩=some (.int .u8 (Qy k 6:Int)):=λz=>((r3.ext z.ext).cell 6).trans (Je (by omega));have p7:∀z:Qg s3,z.now.cell? ⟨gR,7,none⟩=some (.int .u8 (Qy k 7:Int)):=λz=>((r3.ext z.ext).cell 7).trans (Je (by omega));have l1:(Qy k 6:Int)<16:=by have:=Uv.o 6 (by omega);omega
       have l2:(Qy k 7:Int)<16:=by have:=Uv.o 7 (by omega);omega
       have n1:∀z:Qg s3,z.now.cell? ⟨gm,Qy k 6,none⟩=some (.int .u32 ((M (Qy k 6)).toNat:Int)):=λz=>Qs (m3.ext z.ext) (Uv.o _ (by omega));have n2:∀z:Qg s3,z.now.cell? ⟨gm,Qy k 7,none⟩=some (.int .u32 ((M (Qy k 7)).toNat:Int)):=λz=>Qs (m3.ext z.ext) (Uv.o _ (by omega));try simp only[Act.put]
       refine Qc 8 (by kernel_rfl) (by kernel_rfl) ?_;simp only[Yh,Yt,YB,Yu];repeat (go_big_quiet_step (fail))
       refine Y7 ?_;rintro z ⟨x3,rfl⟩;clear p6 p7 l1 l2 n1 n2;go_upto_region 25 with(go_at_call 188;refine(XV U3 gv 3 7 11 15 46 (M (Qy k 6)) (M (Qy k 7)) x3.now (v3.ext x3.ext) (by omega) (by omega) (by omega) (by omega)).mono ?_;rintro e s4 ⟨rfl,v4,gr⟩)
       have r4:=(r3.ext x3.ext).grown gr (by intro e;injection e with e;omega);have B4:=(B3.ext x3.ext).grown gr (by intro e;injection e with e;omega);have m4:=(m3.ext x3.ext).grown gr (by intro e;injection e with e;omega);have T4:=(T3.ext x3.ext).grown (show 1<gv by omega) gr;have vG:w.grownBy s4 (some g):=World.grownBy.andThen (Qm vF x3.ext) gr (λj e=>by cases e;exact .inl Cu.o);obtain⟨U4,hU4⟩:∃V,V=VK U3 3 7 11 15 (M (Qy k 6)) (M (Qy k 7)):=⟨_,rfl⟩
       rw[←hU4]at v4;have ud:=Qa hU4;clear hU4 gr x3 r3 B3 m3 T3 vF v3;clear s3;have p8:∀z:Qg s4,z.now.cell? ⟨gR,8,none⟩=some (.int .u8 (Qy k 8:Int)):=λz=>((r4.ext z.ext).cell 8).trans (Je (by omega));have p9:∀z:Qg s4,z.now.cell? ⟨gR,9,none⟩=some (.int .u8 (Qy k 9:Int)):=λz=>((r4.ext z.ext).cell 9).trans (Je (by omega));have l1:(Qy k 8:Int)<16:=by have:=Uv.o 8 (by omega);omega
       have l2:(Qy k 9:Int)<16:=by have:=Uv.o 9 (by omega);omega
       have n1:∀z:Qg s4,z.now.cell? ⟨gm,Qy k 8,none⟩=some (.int .u32 ((M (Qy k 8)).toNat:Int)):=λz=>Qs (m4.ext z.ext) (Uv.o _ (by omega));have n2:∀z:Qg s4,z.now.cell? ⟨gm,Qy k 9,none⟩=some (.int .u32 ((M (Qy k 9)).toNat:Int)):=λz=>Qs (m4.ext z.ext) (Uv.o _ (by omega));try simp only[Act.put]
       refine Qc 8 (by kernel_rfl) (by kernel_rfl) ?_;simp only[Yh,Yt,YB,Yu];repeat (go_big_quiet_step (fail))
       refine Y7 ?_;rintro z ⟨x4,rfl⟩;clear p8 p9 l1 l2 n1 n2;go_upto_region 26 with(go_at_call 188;refine(XV U4 gv 0 5 10 15 46 (M (Qy k 8)) (M (Qy k 9)) x4.now (v4.ext x4.ext) (by omega) (by omega) (by omega) (by omega)).mono ?_;rintro e s5 ⟨rfl,v5,gr⟩)
       have r5:=(r4.ext x4.ext).grown gr (by intro e;injection e with e;omega);have B5:=(B4.ext x4.ext).grown gr (by intro e;injection e with e;omega);have m5:=(m4.ext x4.ext).grown gr (by intro e;injection e with e;omega);have T5:=(T4.ext x4.ext).grown (show 1<gv by omega) gr;have vH:w.grownBy s5 (some g):=World.grownBy.andThen (Qm vG x4.ext) gr (λj e=>by cases e;exact .inl Cu.o);obtain⟨U5,hU5⟩:∃V,V=VK U4 0 5 10 15 (M (Qy k 8)) (M (Qy k 9)):=⟨_,rfl⟩
       rw[←hU5]at v5;have ue:=Qa hU5;clear hU5 gr x4 r4 B4 m4 T4 vG v4;clear s4;have p10:∀z:Qg s5,z.now.cell? ⟨gR,10,none⟩=some (.int .u8 (Qy k 10:Int)):=λz=>((r5.ext z.ext).cell 10).trans (Je (by omega));have p11:∀z:Qg s5,z.now.cell? ⟨gR,11,none⟩=some (.int .u8 (Qy k 11:Int)):=λz=>((r5.ext z.ext).cell 11).trans (Je (by omega));have l1:(Qy k 10:Int)<16:=by have:=Uv.o 10 (by omega);omega
       have l2:(Qy k 11:Int)<16:=by have:=Uv.o 11 (by omega);omega
       have n1:∀z:Qg s5,z.now.cell? ⟨gm,Qy k 10,none⟩=some (.int .u32 ((M (Qy k 10)).toNat:Int)):=λz=>Qs (m5.ext z.ext) (Uv.o _ (by omega));have n2:∀z:Qg s5,z.now.cell? ⟨gm,Qy k 11,none⟩=some (.int .u32 ((M (Qy k 11)).toNat:Int)):=λz=>Qs (m5.ext z.ext) (Uv.o _ (by omega));try simp only[Act.put]
       refine Qc 8 (by kernel_rfl) (by kernel_rfl) ?_;simp only[Yh,Yt,YB,Yu];repeat (go_big_quiet_step (fail))
       refine Y7 ?_;rintro z ⟨x5,rfl⟩;clear p10 p11 l1 l2 n1 n2;go_upto_region 27 with(go_at_call 188;refine(XV U5 gv 1 6 11 12 46 (M (Qy k 10)) (M (Qy k 11)) x5.now (v5.ext x5.ext) (by omega) (by omega) (by omega) (by omega)).mono ?_;rintro e s6 ⟨rfl,v6,gr⟩)
       have r6:=(r5.ext x5.ext).grown gr (by intro e;injection e with e;omega);have B6:=(B5.ext x5.ext).grown gr (by intro e;injection e with e;omega);have m6:=(m5.ext x5.ext).grown gr (by intro e;injection e with e;omega);have T6:=(T5.ext x5.ext).grown (show 1<gv by omega) gr;have vI:w.grownBy s6 (some g):=World.grownBy.andThen (Qm vH x5.ext) gr (λj e=>by cases e;exact .inl Cu.o);obtain⟨U6,hU6⟩:∃V,V=VK U5 1 6 11 12 (M (Qy k 10)) (M (Qy k 11)):=⟨_,rfl⟩
       rw[←hU6]at v6;have uf:=Qa hU6;clear hU6 gr x5 r5 B5 m5 T5 vH v5;clear s5;have p12:∀z:Qg s6,z.now.cell? ⟨gR,12,none⟩=some (.int .u8 (Qy k 12:Int)):=λz=>((r6.ext z.ext).cell 12).trans (Je (by omega));have p13:∀z:Qg s6,z.now.cell? ⟨gR,13,none⟩=some (.int .u8 (Qy k 13:Int)):=λz=>((r6.ext z.ext).cell 13).trans (Je (by omega));have l1:(Qy k 12:Int)<16:=by have:=Uv.o 12 (by omega);omega
       have l2:(Qy k 13:Int)<16:=by have:=Uv.o 13 (by omega);omega
       have n1:∀z:Qg s6,z.now.cell? ⟨gm,Qy k 12,none⟩=some (.int .u32 ((M (Qy k 12)).toNat:Int)):=λz=>Qs (m6.ext z.ext) (Uv.o _ (by omega));have n2:∀z:Qg s6,z.now.cell? ⟨gm,Qy k 13,none⟩=some (.int .u32 ((M (Qy k 13)).toNat:Int)):=λz=>Qs (m6.ext z.ext) (Uv.o _ (by omega));try simp only[Act.put]
       refine Qc 8 (by kernel_rfl) (by kernel_rfl) ?_;simp only[Yh,Yt,YB,Yu];repeat (go_big_quiet_step (fail))
       refine Y7 ?_;rintro z ⟨x6,rfl⟩;clear p12 p13 l1 l2 n1 n2;go_upto_region 28 with(go_at_call 188;refine(XV U6 gv 2 7 8 13 46 (M (Qy k 12)) (M (Qy k 13)) x6.now (v6.ext x6.ext) (by omega) (by omega) (by omega) (by omega)).mono ?_;rintro e s7 ⟨rfl,v7,gr⟩)
       have r7:=(r6.ext x6.ext).grown gr (by intro e;injection e with e;omega);have B7:=(B6.ext x6.ext).grown gr (by intro e;injection e with e;omega);have m7:=(m6.ext x6.ext).grown gr (by intro e;injection e with e;omega);have T7:=(T6.ext x6.ext).grown (show 1<gv by omega) gr;have vJ:w.grownBy s7 (some g):=World.grownBy.andThen (Qm vI x6.ext) gr (λj e=>by cases e;exact .inl Cu.o);obtain⟨U7,hU7⟩:∃V,V=VK U6 2 7 8 13 (M (Qy k 12)) (M (Qy k 13)):=⟨_,rfl⟩
       rw[←hU7]at v7;have ug:=Qa hU7;clear hU7 gr x6 r6 B6 m6 T6 vI v6;clear s6;have p14:∀z:Qg s7,z.now.cell? ⟨gR,14,none⟩=some (.int .u8 (Qy k 14:Int)):=λz=>((r7.ext z.ext).cell 14).trans (Je (by omega));have p15:∀z:Qg s7,z.now.cell? ⟨gR,15,none⟩=some (.int .u8 (Qy k 15:Int)):=λz=>((r7.ext z.ext).cell 15).trans (Je (by omega));have l1:(Qy k 14:Int)<16:=by have:=Uv.o 14 (by omega);omega
       have l2:(Qy k 15:Int)<16:=by have:=Uv.o 15 (by omega);omega
       have n1:∀z:Qg s7,z.now.cell? ⟨gm,Qy k 14,none⟩=some (.int .u32 ((M (Qy k 14)).toNat:Int)):=λz=>Qs (m7.ext z.ext) (Uv.o _ (by omega));have n2:∀z:Qg s7,z.now.cell? ⟨gm,Qy k 15,none⟩=some (.int .u32 ((M (Qy k 15)).toNat:Int)):=λz=>Qs (m7.ext z.ext) (Uv.o _ (by omega));try simp only[Act.put]
       refine Qc 8 (by kernel_rfl) (by kernel_rfl) ?_;simp only[Yh,Yt,YB,Yu];repeat (go_big_quiet_step (fail))
       refine Y7 ?_;rintro z ⟨x7,rfl⟩;clear p14 p15 l1 l2 n1 n2;go_upto_region 29 with(go_at_call 188;refine(XV U7 gv 3 4 9 14 46 (M (Qy k 14)) (M (Qy k 15)) x7.now (v7.ext x7.ext) (by omega) (by omega) (by omega) (by omega)).mono ?_;rintro e s8 ⟨rfl,v8,gr⟩)
       have r8:=(r7.ext x7.ext).grown gr (by intro e;injection e with e;omega);have B8:=(B7.ext x7.ext).grown gr (by intro e;injection e with e;omega);have m8:=(m7.ext x7.ext).grown gr (by intro e;injection e with e;omega);have T8:=(T7.ext x7.ext).grown (show 1<gv by omega) gr;have gg8:w.grownBy s8 (some g):=World.grownBy.andThen (Qm vJ x7.ext) gr (λj e=>by cases e;exact .inl Cu.o);obtain⟨U8,hU8⟩:∃V,V=VK U7 3 4 9 14 (M (Qy k 14)) (M (Qy k 15)):=⟨_,rfl⟩
       rw[←hU8]at v8;have uh:=Qa hU8;clear hU8 gr x7 r7 B7 m7 T7 vJ v7;clear s7;have HE:U8=KP (Qy k) M U0:=by
        have h1:=ua.o;have h2:=ub.o;have h3:=uc.o;have h4:=ud.o;have h5:=ue.o;have h6:=uf.o;have h7:=ug.o;have h8:=uh.o
        subst h8 h7 h6 h5 h4 h3 h2 h1;rfl
       rw[HE,←HR.o]at v8;clear HE ua ub uc ud ue uf ug uh;clear U1 U2 U3 U4 U5 U6 U7 U8;go_wp2_with fail;go_roundw;case rel=>exact⟨k+1,by omega,by go_num,v8,B8,m8,gg8,T8⟩
       case measure=>simp[intOf];omega
      ·obtain rfl:k=10:=by omega
       have uZ:=Qa (show∀i,Kc h (JS b) taken last i=h i ^^^ (Zp (JS b) (Va h taken last) 10 i ^^^ Zp (JS b) (Va h taken last) 10 (i+8)) fromλ_=>rfl);obtain⟨TK,hTK0⟩:∃V,V=Kc h (JS b) taken last:=⟨_,rfl⟩
       rw[←hTK0]at uZ;have HT0:=Qa hTK0;clear hTK0;generalize Zp (JS b) (Va h taken last) 10=U at *;clear Fy Ga hk Qo;go_wp2_with fail;go_loopw [175] (λi wx=>∃k:Nat,k<=8/\i=.int .i64 k/\Box wx gv 46 (Js 16 U)/\Box wx g t (Yf (λj=>if j<k then TK j else h j) b fill taken)/\w.grownBy wx (some g)) (λi _=>8-(intOf i).toNat);case atStart=>exact⟨0,by omega,rfl,L3,by rw[Un (h':=h) (b':=b) (λi _=>by simp) (λ_ _=>rfl)];exact hBk,gk⟩
       case round =>
        clear L3 hBk gk;obtain⟨k,hk,rfl,L3,hBk,gk⟩:=hrel;by_cases Qo:k<8
        ·have Vf:(k:Int)<8:=by omega
         have c1:∀z:Qg wr,z.now.cell? ⟨g,k,none⟩=some (.int .u32 ((h k).toNat:Int)):=λz=>(((hBk.ext z.ext).cell k).trans (Ka Qo)).trans (by rw[Qr (by omega)]);have c2:∀z:Qg wr,z.now.cell? ⟨gv,k,none⟩=some (.int .u32 ((U k).toNat:Int)):=λz=>Qs (L3.ext z.ext) (by omega);have c3:∀z:Qg wr,z.now.cell? ⟨gv,k+8,none⟩=some (.int .u32 ((U (k+8)).toNat:Int)):=λz=>Qs (L3.ext z.ext) (by omega);have hX:bits .xor .u32 ((h k).toNat:Int) (bits .xor .u32 ((U k).toNat:Int) ((U (k+8)).toNat:Int))=(((TK k).toNat:Nat):Int):=by rw[WN,WN,uZ.o]
         go_upto_region 33 with fail;try simp only[Act.put]
         refine Qc 18 (by kernel_rfl) (by kernel_rfl) ?_;simp only[Yh,Yt,YB,Yu];repeat (go_big_quiet_step (fail))
         refine Y7 ?_;rintro z ⟨x,rfl⟩;have Bi:=hBk.ext x.ext;have f1:=Bi.frozen k;have i1:=(Bi.cell k).trans (Ka Qo);clear c1 c2 c3;go_wp2_with fail;have IF:=Bi.set k (.int .u32 ((TK k).toNat:Int));rw[GW Qo,Un (h':=λj=>if j<k+1 then TK j else h j) (b':=b) (λj _=>by
          simp only[Up];by_cases e:j=k
          ·subst e;rw[Qv rfl,Qv (by omega)]
          ·rw[Qr e];by_cases e2:j<k
           ·rw[Qv e2,Qv (by omega)]
           ·rw[Qr e2,Qr (by omega)]) (λ_ _=>rfl)]at IF
         go_roundw;case rel=>exact⟨k+1,by omega,by go_num,(L3.ext x.ext).setOther (by omega) _,IF,Jw (Qm gk x.ext) _⟩
         case measure=>simp[intOf];omega
        ·obtain rfl:k=8:=by omega
         rw[Un (h':=TK) (b':=b) (λj hj=>by rw[Qv hj]) (λ_ _=>rfl)]at hBk;go_wp2_with fail;go_end0;rw[←HT0.o];exact⟨rfl,hBk,gk⟩
theorem LI (r:Nat->Nat) {m m':Nat->BitVec 32}(v:Nat->BitVec 32) (hr:∀j,j<16->r j<16) (hm:∀j,j<16->m j=m' j):KP r m v=KP r m' v:=by
 have e:∀j,j<16->m (r j)=m' (r j):=λj hj=>hm _ (hr j hj);unfold KP;simp only[e 0 (by omega),e 1 (by omega),e 2 (by omega),e 3 (by omega),e 4 (by omega),e 5 (by omega),e 6 (by omega),e 7 (by omega),e 8 (by omega),e 9 (by omega),e 10 (by omega),e 11 (by omega),e 12 (by omega),e 13 (by omega),e 14 (by omega),e 15 (by omega)]
theorem UG {m m':Nat->BitVec 32}(v:Nat->BitVec 32) (hm:∀j,j<16->m j=m' j):∀k,k<=10->Zp m v k=Zp m' v k
 | 0,_=>rfl
 | k+1,h=>by show KP (Qy k) m (Zp m v k)=KP (Qy k) m' (Zp m' v k);rw[UG v hm k (by omega)];exact LI _ _ (λj hj=>OU (by omega) hj) hm
theorem NS {h m m':Nat->BitVec 32}{n:Nat}{last:Bool}(hm:∀j,j<16->m j=m' j):Kc h m n last=Kc h m' n last:=by
 unfold Kc;rw[UG _ hm 10 (by omega)]
theorem NV {b b':Nat->Nat}(h:∀i,i<64->b i=b' i) {j:Nat}(hj:j<16):JS b j=JS b' j:=by
 unfold JS;rw[h _ (by omega),h _ (by omega),h _ (by omega),h _ (by omega)]
def VD (B:List UInt8) (k:Nat):Nat->Nat:=λi=>(((B.drop (64*k)).take 64).getD i 0).toNat
theorem FQ {B C:List UInt8}{k:Nat}(h:64*k+64<=B.length):VD (B++C) k=VD B k:=by
 unfold VD;rw[List.drop_append_of_le_length (by omega),List.take_append_of_le_length (by rw[WQ];omega)]
theorem PV {B:List UInt8}{k i:Nat}(hi:i<64):VD B k i=(B.getD (64*k+i) 0).toNat:=by
 unfold VD;rw[ZG,ZG,Ty,Qv hi,Fm]
def Ra (h0:Nat->BitVec 32) (B:List UInt8):Nat->(Nat->BitVec 32)
 | 0=>h0
 | k+1=>Kc (Ra h0 B k) (JS (VD B k)) (64*k+64) false
theorem D6 {h0:Nat->BitVec 32}{B C:List UInt8}:∀k,64*k<=B.length->Ra h0 (B++C) k=Ra h0 B k
 | 0,_=>rfl
 | k+1,h=>by show Kc (Ra h0 (B++C) k) (JS (VD (B++C) k)) _ _=Kc (Ra h0 B k) (JS (VD B k)) _ _;rw[D6 k (by omega),FQ (by omega)]
def CO (n:Nat):Nat:=(n-1)/64
def W9 (h0:Nat->BitVec 32) (B:List UInt8):Nat->BitVec 32:=Kc (Ra h0 B (CO B.length)) (JS (VD B (CO B.length))) B.length true
def Zm:Nat->BitVec 32:=Up Zb 0 (Zb 0 ^^^ 16842784#32)
structure jz (w:World) (g:Nat) (t:TypeId) (h0:Nat->BitVec 32) (B:List UInt8) (k f:Nat) (b:Nat->Nat):Prop where
 box:Box w g t (Yf (Ra h0 B k) b f (64*k))
 byte:∀i,b i<256
 len:64*k+f=B.length
 most:f<=64
 same:∀i,i<f->b i=(B.getD (64*k+i) 0).toNat
theorem jz.ext {w w':World}{g:Nat}{t:TypeId}{h0:Nat->BitVec 32}{B:List UInt8}{k f:Nat}{b:Nat->Nat}(h:jz w g t h0 B k f b) (x:Ext w w'):jz w' g t h0 B k f b:=⟨h.box.ext x,h.byte,h.len,h.most,h.same⟩
theorem E7 {h0:Nat->BitVec 32}{B:List UInt8}{k:Nat}{b:Nat->Nat}(hs:∀i,i<64->b i=(B.getD (64*k+i) 0).toNat):Kc (Ra h0 B k) (JS b) (64*k+64) false=Ra h0 B (k+1) :=
 NS λj hj=>NV (λi hi=>by rw[hs i hi,PV hi]) hj
def WU (w:World) (g:Nat) (t:TypeId) (h0:Nat->BitVec 32) (B:List UInt8):Prop:=∃k f b,jz w g t h0 B k f b/\k=CO B.length
def Oo (b:Nat->Nat) (f:Nat) (s:List UInt8):Nat->Nat:=λi=>if f<=i/\i<f+s.length then (s.getD (i-f) 0).toNat else b i
theorem jI {b:Nat->Nat}{f:Nat}{s:List UInt8}(h:∀i,b i<256) (i:Nat):Oo b f s i<256:=by
 unfold Oo;split
 ·exact UInt8.toNat_lt _
 ·exact h i
theorem O7 {h:Nat->BitVec 32}{b:Nat->Nat}{fill taken f:Nat}{s:List UInt8}(hf:f+s.length<=64) :
  ((Yf h b fill taken).toList.take (8+f)++s.map (λc=>Value.int .u8 (c.toNat:Int))++(Yf h b fill taken).toList.drop (8+f+s.length)).toArray=Yf h (Oo b f s) fill taken:=by
 have hl:((Yf h b fill taken).toList.take (8+f)).length=8+f:=by rw[WV,be,Jv];omega
 have key:∀j,((Yf h b fill taken).toList.take (8+f)++s.map (λc=>Value.int .u8 (c.toNat:Int))++(Yf h b fill taken).toList.drop (8+f+s.length)).toArray[j]? =if j<8+f then (Yf h b fill taken)[j]? else if j<8+f+s.length then (s[j-(8+f)]?).map (λc=>Value.int .u8 (c.toNat:Int)) else (Yf h b fill taken)[j]? :=by
  intro j;simp only[MY];by_cases h1:j<8+f
  ·rw[Qv h1,AW (by rw[Kh,hl];omega),AW (by omega),Ty,Qv h1,Array.getElem?_toList]
  ·rw[Qr h1];by_cases h2:j<8+f+s.length
   ·rw[Qv h2,AW (by rw[Kh,hl,Fo];omega),fF (by omega),hl,LZ]
   ·rw[Qr h2,fF (by rw[Kh,hl,Fo];omega),Kh,hl,Fo,Fm,Array.getElem?_toList];congr 1;omega
 refine Nv ?_ (λi hi=>?_) (λi hi=>?_) ?_ ?_
 ·simp[Jv];omega
 ·rw[key,Qv (by omega),Ka hi]
 ·rw[key];unfold Oo;by_cases h1:8+i<8+f
  ·rw[Qv h1,Qr (by omega),Vx hi]
  ·rw[Qr h1];by_cases h2:8+i<8+f+s.length
   ·rw[Qv h2,Qv (by omega),show 8+i-(8+f)=i-f by omega,ZG,JZ (by omega)];rfl
   ·rw[Qr h2,Qr (by omega),Vx hi]
 ·rw[key,Qr (by omega),Qr (by omega),Zj]
 ·rw[key,Qr (by omega),Qr (by omega),J8]
theorem Oi {w:World}{g:Nat}{t:TypeId}{h0:Nat->BitVec 32}{B s:List UInt8}{k f:Nat}{b:Nat->Nat}(hb:∀i,b i<256) (hl:64*k+f=B.length) (hs:∀i,i<f->b i=(B.getD (64*k+i) 0).toNat) (hm:f+s.length<=64)
  (hB:Box w g t (Yf (Ra h0 B k) (Oo b f s) (f+s.length) (64*k))):jz w g t h0 (B++s) k (f+s.length) (Oo b f s) :=
 ⟨by rw[D6 k (by omega)];exact hB,jI hb,by rw[Kh];omega,hm,λi hi=>by
  unfold Oo;by_cases h1:f<=i
  ·rw[Qv ⟨h1,hi⟩,ZG,ZG,fF (by omega),show 64*k+i-B.length=i-f by omega]
  ·rw[Qr (by omega),hs i (by omega),ZG,ZG,AW (by omega)]⟩
theorem CP {P:Program}(w:World) (dT sT ty elem:TypeId) (g o dLen dCap:Nat) (s:List UInt8) (cur:Array Value) (t:TypeId)
  (hu:P.underlying dT=some (.slice elem)) (hs:(P.info? elem).map (·.size)=some 1) (hg:w.heap[g]? =some (.cells cur t (0,0))) (hfit:o+dLen<=cur.size) :
  (Builtin.copy_ #[dT,sT] ty #[.slice (some ⟨g,o,none⟩) dLen dCap,.string (Qb s)]).run P w =
   .ok (.int .i64 ((s.take dLen).length:Int)) (w.setRow g (cur.toList.take o++(s.take dLen).map (λc=>Value.int .u8 (c.toNat:Int))++cur.toList.drop (o+(s.take dLen).length)).toArray):=by
 have Bs:(s.take dLen).length<=dLen:=by rw[WV];omega
 have Ko:=run_storeCells_at P g o t ((s.take dLen).map (λc=>Value.int .u8 (c.toNat:Int))) 0 cur w hg (by rw[Fo];omega) (λv hv=>by obtain⟨b,_,rfl⟩:=Pq.1 hv;rfl);have sz:Nat.min (Qb s).size dLen=(s.take dLen).length:=by rw[Qh,WV];exact Nat.min_comm _ _
 have htk:List.take (s.take dLen).length (List.map (λb:UInt8=>Value.int IntKind.u8 (b.toNat:Int)) (Qb s).data.toList)=(s.take dLen).map (λc=>Value.int .u8 (c.toNat:Int)):=by
  rw[R2,←List.map_take,WV];congr 1;by_cases h:dLen<=s.length
  ·rw[gz h]
  ·rw[Nat.min_eq_right (by omega),AX (QW _),AX (by omega)]
 rw[Fo]at Ko;simp only[fO]at Ko;generalize s.take dLen=s' at *;cases hq:P.info? elem with
 | none=>simp[hq]at hs
 | some i =>
  have hi:i.size=1:=by simpa[hq]using hs
  simp[Builtin.copy_,SP hu,Builtin.lenOf,Builtin.firstCells,sizeOf,typeInfo,hq,hi,sz];rw[htk,Ko];simp[Result.andThen,goInt]
theorem eO (h:Nat->BitVec 32) (b:Nat->Nat) (fill taken:Nat):(Yf h b fill taken).all (·.oneCell')=true:=all_oneCell_toArray (λv hv=>by
 simp only[SN,Pq,TA,Td,L1]at hv;rcases hv with⟨i,_,rfl⟩|⟨i,_,rfl⟩|rfl|rfl<;>rfl)
theorem Cl (g f:Nat) (hf:f<64) (W:World):(Instr.sliceAt 111 (.pointer (some ⟨g,8,none⟩)) (some (.int .i64 (f:Int))) none none).run prog W=.ok (.slice (some ⟨g,8+f,none⟩) (64-f) (64-f)) W:=by
 rw[run_sliceAt_array_l (P:=prog) W 111 ⟨g,8,none⟩ (by simp[Program.arrayLen,Program.elem,underlying111]) .i64 (f:Int) (by omega) (by rw[show prog.arrayLen 111=64 by kernel_rfl];omega),show prog.arrayLen 111=64 by kernel_rfl,show prog.elem 111=5 by kernel_rfl];have hs:=TD;cases hq:prog.info? 5 with
 | none=>simp[hq]at hs
 | some i =>
  have hi:i.size=1:=by simpa[hq]using hs
  simp[sizeOf,typeInfo,hq,hi,slicedAt,Addr.add];rw[Qr (by omega)];split
  ·rename_i h;subst h;rfl
  ·rfl
def aB:Value->Nat
 | .string s=>s.size
 | _=>0
theorem iQ {k f n:Nat}(h:64*k+f=n) (h1:1<=f) (h2:f<=64):k=CO n:=by unfold CO;omega
theorem bu (h0:Nat->BitVec 32) (B0 P:List UInt8) (g:Nat) (t:TypeId) (w:World) (hS:WU w g t h0 B0) (hg:1<g) (hl:B0.length+P.length<4611686018427387904) (hT:Yg w) :
  Calls prog 66 #[.pointer (some ⟨g,0,none⟩),.string (Qb P)] w λe w'=>e=.returned (.tuple #[])/\WU w' g t h0 (B0++P)/\w.grownBy w' (some g):=by
 have hz:=Qh;go_enter func66,ntmps66;go_wp2_with fail;go_loopw [1] (λs wx=>∃j:Nat,j<=P.length/\s=.string (Qb (P.drop j))/\WU wx g t h0 (B0++P.take j)/\w.grownBy wx (some g)/\Yg wx) (λs _=>aB s);case atStart=>exact⟨0,by omega,rfl,by rw[Yt,SO];exact hS,Z0 _ _,hT⟩
 case round =>
  clear hS hT;obtain⟨j,hj,rfl,⟨k,f,b,hM,hk⟩,gk,Ga⟩:=hrel;by_cases Qo:j<P.length
  ·have QY:0<(P.drop j).length:=by rw[WQ];omega
   have HNE:=Qa (show(P.take j)++(P.drop j)=P from fH j P);have HB:=Qa (show(B0++P.take j).length+(P.drop j).length<4611686018427387904 by rw[Kh,WV,WQ];omega);have HJ:=Qa (show∀n,P.take (j+n)=P.take j++(P.drop j).take n fromλn=>List.take_add);have HD:=Qa (show∀n,P.drop (j+n)=(P.drop j).drop n fromλn=>by rw[hU]);have HL:=Qa (show(P.drop j).length=P.length-j from WQ);have HR:Zv (∀n wx,WU wx g t h0 ((B0++P.take j)++(P.drop j).take n)->WU wx g t h0 (B0++P.take (j+n))):=Qa (λn wx h=>by rw[HJ.o,←ar];exact h);generalize B0++P.take j=B at *;generalize P.drop j=R at *;have tB:(0:Int)<(R.length:Int):=by omega
   have fi:wr.cell? ⟨g,72,none⟩=some (.int .i64 (f:Int)):=(hM.box.cell 72).trans Zj;go_upto_if 12 with fail;go_cut [13,14,15,16,17,18,19,20,21,22,23,24] (λ_ _ _ _ _ _ _ _ _ _ _ _ wx=>∃k' f' b',jz wx g t h0 B k' f' b'/\f'<64/\w.grownBy wx (some g)/\Yg wx);case first =>
    by_cases hf:f=64
    ·subst hf;have sQ:=hM.len;have hHB:=HB.o;have Ye:=hM.box;have qD:=hM.byte;have tJ:=Qa hM.same;obtain⟨T,hT⟩:∃T,T=64*k:=⟨_,rfl⟩
     rw[←hT]at Ye sQ;have rH:=Qa hT;clear hT hM;have wC:wr.cell? ⟨g,73,none⟩=some (.int .u64 (T:Int)):=(Ye.cell 73).trans J8;have uz:=Ye.frozen 73;have IF:Box (wr.setCell ⟨g,73,none⟩ (.int .u64 ((T:Int)+64))) g t (Yf (Ra h0 B k) b 64 (T+64)):=by rw[←WL (taken:=T)];exact Ye.set 73 _
     have dE:=Ga.set (i:=73) hg (.int .u64 ((T:Int)+64));have g2:=Jw (i:=73) gk (.int .u64 ((T:Int)+64));go_wp2_with (go_at_call 123;refine(G5 (Ra h0 B k) b 64 (T+64) g t false _ IF hg qD (by omega) dE).mono ?_;rintro e w2 ⟨rfl,iY,g3⟩;have k72':w2.cell? ⟨g,72,none⟩=some (.int .i64 64):=(iY.cell 72).trans Zj;have f72:=iY.frozen 72)
     go_meet;refine⟨k+1,0,b,⟨?_,qD,by have:=rH.o;omega,by omega,λi hi=>by omega⟩,by omega,Jw (World.grownBy.trans g2 g3) _,(dE.grown hg g3).set hg _⟩;have mx:=iY.set 72 (.int .i64 0);rw[show(Value.int .i64 0)=.int .i64 ((0:Nat):Int) from rfl,NR,rH.o,E7 tJ.o]at mx;exact mx
    ·have ii:((f:Int)==64)=false:=by simp;omega
     go_wp2_with fail;go_meet;exact⟨k,f,b,hM,by have:=hM.most;omega,gk,Ga⟩
   case rest =>
    obtain⟨k',f',b',hM',ii,g',hT'⟩:=hcut;clear hM Ga gk fi hk;clear b f k;obtain⟨n,hn⟩:∃n,n=(R.take (64-f')).length:=⟨_,rfl⟩
    have dM:1<=n:=by rw[hn,WV];omega
    have vk:n<=R.length:=by rw[hn,WV];omega
    have nb:f'+n<=64:=by rw[hn,WV];omega
    have HRn:=Qa (show R.take (64-f')=R.take n by rw[hn,WV,List.take_eq_take_min]);have lX:=Qa (show(R.take n).length=n by rw[WV];omega);have kO:(Qb R).extract n R.length=Qb (R.drop n):=by rw[JJ,AX (by rw[WQ];omega)]
    clear hn;have fi:∀z:Qg wc,z.now.cell? ⟨g,72,none⟩=some (.int .i64 (f':Int)):=λz=>((hM'.box.ext z.ext).cell 72).trans Zj;have hfi:(f':Int)<=64:=by omega
    have IX:=λW=>Cl g f' (by omega) W;go_upto_region 5 with fail;try simp only[Act.put]
    refine Qc 9 (by kernel_rfl) (by kernel_rfl) ?_;simp only[Yh,Yt,YB,Yu];repeat (go_big_quiet_step (fail))
    refine Y7 ?_;rintro z ⟨x,rfl⟩;have Ye:=hM'.box.ext x.ext;have nI:=λty cp=>CP (P:=prog) x.now 167 9 ty 5 g (8+f') (64-f') cp R (Yf (Ra h0 B k') b' f' (64*k')) t underlying167 TD Ye (by rw[Jv];omega);rw[HRn.o,O7 (by rw[lX.o];exact nb),lX.o]at nI;have BA:=VS x.now g (Yf (Ra h0 B k') (Oo b' f' (R.take n)) f' (64*k'));have ZS:=Wc (ds:=Yf (Ra h0 B k') (Oo b' f' (R.take n)) f' (64*k')) Ye;have g1:=World.grownBy.trans (Qm g' x.ext) BA;have IG:=(hT'.ext x.ext).grown hg BA;go_upto_region 6 with fail;generalize x.now.setRow g (Yf (Ra h0 B k') (Oo b' f' (R.take n)) f' (64*k'))=w5 at *;clear nI BA Ye fi;have fi:w5.cell? ⟨g,72,none⟩=some (.int .i64 (f':Int)):=(ZS.cell 72).trans Zj;have f72:=ZS.frozen 72;have Kj:Box (w5.setCell ⟨g,72,none⟩ (.int .i64 ((f':Int)+(n:Int)))) g t (Yf (Ra h0 B k') (Oo b' f' (R.take n)) (f'+n) (64*k')):=by rw[←NR (fill:=f') (f'+n)];exact ZS.set 72 _
    have dD:=Oi hM'.byte hM'.len hM'.same (by rw[lX.o];exact nb) (by rw[lX.o];exact Kj)
    have sJ:WU (w5.setCell ⟨g,72,none⟩ (.int .i64 ((f':Int)+(n:Int)))) g t h0 (B++R.take n) :=
     ⟨k',_,_,dD,iQ dD.len (by rw[lX.o];omega) dD.most⟩
    clear dD Kj;go_wp2_with fail;go_roundw;case rel=>exact⟨j+n,by have:=HL.o;omega,by rw[HD.o],HR.o n _ sJ,Jw g1 _,IG.set hg _⟩
    case measure=>simp[aB,hz];omega
  ·obtain rfl:j=P.length:=by omega
   have hd:P.drop P.length=[]:=List.drop_length;have hS:WU wr g t h0 (B0++P.take P.length):=⟨k,f,b,hM,hk⟩
   rw[L9]at hS;rw[hd];clear hM hk hd;go_wp2_with fail;go_end0;exact⟨rfl,hS,gk⟩
def KT (n:Nat) (D:Nat->Nat):Array Value:=((List.range n).map λi=>Value.int .u8 (D i:Int)).toArray
def eT (D:Nat->Nat) (a x:Nat):Nat->Nat:=λj=>if j=a then x else D j
theorem ZW (n:Nat) (D:Nat->Nat):(KT n D).size=n:=by simp[KT]
theorem Xk {n:Nat}{D:Nat->Nat}{i:Nat}(h:i<n):(KT n D)[i]? =some (.int .u8 (D i:Int)):=by simp[KT,h]
theorem Ny {n:Nat}{D D':Nat->Nat}(e:∀i,i<n->D i=D' i):KT n D=KT n D':=by
 apply Array.ext_getElem?;intro j;by_cases hj:j<n
 ·rw[Xk hj,Xk hj,e j hj]
 ·rw[Array.getElem?_eq_none (by simp[ZW];omega),Array.getElem?_eq_none (by rw[ZW];omega)]
theorem eS {n:Nat}{D:Nat->Nat}{i:Nat}(x:Nat):(KT n D).setIfInBounds i (.int .u8 (x:Int))=KT n (eT D i x):=by
 apply Array.ext_getElem?;intro j;by_cases hj:j<n
 ·rw[Xk hj,Array.getElem?_setIfInBounds];by_cases e:i=j
  ·subst e;simp[eT,ZW,hj]
  ·rw[Qr e,Xk hj];simp[eT,Fq e]
 ·rw[Array.getElem?_eq_none (by simp[ZW];omega),Array.getElem?_eq_none (by rw[ZW];omega)]
theorem eR (n:Nat) (D:Nat->Nat):(KT n D).all (·.oneCell')=true:=all_oneCell_toArray (λv hv=>by
 obtain⟨i,_,rfl⟩:=Pq.1 hv;rfl)
def cN (h0:Nat->BitVec 32) (B:List UInt8):Array Value:=KT 32 (λi=>(W9 h0 B (i/4)).toNat/256^(i%4)%256)
theorem XO:(prog.info? 71).map (·.size)=some 32:=by kernel_rfl
theorem E4:(prog.info? 113).map (·.size)=some 74:=by kernel_rfl
section
variable {ops:Array Oper}{rest:List Oper}{o:Oper}{a:Act}{w:World}{Q:Exit->Act->World->Prop}
theorem KX (x y:Operand) (Q7:o.guard=none) (ho:o.op=.store 113 x y) (g:Nat) (h:Nat->BitVec 32) (b:Nat->Nat) (fill taken:Nat) (old:Array Value) (t:TypeId) (hx:a.eval x=.pointer (some ⟨g,0,none⟩)) (hy:a.eval y=.agg (Yf h b fill taken))
  (hb:Box w g t old) (hold:old.size=74) (hK:∀w',Box w' g t (Yf h b fill taken)->w.grownBy w' (some g)->wpList prog ops Q rest (a.put o.dst undef) w'):wpList prog ops Q (o::rest) a w :=
 Yv _ x y Q7 ho g _ old t hx hy hb (by rw[Jv];exact E4) (by rw[Jv,hold]) (eO _ _ _ _) hK
theorem Fh (x:Operand) (Q7:o.guard=none) (ho:o.op=.load 113 x) (g:Nat) (h:Nat->BitVec 32) (b:Nat->Nat) (fill taken:Nat) (t:TypeId) (hx:a.eval x=.pointer (some ⟨g,0,none⟩))
  (hb:Box w g t (Yf h b fill taken)) (hK:wpList prog ops Q rest (a.put o.dst (.agg (Yf h b fill taken))) w):wpList prog ops Q (o::rest) a w :=
 XZ _ x Q7 ho g _ t _ hx hb underlying113 rfl (by rw[Jv];exact E4) hK
theorem eV (x:Operand) (Q7:o.guard=none) (ho:o.op=.load 110 x) (g:Nat) (h:Nat->BitVec 32) (b:Nat->Nat) (fill taken:Nat) (t:TypeId) (hx:a.eval x=.pointer (some ⟨g,0,none⟩))
  (hb:Box w g t (Yf h b fill taken)) (hK:wpList prog ops Q rest (a.put o.dst (.agg (Js 8 h))) w):wpList prog ops Q (o::rest) a w :=
 wpList_load_mid Q7 _ x ho g 0 hx (Js 8 h).toList _ (λj v hj=>by
  have nO:j<8:=by have:=(PO.1 hj).1;rw[be,J9]at this;exact this
  rw[Ux,hb.cell j,Ka nO,←hj,Array.getElem?_toList,Y0 nO]) underlying110 rfl (by rw[be,J9];exact SR) (by simpa using hK)
theorem MN (x y:Operand) (Q7:o.guard=none) (ho:o.op=.store 71 x y) (g:Nat) (D:Nat->Nat) (old:Array Value) (t:TypeId) (hx:a.eval x=.pointer (some ⟨g,0,none⟩)) (hy:a.eval y=.agg (KT 32 D))
  (hb:Box w g t old) (hold:old.size=32) (hK:∀w',Box w' g t (KT 32 D)->w.grownBy w' (some g)->wpList prog ops Q rest (a.put o.dst undef) w'):wpList prog ops Q (o::rest) a w :=
 Yv _ x y Q7 ho g _ old t hx hy hb (by rw[ZW];exact XO) (by rw[ZW,hold]) (eR _ _) hK
theorem AL (x:Operand) (Q7:o.guard=none) (ho:o.op=.load 71 x) (g:Nat) (D:Nat->Nat) (t:TypeId) (hx:a.eval x=.pointer (some ⟨g,0,none⟩))
  (hb:Box w g t (KT 32 D)) (hK:wpList prog ops Q rest (a.put o.dst (.agg (KT 32 D))) w):wpList prog ops Q (o::rest) a w :=
 XZ _ x Q7 ho g _ t _ hx hb underlying71 rfl (by rw[ZW];exact XO) hK
end
theorem Hi:prog.built 113 [(0,.agg (Js 8 Zb))]=some (Yf Zb (λ_=>0) 0 0):=by kernel_rfl
theorem Fe {ops:Array Oper}{rest:List Oper}{o:Oper}{a:Act}{w:World}{Q:Exit->Act->World->Prop}(x:Operand) (Q7:o.guard=none) (ho:o.op=.build 113 #[(0,x)]) (hx:a.eval x=.agg (Js 8 Zb))
  (hK:wpList prog ops Q rest (a.put o.dst (.agg (Yf Zb (λ_=>0) 0 0))) w):wpList prog ops Q (o::rest) a w:=by
 have e:prog.built 113 ((#[(0,x)]:Array (Nat × Operand)).map λ(i,x)=>(i,a.eval x)).toList=some (Yf Zb (λ_=>0) 0 0):=by simp only[fG,FN,Cy,hx];exact Hi
 exact wpList_build Q7 _ _ ho (by rw[e];rfl) (by rw[e];exact hK)
theorem K4:Tryz.zeroCells113.size=74:=by kernel_rfl
theorem CC (w:World) (hT:Yg w):Calls prog 65 #[.bool false] w λe w'=>e=.returned (.agg (Yf Zm (λ_=>0) 0 0))/\Ext w w':=by
 go_enter func65,ntmps65;go_upto_region 1 with fail;have r0:=QA w 113 Tryz.zeroCells113;have x0:Ext w (w.alloc (.cells Tryz.zeroCells113 113)):=(Qf w).alloc _;generalize w.alloc (.cells Tryz.zeroCells113 113)=w1 at *;have IG:=hT.ext x0;have Qo:=r0.lt;generalize hG:w.heap.size=G at *
 go_upto_region 2 with(first
  | (refine NW (.global 0) rfl rfl rfl IG ?_)
  | (refine Fe (.tmp 4) rfl rfl rfl ?_)
  | (refine KX (.tmp 3) (.tmp 5) rfl rfl w1.heap.size Zb (λ_=>0) 0 0 _ 113 rfl rfl (QA _ _ _) K4 ?_;intro w2 b2 g2))
 have y2:Ext w1 w2:=((Qf w1).alloc _).grown g2 (λj e=>by cases e;exact QW _);have x2:=x0.trans y2;have r2:=r0.ext y2;have c0:w2.cell? ⟨w1.heap.size,0,none⟩=some (.int .u32 ((Zb 0).toNat:Int)):=(b2.cell 0).trans (Ka (by omega));have f0:=b2.frozen 0;have hX:bits .xor .u32 ((Zb 0).toNat:Int) 16842784=((Zm 0).toNat:Int):=by kernel_rfl
 clear r0 IG hT x0 y2 g2;generalize w1.heap.size=g at *;have IJ:Box (w2.setCell ⟨g,0,none⟩ (.int .u32 ((Zm 0).toNat:Int))) g 113 (Yf Zm (λ_=>0) 0 0):=by have:=b2.set 0 (.int .u32 ((Zm 0).toNat:Int));rw[GW (by omega)]at this;exact this
 have r3:=r2.setOther (show G≠g by omega) (i:=0) (.int .u32 ((Zm 0).toNat:Int));have x3:=x2.setCell (p:=⟨g,0,none⟩) (by rw[hG];show G<=g;omega) (.int .u32 ((Zm 0).toNat:Int))
 go_wp2_with (first
  | (refine Fh (.tmp 3) rfl rfl g Zm (λ_=>0) 0 0 113 rfl IJ ?_)
  | (refine KX (.tmp 2) (.tmp 19) rfl rfl G Zm (λ_=>0) 0 0 _ 113 rfl rfl r3 K4 ?_;intro w4 b4 g4))
 exact ZD (QG rfl _ _ G _ _ _ rfl b4 underlying113 rfl (by rw[Jv];exact E4)) rfl ⟨rfl,x3.grown g4 (λj e=>by cases e;omega)⟩
def ET (cs:Array Value) (o:Nat):List Value->Array Value
 | []=>cs
 | v::l=>ET (cs.setIfInBounds o v) (o+1) l
theorem KQ:∀(l:List Value) (cs:Array Value) (o j:Nat),(ET cs o l)[j]? =if o<=j/\j<o+l.length/\j<cs.size then l[j-o]? else cs[j]?
 | [],cs,o,j=>by rw[Qr (by simp;omega)];rfl
 | v::l,cs,o,j=>by
  rw[ET,KQ l,mD,YV];by_cases e:o=j
  ·subst e;rw[Qr (by omega),Array.getElem?_setIfInBounds,Qv rfl];by_cases hs:o<cs.size
   ·rw[Qv hs,Qv (by omega),Nat.sub_self];rfl
   ·rw[Qr hs,Qr (by omega),Array.getElem?_eq_none (by omega)]
  ·rw[Array.getElem?_setIfInBounds,Qr e];by_cases c:o+1<=j/\j<o+1+l.length/\j<cs.size
   ·rw[Qv c,Qv (by omega),show j-o=(j-(o+1))+1 by omega];rfl
   ·rw[Qr c,Qr (by omega)]
theorem MI:∀(l:List Value) (cs:Array Value) (o:Nat),(ET cs o l).size=cs.size
 | [],_,_=>rfl
 | v::l,cs,o=>by rw[ET,MI l,mD]
theorem Wh {w:World}{g:Nat}{t:TypeId}:∀(l:List Value) (cs:Array Value) (o:Nat) (w:World),Box w g t cs->Box (w.setCells g o l) g t (ET cs o l)
 | [],_,_,_,h=>h
 | v::l,cs,o,w,h=>Wh (w:=w) l (cs.setIfInBounds o v) (o+1) (w.setCell ⟨g,o,none⟩ v) (h.set o v)
theorem CN (ty:TypeId) (g f:Nat) (hf:f<64) (h:Nat->BitVec 32) (b:Nat->Nat) (fill taken:Nat) (t:TypeId) (w:World) (hb:Box w g t (Yf h b fill taken)) (cp:Nat) :
  ∃w',(Builtin.clear_ #[167] ty #[.slice (some ⟨g,8+f,none⟩) (64-f) cp]).run prog w=.ok (.tuple #[]) w'/\Box w' g t (Yf h (λi=>if i<f then b i else 0) fill taken)/\w.grownBy w' (some g):=by
 refine⟨_,Lib.run_clear_slice w 167 5 ty (.int .u8 0) underlying167 (λw=>by kernel_rfl) rfl rfl g (8+f) (64-f) cp (by omega) (λj hj=>?_) (λj hj=>hb.frozen _),?_,Kx _ _ _⟩
 ·rw[hb.cell,show 8+f+j=8+(f+j) by omega,Vx (by omega)];rfl
 ·have:=Wh (w:=w) (List.replicate (64-f) (.int .u8 0)) _ (8+f) w hb
  rw[show ET (Yf h b fill taken) (8+f) (List.replicate (64-f) (.int .u8 0))=Yf h (λi=>if i<f then b i else 0) fill taken from
   Nv (by rw[MI,Jv])
    (λi hi=>by rw[KQ,Qr (by omega),Ka hi])
    (λi hi=>by
     rw[KQ,List.length_replicate,Jv];by_cases c:i<f
     ·rw[Qr (by omega),Qv c,Vx hi]
     ·rw[Qv (by omega),Qr c,List.getElem?_replicate,Qv (by omega)];rfl)
    (by rw[KQ,List.length_replicate,Qr (by omega),Zj])
    (by rw[KQ,List.length_replicate,Qr (by omega),J8])]at this
  exact this
theorem Ix {h0:Nat->BitVec 32}{B:List UInt8}{k f:Nat}{b:Nat->Nat}(hl:64*k+f=B.length) (hf:f<=64) (hk:k=CO B.length) (hs:∀i,i<f->b i=(B.getD (64*k+i) 0).toNat) :
  Kc (Ra h0 B k) (JS λi=>if i<f then b i else 0) B.length true=W9 h0 B:=by
 unfold W9;rw[←hk];refine NS λj hj=>NV (λi hi=>?_) hj;rw[PV hi];by_cases c:i<f
 ·rw[Qv c,hs i c]
 ·rw[Qr c,ZG,Fl (by omega)];rfl
theorem eK (g:Nat) (W:World):(Instr.sliceAt 111 (.pointer (some ⟨g,8,none⟩)) (some (.int .i64 64)) none none).run prog W=.ok (.slice (some ⟨g,8,none⟩) 0 0) W:=by
 rw[run_sliceAt_array_l (P:=prog) W 111 ⟨g,8,none⟩ (by simp[Program.arrayLen,Program.elem,underlying111]) .i64 64 (by omega) (by rw[show prog.arrayLen 111=64 by kernel_rfl];omega),show prog.arrayLen 111=64 by kernel_rfl,show prog.elem 111=5 by kernel_rfl];have hs:=TD;cases hq:prog.info? 5 with
 | none=>simp[hq]at hs
 | some i =>
  have hi:i.size=1:=by simpa[hq]using hs
  simp[sizeOf,typeInfo,hq,hi,slicedAt]
theorem FR (ty:TypeId) (a:Addr) (cp:Nat) (w:World):(Builtin.clear_ #[167] ty #[.slice (some a) 0 cp]).run prog w=.ok (.tuple #[]) w:=by
 simp[Builtin.clear_,SP underlying167]
theorem cQ (h0:Nat->BitVec 32) (B:List UInt8) (g:Nat) (t:TypeId) (w:World) (hS:WU w g t h0 B) (hg:1<g) (hl:B.length<4611686018427387904) (hT:Yg w) :
  Calls prog 67 #[.pointer (some ⟨g,0,none⟩)] w λe w'=>e=.returned (.agg (cN h0 B))/\w.grownBy w' (some g):=by
 obtain⟨k,f,b,hM,hk⟩:=hS;have Vb:=hM.len;have vb:=hM.most;obtain⟨T,aw⟩:∃T,T=64*k:=⟨_,rfl⟩
 have Ye:=hM.box;rw[←aw]at Ye Vb;have rH:=Qa aw;have jt:=Qa hM;have HK:=Qa hk;clear aw hM hk;have sc:g<w.heap.size:=Ye.lt;go_enter func67,ntmps67;go_upto_region 1 with fail;change Code.wp _ _ _ _ (w.alloc (.cells (KT 32 λ_=>0) 71));have r0:=QA w 71 (KT 32 λ_=>0);have x0:Ext w (w.alloc (.cells (KT 32 λ_=>0) 71)):=(Qf w).alloc _;have dG:=Ye.ext x0;have IG:=hT.ext x0;have g0:w.grownBy (w.alloc (.cells (KT 32 λ_=>0) 71)) (some g):=Qm (Z0 w _) x0;generalize w.alloc (.cells (KT 32 λ_=>0) 71)=w1 at *;obtain⟨G,hG⟩:∃G,G=w.heap.size:=⟨_,rfl⟩
 rw[←hG]at r0 sc ⊢;have ei:=Qa (show w.heap.size<=G by omega);clear hG Ye hT x0;have fi:∀z:Qg w1,z.now.cell? ⟨g,72,none⟩=some (.int .i64 (f:Int)):=λz=>((dG.ext z.ext).cell 72).trans Zj;have wC:∀z:Qg w1,z.now.cell? ⟨g,73,none⟩=some (.int .u64 (T:Int)):=λz=>((dG.ext z.ext).cell 73).trans J8;try simp only[Act.put]
 refine Qc 12 (by kernel_rfl) (by kernel_rfl) ?_;simp only[Yh,Yt,YB,Yu];repeat (go_big_quiet_step (fail))
 refine Y7 ?_;rintro z ⟨x,rfl⟩;have ZS:=dG.ext x.ext;have c73:x.now.cell? ⟨g,73,none⟩=some (.int .u64 (T:Int)):=(ZS.cell 73).trans J8;have uz:=ZS.frozen 73;go_upto_region 2 with fail;have Kj:Box (x.now.setCell ⟨g,73,none⟩ (.int .u64 ((T:Int)+(f:Int)))) g t (Yf (Ra h0 B k) b f B.length):=by have:=ZS.set 73 (.int .u64 ((T:Int)+(f:Int)));rw[show(T:Int)+(f:Int)=((B.length:Nat):Int) by omega,WL]at this;rw[show(T:Int)+(f:Int)=((B.length:Nat):Int) by omega];exact this
 have r2:=(r0.ext x.ext).setOther (show G≠g by omega) (i:=73) (.int .u64 ((T:Int)+(f:Int)));have g2:=Jw (i:=73) (Qm g0 x.ext) (.int .u64 ((T:Int)+(f:Int)));have dE:=(IG.ext x.ext).set (i:=73) hg (.int .u64 ((T:Int)+(f:Int)));generalize x.now.setCell ⟨g,73,none⟩ (.int .u64 ((T:Int)+(f:Int)))=w2 at *;clear dG ZS c73 uz fi wC IG g0 r0;clear x;have fi:∀z:Qg w2,z.now.cell? ⟨g,72,none⟩=some (.int .i64 (f:Int)):=λz=>((Kj.ext z.ext).cell 72).trans Zj;go_cut [19,20,21,22,23,24,25,26] (λ_ _ _ _ _ _ _ _ wx=>Box wx g t (Yf (Ra h0 B k) (λi=>if i<f then b i else 0) f B.length)/\Box wx G 71 (KT 32 λ_=>0)/\w.grownBy wx (some g)/\Yg wx);case first =>
  by_cases hf:f=64
  ·subst hf;have IX:=λW=>eK g W;go_upto_region 2 with fail;try simp only[Act.put]
   refine Qc 8 (by kernel_rfl) (by kernel_rfl) ?_;simp only[Yh,Yt,YB,Yu];repeat (go_big_quiet_step (fail))
   refine Y7 ?_;rintro z ⟨x,rfl⟩;have hcl:=λty cp=>FR ty ⟨g,8,none⟩ cp x.now;go_wp2_with fail;go_meet;rw[Un (h':=Ra h0 B k) (b':=b) (λ_ _=>rfl) (λi hi=>by rw[Qv hi])];exact⟨Kj.ext x.ext,r2.ext x.ext,Qm g2 x.ext,dE.ext x.ext⟩
  ·have IX:=λW=>Cl g f (by omega) W;go_upto_region 2 with fail;try simp only[Act.put]
   refine Qc 8 (by kernel_rfl) (by kernel_rfl) ?_;simp only[Yh,Yt,YB,Yu];repeat (go_big_quiet_step (fail))
   refine Y7 ?_;rintro z ⟨x,rfl⟩;obtain⟨w3,hcl,IJ,g3⟩:=CN 0 g f (by omega) (Ra h0 B k) b f B.length t x.now (Kj.ext x.ext) (64-f);go_wp2_with fail;go_meet;exact⟨IJ,(r2.ext x.ext).grown g3 (by intro e;injection e with e;omega),World.grownBy.trans (Qm g2 x.ext) g3,(dE.ext x.ext).grown hg g3⟩
 case rest =>
  obtain⟨IJ,r3,g3,kM⟩:=hcut;clear fi Kj r2 g2 dE;have Ec:∀i,(if i<f then b i else 0)<256:=λi=>by
   split
   ·exact jt.o.byte i
   ·omega
  go_upto_region 4 with(go_at_call 123;refine(G5 (Ra h0 B k) (λi=>if i<f then b i else 0) f B.length g t true wc IJ hg Ec (by omega) kM).mono ?_;rintro e w4 ⟨rfl,DW,g4⟩)
  rw[Ix jt.o.len jt.o.most HK.o jt.o.same]at DW;have r4:=r3.grown g4 (by intro e;injection e with e;omega);have g5:=World.grownBy.trans g3 g4;clear IJ r3 g3 g4 kM Ec;go_upto_region 5 with fail;change Code.wp _ _ _ _ (w4.alloc (.cells (KT 32 λ_=>0) 71));have d5:=QA w4 71 (KT 32 λ_=>0);have x5:Ext w4 (w4.alloc (.cells (KT 32 λ_=>0) 71)):=(Qf w4).alloc _;have fX:=DW.ext x5;have r5:=r4.ext x5;have g6:=Qm g5 x5;have py:G<w4.heap.size:=r4.lt;generalize w4.alloc (.cells (KT 32 λ_=>0) 71)=w5 at *;generalize w4.heap.size=gd at *;have lM:=Qa (show cN h0 B=KT 32 (λp=>(W9 h0 B (p/4)).toNat/256^(p%4)%256) from rfl);obtain⟨F,hF⟩:∃F,F=W9 h0 B:=⟨_,rfl⟩
  rw[←hF]at fX lM;clear hF DW r4 g5 x5;go_wp2_with (refine eV (.tmp 31) rfl rfl g F _ f B.length t rfl fX ?_)
  go_loopw [33] (λi wx=>∃q:Nat,q<=8/\i=.int .i64 q/\Box wx gd 71 (KT 32 (λp=>if p<4*q then (F (p/4)).toNat/256^(p%4)%256 else 0))/\Box wx G 71 (KT 32 λ_=>0)/\w.grownBy wx (some g)) (λi _=>8-(intOf i).toNat);case atStart=>exact⟨0,by omega,rfl,by rw[Ny (D':=λ_=>0) (λi _=>by simp)];exact d5,r5,g6⟩
  case round =>
   clear d5 r5 g6 fX;obtain⟨q,hq,rfl,dq,rq,gq⟩:=hrel;by_cases Qo:q<8
   ·have vq:(q:Int)<8:=by omega
    go_wp2_with (refine Pf 110 underlying110 (.tmp 32) (.tmp 33) rfl rfl F q rfl rfl Qo ?_)
    go_loopw [37] (λi wx=>∃j:Nat,j<=4/\i=.int .i64 j/\Box wx gd 71 (KT 32 (λp=>if p<4*q+j then (F (p/4)).toNat/256^(p%4)%256 else 0))/\Box wx G 71 (KT 32 λ_=>0)/\w.grownBy wx (some g)) (λi _=>4-(intOf i).toNat);case atStart=>exact⟨0,by omega,rfl,dq,rq,gq⟩
    case round =>
     clear dq rq gq;obtain⟨j,hj,rfl,dq,rq,gq⟩:=hrel;by_cases hlj:j<4
     ·have fz:=dq.frozen (4*q+j);have iz:=(dq.cell (4*q+j)).trans (Xk (show 4*q+j<32 by omega));have key:∀x:Nat,x=(F q).toNat/256^j%256->Box (wr.setCell ⟨gd,4*q+j,none⟩ (.int .u8 (x:Int))) gd 71 (KT 32 (λp=>if p<4*q+(j+1) then (F (p/4)).toNat/256^(p%4)%256 else 0)):=λx hx=>by
       have h1:=dq.set (4*q+j) (.int .u8 (x:Int));rw[eS,Ny (D':=λp=>if p<4*q+(j+1) then (F (p/4)).toNat/256^(p%4)%256 else 0) (λp _=>by
        simp only[eT];by_cases e:p=4*q+j
        ·subst e;rw[Qv rfl,Qv (by omega),hx,show(4*q+j)/4=q by omega,show(4*q+j)%4=j by omega]
        ·rw[Qr e];by_cases e2:p<4*q+j
         ·rw[Qv e2,Qv (by omega)]
         ·rw[Qr e2,Qr (by omega)])]at h1
       exact h1
      rcases(show j=0\/j=1\/j=2\/j=3 by omega) with rfl|rfl|rfl|rfl
      ·have fz:=dq.frozen (4*q);have iz:=(dq.cell (4*q)).trans (Xk (show 4*q<32 by omega));have hk:=key ((F q).toNat%256) (by simp);rw[show(((((F q).toNat%256:Nat)):Nat):Int)=((F q).toNat:Int)%256 by omega]at hk;clear key;go_wp2_with fail;go_roundw;case rel=>exact⟨1,by omega,rfl,hk,rq.setOther (by omega) _,ZK gq (by have:=ei.o;omega) _⟩
       case measure=>simp[intOf]
      ·have fz:=dq.frozen (4*q+1);have iz:=(dq.cell (4*q+1)).trans (Xk (show 4*q+1<32 by omega));have hk:=key ((F q).toNat/256%256) (by simp);rw[show(((((F q).toNat/256%256:Nat)):Nat):Int)=((F q).toNat:Int)/256%256 by omega]at hk;clear key;go_wp2_with fail;go_roundw;case rel=>exact⟨2,by omega,rfl,hk,rq.setOther (by omega) _,ZK gq (by have:=ei.o;omega) _⟩
       case measure=>simp[intOf]
      ·have fz:=dq.frozen (4*q+2);have iz:=(dq.cell (4*q+2)).trans (Xk (show 4*q+2<32 by omega));have hk:=key ((F q).toNat/65536%256) (by simp);rw[show(((((F q).toNat/65536%256:Nat)):Nat):Int)=((F q).toNat:Int)/65536%256 by omega]at hk;clear key;go_wp2_with fail;go_roundw;case rel=>exact⟨3,by omega,rfl,hk,rq.setOther (by omega) _,ZK gq (by have:=ei.o;omega) _⟩
       case measure=>simp[intOf]
      ·have fz:=dq.frozen (4*q+3);have iz:=(dq.cell (4*q+3)).trans (Xk (show 4*q+3<32 by omega));have hk:=key ((F q).toNat/16777216) (by
        have:=(F q).isLt;show _=(F q).toNat/16777216%256;omega)
       rw[show(((((F q).toNat/16777216:Nat)):Nat):Int)=((F q).toNat:Int)/16777216 by omega]at hk;clear key;go_wp2_with fail;go_roundw;case rel=>exact⟨4,by omega,rfl,hk,rq.setOther (by omega) _,ZK gq (by have:=ei.o;omega) _⟩
       case measure=>simp[intOf]
     ·obtain rfl:j=4:=by omega
      go_wp2_with fail;go_roundw;case rel=>exact⟨q+1,by omega,by go_num,by rw[show 4*(q+1)=4*q+4 by omega];exact dq,rq,gq⟩
      case measure=>simp[intOf];omega
   ·obtain rfl:q=8:=by omega
    rw[Ny (D':=λp=>(F (p/4)).toNat/256^(p%4)%256) (λi hi=>by rw[Qv (by omega)])]at dq
    go_wp2_with (first
     | (refine AL (.tmp 3) rfl rfl gd _ 71 rfl dq ?_)
     | (refine MN (.tmp 2) (.tmp 52) rfl rfl G _ _ 71 rfl rfl rq rfl ?_;intro w9 b9 g9))
    exact ZD (QG rfl _ _ G _ _ _ rfl b9 underlying71 rfl (by rw[ZW];exact XO)) rfl ⟨congrArg (λa=>Ending.returned (.agg a)) lM.o.symm,World.grownBy.andThen gq g9 (λj e=>by cases e;exact .inl ei.o)⟩
theorem Yg.lt {w:World}(h:Yg w):1<w.heap.size:=fD w _ (h.2 0 (.int .u8 0) rfl)
theorem O8 {w:World}{g:Nat}{t:TypeId}(h:Box w g t (Yf Zm (λ_=>0) 0 0)):WU w g t Zm [] :=
 ⟨0,0,λ_=>0,⟨h,λ_=>by omega,rfl,by omega,λi hi=>by omega⟩,rfl⟩
theorem WU.ext {w w':World}{g:Nat}{t:TypeId}{h0:Nat->BitVec 32}{B:List UInt8}(h:WU w g t h0 B) (x:Ext w w'):WU w' g t h0 B:=by
 obtain⟨k,f,b,hM,hk⟩:=h;exact⟨k,f,b,hM.ext x,hk⟩
theorem cw {L:List (List UInt8)}{k:Nat}:(L.take k).flatten.length<=L.flatten.length:=by
 have h:(L.take k).flatten++(L.drop k).flatten=L.flatten:=by rw[←List.flatten_append,fH]
 rw[←h,Kh];omega
theorem Tu (A:Option Addr) (n c:Nat) (L:List (List UInt8)) (w:World) (h:Strs w A n L) (hl:L.flatten.length<1073741824) (hn:n<=9223372036854775807) (hT:Yg w) :
  Calls prog 26 #[.slice A n c] w λe w'=>e=.returned (.agg (cN Zm L.flatten))/\Ext w w':=by
 have HS:=Qa h;have Sj:=h.1;clear h;go_enter func26,ntmps26;go_upto_region 1 with fail;change Code.wp _ _ _ _ (w.alloc (.cells (KT 32 λ_=>0) 71));have r0:=QA w 71 (KT 32 λ_=>0);have x0:Ext w (w.alloc (.cells (KT 32 λ_=>0) 71)):=(Qf w).alloc _;generalize w.alloc (.cells (KT 32 λ_=>0) 71)=w1 at *;have IG:=hT.ext x0;have Qo:=hT.lt;generalize hG:w.heap.size=G at *
 go_upto_region 2 with(first
  | (go_at_call 65;refine(CC _ IG).mono ?_;rintro e w2 ⟨rfl,x2⟩;have Si:1<w2.heap.size:=(IG.ext x2).lt)
  | (refine KX (.tmp 3) (.tmp 6) rfl rfl w2.heap.size Zm (λ_=>0) 0 0 _ 113 rfl rfl (QA _ _ _) K4 ?_;intro w3 b3 g3))
 have y3:Ext w2 w3:=((Qf w2).alloc _).grown g3 (λj e=>by cases e;exact QW _);have x3:=(x0.trans x2).trans y3;have r3:=(r0.ext x2).ext y3;have s3:=O8 b3;have hGg:G<w2.heap.size:=(r0.ext x2).lt;clear r0 IG x0 x2 y3 g3 b3;generalize w2.heap.size=g at *;go_wp2_with fail;go_loopw [9] (λi wx=>∃k:Nat,k<=n/\i=.int .i64 k/\WU wx g 113 Zm (L.take k).flatten/\Box wx G 71 (KT 32 λ_=>0)/\Ext w wx) (λi _=>n-(intOf i).toNat);case atStart=>exact⟨0,by omega,rfl,s3,r3,x3⟩
 case round =>
  clear s3 r3 x3;obtain⟨k,hk,rfl,sk,rk,xk⟩:=hrel;by_cases hlt':k<n
  ·obtain⟨b,o,rfl,Qd⟩:=HS.o.2 (by omega);have ck:=xk.keep (Qd k (by omega));have Vf:(k:Int)<(n:Int):=by omega
   have HT:=Qa (show(L.take (k+1)).flatten=(L.take k).flatten++L[k]'(by omega) by rw[FL (by omega),List.flatten_append];simp);have HL:=Qa (show(L.take k).flatten.length+(L[k]'(by omega)).length<1073741824 by
    have h1:=cw (L:=L) (k:=k+1);rw[HT.o,Kh]at h1;omega)
   clear Qd;generalize L[k]'(by omega)=p at *;go_wp2_with (go_at_call 66;refine(bu Zm _ p g 113 _ sk Si (by have:=HL.o;omega) (hT.ext xk)).mono ?_;rintro e w4 ⟨rfl,s4,g4⟩)
   go_roundw;case rel=>exact⟨k+1,by omega,by go_num,by rw[HT.o];exact s4,rk.grown g4 (by intro e;injection e with e;omega),xk.grown g4 (λj e=>by cases e;omega)⟩
   case measure=>simp[intOf];omega
  ·obtain rfl:k=n:=by omega
   have vN:L.take k=L:=by rw[AX (by omega)]
   rw[vN]at sk;clear vN
   go_wp2_with (first
    | (go_at_call 67;refine(cQ Zm _ g 113 _ sk Si (by omega) (hT.ext xk)).mono ?_;rintro e w4 ⟨rfl,g4⟩;have r4:=rk.grown g4 (by intro e;injection e with e;omega);have x4:=xk.grown g4 (λj e=>by cases e;omega))
    | (refine MN (.tmp 2) (.tmp 16) rfl rfl G _ _ 71 rfl rfl r4 rfl ?_;intro w9 b9 g9))
   exact ZD (QG rfl _ _ G _ _ _ rfl b9 underlying71 rfl (by rw[ZW];exact XO)) rfl ⟨rfl,x4.grown g9 (λj e=>by cases e;omega)⟩
theorem Rh (A:Option Addr) (c:Nat) (w:World) :
  Calls prog 186 #[.slice A 0 c,.int .i64 0,.int .i64 0,DS] w λe w'=>e=.returned (.tuple #[])/\w'=w:=by
 go_enter func186,ntmps186;go_upto_region 1 with fail;go_loopw [8] (λi wx=>i=.int .i64 1/\wx=w) (λi _=>(intOf i).toNat);case atStart=>exact⟨rfl,rfl⟩
 case round => obtain⟨rfl,rfl⟩:=hrel;go_wp2_with fail;exact bodyPost_end (UL rfl _ _ _) rfl ⟨rfl,rfl⟩
theorem GX (A:Option Addr) (c:Nat) (w:World) :
  Calls prog 121 #[.slice A 0 c,.int .i64 0,DS] w λe w'=>e=.returned (.tuple #[])/\w'=w:=by
 have HI:=Qa (Rh A c w);go_enter func121,ntmps121;go_upto_region 2 with fail;go_loopw [7,8] (λi j wx=>i=.int .i64 0/\j=.int .i64 20/\wx=w) (λi _ _=>(intOf i).toNat);case atStart=>exact⟨rfl,rfl,rfl⟩
 case round =>
  obtain⟨rfl,rfl,rfl⟩:=hrel;go_upto_region 7 with(go_at_call 186;refine HI.o.mono ?_;rintro e w2 ⟨rfl,rfl⟩)
  go_loopw [6] (λi wx=>i=.int .i64 20/\wx=w2) (λi _=>(intOf i).toNat);case atStart=>exact⟨rfl,rfl⟩
  case round => obtain⟨rfl,rfl⟩:=hrel;go_wp2_with fail;exact bodyPost_end (UL rfl _ _ _) rfl ⟨rfl,rfl⟩
theorem Ta (A:Option Addr) (c:Nat) (w:World) :
  Calls prog 62 #[.slice A 0 c,DS] w λe w'=>e=.returned (.tuple #[])/\w'=w:=by
 have H:=Qa (GX A c w);go_enter func62,ntmps62;go_wp2_with (go_at_call 121;refine H.o.mono ?_;rintro e w2 ⟨rfl,rfl⟩)
 exact bodyPost_end (UL rfl _ _ _) rfl ⟨rfl,rfl⟩
abbrev So (fr bl:Sl) (s:List UInt8):Array Value:=#[.slice fr.A fr.n fr.c,.slice bl.A bl.n bl.c,.string (Qb s)]
theorem oJ {fr bl:Sl}{s:List UInt8}:(prog.info? 24).map (·.size)=some (So fr bl s).size:=by kernel_rfl
end Go.Proofs.YtfaplefkakpgcaaGreatDoor
