import Derived.Test.YtfaplefkakpgcaaGreatDoorRows
import Derived.Test.YtfaplefkakpgcaaGreatDoorPl1
import Derived.Laws.BitsAllLaws
set_option linter.unusedVariables false
set_option linter.unusedSimpArgs false
set_option maxHeartbeats 32000000
set_option maxRecDepth 100000
namespace Go.Proofs.YtfaplefkakpgcaaGreatDoor
open Go.Proofs.Tryz
open Go.RowKit
def b8 (n:Int):UInt8:=UInt8.ofNat n.toNat
theorem Tw (v:Int) (h0:0<=v) (h1:v<=255):((b8 v).toNat:Int)=v:=by
 unfold b8;simp[UInt8.toNat_ofNat'];omega
theorem Wk (w:World) (xs:List Int) (cs:Array Value) (t c k:Nat) (hk:xs.length=k) (hc:∀i,i<xs.length->cs[i]? =some (.int .u8 (xs.getD i 0))) :
  (convert 167 9 (.slice (some ⟨w.heap.size,0,none⟩) k c)).run prog (w.alloc (.cells cs t))=.ok (.string (Qb (xs.map b8))) (w.alloc (.cells cs t)):=by
 subst hk;refine run_convert_bytes_arg (P:=prog) _ 167 5 underlying167 underlying5 _ _ _ c xs rfl (λi hi=>?_) 9 underlying9;have:=hc i hi;have hb:=cell_of_row (w.alloc (.cells cs t)) w.heap.size (0+i) cs t (0,0) (heap_alloc_new w _);rw[hb,Nz];exact this
theorem ur (n:Int) (w:World) (h0:0<=n) (h1:n<=65535) :
  Calls prog 104 #[.int .u64 n,.int .i64 2] w λe w'=>e=.returned (.string (Qb [b8 (n%256),b8 (n/256)]))/\Ext w w':=by
 have hc:=Wk w [n%256,n/256] #[.int .u8 (n%256),.int .u8 (n/256),.int .u8 0,.int .u8 0,.int .u8 0,.int .u8 0,.int .u8 0,.int .u8 0] 232 8 2 rfl (λi hi=>by
  rcases(show i=0\/i=1 by simp at hi;omega) with rfl|rfl<;>rfl)
 go_enter func104,ntmps104;go_wp2_with fail;refine fm 3 ?_;rw[Vn];go_wp2_with fail;rw[Vn];go_wp2_with fail;rw[Vn];go_wp2_with fail;go_ret;exact⟨rfl,(Qg _).alloc _⟩
theorem Qcw (n:Int) (w:World) (h0:0<=n) (h1:n<=255) :
  Calls prog 104 #[.int .u64 n,.int .i64 1] w λe w'=>e=.returned (.string (Qb [b8 n]))/\Ext w w':=by
 have hc:=Wk w [n] #[.int .u8 n,.int .u8 0,.int .u8 0,.int .u8 0,.int .u8 0,.int .u8 0,.int .u8 0,.int .u8 0] 232 8 1 rfl (λi hi=>by
  rcases(show i=0 by simp at hi;omega) with rfl;rfl)
 go_enter func104,ntmps104;go_wp2_with fail;refine fm 2 ?_;rw[Vn];go_wp2_with fail;rw[Vn];go_wp2_with fail;go_ret;exact⟨rfl,(Qg _).alloc _⟩
theorem Qlk (n:Int) (w:World) (h0:0<=n) (h1:n<=4294967295) :
  Calls prog 104 #[.int .u64 n,.int .i64 4] w λe w'=>e=.returned (.string (Qb [b8 (n%256),b8 (n/256%256),b8 (n/65536%256),b8 (n/16777216)]))/\Ext w w':=by
 have hc:=Wk w [n%256,n/256%256,n/65536%256,n/16777216] #[.int .u8 (n%256),.int .u8 (n/256%256),.int .u8 (n/65536%256),.int .u8 (n/16777216),.int .u8 0,.int .u8 0,.int .u8 0,.int .u8 0] 232 8 4 rfl (λi hi=>by
  rcases(show i=0\/i=1\/i=2\/i=3 by simp at hi;omega) with rfl|rfl|rfl|rfl<;>rfl)
 go_enter func104,ntmps104;go_wp2_with fail;refine fm 5 ?_;rw[Vn];go_wp2_with fail;rw[Vn];go_wp2_with fail;rw[Vn];go_wp2_with fail;rw[Vn];go_wp2_with fail;rw[Vn];go_wp2_with fail;go_ret;exact⟨rfl,(Qg _).alloc _⟩
theorem JX {k:IntKind}{a b:Int}(h:a=b):Ending.returned (.int k a)=.returned (.int k b):=by rw[h]
theorem Np (c:UInt8):IntKind.u64.wrap (c.toNat:Int)=c.toNat:=by rw[EO];have:=c.toNat_lt;omega
theorem T0 (a:UInt8):bits .or .u64 0 (IntKind.u64.wrap (IntKind.u64.wrap (a.toNat:Int)))=a.toNat:=by
 rw[Np,Np];have:=u64_or_nat 0 a.toNat (by omega) (by have:=a.toNat_lt;omega);simpa using this
theorem MD (x:Int) (c:UInt8) (k:Nat) (M:Int) (hM:M=((2^k:Nat):Int)) (h0:0<=x) (hx:x<M) (hb:M<=16777216):bits .or .u64 x (IntKind.u64.wrap (IntKind.u64.wrap (c.toNat:Int)*M))=x+M*c.toNat:=by
 have hc:=c.toNat_lt;obtain⟨x,rfl⟩:=sq h0;obtain⟨m,rfl⟩:=sq (show 0<=M by omega);have hm:m=2^k:=by exact_mod_cast hM
 have Qn:m*c.toNat<4294967296:=by have:m*c.toNat<=16777216*255:=Nat.mul_le_mul (by omega) (by omega);omega
 rw[Np,show(c.toNat:Int)*m=((m*c.toNat:Nat):Int) from by rw[Int.mul_comm];rfl,EO,zY (by omega) (by omega),u64_or_nat x (m*c.toNat) (by omega) (by omega)];rw[Nat.or_comm,hm,←Wds (by rw[←hm];omega) c.toNat];rw[←hm,Int.natCast_add,Int.natCast_mul];omega
theorem jK (a:UInt8):bits .or .u64 0 (IntKind.u64.wrap (IntKind.u64.wrap (a.toNat:Int)))=(a.toNat:Int):=by
 have ha:=a.toNat_lt;rw[T0 a]
theorem Qju (a:UInt8) (w:World) :
  Calls prog 164 #[.string (Qb [a])] w λe w'=>e=.returned (.int .u64 ((a.toNat:Int)))/\w=w':=by
 have hz:=Qh;go_enter func164,ntmps164;go_wp2_with fail;refine fm 2 ?_;rw[Vn];go_wp2_with fail;rw[Vn];go_wp2_with fail;go_ret;exact⟨JX (jK a),rfl⟩
theorem jL (a b:UInt8):bits .or .u64 (bits .or .u64 0 (IntKind.u64.wrap (IntKind.u64.wrap (a.toNat:Int)))) (IntKind.u64.wrap (IntKind.u64.wrap (b.toNat:Int)*256))=(a.toNat:Int)+256*b.toNat:=by
 have ha:=a.toNat_lt;have hb:=b.toNat_lt;rw[T0 a];rw[MD _ b 8 256 (by rfl) (by omega) (by omega) (by omega)]
theorem Qam (a b:UInt8) (w:World) :
  Calls prog 164 #[.string (Qb [a,b])] w λe w'=>e=.returned (.int .u64 ((a.toNat:Int)+256*b.toNat))/\w=w':=by
 have hz:=Qh;go_enter func164,ntmps164;go_wp2_with fail;refine fm 3 ?_;rw[Vn];go_wp2_with fail;rw[Vn];go_wp2_with fail;rw[Vn];go_wp2_with fail;go_ret;exact⟨JX (jL a b),rfl⟩
theorem jM (a b c d:UInt8):bits .or .u64 (bits .or .u64 (bits .or .u64 (bits .or .u64 0 (IntKind.u64.wrap (IntKind.u64.wrap (a.toNat:Int)))) (IntKind.u64.wrap (IntKind.u64.wrap (b.toNat:Int)*256))) (IntKind.u64.wrap (IntKind.u64.wrap (c.toNat:Int)*65536))) (IntKind.u64.wrap (IntKind.u64.wrap (d.toNat:Int)*16777216))=(a.toNat:Int)+256*b.toNat+65536*c.toNat+16777216*d.toNat:=by
 have ha:=a.toNat_lt;have hb:=b.toNat_lt;have hc:=c.toNat_lt;have hd:=d.toNat_lt
 rw[T0 a];rw[MD _ b 8 256 (by rfl) (by omega) (by omega) (by omega),MD _ c 16 65536 (by rfl) (by omega) (by omega) (by omega),MD _ d 24 16777216 (by rfl) (by omega) (by omega) (by omega)]
theorem Qjv (a b c d:UInt8) (w:World) :
  Calls prog 164 #[.string (Qb [a,b,c,d])] w λe w'=>e=.returned (.int .u64 ((a.toNat:Int)+256*b.toNat+65536*c.toNat+16777216*d.toNat))/\w=w':=by
 have hz:=Qh;go_enter func164,ntmps164;go_wp2_with fail;refine fm 5 ?_;rw[Vn];go_wp2_with fail;rw[Vn];go_wp2_with fail;rw[Vn];go_wp2_with fail;rw[Vn];go_wp2_with fail;rw[Vn];go_wp2_with fail;go_ret;exact⟨JX (jM a b c d),rfl⟩
def ZO (B I:Int):Value:=.agg #[.int .i64 B,.int .i64 I,.int .i64 1,.int .i64 2,.int .i64 3,.int .i64 (3+(I+1)/2)]
def JJ:Value:=.agg #[.int .i64 0,.int .i64 0,.int .i64 0,.int .i64 0,.int .i64 0,.int .i64 0]
def Vu (B I:Int):Bool:=decide (16<=B/\B<=223/\4<=I/\I<=64/\3+(I+1)/2<B)
theorem LU (B I:Int) (w:World) (h:Vu B I=true) :
  Calls prog 163 #[.int .i64 B,.int .i64 I] w λe w'=>e=.returned (.tuple #[ZO B I,.int .i64 0])/\Ext w w':=by
 have hp:16<=B/\B<=223/\4<=I/\I<=64/\3+(I+1)/2<B:=by simpa[Vu]using h
 clear h;go_enter func163,ntmps163;go_wp2_with fail;exact Jv (v:=.tuple #[ZO B I,.int .i64 0]) (by simp[results,Tryz.results163,go_sem,ZO]) rfl ⟨rfl,(Qg _).alloc _⟩
def XO (m:List UInt8) (i:Nat):Bool:=decide ((m.getD (i/8) 0).toNat/2^(i%8)%2=1)
theorem ie (c:UInt8) (k:Nat):(bits BinOp.and IntKind.u8 ((c.toNat:Int)/2^k) 1==1)=decide (c.toNat/2^k%2=1):=by
 have hc:=c.toNat_lt;have e2:((c.toNat:Int)/2^k)=((c.toNat/2^k:Nat):Int):=by rw[Int.natCast_ediv,Int.natCast_pow];rfl
 have Qn:c.toNat/2^k<256:=Nat.lt_of_le_of_lt (Nat.div_le_self _ _) hc;have:=u8_and_nat (c.toNat/2^k) 1 Qn (by omega);rw[e2,show(1:Int)=((1:Nat):Int) from rfl,this,Nat.and_one_is_mod];rw[mW];simp;omega
theorem uw (m:List UInt8) (k:Nat) (h:k<(Qb m).size):(Qb m)[k]=m.getD k 0:=by
 have hl:k<m.length:=by rw[Qh]at h;exact h
 exact(show(Qb m)[k]=m[k] from rfl).trans (by simp[List.getD,hl])
theorem OT (m:List UInt8) (i:Nat) (h:i/8<(Qb m).size):(bits BinOp.and IntKind.u8 (((Qb m)[i/8].toNat:Int)/2^(i%8)) 1==1)=XO m i :=
 (ie _ _).trans (by unfold XO;exact congrArg (λc:UInt8=>decide (c.toNat/2^(i%8)%2=1)) (uw m (i/8) h))
theorem WE {a b:Bool}(h:a=b):Ending.returned (.bool a)=.returned (.bool b):=by rw[h]
theorem OS (b o n c i:Nat) (m:List UInt8) (w:World) (hn:3<=n) (hc:w.cell? ⟨b,o+2,none⟩=some (.string (Qb m))) (hm:m.length=128) (hi:i<1024) :
  Calls prog 166 #[.slice (some ⟨b,o,none⟩) n c,.int .i64 i] w λe w'=>e=.returned (.bool (XO m i))/\w=w':=by
 have hz:(Qb m).size=128:=by rw[Qh,hm]
 go_enter func166,ntmps166;go_wp2_with fail;go_ret;exact⟨WE (OT m i (by omega)),rfl⟩
def Z1:List UInt8->Nat
 | []=>0
 | c::l=>c.toNat+256*Z1 l
def Jh (n:Int):Nat->List UInt8
 | 0=>[]
 | z+1=>b8 (n%256)::Jh (n/256) z
theorem Jo (n:Int) (z:Nat):(Jh n z).length=z:=by
 induction z generalizing n with
 | zero=>rfl
 | succ z ih=>simp[Jh,ih]
theorem Nb (l:List UInt8):Z1 l<256^l.length:=by
 induction l with
 | nil=>simp[Z1]
 | cons c l ih=>have:=c.toNat_lt;simp only[Z1,XN,vv];omega
theorem Qlc {l:List UInt8}(h:l.length=1):∃a,l=[a]:=by
 match l,h with
 | [a],_=>exact⟨a,rfl⟩
theorem pJ {l:List UInt8}(h:l.length=2):∃a b,l=[a,b]:=by
 match l,h with
 | [a,b],_=>exact⟨a,b,rfl⟩
theorem Qld {l:List UInt8}(h:l.length=4):∃a b c d,l=[a,b,c,d]:=by
 match l,h with
 | [a,b,c,d],_=>exact⟨a,b,c,d,rfl⟩
theorem jP (s:List UInt8) (w:World) (h:s.length=1\/s.length=2\/s.length=4) :
  Calls prog 164 #[.string (Qb s)] w λe w'=>e=.returned (.int .u64 (Z1 s:Int))/\w=w':=by
 rcases h with h|h|h
 ·obtain⟨a,rfl⟩:=Qlc h;rw[show((Z1 [a]:Nat):Int)=(a.toNat:Int) by simp[Z1]];exact Qju a w
 ·obtain⟨a,b,rfl⟩:=pJ h;rw[show((Z1 [a,b]:Nat):Int)=(a.toNat:Int)+256*b.toNat by simp[Z1]];exact Qam a b w
 ·obtain⟨a,b,c,d,rfl⟩:=Qld h;rw[show((Z1 [a,b,c,d]:Nat):Int)=(a.toNat:Int)+256*b.toNat+65536*c.toNat+16777216*d.toNat by simp[Z1];omega];exact Qjv a b c d w
theorem Qcy (n z:Int) (w:World) (hz:z=1\/z=2\/z=4) (h0:0<=n) (h1:n<256^z.toNat) :
  Calls prog 104 #[.int .u64 n,.int .i64 z] w λe w'=>e=.returned (.string (Qb (Jh n z.toNat)))/\Ext w w':=by
 rcases hz with rfl|rfl|rfl
 ·have h1':n<256:=h1;rw[show Jh n (1:Int).toNat=[b8 n] by simp[Jh,zY h0 h1']];exact Qcw n w h0 (by omega)
 ·have h1':n<65536:=h1;rw[show Jh n (2:Int).toNat=[b8 (n%256),b8 (n/256)] by simp[Jh];rw[zY (by omega) (by omega)]];exact ur n w h0 (by omega)
 ·have h1':n<4294967296:=h1;rw[show Jh n (4:Int).toNat=[b8 (n%256),b8 (n/256%256),b8 (n/65536%256),b8 (n/16777216)] by
   have e1:n/256/256=n/65536:=by omega
   have e2:n/65536/256=n/16777216:=by omega
   have e3:n/16777216%256=n/16777216:=by omega
   simp[Jh,e1,e2,e3]]
  exact Qlk n w h0 (by omega)
def Xt (n:Nat):List UInt8:=if n<128 then [UInt8.ofNat n] else UInt8.ofNat (n%128+128)::Xt (n/128)
termination_by n
decreasing_by omega
theorem UG {n:Nat}(h:n<128):Xt n=[UInt8.ofNat n]:=by rw[Xt,QN h]
theorem LA {n:Nat}(h:¬n<128):Xt n=UInt8.ofNat (n%128+128)::Xt (n/128):=by rw[Xt,QD h]
def Yt (ss:List (List UInt8)):List UInt8:=ss.flatMap λs=>Xt s.length++s
theorem Hh:Yt []=[]:=rfl
theorem Ng (s:List UInt8) (ss:List (List UInt8)):Yt (s::ss)=Xt s.length++s++Yt ss:=by simp[Yt]
theorem ew (ss:List (List UInt8)) (s:List UInt8):Yt (ss++[s])=Yt ss++(Xt s.length++s):=by simp[Yt]
theorem Df (n:Nat):(Xt n).length<=n+1:=by
 induction n using Nat.strongRecOn with
 | ind n ih =>
  by_cases h:n<128
  ·rw[UG h];simp
  ·rw[LA h];have:=ih (n/128) (by omega);simp only[XN];omega
def Zq:List UInt8->Nat->Nat->Nat × Nat × Int
 | [],_,_=>(0,0,4)
 | c::l,i,n=>if i=3/\128<=c.toNat then (0,0,3) else if 128<=c.toNat then Zq l (i+1) (n+c.toNat%128*128^i) else if c.toNat=0/\0<i then (0,0,3) else (n+c.toNat*128^i,i+1,0)
def Qm (b:List UInt8):Nat × Nat × Int:=Zq b 0 0
theorem Dg (l:List UInt8):∀i n,i<=3->n<128^i->(Zq l i n).2.2=0->i<(Zq l i n).2.1/\(Zq l i n).2.1<=i+l.length/\(Zq l i n).2.1<=4/\(Zq l i n).1<268435456:=by
 induction l with
 | nil=>intro i n _ _ h;simp[Zq]at h
 | cons c l ih =>
  intro i n hi hn h;have hc:=c.toNat_lt;rw[Zq]at h ⊢;split at h
  ·simp at h
  ·rename_i h1;rw[QD h1];split at h
   ·rename_i h2;rw[QN h2];have aD:i+1<=3:=by omega
    have hp:n+c.toNat%128*128^i<128^(i+1):=by rw[vv];have:c.toNat%128*128^i<=127*128^i:=Wfl _ (by omega);omega
    have:=ih (i+1) _ aD hp h;simp only[XN];omega
   ·rename_i h2;rw[QD h2];split at h
    ·simp at h
    ·rename_i h3;rw[QD h3];simp only[XN];refine⟨by omega,by omega,by omega,?_⟩;have e:c.toNat*128^i<=127*128^i:=Wfl _ (by omega);have:(128:Nat)^i<=128^3:=sw (by omega) hi;have:(128:Nat)^3=2097152:=by decide
     omega
theorem Xu (b:List UInt8) (h:(Qm b).2.2=0):1<=(Qm b).2.1/\(Qm b).2.1<=b.length/\(Qm b).2.1<=4/\(Qm b).1<268435456:=by
 have:=Dg b 0 0 (by omega) (by decide) h;unfold Qm;omega
def VF:Nat->List UInt8->List (List UInt8) × Int
 | 0,_=>([],0)
 | f+1,b=>if b=[] then ([],0) else
   if (Qm b).2.2≠0 then ([],(Qm b).2.2) else
   if (b.drop (Qm b).2.1).length<(Qm b).1 then ([],4) else
   if (VF f ((b.drop (Qm b).2.1).drop (Qm b).1)).2≠0 then ([],(VF f ((b.drop (Qm b).2.1).drop (Qm b).1)).2) else
   ((b.drop (Qm b).2.1).take (Qm b).1::(VF f ((b.drop (Qm b).2.1).drop (Qm b).1)).1,0)
theorem Ae (f:Nat):∀(g:Nat) (b:List UInt8),b.length<=f->b.length<=g->VF f b=VF g b:=by
 induction f with
 | zero => intro g b h _;obtain rfl:b=[]:=bM (by omega);cases g<;>simp[VF]
 | succ f ih =>
  intro g b h hg;cases g with
  | zero => obtain rfl:b=[]:=bM (by omega);simp[VF]
  | succ g =>
   by_cases hb:b=[]
   ·simp[VF,hb]
   ·by_cases he:(Qm b).2.2=0
    ·have hu:=Xu b he;have hd:((b.drop (Qm b).2.1).drop (Qm b).1).length<=b.length-1:=by simp only[Nx];omega
     have hl:0<b.length:=sx.2 hb;simp only[VF,ih g ((b.drop (Qm b).2.1).drop (Qm b).1) (by omega) (by omega)]
    ·simp[VF,hb,he]
def Qv (b:List UInt8):List (List UInt8) × Int:=VF b.length b
theorem UU:Qv []=([],0):=rfl
theorem Yf (b:List UInt8) (hb:b≠[]):Qv b=if (Qm b).2.2≠0 then ([],(Qm b).2.2) else
   if (b.drop (Qm b).2.1).length<(Qm b).1 then ([],4) else
   if (Qv ((b.drop (Qm b).2.1).drop (Qm b).1)).2≠0 then ([],(Qv ((b.drop (Qm b).2.1).drop (Qm b).1)).2) else
   ((b.drop (Qm b).2.1).take (Qm b).1::(Qv ((b.drop (Qm b).2.1).drop (Qm b).1)).1,0):=by
 have hl:0<b.length:=sx.2 hb;unfold Qv;obtain⟨f,hf⟩:∃f,b.length=f+1:=⟨b.length-1,by omega⟩
 rw[hf,VF,QD hb];by_cases he:(Qm b).2.2=0
 ·have hu:=Xu b he;have hd:((b.drop (Qm b).2.1).drop (Qm b).1).length<=f:=by simp only[Nx];omega
  rw[Ae f _ _ hd (Q4 _)]
 ·rw[QN he,QN he]
theorem Oe (b:List UInt8) (h:(Qv b).2≠0):(Qv b).1=[]:=by
 by_cases hb:b=[]
 ·subst hb;rfl
 ·rw[Yf b hb]at h ⊢;split
  ·rfl
  ·split
   ·rfl
   ·split
    ·rfl
    ·rename_i h1 h2 h3;rw[QD h1,QD h2,QD h3]at h;exact absurd rfl h
theorem YL (b:List UInt8):(Qv b).1.length<=b.length/\∀s∈(Qv b).1,s.length<=b.length:=by
 induction hn:b.length using Nat.strongRecOn generalizing b with
 | ind n ih =>
  by_cases hb:b=[]
  ·subst hb;simp[UU]
  ·rw[Yf b hb];split
   ·simp
   ·rename_i h1;have he:(Qm b).2.2=0:=by simpa using h1
    have hu:=Xu b he;split
    ·simp
    ·split
     ·simp
     ·have hd:((b.drop (Qm b).2.1).drop (Qm b).1).length<n:=by simp only[Nx];omega
      obtain⟨i1,i2⟩:=ih _ hd _ rfl;refine⟨by simp only[XN];omega,λs hs=>?_⟩;rcases Pm.1 hs with rfl|hs
      ·simp only[MT,Nx];omega
      ·have:=i2 s hs;omega
theorem Qll (n:Int) (w:World) (h0:0<=n) (h1:n<=18446744073709551615) :
  Calls prog 104 #[.int .u64 n,.int .i64 8] w λe w'=>e=.returned (.string (Qb [b8 (n%256),b8 (n/256%256),b8 (n/65536%256),b8 (n/16777216%256),b8 (n/4294967296%256),b8 (n/1099511627776%256),b8 (n/281474976710656%256),b8 (n/72057594037927936)]))/\Ext w w':=by
 have hc:=Wk w [n%256,n/256%256,n/65536%256,n/16777216%256,n/4294967296%256,n/1099511627776%256,n/281474976710656%256,n/72057594037927936] #[.int .u8 (n%256),.int .u8 (n/256%256),.int .u8 (n/65536%256),.int .u8 (n/16777216%256),.int .u8 (n/4294967296%256),.int .u8 (n/1099511627776%256),.int .u8 (n/281474976710656%256),.int .u8 (n/72057594037927936)] 232 8 8 rfl (λi hi=>by
  rcases(show i=0\/i=1\/i=2\/i=3\/i=4\/i=5\/i=6\/i=7 by simp at hi;omega) with rfl|rfl|rfl|rfl|rfl|rfl|rfl|rfl<;>rfl)
 go_enter func104,ntmps104;go_wp2_with fail;refine fm 9 ?_;rw[Vn];go_wp2_with fail;rw[Vn];go_wp2_with fail;rw[Vn];go_wp2_with fail;rw[Vn];go_wp2_with fail;rw[Vn];go_wp2_with fail;rw[Vn];go_wp2_with fail;rw[Vn];go_wp2_with fail;rw[Vn];go_wp2_with fail;rw[Vn];go_wp2_with fail;go_ret;exact⟨rfl,(Qg _).alloc _⟩
theorem Kd (x:Int) (c:UInt8) (k:Nat) (M:Int) (hM:M=((2^k:Nat):Int)) (h0:0<=x) (hx:x<M) (hb:M<=72057594037927936):bits .or .u64 x (IntKind.u64.wrap (IntKind.u64.wrap (c.toNat:Int)*M))=x+M*c.toNat:=by
 have hc:=c.toNat_lt;obtain⟨x,rfl⟩:=sq h0;obtain⟨m,rfl⟩:=sq (show 0<=M by omega);have hm:m=2^k:=by exact_mod_cast hM
 have Qn:m*c.toNat<=72057594037927936*255:=Nat.mul_le_mul (by omega) (by omega);rw[Np,show(c.toNat:Int)*m=((m*c.toNat:Nat):Int) from by rw[Int.mul_comm];rfl,EO,zY (by omega) (by omega),u64_or_nat x (m*c.toNat) (by omega) (by omega)];rw[Nat.or_comm,hm,←Wds (by rw[←hm];omega) c.toNat];rw[←hm,Int.natCast_add,Int.natCast_mul];omega
theorem jN (a b c d e f g h:UInt8):bits .or .u64 (bits .or .u64 (bits .or .u64 (bits .or .u64 (bits .or .u64 (bits .or .u64 (bits .or .u64 (bits .or .u64 0 (IntKind.u64.wrap (IntKind.u64.wrap (a.toNat:Int)))) (IntKind.u64.wrap (IntKind.u64.wrap (b.toNat:Int)*256))) (IntKind.u64.wrap (IntKind.u64.wrap (c.toNat:Int)*65536))) (IntKind.u64.wrap (IntKind.u64.wrap (d.toNat:Int)*16777216))) (IntKind.u64.wrap (IntKind.u64.wrap (e.toNat:Int)*4294967296))) (IntKind.u64.wrap (IntKind.u64.wrap (f.toNat:Int)*1099511627776))) (IntKind.u64.wrap (IntKind.u64.wrap (g.toNat:Int)*281474976710656))) (IntKind.u64.wrap (IntKind.u64.wrap (h.toNat:Int)*72057594037927936))=(a.toNat:Int)+256*b.toNat+65536*c.toNat+16777216*d.toNat+4294967296*e.toNat+1099511627776*f.toNat+281474976710656*g.toNat+72057594037927936*h.toNat:=by
 have ha:=a.toNat_lt;have hb:=b.toNat_lt;have hc:=c.toNat_lt;have hd:=d.toNat_lt
 have he:=e.toNat_lt;have hf:=f.toNat_lt;have hg:=g.toNat_lt;have hh:=h.toNat_lt
 rw[T0 a];rw[Kd _ b 8 256 (by rfl) (by omega) (by omega) (by omega)];rw[Kd _ c 16 65536 (by rfl) (by omega) (by omega) (by omega)];rw[Kd _ d 24 16777216 (by rfl) (by omega) (by omega) (by omega)];rw[Kd _ e 32 4294967296 (by rfl) (by omega) (by omega) (by omega)];rw[Kd _ f 40 1099511627776 (by rfl) (by omega) (by omega) (by omega)];rw[Kd _ g 48 281474976710656 (by rfl) (by omega) (by omega) (by omega)];rw[Kd _ h 56 72057594037927936 (by rfl) (by omega) (by omega) (by omega)]
theorem Qjw (a b c d e f g h:UInt8) (w:World) :
  Calls prog 164 #[.string (Qb [a,b,c,d,e,f,g,h])] w λz w'=>z=.returned (.int .u64 ((a.toNat:Int)+256*b.toNat+65536*c.toNat+16777216*d.toNat+4294967296*e.toNat+1099511627776*f.toNat+281474976710656*g.toNat+72057594037927936*h.toNat))/\w=w':=by
 have hz:=Qh;go_enter func164,ntmps164;go_wp2_with fail;refine fm 9 ?_;rw[Vn];go_wp2_with fail;rw[Vn];go_wp2_with fail;rw[Vn];go_wp2_with fail;rw[Vn];go_wp2_with fail;rw[Vn];go_wp2_with fail;rw[Vn];go_wp2_with fail;rw[Vn];go_wp2_with fail;rw[Vn];go_wp2_with fail;rw[Vn];go_wp2_with fail;go_ret;exact⟨JX (jN a b c d e f g h),rfl⟩
theorem Qle {l:List UInt8}(h:l.length=8):∃a b c d e f g i,l=[a,b,c,d,e,f,g,i]:=by
 match l,h with
 | [a,b,c,d,e,f,g,i],_=>exact⟨a,b,c,d,e,f,g,i,rfl⟩
theorem jO (s:List UInt8) (w:World) (h:s.length=4\/s.length=8) :
  Calls prog 164 #[.string (Qb s)] w λe w'=>e=.returned (.int .u64 (Z1 s:Int))/\w=w':=by
 rcases h with h|h
 ·exact jP s w (.inr (.inr h))
 ·obtain⟨a,b,c,d,e,f,g,i,rfl⟩:=Qle h;rw[show((Z1 [a,b,c,d,e,f,g,i]:Nat):Int)=(a.toNat:Int)+256*b.toNat+65536*c.toNat+16777216*d.toNat+4294967296*e.toNat+1099511627776*f.toNat+281474976710656*g.toNat+72057594037927936*i.toNat by simp[Z1];omega];exact Qjw a b c d e f g i w
theorem Qcx (n:Int) (h1:n<18446744073709551616) (h0:0<=n):Jh n 8=[b8 (n%256),b8 (n/256%256),b8 (n/65536%256),b8 (n/16777216%256),b8 (n/4294967296%256),b8 (n/1099511627776%256),b8 (n/281474976710656%256),b8 (n/72057594037927936)]:=by
 have e1:n/256/256=n/65536:=by omega
 have e2:n/65536/256=n/16777216:=by omega
 have e3:n/16777216/256=n/4294967296:=by omega
 have e4:n/4294967296/256=n/1099511627776:=by omega
 have e5:n/1099511627776/256=n/281474976710656:=by omega
 have e6:n/281474976710656/256=n/72057594037927936:=by omega
 have e7:n/72057594037927936%256=n/72057594037927936:=by omega
 simp[Jh,e1,e2,e3,e4,e5,e6,e7]
theorem BD (n:Int) (w:World) (h0:0<=n) (h1:n<18446744073709551616) :
  Calls prog 104 #[.int .u64 n,.int .i64 8] w λe w'=>e=.returned (.string (Qb (Jh n 8)))/\Ext w w':=by
 rw[Qcx n h1 h0];exact Qll n w h0 (by omega)
theorem ko (n:Int) (w:World) (h0:0<=n) (h1:n<4294967296) :
  Calls prog 104 #[.int .u64 n,.int .i64 4] w λe w'=>e=.returned (.string (Qb (Jh n 4)))/\Ext w w':=Qcy n 4 w (.inr (.inr rfl)) h0 h1
end Go.Proofs.YtfaplefkakpgcaaGreatDoor
