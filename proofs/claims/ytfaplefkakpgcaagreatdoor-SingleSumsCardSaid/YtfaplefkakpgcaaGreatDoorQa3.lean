import Derived.Test.YtfaplefkakpgcaaGreatDoorRows
import Derived.Test.YtfaplefkakpgcaaGreatDoorQa1
import Derived.Laws.BitsAllLaws
set_option linter.unusedVariables false
set_option linter.unusedSimpArgs false
set_option maxHeartbeats 32000000
set_option maxRecDepth 100000
namespace Go.Proofs.YtfaplefkakpgcaaGreatDoor
open Go.Proofs.Tryz
open Go.RowKit
def b8 (n:Int):UInt8:=UInt8.ofNat n.toNat
theorem Kr (v:Int) (h0:0<=v) (h1:v<=255):((b8 v).toNat:Int)=v:=by
 unfold b8;simp[mK];omega
theorem Ks (w:World) (xs:List Int) (cs:Array Value) (t c k:Nat) (hk:xs.length=k) (hc:∀i,i<xs.length->cs[i]? =some (.int .u8 (xs.getD i 0))) :
  (convert 167 9 (.slice (some ⟨w.heap.size,0,none⟩) k c)).run prog (w.alloc (.cells cs t))=.ok (.string (Qb (xs.map b8))) (w.alloc (.cells cs t)):=by
 subst hk;refine run_convert_bytes_arg (P:=prog) _ 167 5 underlying167 underlying5 _ _ _ c xs rfl (λi hi=>?_) 9 underlying9;have:=hc i hi;have hb:=cell_of_row (w.alloc (.cells cs t)) w.heap.size (0+i) cs t (0,0) (heap_alloc_new w _);rw[hb,Ux];exact this
theorem jR (n:Int) (w:World) (h0:0<=n) (h1:n<=65535) :
  Calls prog 104 #[.int .u64 n,.int .i64 2] w λe w'=>e=.returned (.string (Qb [b8 (n%256),b8 (n/256)]))/\Ext w w':=by
 have hc:=Ks w [n%256,n/256] #[.int .u8 (n%256),.int .u8 (n/256),.int .u8 0,.int .u8 0,.int .u8 0,.int .u8 0,.int .u8 0,.int .u8 0] 232 8 2 rfl (λi hi=>by
  rcases(show i=0\/i=1 by simp at hi;omega) with rfl|rfl<;>rfl)
 go_enter func104,ntmps104;go_wp2_with fail;refine am 3 ?_;rw[XN];go_wp2_with fail;rw[XN];go_wp2_with fail;rw[XN];go_wp2_with fail;go_ret;exact⟨rfl,(Qf _).alloc _⟩
theorem oU (n:Int) (w:World) (h0:0<=n) (h1:n<=255) :
  Calls prog 104 #[.int .u64 n,.int .i64 1] w λe w'=>e=.returned (.string (Qb [b8 n]))/\Ext w w':=by
 have hc:=Ks w [n] #[.int .u8 n,.int .u8 0,.int .u8 0,.int .u8 0,.int .u8 0,.int .u8 0,.int .u8 0,.int .u8 0] 232 8 1 rfl (λi hi=>by
  rcases(show i=0 by simp at hi;omega) with rfl;rfl)
 go_enter func104,ntmps104;go_wp2_with fail;refine am 2 ?_;rw[XN];go_wp2_with fail;rw[XN];go_wp2_with fail;go_ret;exact⟨rfl,(Qf _).alloc _⟩
theorem tc (n:Int) (w:World) (h0:0<=n) (h1:n<=4294967295) :
  Calls prog 104 #[.int .u64 n,.int .i64 4] w λe w'=>e=.returned (.string (Qb [b8 (n%256),b8 (n/256%256),b8 (n/65536%256),b8 (n/16777216)]))/\Ext w w':=by
 have hc:=Ks w [n%256,n/256%256,n/65536%256,n/16777216] #[.int .u8 (n%256),.int .u8 (n/256%256),.int .u8 (n/65536%256),.int .u8 (n/16777216),.int .u8 0,.int .u8 0,.int .u8 0,.int .u8 0] 232 8 4 rfl (λi hi=>by
  rcases(show i=0\/i=1\/i=2\/i=3 by simp at hi;omega) with rfl|rfl|rfl|rfl<;>rfl)
 go_enter func104,ntmps104;go_wp2_with fail;refine am 5 ?_;rw[XN];go_wp2_with fail;rw[XN];go_wp2_with fail;rw[XN];go_wp2_with fail;rw[XN];go_wp2_with fail;rw[XN];go_wp2_with fail;go_ret;exact⟨rfl,(Qf _).alloc _⟩
theorem Jk {k:IntKind}{a b:Int}(h:a=b):Ending.returned (.int k a)=.returned (.int k b):=by rw[h]
theorem Ur (c:UInt8):IntKind.u64.wrap (c.toNat:Int)=c.toNat:=by rw[A5];have:=c.toNat_lt;omega
theorem WB (a:UInt8):bits .or .u64 0 (IntKind.u64.wrap (IntKind.u64.wrap (a.toNat:Int)))=a.toNat:=by
 rw[Ur,Ur];have:=u64_or_nat 0 a.toNat (by omega) (by have:=a.toNat_lt;omega);simpa using this
theorem Tq (x:Int) (c:UInt8) (k:Nat) (M:Int) (hM:M=((2^k:Nat):Int)) (h0:0<=x) (hx:x<M) (hb:M<=16777216):bits .or .u64 x (IntKind.u64.wrap (IntKind.u64.wrap (c.toNat:Int)*M))=x+M*c.toNat:=by
 have hc:=c.toNat_lt;obtain⟨x,rfl⟩:=kB h0;obtain⟨m,rfl⟩:=kB (show 0<=M by omega);have hm:m=2^k:=by exact_mod_cast hM
 have Qo:m*c.toNat<4294967296:=by have:m*c.toNat<=16777216*255:=Nat.mul_le_mul (by omega) (by omega);omega
 rw[Ur,show(c.toNat:Int)*m=((m*c.toNat:Nat):Int) from by rw[Int.mul_comm];rfl,A5,mP (by omega) (by omega),u64_or_nat x (m*c.toNat) (by omega) (by omega)];rw[Nat.or_comm,hm,←pd (by rw[←hm];omega) c.toNat];rw[←hm,Int.natCast_add,Int.natCast_mul];omega
theorem Iy (a:UInt8):bits .or .u64 0 (IntKind.u64.wrap (IntKind.u64.wrap (a.toNat:Int)))=(a.toNat:Int):=by
 have ha:=a.toNat_lt;rw[WB a]
theorem rx (a:UInt8) (w:World) :
  Calls prog 164 #[.string (Qb [a])] w λe w'=>e=.returned (.int .u64 ((a.toNat:Int)))/\w=w':=by
 have hz:=Qh;go_enter func164,ntmps164;go_wp2_with fail;refine am 2 ?_;rw[XN];go_wp2_with fail;rw[XN];go_wp2_with fail;go_ret;exact⟨Jk (Iy a),rfl⟩
theorem Iz (a b:UInt8):bits .or .u64 (bits .or .u64 0 (IntKind.u64.wrap (IntKind.u64.wrap (a.toNat:Int)))) (IntKind.u64.wrap (IntKind.u64.wrap (b.toNat:Int)*256))=(a.toNat:Int)+256*b.toNat:=by
 have ha:=a.toNat_lt;have hb:=b.toNat_lt;rw[WB a];rw[Tq _ b 8 256 (by rfl) (by omega) (by omega) (by omega)]
theorem mu (a b:UInt8) (w:World) :
  Calls prog 164 #[.string (Qb [a,b])] w λe w'=>e=.returned (.int .u64 ((a.toNat:Int)+256*b.toNat))/\w=w':=by
 have hz:=Qh;go_enter func164,ntmps164;go_wp2_with fail;refine am 3 ?_;rw[XN];go_wp2_with fail;rw[XN];go_wp2_with fail;rw[XN];go_wp2_with fail;go_ret;exact⟨Jk (Iz a b),rfl⟩
theorem IA (a b c d:UInt8):bits .or .u64 (bits .or .u64 (bits .or .u64 (bits .or .u64 0 (IntKind.u64.wrap (IntKind.u64.wrap (a.toNat:Int)))) (IntKind.u64.wrap (IntKind.u64.wrap (b.toNat:Int)*256))) (IntKind.u64.wrap (IntKind.u64.wrap (c.toNat:Int)*65536))) (IntKind.u64.wrap (IntKind.u64.wrap (d.toNat:Int)*16777216))=(a.toNat:Int)+256*b.toNat+65536*c.toNat+16777216*d.toNat:=by
 have ha:=a.toNat_lt;have hb:=b.toNat_lt;have hc:=c.toNat_lt;have hd:=d.toNat_lt
 rw[WB a];rw[Tq _ b 8 256 (by rfl) (by omega) (by omega) (by omega),Tq _ c 16 65536 (by rfl) (by omega) (by omega) (by omega),Tq _ d 24 16777216 (by rfl) (by omega) (by omega) (by omega)]
theorem ry (a b c d:UInt8) (w:World) :
  Calls prog 164 #[.string (Qb [a,b,c,d])] w λe w'=>e=.returned (.int .u64 ((a.toNat:Int)+256*b.toNat+65536*c.toNat+16777216*d.toNat))/\w=w':=by
 have hz:=Qh;go_enter func164,ntmps164;go_wp2_with fail;refine am 5 ?_;rw[XN];go_wp2_with fail;rw[XN];go_wp2_with fail;rw[XN];go_wp2_with fail;rw[XN];go_wp2_with fail;rw[XN];go_wp2_with fail;go_ret;exact⟨Jk (IA a b c d),rfl⟩
def JO (B I:Int):Value:=.agg #[.int .i64 B,.int .i64 I,.int .i64 1,.int .i64 2,.int .i64 3,.int .i64 (3+(I+1)/2)]
def Jj:Value:=.agg #[.int .i64 0,.int .i64 0,.int .i64 0,.int .i64 0,.int .i64 0,.int .i64 0]
def YY (B I:Int):Bool:=decide (16<=B/\B<=223/\4<=I/\I<=64/\3+(I+1)/2<B)
theorem RD (B I:Int) (w:World) (h:YY B I=true) :
  Calls prog 163 #[.int .i64 B,.int .i64 I] w λe w'=>e=.returned (.tuple #[JO B I,.int .i64 0])/\Ext w w':=by
 have hp:16<=B/\B<=223/\4<=I/\I<=64/\3+(I+1)/2<B:=by simpa[YY]using h
 clear h;go_enter func163,ntmps163;go_wp2_with fail;exact ZD (v:=.tuple #[JO B I,.int .i64 0]) (by simp[results,Tryz.results163,go_sem,JO]) rfl ⟨rfl,(Qf _).alloc _⟩
def YC (m:List UInt8) (i:Nat):Bool:=decide ((m.getD (i/8) 0).toNat/2^(i%8)%2=1)
theorem SX (c:UInt8) (k:Nat):(bits BinOp.and IntKind.u8 ((c.toNat:Int)/2^k) 1==1)=decide (c.toNat/2^k%2=1):=by
 have hc:=c.toNat_lt;have e2:((c.toNat:Int)/2^k)=((c.toNat/2^k:Nat):Int):=by rw[Int.natCast_ediv,Int.natCast_pow];rfl
 have Qo:c.toNat/2^k<256:=Nat.lt_of_le_of_lt (Nat.div_le_self _ _) hc;have:=u8_and_nat (c.toNat/2^k) 1 Qo (by omega);rw[e2,show(1:Int)=((1:Nat):Int) from rfl,this,Nat.and_one_is_mod];rw[mT];simp;omega
theorem jc (m:List UInt8) (k:Nat) (h:k<(Qb m).size):(Qb m)[k]=m.getD k 0:=by
 have hl:k<m.length:=by rw[Qh]at h;exact h
 exact(show(Qb m)[k]=m[k] from rfl).trans (by simp[List.getD,hl])
theorem DJ (m:List UInt8) (i:Nat) (h:i/8<(Qb m).size):(bits BinOp.and IntKind.u8 (((Qb m)[i/8].toNat:Int)/2^(i%8)) 1==1)=YC m i :=
 (SX _ _).trans (by unfold YC;exact congrArg (λc:UInt8=>decide (c.toNat/2^(i%8)%2=1)) (jc m (i/8) h))
theorem KO {a b:Bool}(h:a=b):Ending.returned (.bool a)=.returned (.bool b):=by rw[h]
theorem DI (b o n c i:Nat) (m:List UInt8) (w:World) (hn:3<=n) (hc:w.cell? ⟨b,o+2,none⟩=some (.string (Qb m))) (hm:m.length=128) (hi:i<1024) :
  Calls prog 166 #[.slice (some ⟨b,o,none⟩) n c,.int .i64 i] w λe w'=>e=.returned (.bool (YC m i))/\w=w':=by
 have hz:(Qb m).size=128:=by rw[Qh,hm]
 go_enter func166,ntmps166;go_wp2_with fail;go_ret;exact⟨KO (DJ m i (by omega)),rfl⟩
def Yp:List UInt8->Nat
 | []=>0
 | c::l=>c.toNat+256*Yp l
def JA (n:Int):Nat->List UInt8
 | 0=>[]
 | z+1=>b8 (n%256)::JA (n/256) z
theorem QO (n:Int) (z:Nat):(JA n z).length=z:=by
 induction z generalizing n with
 | zero=>rfl
 | succ z ih=>simp[JA,ih]
theorem Lx (l:List UInt8):Yp l<256^l.length:=by
 induction l with
 | nil=>simp[Yp]
 | cons c l ih=>have:=c.toNat_lt;simp only[Yp,YV,mV];omega
theorem Mp (n:Int) (z:Nat) (h0:0<=n) (h1:n<256^z):(Yp (JA n z):Int)=n:=by
 induction z generalizing n with
 | zero=>simp at h1;simp[JA,Yp];omega
 | succ z ih =>
  have h2:n/256<256^z:=by rw[Int.pow_succ]at h1;omega
  have:=ih (n/256) (by omega) h2;simp only[JA,Yp,Int.natCast_add,Int.natCast_mul,this,Kr (n%256) (by omega) (by omega)];omega
theorem tU {l:List UInt8}(h:l.length=1):∃a,l=[a]:=by
 match l,h with
 | [a],_=>exact⟨a,rfl⟩
theorem dW {l:List UInt8}(h:l.length=2):∃a b,l=[a,b]:=by
 match l,h with
 | [a,b],_=>exact⟨a,b,rfl⟩
theorem tV {l:List UInt8}(h:l.length=4):∃a b c d,l=[a,b,c,d]:=by
 match l,h with
 | [a,b,c,d],_=>exact⟨a,b,c,d,rfl⟩
theorem ID (s:List UInt8) (w:World) (h:s.length=1\/s.length=2\/s.length=4) :
  Calls prog 164 #[.string (Qb s)] w λe w'=>e=.returned (.int .u64 (Yp s:Int))/\w=w':=by
 rcases h with h|h|h
 ·obtain⟨a,rfl⟩:=tU h;rw[show((Yp [a]:Nat):Int)=(a.toNat:Int) by simp[Yp]];exact rx a w
 ·obtain⟨a,b,rfl⟩:=dW h;rw[show((Yp [a,b]:Nat):Int)=(a.toNat:Int)+256*b.toNat by simp[Yp]];exact mu a b w
 ·obtain⟨a,b,c,d,rfl⟩:=tV h;rw[show((Yp [a,b,c,d]:Nat):Int)=(a.toNat:Int)+256*b.toNat+65536*c.toNat+16777216*d.toNat by simp[Yp];omega];exact ry a b c d w
theorem oW (n z:Int) (w:World) (hz:z=1\/z=2\/z=4) (h0:0<=n) (h1:n<256^z.toNat) :
  Calls prog 104 #[.int .u64 n,.int .i64 z] w λe w'=>e=.returned (.string (Qb (JA n z.toNat)))/\Ext w w':=by
 rcases hz with rfl|rfl|rfl
 ·have sA:n<256:=h1;rw[show JA n (1:Int).toNat=[b8 n] by simp[JA,mP h0 sA]];exact oU n w h0 (by omega)
 ·have sA:n<65536:=h1;rw[show JA n (2:Int).toNat=[b8 (n%256),b8 (n/256)] by simp[JA];rw[mP (by omega) (by omega)]];exact jR n w h0 (by omega)
 ·have sA:n<4294967296:=h1;rw[show JA n (4:Int).toNat=[b8 (n%256),b8 (n/256%256),b8 (n/65536%256),b8 (n/16777216)] by
   have e1:n/256/256=n/65536:=by omega
   have e2:n/65536/256=n/16777216:=by omega
   have e3:n/16777216%256=n/16777216:=by omega
   simp[JA,e1,e2,e3]]
  exact tc n w h0 (by omega)
def Yo (n:Nat):List UInt8:=if n<128 then [UInt8.ofNat n] else UInt8.ofNat (n%128+128)::Yo (n/128)
termination_by n
decreasing_by omega
theorem UW {n:Nat}(h:n<128):Yo n=[UInt8.ofNat n]:=by rw[Yo,Qv h]
theorem Rn {n:Nat}(h:¬n<128):Yo n=UInt8.ofNat (n%128+128)::Yo (n/128):=by rw[Yo,Qr h]
def Zi (ss:List (List UInt8)):List UInt8:=ss.flatMap λs=>Yo s.length++s
theorem RQ:Zi []=[]:=rfl
theorem YJ (s:List UInt8) (ss:List (List UInt8)):Zi (s::ss)=Yo s.length++s++Zi ss:=by simp[Zi]
theorem As (ss:List (List UInt8)) (s:List UInt8):Zi (ss++[s])=Zi ss++(Yo s.length++s):=by simp[Zi]
theorem I7 (n:Nat):1<=(Yo n).length:=by rw[Yo];split<;>simp
theorem dX (n:Nat):(Yo n).length<=n+1:=by
 induction n using Nat.strongRecOn with
 | ind n ih =>
  by_cases h:n<128
  ·rw[UW h];simp
  ·rw[Rn h];have:=ih (n/128) (by omega);simp only[YV];omega
def JI:List UInt8->Nat->Nat->Nat × Nat × Int
 | [],_,_=>(0,0,4)
 | c::l,i,n=>if i=3/\128<=c.toNat then (0,0,3) else if 128<=c.toNat then JI l (i+1) (n+c.toNat%128*128^i) else if c.toNat=0/\0<i then (0,0,3) else (n+c.toNat*128^i,i+1,0)
def Qi (b:List UInt8):Nat × Nat × Int:=JI b 0 0
theorem Lu (l:List UInt8):∀i n,i<=3->n<128^i->(JI l i n).2.2=0->i<(JI l i n).2.1/\(JI l i n).2.1<=i+l.length/\(JI l i n).2.1<=4/\(JI l i n).1<268435456:=by
 induction l with
 | nil=>intro i n _ _ h;simp[JI]at h
 | cons c l ih =>
  intro i n hi hn h;have hc:=c.toNat_lt;rw[JI]at h ⊢;split at h
  ·simp at h
  ·rename_i h1;rw[Qr h1];split at h
   ·rename_i h2;rw[Qv h2];have kR:i+1<=3:=by omega
    have hp:n+c.toNat%128*128^i<128^(i+1):=by rw[mV];have:c.toNat%128*128^i<=127*128^i:=mJ _ (by omega);omega
    have:=ih (i+1) _ kR hp h;simp only[YV];omega
   ·rename_i h2;rw[Qr h2];split at h
    ·simp at h
    ·rename_i h3;rw[Qr h3];simp only[YV];refine⟨by omega,by omega,by omega,?_⟩;have e:c.toNat*128^i<=127*128^i:=mJ _ (by omega);have:(128:Nat)^i<=128^3:=mI (by omega) hi;have:(128:Nat)^3=2097152:=by decide
     omega
theorem Xg (b:List UInt8) (h:(Qi b).2.2=0):1<=(Qi b).2.1/\(Qi b).2.1<=b.length/\(Qi b).2.1<=4/\(Qi b).1<268435456:=by
 have:=Lu b 0 0 (by omega) (by decide) h;unfold Qi;omega
def Xb:Nat->List UInt8->List (List UInt8) × Int
 | 0,_=>([],0)
 | f+1,b=>if b=[] then ([],0) else
   if (Qi b).2.2≠0 then ([],(Qi b).2.2) else
   if (b.drop (Qi b).2.1).length<(Qi b).1 then ([],4) else
   if (Xb f ((b.drop (Qi b).2.1).drop (Qi b).1)).2≠0 then ([],(Xb f ((b.drop (Qi b).2.1).drop (Qi b).1)).2) else
   ((b.drop (Qi b).2.1).take (Qi b).1::(Xb f ((b.drop (Qi b).2.1).drop (Qi b).1)).1,0)
theorem G8 (f:Nat):∀(g:Nat) (b:List UInt8),b.length<=f->b.length<=g->Xb f b=Xb g b:=by
 induction f with
 | zero => intro g b h _;obtain rfl:b=[]:=bd (by omega);cases g<;>simp[Xb]
 | succ f ih =>
  intro g b h hg;cases g with
  | zero => obtain rfl:b=[]:=bd (by omega);simp[Xb]
  | succ g =>
   by_cases hb:b=[]
   ·simp[Xb,hb]
   ·by_cases he:(Qi b).2.2=0
    ·have hu:=Xg b he;have hd:((b.drop (Qi b).2.1).drop (Qi b).1).length<=b.length-1:=by simp only[WQ];omega
     have hl:0<b.length:=List.length_pos_iff.2 hb;simp only[Xb,ih g ((b.drop (Qi b).2.1).drop (Qi b).1) (by omega) (by omega)]
    ·simp[Xb,hb,he]
def QD (b:List UInt8):List (List UInt8) × Int:=Xb b.length b
theorem R4:QD []=([],0):=rfl
theorem Ya (b:List UInt8) (hb:b≠[]):QD b=if (Qi b).2.2≠0 then ([],(Qi b).2.2) else
   if (b.drop (Qi b).2.1).length<(Qi b).1 then ([],4) else
   if (QD ((b.drop (Qi b).2.1).drop (Qi b).1)).2≠0 then ([],(QD ((b.drop (Qi b).2.1).drop (Qi b).1)).2) else
   ((b.drop (Qi b).2.1).take (Qi b).1::(QD ((b.drop (Qi b).2.1).drop (Qi b).1)).1,0):=by
 have hl:0<b.length:=List.length_pos_iff.2 hb;unfold QD;obtain⟨f,hf⟩:∃f,b.length=f+1:=⟨b.length-1,by omega⟩
 rw[hf,Xb,Qr hb];by_cases he:(Qi b).2.2=0
 ·have hu:=Xg b he;have hd:((b.drop (Qi b).2.1).drop (Qi b).1).length<=f:=by simp only[WQ];omega
  rw[G8 f _ _ hd (QW _)]
 ·rw[Qv he,Qv he]
theorem Da (b:List UInt8) (h:(QD b).2≠0):(QD b).1=[]:=by
 by_cases hb:b=[]
 ·subst hb;rfl
 ·rw[Ya b hb]at h ⊢;split
  ·rfl
  ·split
   ·rfl
   ·split
    ·rfl
    ·rename_i h1 h2 h3;rw[Qr h1,Qr h2,Qr h3]at h;exact absurd rfl h
theorem VV (b:List UInt8):(QD b).1.length<=b.length/\∀s∈(QD b).1,s.length<=b.length:=by
 induction hn:b.length using Nat.strongRecOn generalizing b with
 | ind n ih =>
  by_cases hb:b=[]
  ·subst hb;simp[R4]
  ·rw[Ya b hb];split
   ·simp
   ·rename_i h1;have he:(Qi b).2.2=0:=by simpa using h1
    have hu:=Xg b he;split
    ·simp
    ·split
     ·simp
     ·have hd:((b.drop (Qi b).2.1).drop (Qi b).1).length<n:=by simp only[WQ];omega
      obtain⟨i1,i2⟩:=ih _ hd _ rfl;refine⟨by simp only[YV];omega,λs hs=>?_⟩;rcases TA.1 hs with rfl|hs
      ·simp only[WV,WQ];omega
      ·have:=i2 s hs;omega
theorem Gk (m:Nat):∀(i n:Nat) (rest:List UInt8),i<=3->m<128^(4-i)->(0<i->0<m)->JI (Yo m++rest) i n=(n+m*128^i,i+(Yo m).length,0):=by
 induction m using Nat.strongRecOn with
 | ind m ih =>
  intro i n rest hi hm h0;by_cases h:m<128
  ·have e:(UInt8.ofNat m).toNat=m:=by rw[mK];omega
   rw[UW h];simp only[DB,Cx,JI,e];rw[Qr (by omega),Qr (by omega),Qr (by omega)];rfl
  ·have e:(UInt8.ofNat (m%128+128)).toNat=m%128+128:=by rw[mK];omega
   have kR:i<3:=by
    rcases Nat.lt_or_ge i 3 with h'|h'
    ·exact h'
    ·obtain rfl:i=3:=by omega
     simp at hm;omega
   rw[Rn h];simp only[DB,JI,e];rw[Qr (by omega),Qv (by omega)];have XL:m/128<128^(4-(i+1)):=by
    have:128^(4-i)=128^(4-(i+1))*128:=by rw[←mV];congr 1;omega
    rw[this]at hm;exact(Nat.div_lt_iff_lt_mul (by omega)).2 hm
   rw[ih (m/128) (by omega) (i+1) _ rest (by omega) XL (λ_=>by omega)];have e2:(m%128+128)%128=m%128:=by omega
   rw[e2,mV];refine Prod.ext ?_ (Prod.ext ?_ rfl)
   ·have hd:=Nat.div_add_mod m 128;have:m*128^i=(128*(m/128)+m%128)*128^i:=by rw[hd]
    rw[this,Nat.add_mul];have c:m/128*(128^i*128)=128*(m/128)*128^i:=by rw[bh (128^i) 128,←Nat.mul_assoc,bh (m/128) 128]
    simp only[c];omega
   ·simp only[YV];omega
theorem Gl (m:Nat) (rest:List UInt8) (hm:m<268435456):Qi (Yo m++rest)=(m,(Yo m).length,0):=by
 have:=Gk m 0 0 rest (by omega) (by simpa using hm) (by omega);unfold Qi;rw[this];simp
theorem Db (ss:List (List UInt8)) (h:∀s∈ss,s.length<268435456):QD (Zi ss)=(ss,0):=by
 induction ss with
 | nil=>rfl
 | cons s ss ih =>
  have hs:=h s (by simp);have QY:Zi (s::ss)≠[]:=by rw[YJ];intro e;have:=congrArg List.length e;have:=I7 s.length;simp only[Kh,Tz]at *;omega
  have hl:Qi (Zi (s::ss))=(s.length,(Yo s.length).length,0):=by rw[YJ,ar];exact Gl _ _ hs
  rw[Ya _ QY,hl];have d1:(Zi (s::ss)).drop (Yo s.length).length=s++Zi ss:=by rw[YJ,ar];simp
  simp only[d1,List.drop_left,List.take_left,ih (λx hx=>h x (by simp[hx]))];rw[Qr (by simp),Qr (by simp),Qr (by simp)]
theorem td (n:Int) (w:World) (h0:0<=n) (h1:n<=18446744073709551615) :
  Calls prog 104 #[.int .u64 n,.int .i64 8] w λe w'=>e=.returned (.string (Qb [b8 (n%256),b8 (n/256%256),b8 (n/65536%256),b8 (n/16777216%256),b8 (n/4294967296%256),b8 (n/1099511627776%256),b8 (n/281474976710656%256),b8 (n/72057594037927936)]))/\Ext w w':=by
 have hc:=Ks w [n%256,n/256%256,n/65536%256,n/16777216%256,n/4294967296%256,n/1099511627776%256,n/281474976710656%256,n/72057594037927936] #[.int .u8 (n%256),.int .u8 (n/256%256),.int .u8 (n/65536%256),.int .u8 (n/16777216%256),.int .u8 (n/4294967296%256),.int .u8 (n/1099511627776%256),.int .u8 (n/281474976710656%256),.int .u8 (n/72057594037927936)] 232 8 8 rfl (λi hi=>by
  rcases(show i=0\/i=1\/i=2\/i=3\/i=4\/i=5\/i=6\/i=7 by simp at hi;omega) with rfl|rfl|rfl|rfl|rfl|rfl|rfl|rfl<;>rfl)
 go_enter func104,ntmps104;go_wp2_with fail;refine am 9 ?_;rw[XN];go_wp2_with fail;rw[XN];go_wp2_with fail;rw[XN];go_wp2_with fail;rw[XN];go_wp2_with fail;rw[XN];go_wp2_with fail;rw[XN];go_wp2_with fail;rw[XN];go_wp2_with fail;rw[XN];go_wp2_with fail;rw[XN];go_wp2_with fail;go_ret;exact⟨rfl,(Qf _).alloc _⟩
theorem XB (x:Int) (c:UInt8) (k:Nat) (M:Int) (hM:M=((2^k:Nat):Int)) (h0:0<=x) (hx:x<M) (hb:M<=72057594037927936):bits .or .u64 x (IntKind.u64.wrap (IntKind.u64.wrap (c.toNat:Int)*M))=x+M*c.toNat:=by
 have hc:=c.toNat_lt;obtain⟨x,rfl⟩:=kB h0;obtain⟨m,rfl⟩:=kB (show 0<=M by omega);have hm:m=2^k:=by exact_mod_cast hM
 have Qo:m*c.toNat<=72057594037927936*255:=Nat.mul_le_mul (by omega) (by omega);rw[Ur,show(c.toNat:Int)*m=((m*c.toNat:Nat):Int) from by rw[Int.mul_comm];rfl,A5,mP (by omega) (by omega),u64_or_nat x (m*c.toNat) (by omega) (by omega)];rw[Nat.or_comm,hm,←pd (by rw[←hm];omega) c.toNat];rw[←hm,Int.natCast_add,Int.natCast_mul];omega
theorem IB (a b c d e f g h:UInt8):bits .or .u64 (bits .or .u64 (bits .or .u64 (bits .or .u64 (bits .or .u64 (bits .or .u64 (bits .or .u64 (bits .or .u64 0 (IntKind.u64.wrap (IntKind.u64.wrap (a.toNat:Int)))) (IntKind.u64.wrap (IntKind.u64.wrap (b.toNat:Int)*256))) (IntKind.u64.wrap (IntKind.u64.wrap (c.toNat:Int)*65536))) (IntKind.u64.wrap (IntKind.u64.wrap (d.toNat:Int)*16777216))) (IntKind.u64.wrap (IntKind.u64.wrap (e.toNat:Int)*4294967296))) (IntKind.u64.wrap (IntKind.u64.wrap (f.toNat:Int)*1099511627776))) (IntKind.u64.wrap (IntKind.u64.wrap (g.toNat:Int)*281474976710656))) (IntKind.u64.wrap (IntKind.u64.wrap (h.toNat:Int)*72057594037927936))=(a.toNat:Int)+256*b.toNat+65536*c.toNat+16777216*d.toNat+4294967296*e.toNat+1099511627776*f.toNat+281474976710656*g.toNat+72057594037927936*h.toNat:=by
 have ha:=a.toNat_lt;have hb:=b.toNat_lt;have hc:=c.toNat_lt;have hd:=d.toNat_lt
 have he:=e.toNat_lt;have hf:=f.toNat_lt;have hg:=g.toNat_lt;have hh:=h.toNat_lt
 rw[WB a];rw[XB _ b 8 256 (by rfl) (by omega) (by omega) (by omega)];rw[XB _ c 16 65536 (by rfl) (by omega) (by omega) (by omega)];rw[XB _ d 24 16777216 (by rfl) (by omega) (by omega) (by omega)];rw[XB _ e 32 4294967296 (by rfl) (by omega) (by omega) (by omega)];rw[XB _ f 40 1099511627776 (by rfl) (by omega) (by omega) (by omega)];rw[XB _ g 48 281474976710656 (by rfl) (by omega) (by omega) (by omega)];rw[XB _ h 56 72057594037927936 (by rfl) (by omega) (by omega) (by omega)]
theorem rz (a b c d e f g h:UInt8) (w:World) :
  Calls prog 164 #[.string (Qb [a,b,c,d,e,f,g,h])] w λz w'=>z=.returned (.int .u64 ((a.toNat:Int)+256*b.toNat+65536*c.toNat+16777216*d.toNat+4294967296*e.toNat+1099511627776*f.toNat+281474976710656*g.toNat+72057594037927936*h.toNat))/\w=w':=by
 have hz:=Qh;go_enter func164,ntmps164;go_wp2_with fail;refine am 9 ?_;rw[XN];go_wp2_with fail;rw[XN];go_wp2_with fail;rw[XN];go_wp2_with fail;rw[XN];go_wp2_with fail;rw[XN];go_wp2_with fail;rw[XN];go_wp2_with fail;rw[XN];go_wp2_with fail;rw[XN];go_wp2_with fail;rw[XN];go_wp2_with fail;go_ret;exact⟨Jk (IB a b c d e f g h),rfl⟩
theorem tW {l:List UInt8}(h:l.length=8):∃a b c d e f g i,l=[a,b,c,d,e,f,g,i]:=by
 match l,h with
 | [a,b,c,d,e,f,g,i],_=>exact⟨a,b,c,d,e,f,g,i,rfl⟩
theorem IC (s:List UInt8) (w:World) (h:s.length=4\/s.length=8) :
  Calls prog 164 #[.string (Qb s)] w λe w'=>e=.returned (.int .u64 (Yp s:Int))/\w=w':=by
 rcases h with h|h
 ·exact ID s w (.inr (.inr h))
 ·obtain⟨a,b,c,d,e,f,g,i,rfl⟩:=tW h;rw[show((Yp [a,b,c,d,e,f,g,i]:Nat):Int)=(a.toNat:Int)+256*b.toNat+65536*c.toNat+16777216*d.toNat+4294967296*e.toNat+1099511627776*f.toNat+281474976710656*g.toNat+72057594037927936*i.toNat by simp[Yp];omega];exact rz a b c d e f g i w
theorem oV (n:Int) (h1:n<18446744073709551616) (h0:0<=n):JA n 8=[b8 (n%256),b8 (n/256%256),b8 (n/65536%256),b8 (n/16777216%256),b8 (n/4294967296%256),b8 (n/1099511627776%256),b8 (n/281474976710656%256),b8 (n/72057594037927936)]:=by
 have e1:n/256/256=n/65536:=by omega
 have e2:n/65536/256=n/16777216:=by omega
 have e3:n/16777216/256=n/4294967296:=by omega
 have e4:n/4294967296/256=n/1099511627776:=by omega
 have e5:n/1099511627776/256=n/281474976710656:=by omega
 have e6:n/281474976710656/256=n/72057594037927936:=by omega
 have e7:n/72057594037927936%256=n/72057594037927936:=by omega
 simp[JA,e1,e2,e3,e4,e5,e6,e7]
theorem GG (n:Int) (w:World) (h0:0<=n) (h1:n<18446744073709551616) :
  Calls prog 104 #[.int .u64 n,.int .i64 8] w λe w'=>e=.returned (.string (Qb (JA n 8)))/\Ext w w':=by
 rw[oV n h1 h0];exact td n w h0 (by omega)
theorem OJ (n:Int) (w:World) (h0:0<=n) (h1:n<4294967296) :
  Calls prog 104 #[.int .u64 n,.int .i64 4] w λe w'=>e=.returned (.string (Qb (JA n 4)))/\Ext w w':=oW n 4 w (.inr (.inr rfl)) h0 h1
end Go.Proofs.YtfaplefkakpgcaaGreatDoor
