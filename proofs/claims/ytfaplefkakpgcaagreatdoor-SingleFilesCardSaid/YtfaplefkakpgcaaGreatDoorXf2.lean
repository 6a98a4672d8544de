/- The walks of package num: Put, Get, at one, two and four bytes. -/
import Derived.Test.YtfaplefkakpgcaaGreatDoorRows
import Derived.Test.YtfaplefkakpgcaaGreatDoorXf1
import Derived.Laws.BitsAllLaws
set_option linter.unusedVariables false
set_option linter.unusedSimpArgs false
set_option maxHeartbeats 32000000
set_option maxRecDepth 100000
namespace Go.Proofs.YtfaplefkakpgcaaGreatDoor
open Go.Proofs.Tryz
open Go.RowKit
def b8 (n:Int):UInt8:=UInt8.ofNat n.toNat
theorem b8_toNat (v:Int) (h0:0<=v) (h1:v<=255):((b8 v).toNat:Int)=v:=by
 unfold b8;simp[UInt8.toNat_ofNat'];omega
theorem conv_row (w:World) (xs:List Int) (cs:Array Value) (t c k:Nat) (hk:xs.length=k) (hc:∀i,i<xs.length->cs[i]? =some (.int .u8 (xs.getD i 0))) :
  (convert 167 9 (.slice (some ⟨w.heap.size,0,none⟩) k c)).run prog (w.alloc (.cells cs t))=.ok (.string (str (xs.map b8))) (w.alloc (.cells cs t)):=by
 subst hk;refine run_convert_bytes_arg (P:=prog) _ 167 5 underlying167 underlying5 _ _ _ c xs rfl (λi hi=>?_) 9 underlying9;have:=hc i hi;have hb:=cell_of_row (w.alloc (.cells cs t)) w.heap.size (0+i) cs t (0,0) (heap_alloc_new w _);rw[hb,Nat.zero_add];exact this
theorem put2 (n:Int) (w:World) (h0:0<=n) (h1:n<=65535) :
  Calls prog 104 #[.int .u64 n,.int .i64 2] w λe w'=>e=.returned (.string (str [b8 (n%256),b8 (n/256)]))/\Ext w w':=by
 have hc:=conv_row w [n%256,n/256] #[.int .u8 (n%256),.int .u8 (n/256),.int .u8 0,.int .u8 0,.int .u8 0,.int .u8 0,.int .u8 0,.int .u8 0] 232 8 2 rfl (λi hi=>by
  rcases(show i=0\/i=1 by simp at hi;omega) with rfl|rfl<;>rfl)
 go_enter func104,ntmps104;go_wp2_with fail;refine wp_loop_rounds 3 ?_;rw[rounds_succ];go_wp2_with fail;rw[rounds_succ];go_wp2_with fail;rw[rounds_succ];go_wp2_with fail;go_ret;exact⟨rfl,(Ext.refl _).alloc _⟩
theorem put1 (n:Int) (w:World) (h0:0<=n) (h1:n<=255) :
  Calls prog 104 #[.int .u64 n,.int .i64 1] w λe w'=>e=.returned (.string (str [b8 n]))/\Ext w w':=by
 have hc:=conv_row w [n] #[.int .u8 n,.int .u8 0,.int .u8 0,.int .u8 0,.int .u8 0,.int .u8 0,.int .u8 0,.int .u8 0] 232 8 1 rfl (λi hi=>by
  rcases(show i=0 by simp at hi;omega) with rfl;rfl)
 go_enter func104,ntmps104;go_wp2_with fail;refine wp_loop_rounds 2 ?_;rw[rounds_succ];go_wp2_with fail;rw[rounds_succ];go_wp2_with fail;go_ret;exact⟨rfl,(Ext.refl _).alloc _⟩
theorem put4 (n:Int) (w:World) (h0:0<=n) (h1:n<=4294967295) :
  Calls prog 104 #[.int .u64 n,.int .i64 4] w λe w'=>e=.returned (.string (str [b8 (n%256),b8 (n/256%256),b8 (n/65536%256),b8 (n/16777216)]))/\Ext w w':=by
 have hc:=conv_row w [n%256,n/256%256,n/65536%256,n/16777216] #[.int .u8 (n%256),.int .u8 (n/256%256),.int .u8 (n/65536%256),.int .u8 (n/16777216),.int .u8 0,.int .u8 0,.int .u8 0,.int .u8 0] 232 8 4 rfl (λi hi=>by
  rcases(show i=0\/i=1\/i=2\/i=3 by simp at hi;omega) with rfl|rfl|rfl|rfl<;>rfl)
 go_enter func104,ntmps104;go_wp2_with fail;refine wp_loop_rounds 5 ?_;rw[rounds_succ];go_wp2_with fail;rw[rounds_succ];go_wp2_with fail;rw[rounds_succ];go_wp2_with fail;rw[rounds_succ];go_wp2_with fail;rw[rounds_succ];go_wp2_with fail;go_ret;exact⟨rfl,(Ext.refl _).alloc _⟩
theorem ret_int {k:IntKind}{a b:Int}(h:a=b):Ending.returned (.int k a)=.returned (.int k b):=by rw[h]
theorem wrap_byte (c:UInt8):IntKind.u64.wrap (c.toNat:Int)=c.toNat:=by rw[IntKind.wrap_u64];have:=c.toNat_lt;omega
theorem or_first (a:UInt8):bits .or .u64 0 (IntKind.u64.wrap (IntKind.u64.wrap (a.toNat:Int)))=a.toNat:=by
 rw[wrap_byte,wrap_byte];have:=u64_or_nat 0 a.toNat (by omega) (by have:=a.toNat_lt;omega);simpa using this
theorem or_next (x:Int) (c:UInt8) (k:Nat) (M:Int) (hM:M=((2^k:Nat):Int)) (h0:0<=x) (hx:x<M) (hb:M<=16777216):bits .or .u64 x (IntKind.u64.wrap (IntKind.u64.wrap (c.toNat:Int)*M))=x+M*c.toNat:=by
 have hc:=c.toNat_lt;obtain⟨x,rfl⟩:=Int.eq_ofNat_of_zero_le h0;obtain⟨m,rfl⟩:=Int.eq_ofNat_of_zero_le (show 0<=M by omega);have hm:m=2^k:=by exact_mod_cast hM
 have hlt:m*c.toNat<4294967296:=by have:m*c.toNat<=16777216*255:=Nat.mul_le_mul (by omega) (by omega);omega
 rw[wrap_byte,show(c.toNat:Int)*m=((m*c.toNat:Nat):Int) from by rw[Int.mul_comm];rfl,IntKind.wrap_u64,Int.emod_eq_of_lt (by omega) (by omega),u64_or_nat x (m*c.toNat) (by omega) (by omega)];rw[Nat.or_comm,hm,← Nat.two_pow_add_eq_or_of_lt (by rw[← hm];omega) c.toNat];rw[← hm,Int.natCast_add,Int.natCast_mul];omega
theorem get1_val (a:UInt8):bits .or .u64 0 (IntKind.u64.wrap (IntKind.u64.wrap (a.toNat:Int)))=(a.toNat:Int):=by
 have ha:=a.toNat_lt;rw[or_first a]
theorem get1 (a:UInt8) (w:World) :
  Calls prog 164 #[.string (str [a])] w λe w'=>e=.returned (.int .u64 ((a.toNat:Int)))/\w=w':=by
 have hz:=str_size;go_enter func164,ntmps164;go_wp2_with fail;refine wp_loop_rounds 2 ?_;rw[rounds_succ];go_wp2_with fail;rw[rounds_succ];go_wp2_with fail;go_ret;exact⟨ret_int (get1_val a),rfl⟩
theorem get2_val (a b:UInt8):bits .or .u64 (bits .or .u64 0 (IntKind.u64.wrap (IntKind.u64.wrap (a.toNat:Int)))) (IntKind.u64.wrap (IntKind.u64.wrap (b.toNat:Int)*256))=(a.toNat:Int)+256*b.toNat:=by
 have ha:=a.toNat_lt;have hb:=b.toNat_lt;rw[or_first a];rw[or_next _ b 8 256 (by rfl) (by omega) (by omega) (by omega)]
theorem get2 (a b:UInt8) (w:World) :
  Calls prog 164 #[.string (str [a,b])] w λe w'=>e=.returned (.int .u64 ((a.toNat:Int)+256*b.toNat))/\w=w':=by
 have hz:=str_size;go_enter func164,ntmps164;go_wp2_with fail;refine wp_loop_rounds 3 ?_;rw[rounds_succ];go_wp2_with fail;rw[rounds_succ];go_wp2_with fail;rw[rounds_succ];go_wp2_with fail;go_ret;exact⟨ret_int (get2_val a b),rfl⟩
theorem get4_val (a b c d:UInt8):bits .or .u64 (bits .or .u64 (bits .or .u64 (bits .or .u64 0 (IntKind.u64.wrap (IntKind.u64.wrap (a.toNat:Int)))) (IntKind.u64.wrap (IntKind.u64.wrap (b.toNat:Int)*256))) (IntKind.u64.wrap (IntKind.u64.wrap (c.toNat:Int)*65536))) (IntKind.u64.wrap (IntKind.u64.wrap (d.toNat:Int)*16777216))=(a.toNat:Int)+256*b.toNat+65536*c.toNat+16777216*d.toNat:=by
 have ha:=a.toNat_lt;have hb:=b.toNat_lt;have hc:=c.toNat_lt;have hd:=d.toNat_lt
 rw[or_first a];rw[or_next _ b 8 256 (by rfl) (by omega) (by omega) (by omega),or_next _ c 16 65536 (by rfl) (by omega) (by omega) (by omega),or_next _ d 24 16777216 (by rfl) (by omega) (by omega) (by omega)]
theorem get4 (a b c d:UInt8) (w:World) :
  Calls prog 164 #[.string (str [a,b,c,d])] w λe w'=>e=.returned (.int .u64 ((a.toNat:Int)+256*b.toNat+65536*c.toNat+16777216*d.toNat))/\w=w':=by
 have hz:=str_size;go_enter func164,ntmps164;go_wp2_with fail;refine wp_loop_rounds 5 ?_;rw[rounds_succ];go_wp2_with fail;rw[rounds_succ];go_wp2_with fail;rw[rounds_succ];go_wp2_with fail;rw[rounds_succ];go_wp2_with fail;rw[rounds_succ];go_wp2_with fail;go_ret;exact⟨ret_int (get4_val a b c d),rfl⟩
def geomV (B I:Int):Value:=.agg #[.int .i64 B,.int .i64 I,.int .i64 1,.int .i64 2,.int .i64 3,.int .i64 (3+(I+1)/2)]
def noGeom:Value:=.agg #[.int .i64 0,.int .i64 0,.int .i64 0,.int .i64 0,.int .i64 0,.int .i64 0]
def planB (B I:Int):Bool:=decide (16<=B/\B<=223/\4<=I/\I<=64/\3+(I+1)/2<B)
theorem plan_yes (B I:Int) (w:World) (h:planB B I=true) :
  Calls prog 163 #[.int .i64 B,.int .i64 I] w λe w'=>e=.returned (.tuple #[geomV B I,.int .i64 0])/\Ext w w':=by
 have hp:16<=B/\B<=223/\4<=I/\I<=64/\3+(I+1)/2<B:=by simpa[planB]using h
 clear h;go_enter func163,ntmps163;go_wp2_with fail;exact bodyPost_ret (v:=.tuple #[geomV B I,.int .i64 0]) (by simp[results,Tryz.results163,go_sem,geomV]) rfl ⟨rfl,(Ext.refl _).alloc _⟩
def bitB (m:List UInt8) (i:Nat):Bool:=decide ((m.getD (i/8) 0).toNat/2^(i%8)%2=1)
theorem bit_val' (c:UInt8) (k:Nat):(bits BinOp.and IntKind.u8 ((c.toNat:Int)/2^k) 1==1)=decide (c.toNat/2^k%2=1):=by
 have hc:=c.toNat_lt;have e2:((c.toNat:Int)/2^k)=((c.toNat/2^k:Nat):Int):=by rw[Int.natCast_ediv,Int.natCast_pow];rfl
 have hlt:c.toNat/2^k<256:=Nat.lt_of_le_of_lt (Nat.div_le_self _ _) hc;have:=u8_and_nat (c.toNat/2^k) 1 hlt (by omega);rw[e2,show(1:Int)=((1:Nat):Int) from rfl,this,Nat.and_one_is_mod];rw[Bool.eq_iff_iff];simp;omega
theorem str_at (m:List UInt8) (k:Nat) (h:k<(str m).size):(str m)[k]=m.getD k 0:=by
 have hl:k<m.length:=by rw[str_size]at h;exact h
 exact(show(str m)[k]=m[k] from rfl).trans (by simp[List.getD,hl])
theorem bit_val (m:List UInt8) (i:Nat) (h:i/8<(str m).size):(bits BinOp.and IntKind.u8 (((str m)[i/8].toNat:Int)/2^(i%8)) 1==1)=bitB m i :=
 (bit_val' _ _).trans (by unfold bitB;exact congrArg (λc:UInt8=>decide (c.toNat/2^(i%8)%2=1)) (str_at m (i/8) h))
theorem ret_bool {a b:Bool}(h:a=b):Ending.returned (.bool a)=.returned (.bool b):=by rw[h]
theorem bit_any (b o n c i:Nat) (m:List UInt8) (w:World) (hn:3<=n) (hc:w.cell? ⟨b,o+2,none⟩=some (.string (str m))) (hm:m.length=128) (hi:i<1024) :
  Calls prog 166 #[.slice (some ⟨b,o,none⟩) n c,.int .i64 i] w λe w'=>e=.returned (.bool (bitB m i))/\w=w':=by
 have hz:(str m).size=128:=by rw[str_size,hm]
 go_enter func166,ntmps166;go_wp2_with fail;go_ret;exact⟨ret_bool (bit_val m i (by omega)),rfl⟩
def numL:List UInt8->Nat
 | []=>0
 | c::l=>c.toNat+256*numL l
def putL (n:Int):Nat->List UInt8
 | 0=>[]
 | z+1=>b8 (n%256)::putL (n/256) z
theorem putL_len (n:Int) (z:Nat):(putL n z).length=z:=by
 induction z generalizing n with
 | zero=>rfl
 | succ z ih=>simp[putL,ih]
theorem numL_lt (l:List UInt8):numL l<256^l.length:=by
 induction l with
 | nil=>simp[numL]
 | cons c l ih=>have:=c.toNat_lt;simp only[numL,List.length_cons,Nat.pow_succ];omega
theorem len1 {l:List UInt8}(h:l.length=1):∃a,l=[a]:=by
 match l,h with
 | [a],_=>exact⟨a,rfl⟩
theorem len2 {l:List UInt8}(h:l.length=2):∃a b,l=[a,b]:=by
 match l,h with
 | [a,b],_=>exact⟨a,b,rfl⟩
theorem len4 {l:List UInt8}(h:l.length=4):∃a b c d,l=[a,b,c,d]:=by
 match l,h with
 | [a,b,c,d],_=>exact⟨a,b,c,d,rfl⟩
theorem get_z (s:List UInt8) (w:World) (h:s.length=1\/s.length=2\/s.length=4) :
  Calls prog 164 #[.string (str s)] w λe w'=>e=.returned (.int .u64 (numL s:Int))/\w=w':=by
 rcases h with h|h|h
 ·obtain⟨a,rfl⟩:=len1 h;rw[show((numL [a]:Nat):Int)=(a.toNat:Int) by simp[numL]];exact get1 a w
 ·obtain⟨a,b,rfl⟩:=len2 h;rw[show((numL [a,b]:Nat):Int)=(a.toNat:Int)+256*b.toNat by simp[numL]];exact get2 a b w
 ·obtain⟨a,b,c,d,rfl⟩:=len4 h;rw[show((numL [a,b,c,d]:Nat):Int)=(a.toNat:Int)+256*b.toNat+65536*c.toNat+16777216*d.toNat by simp[numL];omega];exact get4 a b c d w
theorem put_z (n z:Int) (w:World) (hz:z=1\/z=2\/z=4) (h0:0<=n) (h1:n<256^z.toNat) :
  Calls prog 104 #[.int .u64 n,.int .i64 z] w λe w'=>e=.returned (.string (str (putL n z.toNat)))/\Ext w w':=by
 rcases hz with rfl|rfl|rfl
 ·have h1':n<256:=h1;rw[show putL n (1:Int).toNat=[b8 n] by simp[putL,Int.emod_eq_of_lt h0 h1']];exact put1 n w h0 (by omega)
 ·have h1':n<65536:=h1;rw[show putL n (2:Int).toNat=[b8 (n%256),b8 (n/256)] by simp[putL];rw[Int.emod_eq_of_lt (by omega) (by omega)]];exact put2 n w h0 (by omega)
 ·have h1':n<4294967296:=h1;rw[show putL n (4:Int).toNat=[b8 (n%256),b8 (n/256%256),b8 (n/65536%256),b8 (n/16777216)] by
   have e1:n/256/256=n/65536:=by omega
   have e2:n/65536/256=n/16777216:=by omega
   have e3:n/16777216%256=n/16777216:=by omega
   simp[putL,e1,e2,e3]]
  exact put4 n w h0 (by omega)
def lenL (n:Nat):List UInt8:=if n<128 then [UInt8.ofNat n] else UInt8.ofNat (n%128+128)::lenL (n/128)
termination_by n
decreasing_by omega
theorem lenL_small {n:Nat}(h:n<128):lenL n=[UInt8.ofNat n]:=by rw[lenL,if_pos h]
theorem lenL_big {n:Nat}(h:¬n<128):lenL n=UInt8.ofNat (n%128+128)::lenL (n/128):=by rw[lenL,if_neg h]
def rowL (ss:List (List UInt8)):List UInt8:=ss.flatMap λs=>lenL s.length++s
theorem rowL_nil:rowL []=[]:=rfl
theorem rowL_cons (s:List UInt8) (ss:List (List UInt8)):rowL (s::ss)=lenL s.length++s++rowL ss:=by simp[rowL]
theorem rowL_snoc (ss:List (List UInt8)) (s:List UInt8):rowL (ss++[s])=rowL ss++(lenL s.length++s):=by simp[rowL]
theorem lenL_le (n:Nat):(lenL n).length<=n+1:=by
 induction n using Nat.strongRecOn with
 | ind n ih =>
  by_cases h:n<128
  ·rw[lenL_small h];simp
  ·rw[lenL_big h];have:=ih (n/128) (by omega);simp only[List.length_cons];omega
def lengthF:List UInt8->Nat->Nat->Nat × Nat × Int
 | [],_,_=>(0,0,4)
 | c::l,i,n=>if i=3/\128<=c.toNat then (0,0,3) else if 128<=c.toNat then lengthF l (i+1) (n+c.toNat%128*128^i) else if c.toNat=0/\0<i then (0,0,3) else (n+c.toNat*128^i,i+1,0)
def lengthP (b:List UInt8):Nat × Nat × Int:=lengthF b 0 0
theorem lengthF_used (l:List UInt8):∀i n,i<=3->n<128^i->(lengthF l i n).2.2=0->i<(lengthF l i n).2.1/\(lengthF l i n).2.1<=i+l.length/\(lengthF l i n).2.1<=4/\(lengthF l i n).1<268435456:=by
 induction l with
 | nil=>intro i n _ _ h;simp[lengthF]at h
 | cons c l ih =>
  intro i n hi hn h;have hc:=c.toNat_lt;rw[lengthF]at h ⊢;split at h
  ·simp at h
  ·rename_i h1;rw[if_neg h1];split at h
   ·rename_i h2;rw[if_pos h2];have hi2:i+1<=3:=by omega
    have hp:n+c.toNat%128*128^i<128^(i+1):=by rw[Nat.pow_succ];have:c.toNat%128*128^i<=127*128^i:=Nat.mul_le_mul_right _ (by omega);omega
    have:=ih (i+1) _ hi2 hp h;simp only[List.length_cons];omega
   ·rename_i h2;rw[if_neg h2];split at h
    ·simp at h
    ·rename_i h3;rw[if_neg h3];simp only[List.length_cons];refine⟨by omega,by omega,by omega,?_⟩;have e:c.toNat*128^i<=127*128^i:=Nat.mul_le_mul_right _ (by omega);have:(128:Nat)^i<=128^3:=Nat.pow_le_pow_right (by omega) hi;have:(128:Nat)^3=2097152:=by decide
     omega
theorem lengthP_used (b:List UInt8) (h:(lengthP b).2.2=0):1<=(lengthP b).2.1/\(lengthP b).2.1<=b.length/\(lengthP b).2.1<=4/\(lengthP b).1<268435456:=by
 have:=lengthF_used b 0 0 (by omega) (by decide) h;unfold lengthP;omega
def textsF:Nat->List UInt8->List (List UInt8) × Int
 | 0,_=>([],0)
 | f+1,b=>if b=[] then ([],0) else
   if (lengthP b).2.2≠0 then ([],(lengthP b).2.2) else
   if (b.drop (lengthP b).2.1).length<(lengthP b).1 then ([],4) else
   if (textsF f ((b.drop (lengthP b).2.1).drop (lengthP b).1)).2≠0 then ([],(textsF f ((b.drop (lengthP b).2.1).drop (lengthP b).1)).2) else
   ((b.drop (lengthP b).2.1).take (lengthP b).1::(textsF f ((b.drop (lengthP b).2.1).drop (lengthP b).1)).1,0)
theorem textsF_more (f:Nat):∀(g:Nat) (b:List UInt8),b.length<=f->b.length<=g->textsF f b=textsF g b:=by
 induction f with
 | zero => intro g b h _;obtain rfl:b=[]:=List.eq_nil_of_length_eq_zero (by omega);cases g<;>simp[textsF]
 | succ f ih =>
  intro g b h hg;cases g with
  | zero => obtain rfl:b=[]:=List.eq_nil_of_length_eq_zero (by omega);simp[textsF]
  | succ g =>
   by_cases hb:b=[]
   ·simp[textsF,hb]
   ·by_cases he:(lengthP b).2.2=0
    ·have hu:=lengthP_used b he;have hd:((b.drop (lengthP b).2.1).drop (lengthP b).1).length<=b.length-1:=by simp only[List.length_drop];omega
     have hl:0<b.length:=List.length_pos_iff.2 hb;simp only[textsF,ih g ((b.drop (lengthP b).2.1).drop (lengthP b).1) (by omega) (by omega)]
    ·simp[textsF,hb,he]
def textsP (b:List UInt8):List (List UInt8) × Int:=textsF b.length b
theorem textsP_nil:textsP []=([],0):=rfl
theorem textsP_step (b:List UInt8) (hb:b≠[]):textsP b=if (lengthP b).2.2≠0 then ([],(lengthP b).2.2) else
   if (b.drop (lengthP b).2.1).length<(lengthP b).1 then ([],4) else
   if (textsP ((b.drop (lengthP b).2.1).drop (lengthP b).1)).2≠0 then ([],(textsP ((b.drop (lengthP b).2.1).drop (lengthP b).1)).2) else
   ((b.drop (lengthP b).2.1).take (lengthP b).1::(textsP ((b.drop (lengthP b).2.1).drop (lengthP b).1)).1,0):=by
 have hl:0<b.length:=List.length_pos_iff.2 hb;unfold textsP;obtain⟨f,hf⟩:∃f,b.length=f+1:=⟨b.length-1,by omega⟩
 rw[hf,textsF,if_neg hb];by_cases he:(lengthP b).2.2=0
 ·have hu:=lengthP_used b he;have hd:((b.drop (lengthP b).2.1).drop (lengthP b).1).length<=f:=by simp only[List.length_drop];omega
  rw[textsF_more f _ _ hd (Nat.le_refl _)]
 ·rw[if_pos he,if_pos he]
theorem textsP_err (b:List UInt8) (h:(textsP b).2≠0):(textsP b).1=[]:=by
 by_cases hb:b=[]
 ·subst hb;rfl
 ·rw[textsP_step b hb]at h ⊢;split
  ·rfl
  ·split
   ·rfl
   ·split
    ·rfl
    ·rename_i h1 h2 h3;rw[if_neg h1,if_neg h2,if_neg h3]at h;exact absurd rfl h
theorem textsP_len (b:List UInt8):(textsP b).1.length<=b.length/\∀s∈(textsP b).1,s.length<=b.length:=by
 induction hn:b.length using Nat.strongRecOn generalizing b with
 | ind n ih =>
  by_cases hb:b=[]
  ·subst hb;simp[textsP_nil]
  ·rw[textsP_step b hb];split
   ·simp
   ·rename_i h1;have he:(lengthP b).2.2=0:=by simpa using h1
    have hu:=lengthP_used b he;split
    ·simp
    ·split
     ·simp
     ·have hd:((b.drop (lengthP b).2.1).drop (lengthP b).1).length<n:=by simp only[List.length_drop];omega
      obtain⟨i1,i2⟩:=ih _ hd _ rfl;refine⟨by simp only[List.length_cons];omega,λs hs=>?_⟩;rcases List.mem_cons.1 hs with rfl|hs
      ·simp only[List.length_take,List.length_drop];omega
      ·have:=i2 s hs;omega
theorem put8 (n:Int) (w:World) (h0:0<=n) (h1:n<=18446744073709551615) :
  Calls prog 104 #[.int .u64 n,.int .i64 8] w λe w'=>e=.returned (.string (str [b8 (n%256),b8 (n/256%256),b8 (n/65536%256),b8 (n/16777216%256),b8 (n/4294967296%256),b8 (n/1099511627776%256),b8 (n/281474976710656%256),b8 (n/72057594037927936)]))/\Ext w w':=by
 have hc:=conv_row w [n%256,n/256%256,n/65536%256,n/16777216%256,n/4294967296%256,n/1099511627776%256,n/281474976710656%256,n/72057594037927936] #[.int .u8 (n%256),.int .u8 (n/256%256),.int .u8 (n/65536%256),.int .u8 (n/16777216%256),.int .u8 (n/4294967296%256),.int .u8 (n/1099511627776%256),.int .u8 (n/281474976710656%256),.int .u8 (n/72057594037927936)] 232 8 8 rfl (λi hi=>by
  rcases(show i=0\/i=1\/i=2\/i=3\/i=4\/i=5\/i=6\/i=7 by simp at hi;omega) with rfl|rfl|rfl|rfl|rfl|rfl|rfl|rfl<;>rfl)
 go_enter func104,ntmps104;go_wp2_with fail;refine wp_loop_rounds 9 ?_;rw[rounds_succ];go_wp2_with fail;rw[rounds_succ];go_wp2_with fail;rw[rounds_succ];go_wp2_with fail;rw[rounds_succ];go_wp2_with fail;rw[rounds_succ];go_wp2_with fail;rw[rounds_succ];go_wp2_with fail;rw[rounds_succ];go_wp2_with fail;rw[rounds_succ];go_wp2_with fail;rw[rounds_succ];go_wp2_with fail;go_ret;exact⟨rfl,(Ext.refl _).alloc _⟩
theorem or_next8 (x:Int) (c:UInt8) (k:Nat) (M:Int) (hM:M=((2^k:Nat):Int)) (h0:0<=x) (hx:x<M) (hb:M<=72057594037927936):bits .or .u64 x (IntKind.u64.wrap (IntKind.u64.wrap (c.toNat:Int)*M))=x+M*c.toNat:=by
 have hc:=c.toNat_lt;obtain⟨x,rfl⟩:=Int.eq_ofNat_of_zero_le h0;obtain⟨m,rfl⟩:=Int.eq_ofNat_of_zero_le (show 0<=M by omega);have hm:m=2^k:=by exact_mod_cast hM
 have hlt:m*c.toNat<=72057594037927936*255:=Nat.mul_le_mul (by omega) (by omega);rw[wrap_byte,show(c.toNat:Int)*m=((m*c.toNat:Nat):Int) from by rw[Int.mul_comm];rfl,IntKind.wrap_u64,Int.emod_eq_of_lt (by omega) (by omega),u64_or_nat x (m*c.toNat) (by omega) (by omega)];rw[Nat.or_comm,hm,← Nat.two_pow_add_eq_or_of_lt (by rw[← hm];omega) c.toNat];rw[← hm,Int.natCast_add,Int.natCast_mul];omega
theorem get8_val (a b c d e f g h:UInt8):bits .or .u64 (bits .or .u64 (bits .or .u64 (bits .or .u64 (bits .or .u64 (bits .or .u64 (bits .or .u64 (bits .or .u64 0 (IntKind.u64.wrap (IntKind.u64.wrap (a.toNat:Int)))) (IntKind.u64.wrap (IntKind.u64.wrap (b.toNat:Int)*256))) (IntKind.u64.wrap (IntKind.u64.wrap (c.toNat:Int)*65536))) (IntKind.u64.wrap (IntKind.u64.wrap (d.toNat:Int)*16777216))) (IntKind.u64.wrap (IntKind.u64.wrap (e.toNat:Int)*4294967296))) (IntKind.u64.wrap (IntKind.u64.wrap (f.toNat:Int)*1099511627776))) (IntKind.u64.wrap (IntKind.u64.wrap (g.toNat:Int)*281474976710656))) (IntKind.u64.wrap (IntKind.u64.wrap (h.toNat:Int)*72057594037927936))=(a.toNat:Int)+256*b.toNat+65536*c.toNat+16777216*d.toNat+4294967296*e.toNat+1099511627776*f.toNat+281474976710656*g.toNat+72057594037927936*h.toNat:=by
 have ha:=a.toNat_lt;have hb:=b.toNat_lt;have hc:=c.toNat_lt;have hd:=d.toNat_lt
 have he:=e.toNat_lt;have hf:=f.toNat_lt;have hg:=g.toNat_lt;have hh:=h.toNat_lt
 rw[or_first a];rw[or_next8 _ b 8 256 (by rfl) (by omega) (by omega) (by omega)];rw[or_next8 _ c 16 65536 (by rfl) (by omega) (by omega) (by omega)];rw[or_next8 _ d 24 16777216 (by rfl) (by omega) (by omega) (by omega)];rw[or_next8 _ e 32 4294967296 (by rfl) (by omega) (by omega) (by omega)];rw[or_next8 _ f 40 1099511627776 (by rfl) (by omega) (by omega) (by omega)];rw[or_next8 _ g 48 281474976710656 (by rfl) (by omega) (by omega) (by omega)];rw[or_next8 _ h 56 72057594037927936 (by rfl) (by omega) (by omega) (by omega)]
theorem get8 (a b c d e f g h:UInt8) (w:World) :
  Calls prog 164 #[.string (str [a,b,c,d,e,f,g,h])] w λz w'=>z=.returned (.int .u64 ((a.toNat:Int)+256*b.toNat+65536*c.toNat+16777216*d.toNat+4294967296*e.toNat+1099511627776*f.toNat+281474976710656*g.toNat+72057594037927936*h.toNat))/\w=w':=by
 have hz:=str_size;go_enter func164,ntmps164;go_wp2_with fail;refine wp_loop_rounds 9 ?_;rw[rounds_succ];go_wp2_with fail;rw[rounds_succ];go_wp2_with fail;rw[rounds_succ];go_wp2_with fail;rw[rounds_succ];go_wp2_with fail;rw[rounds_succ];go_wp2_with fail;rw[rounds_succ];go_wp2_with fail;rw[rounds_succ];go_wp2_with fail;rw[rounds_succ];go_wp2_with fail;rw[rounds_succ];go_wp2_with fail;go_ret;exact⟨ret_int (get8_val a b c d e f g h),rfl⟩
theorem len8 {l:List UInt8}(h:l.length=8):∃a b c d e f g i,l=[a,b,c,d,e,f,g,i]:=by
 match l,h with
 | [a,b,c,d,e,f,g,i],_=>exact⟨a,b,c,d,e,f,g,i,rfl⟩
theorem get_48 (s:List UInt8) (w:World) (h:s.length=4\/s.length=8) :
  Calls prog 164 #[.string (str s)] w λe w'=>e=.returned (.int .u64 (numL s:Int))/\w=w':=by
 rcases h with h|h
 ·exact get_z s w (.inr (.inr h))
 ·obtain⟨a,b,c,d,e,f,g,i,rfl⟩:=len8 h;rw[show((numL [a,b,c,d,e,f,g,i]:Nat):Int)=(a.toNat:Int)+256*b.toNat+65536*c.toNat+16777216*d.toNat+4294967296*e.toNat+1099511627776*f.toNat+281474976710656*g.toNat+72057594037927936*i.toNat by simp[numL];omega];exact get8 a b c d e f g i w
theorem putL8 (n:Int) (h1:n<18446744073709551616) (h0:0<=n):putL n 8=[b8 (n%256),b8 (n/256%256),b8 (n/65536%256),b8 (n/16777216%256),b8 (n/4294967296%256),b8 (n/1099511627776%256),b8 (n/281474976710656%256),b8 (n/72057594037927936)]:=by
 have e1:n/256/256=n/65536:=by omega
 have e2:n/65536/256=n/16777216:=by omega
 have e3:n/16777216/256=n/4294967296:=by omega
 have e4:n/4294967296/256=n/1099511627776:=by omega
 have e5:n/1099511627776/256=n/281474976710656:=by omega
 have e6:n/281474976710656/256=n/72057594037927936:=by omega
 have e7:n/72057594037927936%256=n/72057594037927936:=by omega
 simp[putL,e1,e2,e3,e4,e5,e6,e7]
theorem put_8 (n:Int) (w:World) (h0:0<=n) (h1:n<18446744073709551616) :
  Calls prog 104 #[.int .u64 n,.int .i64 8] w λe w'=>e=.returned (.string (str (putL n 8)))/\Ext w w':=by
 rw[putL8 n h1 h0];exact put8 n w h0 (by omega)
theorem put_4 (n:Int) (w:World) (h0:0<=n) (h1:n<4294967296) :
  Calls prog 104 #[.int .u64 n,.int .i64 4] w λe w'=>e=.returned (.string (str (putL n 4)))/\Ext w w':=put_z n 4 w (.inr (.inr rfl)) h0 h1
end Go.Proofs.YtfaplefkakpgcaaGreatDoor
