/- The walk of geom.turned. -/
import Derived.Test.YtfaplefkakpgcaaGreatDoorXf6
import Derived.Lib.BufferWrite
import Derived.Deep.OwnRows
set_option linter.unusedVariables false
set_option linter.unusedSimpArgs false
set_option maxHeartbeats 32000000
set_option maxRecDepth 100000
namespace Go.Proofs.YtfaplefkakpgcaaGreatDoor
open Go.Proofs.Tryz
open Go.RowKit
def byteVals (m:List UInt8):Array Value:=(m.map λc=>Value.int .u8 (c.toNat:Int)).toArray
theorem setRow_box {w:World}{g:Nat}{t:TypeId}{cs ds:Array Value}(h:Box w g t cs):Box (w.setRow g ds) g t ds:=setRow_heap w g cs ds t (0,0) h
theorem byteVals_at (m:List UInt8) (k:Nat) (h:k<m.length):(byteVals m)[k]? =some (.int .u8 ((m.getD k 0).toNat:Int)):=by
 simp[byteVals,h,List.getD]
theorem strInfo:(prog.info? 9).map (λi=>(i.zero,i.size,i.bytes))=some (some (.string ⟨#[]⟩),1,16):=by kernel_rfl
def flipL (m:List UInt8) (i:Nat):List UInt8:=m.set (i/8) (b8 (((m.getD (i/8) 0).toNat ^^^ 2^(i%8):Nat):Int))
theorem conv_box {w:World}{g k c:Nat}{l:List UInt8}(h:Box w g 5 (byteVals l)) (hk:l.length=k) :
  (convert 167 9 (.slice (some ⟨g,0,none⟩) k c)).run prog w=.ok (.string (str l)) w:=by
 subst hk;refine run_convert_bytes_back w 167 9 5 ⟨g,0,none⟩ c l underlying167 underlying5 underlying9 (λj hj=>?_);have ha:(⟨g,0,none⟩:Addr).add j=⟨g,j,none⟩:=by unfold Addr.add;split<;>simp_all
 rw[ha,h.cell j,byteVals_at l j hj];simp[List.getD,hj]
theorem own_of_box {w:World}{g n base:Nat}{t:TypeId}{cs:Array Value}(h:Box w g t cs) (hs:cs.size=n) (hg:base<=g) (hn:n<=maxLen):w.ownsRow base t 1 (.slice (some ⟨g,0,none⟩) n n) n cs.toList:=by
 refine⟨by simp[hs],Or.inr ⟨g,n,cs,rfl,hg,h,Nat.le_refl _,hn,by simp[hs],?_⟩⟩;rw[List.take_of_length_le (by simp[hs])]
theorem Box.setRow_other {w:World}{g g':Nat}{t:TypeId}{cs ds:Array Value}(h:Box w g t cs) (hne:g≠g'):Box (w.setRow g' ds) g t cs:=by
 have k:w.heap[g]? =some (.cells cs t (0,0)):=h;show(w.setRow g' ds).heap[g]? =_;simp only[World.setRow,Array.getElem?_modify];rw[if_neg (Ne.symm hne)];exact k
theorem own_ext {w w':World}{base n:Nat}{t:TypeId}{size:Nat}{v:Value}{xs:List Value}(h:w.ownsRow base t size v n xs) (k:Ext w w'):w'.ownsRow base t size v n xs:=by
 refine⟨h.1,?_⟩;rcases h.2 with c|⟨g,cap,cur,e,hb,hh,r⟩
 ·exact Or.inl c
 ·exact Or.inr ⟨g,cap,cur,e,hb,(Box.ext (cs:=cur) (t:=t) hh k),r⟩
theorem own_base {w:World}{base base' n:Nat}{t:TypeId}{size:Nat}{v:Value}{xs:List Value}(h:w.ownsRow base t size v n xs) (k:base'<=base):w.ownsRow base' t size v n xs:=by
 refine⟨h.1,?_⟩;rcases h.2 with c|⟨g,cap,cur,e,hb,r⟩
 ·exact Or.inl c
 ·exact Or.inr ⟨g,cap,cur,e,Nat.le_trans k hb,r⟩
theorem place_any (B I n:Int) (w:World) (h0:1<=n) (h1:n<=64) :
  Calls prog 193 #[geomV B I,.int .i64 n] w λe w'=>e=.returned (.tuple #[.int .i64 (3+(n-1)/2),.int .i64 ((n-1)%2*64)])/\Ext w w':=by
 unfold geomV;go_enter func193,ntmps193;go_wp2_with fail;go_ret2;exact⟨rfl,(Ext.refl _).alloc _⟩
end Go.Proofs.YtfaplefkakpgcaaGreatDoor
