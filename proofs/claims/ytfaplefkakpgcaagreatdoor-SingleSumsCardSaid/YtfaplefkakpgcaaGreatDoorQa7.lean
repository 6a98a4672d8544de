import Derived.Test.YtfaplefkakpgcaaGreatDoorQa6
import Derived.Lib.BufferWrite
import Derived.Deep.OwnRows
set_option linter.unusedVariables false
set_option linter.unusedSimpArgs false
set_option maxHeartbeats 32000000
set_option maxRecDepth 100000
namespace Go.Proofs.YtfaplefkakpgcaaGreatDoor
open Go.Proofs.Tryz
open Go.RowKit
theorem TD:(prog.info? 5).map (·.size)=some 1:=by kernel_rfl
theorem Wc {w:World}{g:Nat}{t:TypeId}{cs ds:Array Value}(h:Box w g t cs):Box (w.setRow g ds) g t ds:=setRow_heap w g cs ds t (0,0) h
theorem LP:(prog.info? 9).map (λi=>(i.zero,i.size,i.bytes))=some (some (.string ⟨#[]⟩),1,16):=by kernel_rfl
def Ma (m:List UInt8) (i:Nat):List UInt8:=m.set (i/8) (b8 (((m.getD (i/8) 0).toNat ^^^ 2^(i%8):Nat):Int))
theorem Box.setRow_other {w:World}{g g':Nat}{t:TypeId}{cs ds:Array Value}(h:Box w g t cs) (QY:g≠g'):Box (w.setRow g' ds) g t cs:=by
 have k:w.heap[g]? =some (.cells cs t (0,0)):=h;show(w.setRow g' ds).heap[g]? =_;simp only[World.setRow,rU];rw[Qr (Fq QY)];exact k
theorem Qe {w w':World}{base n:Nat}{t:TypeId}{size:Nat}{v:Value}{xs:List Value}(h:w.ownsRow base t size v n xs) (k:Ext w w'):w'.ownsRow base t size v n xs:=by
 refine⟨h.1,?_⟩;rcases h.2 with c|⟨g,cap,cur,e,hb,hh,r⟩
 ·exact DD c
 ·exact PQ ⟨g,cap,cur,e,hb,(Box.ext (cs:=cur) (t:=t) hh k),r⟩
theorem Zy {w:World}{base base' n:Nat}{t:TypeId}{size:Nat}{v:Value}{xs:List Value}(h:w.ownsRow base t size v n xs) (k:base'<=base):w.ownsRow base' t size v n xs:=by
 refine⟨h.1,?_⟩;rcases h.2 with c|⟨g,cap,cur,e,hb,r⟩
 ·exact DD c
 ·exact PQ ⟨g,cap,cur,e,Y6 k hb,r⟩
theorem Ae (B I n:Int) (w:World) (h0:1<=n) (h1:n<=64) :
  Calls prog 193 #[JO B I,.int .i64 n] w λe w'=>e=.returned (.tuple #[.int .i64 (3+(n-1)/2),.int .i64 ((n-1)%2*64)])/\Ext w w':=by
 unfold JO;go_enter func193,ntmps193;go_wp2_with fail;go_ret2;exact⟨rfl,(Qf _).alloc _⟩
end Go.Proofs.YtfaplefkakpgcaaGreatDoor
