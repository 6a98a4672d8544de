import Derived.Test.YtfaplefkakpgcaaGreatDoorPl8
import Derived.Lib.BufferWrite
import Derived.Deep.OwnRows
set_option linter.unusedVariables false
set_option linter.unusedSimpArgs false
set_option maxHeartbeats 32000000
set_option maxRecDepth 100000
namespace Go.Proofs.YtfaplefkakpgcaaGreatDoor
open Go.Proofs.Tryz
open Go.RowKit
def J8 (m:List UInt8):Array Value:=(m.map λc=>Value.int .u8 (c.toNat:Int)).toArray
theorem Zh {w:World}{g:Nat}{t:TypeId}{cs ds:Array Value}(h:Box w g t cs):Box (w.setRow g ds) g t ds:=setRow_heap w g cs ds t (0,0) h
theorem Co (m:List UInt8) (k:Nat) (h:k<m.length):(J8 m)[k]? =some (.int .u8 ((m.getD k 0).toNat:Int)):=by
 simp[J8,h,List.getD]
theorem MJ:(prog.info? 9).map (λi=>(i.zero,i.size,i.bytes))=some (some (.string ⟨#[]⟩),1,16):=by kernel_rfl
def FC (m:List UInt8) (i:Nat):List UInt8:=m.set (i/8) (b8 (((m.getD (i/8) 0).toNat ^^^ 2^(i%8):Nat):Int))
theorem Tz {w:World}{g k c:Nat}{l:List UInt8}(h:Box w g 5 (J8 l)) (hk:l.length=k) :
  (convert 167 9 (.slice (some ⟨g,0,none⟩) k c)).run prog w=.ok (.string (Qb l)) w:=by
 subst hk;refine We6 w 167 9 5 ⟨g,0,none⟩ c l underlying167 underlying5 underlying9 (λj hj=>?_);have ha:(⟨g,0,none⟩:Addr).add j=⟨g,j,none⟩:=by unfold Addr.add;split<;>simp_all
 rw[ha,h.cell j,Co l j hj];simp[List.getD,hj]
theorem Ig {w:World}{g n base:Nat}{t:TypeId}{cs:Array Value}(h:Box w g t cs) (hs:cs.size=n) (hg:base<=g) (hn:n<=maxLen):w.ownsRow base t 1 (.slice (some ⟨g,0,none⟩) n n) n cs.toList:=by
 refine⟨by simp[hs],Mp ⟨g,n,cs,rfl,hg,h,Q4 _,hn,by simp[hs],?_⟩⟩;rw[qr (by simp[hs])]
theorem Box.setRow_other {w:World}{g g':Nat}{t:TypeId}{cs ds:Array Value}(h:Box w g t cs) (Jt:g≠g'):Box (w.setRow g' ds) g t cs:=by
 have k:w.heap[g]? =some (.cells cs t (0,0)):=h;show(w.setRow g' ds).heap[g]? =_;simp only[World.setRow,Wfh];rw[QD (AX Jt)];exact k
theorem Qc {w w':World}{base n:Nat}{t:TypeId}{size:Nat}{v:Value}{xs:List Value}(h:w.ownsRow base t size v n xs) (k:Ext w w'):w'.ownsRow base t size v n xs:=by
 refine⟨h.1,?_⟩;rcases h.2 with c|⟨g,cap,cur,e,hb,hh,r⟩
 ·exact MU c
 ·exact Mp ⟨g,cap,cur,e,hb,(Box.ext (cs:=cur) (t:=t) hh k),r⟩
theorem Q8 {w:World}{base base' n:Nat}{t:TypeId}{size:Nat}{v:Value}{xs:List Value}(h:w.ownsRow base t size v n xs) (k:base'<=base):w.ownsRow base' t size v n xs:=by
 refine⟨h.1,?_⟩;rcases h.2 with c|⟨g,cap,cur,e,hb,r⟩
 ·exact MU c
 ·exact Mp ⟨g,cap,cur,e,YR k hb,r⟩
theorem eC (B I n:Int) (w:World) (h0:1<=n) (h1:n<=64) :
  Calls prog 193 #[ZO B I,.int .i64 n] w λe w'=>e=.returned (.tuple #[.int .i64 (3+(n-1)/2),.int .i64 ((n-1)%2*64)])/\Ext w w':=by
 unfold ZO;go_enter func193,ntmps193;go_wp2_with fail;go_ret2;exact⟨rfl,(Qg _).alloc _⟩
end Go.Proofs.YtfaplefkakpgcaaGreatDoor
