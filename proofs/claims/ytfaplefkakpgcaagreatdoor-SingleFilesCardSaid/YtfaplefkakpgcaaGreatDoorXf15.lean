/- Plain: how the texts of a row are read. -/
import Derived.Test.YtfaplefkakpgcaaGreatDoorXf2
import Derived.Test.YtfaplefkakpgcaaGreatDoorXf11
set_option linter.unusedVariables false
set_option linter.unusedSimpArgs false
set_option maxHeartbeats 32000000
set_option maxRecDepth 100000
namespace Go.Proofs.YtfaplefkakpgcaaGreatDoor
open Go.RowKit
def flagT (b:Bool):List UInt8:=if b then [49] else [48]
def fixP (z:Nat) (s:List UInt8):Option (List UInt8):=if s.length=z then some s else none
def numP (z:Nat) (s:List UInt8):Option Int:=if s.length=z then some (numL s:Int) else none
def flagP (s:List UInt8):Option Bool:=if s=[49] then some true else if s=[48] then some false else none
def openT (z:Option Nat) (s:List UInt8):Option (List (List UInt8)):=if (textsP s).2=0/\(∀n,z=some n->(textsP s).1.length=n) then some (textsP s).1 else none
def allP {α β:Type} (f:α->Option β):List α->Option (List β)
 | []=>some []
 | x::l=>(f x).bind λy=>(allP f l).map (y::·)
def numAtT (b:List UInt8) (i z:Nat):Int:=(numL ((b.drop i).take z):Int)
def byteAt (b:List UInt8) (i:Nat):Int:=((b.getD i 0).toNat:Int)
def pteB (k f:Int):Bool:=(k==0&&f==0)||k==1||k==2
def spaceB (b:List UInt8):Bool:=(List.range 16).all λi=>pteB (byteAt b (2*i)) (byteAt b (2*i+1))
def spaceP (s:List UInt8):Option (List UInt8):=if s.length=32/\spaceB s=true then some s else none
theorem allP_step {α β:Type} {f:α->Option β}{all rest:List α}{x:α}{y:β}{l:List β}(h:allP f all=(allP f (x::rest)).map (l++·)) (hx:f x=some y):allP f all=(allP f rest).map ((l++[y])++·):=by
 rw[h,allP,hx];cases allP f rest<;>simp
theorem allP_stop {α β:Type} {f:α->Option β}{all:List α}{l:List β}(h:allP f all=(allP f []).map (l++·)):allP f all=some l:=by
 rw[h];simp[allP]
theorem allP_fail {α β:Type} {f:α->Option β}{all rest:List α}{x:α}{l:List β}(h:allP f all=(allP f (x::rest)).map (l++·)) (hx:f x=none):allP f all=none:=by
 rw[h,allP,hx];rfl
theorem allP_start {α β:Type} (f:α->Option β) (all:List α):allP f all=(allP f all).map ([]++·):=by
 cases allP f all<;>simp
end Go.Proofs.YtfaplefkakpgcaaGreatDoor
