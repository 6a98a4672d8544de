import Derived.Test.YtfaplefkakpgcaaGreatDoorPl4
import Derived.Test.YtfaplefkakpgcaaGreatDoorPl18
set_option linter.unusedVariables false
set_option linter.unusedSimpArgs false
set_option maxHeartbeats 32000000
set_option maxRecDepth 100000
namespace Go.Proofs.YtfaplefkakpgcaaGreatDoor
open Go.RowKit
def Vo (b:Bool):List UInt8:=if b then [49] else [48]
def Zx (z:Nat) (s:List UInt8):Option (List UInt8):=if s.length=z then some s else none
def ZF (z:Nat) (s:List UInt8):Option Int:=if s.length=z then some (Z1 s:Int) else none
def ZH (s:List UInt8):Option Bool:=if s=[49] then some true else if s=[48] then some false else none
def Ql (z:Option Nat) (s:List UInt8):Option (List (List UInt8)):=if (Qv s).2=0/\(∀n,z=some n->(Qv s).1.length=n) then some (Qv s).1 else none
def Zp {α β:Type} (f:α->Option β):List α->Option (List β)
 | []=>some []
 | x::l=>(f x).bind λy=>(Zp f l).map (y::·)
def QE (b:List UInt8) (i z:Nat):Int:=(Z1 ((b.drop i).take z):Int)
def QG (b:List UInt8) (i:Nat):Int:=((b.getD i 0).toNat:Int)
def LW (k f:Int):Bool:=(k==0&&f==0)||k==1||k==2
def Yy (b:List UInt8):Bool:=(List.range 16).all λi=>LW (QG b (2*i)) (QG b (2*i+1))
def JQ (s:List UInt8):Option (List UInt8):=if s.length=32/\Yy s=true then some s else none
theorem WR {α β:Type} {f:α->Option β}{all rest:List α}{x:α}{y:β}{l:List β}(h:Zp f all=(Zp f (x::rest)).map (l++·)) (hx:f x=some y):Zp f all=(Zp f rest).map ((l++[y])++·):=by
 rw[h,Zp,hx];cases Zp f rest<;>simp
theorem Rx {α β:Type} {f:α->Option β}{all:List α}{l:List β}(h:Zp f all=(Zp f []).map (l++·)):Zp f all=some l:=by
 rw[h];simp[Zp]
theorem KX {α β:Type} {f:α->Option β}{all rest:List α}{x:α}{l:List β}(h:Zp f all=(Zp f (x::rest)).map (l++·)) (hx:f x=none):Zp f all=none:=by
 rw[h,Zp,hx];rfl
theorem Ut {α β:Type} (f:α->Option β) (all:List α):Zp f all=(Zp f all).map ([]++·):=by
 cases Zp f all<;>simp
end Go.Proofs.YtfaplefkakpgcaaGreatDoor
