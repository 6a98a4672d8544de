import Derived.Test.YtfaplefkakpgcaaGreatDoorQa3
import Derived.Test.YtfaplefkakpgcaaGreatDoorQa17
set_option linter.unusedVariables false
set_option linter.unusedSimpArgs false
set_option maxHeartbeats 32000000
set_option maxRecDepth 100000
namespace Go.Proofs.YtfaplefkakpgcaaGreatDoor
open Go.RowKit
def Kv (b:Bool):List UInt8:=if b then [49] else [48]
def Y8 (z:Nat) (s:List UInt8):Option (List UInt8):=if s.length=z then some s else none
def VL (z:Nat) (s:List UInt8):Option Int:=if s.length=z then some (Yp s:Int) else none
def Vl (s:List UInt8):Option Bool:=if s=[49] then some true else if s=[48] then some false else none
def Jm (z:Option Nat) (s:List UInt8):Option (List (List UInt8)):=if (QD s).2=0/\(∀n,z=some n->(QD s).1.length=n) then some (QD s).1 else none
def ZR {α β:Type} (f:α->Option β):List α->Option (List β)
 | []=>some []
 | x::l=>(f x).bind λy=>(ZR f l).map (y::·)
def Qz (b:List UInt8) (i z:Nat):Int:=(Yp ((b.drop i).take z):Int)
def Qw (b:List UInt8) (i:Nat):Int:=((b.getD i 0).toNat:Int)
def GD (k f:Int):Bool:=(k==0&&f==0)||k==1||k==2
def XF (b:List UInt8):Bool:=(List.range 16).all λi=>GD (Qw b (2*i)) (Qw b (2*i+1))
def XG (s:List UInt8):Option (List UInt8):=if s.length=32/\XF s=true then some s else none
theorem WX {α β:Type} {f:α->Option β}{all rest:List α}{x:α}{y:β}{l:List β}(h:ZR f all=(ZR f (x::rest)).map (l++·)) (hx:f x=some y):ZR f all=(ZR f rest).map ((l++[y])++·):=by
 rw[h,ZR,hx];cases ZR f rest<;>simp
theorem WY {α β:Type} {f:α->Option β}{all:List α}{l:List β}(h:ZR f all=(ZR f []).map (l++·)):ZR f all=some l:=by
 rw[h];simp[ZR]
theorem K5 {α β:Type} {f:α->Option β}{all rest:List α}{x:α}{l:List β}(h:ZR f all=(ZR f (x::rest)).map (l++·)) (hx:f x=none):ZR f all=none:=by
 rw[h,ZR,hx];rfl
theorem UM {α β:Type} (f:α->Option β) (all:List α):ZR f all=(ZR f all).map ([]++·):=by
 cases ZR f all<;>simp
theorem SS {α β:Type} (f:α->Option β) (g:β->α):∀l:List β,(∀x∈l,f (g x)=some x)->ZR f (l.map g)=some l:=by
 intro l;induction l with
 | nil=>intro _;rfl
 | cons x l ih=>intro h;simp[ZR,h x LY,ih (λy hy=>h y (LX _ hy))]
theorem SU {α β γ:Type} (f:α->Option β) (g:β->α) (q:β->γ):∀l:List β,(∀x∈l,∃y,f (g x)=some y/\q y=q x)->∃l',ZR f (l.map g)=some l'/\l'.map q=l.map q:=by
 intro l;induction l with
 | nil=>intro _;exact⟨[],rfl,rfl⟩
 | cons x l ih => intro h;obtain⟨y,h1,h2⟩:=h x LY;obtain⟨l',h3,h4⟩:=ih (λy hy=>h y (LX _ hy));exact⟨y::l',by simp[ZR,h1,h3],by simp[h2,h4]⟩
theorem Uk {n:Int}{z:Nat}(h0:0<=n) (h1:n<256^z):VL z (JA n z)=some n:=by
 unfold VL;rw[Qv (QO n z),Mp n z h0 h1]
theorem NG (b:Bool):Vl (Kv b)=some b:=by cases b<;>rfl
theorem Vu (z:Option Nat) (l:List (List UInt8)) (h:∀s∈l,s.length<268435456) (hz:∀n,z=some n->l.length=n):Jm z (Zi l)=some l:=by
 unfold Jm;rw[Db l h,Qv ⟨rfl,hz⟩]
end Go.Proofs.YtfaplefkakpgcaaGreatDoor
