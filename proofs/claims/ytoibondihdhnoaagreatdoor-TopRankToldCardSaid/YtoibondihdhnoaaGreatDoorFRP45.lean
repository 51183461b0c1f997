/- Texts in one: Walks: stays and waits of a log. -/
import Derived.Test.YtoibondihdhnoaaGreatDoorFRP9
import Derived.Test.YtoibondihdhnoaaGreatDoorFRP32
import Derived.Test.YtoibondihdhnoaaGreatDoorFRP31
import Derived.Test.YtoibondihdhnoaaGreatDoorFRP35
namespace Go.Proofs.YtoibondihdhnoaaGreatDoor
open Go.RowKit
set_option maxRecDepth 100000
set_option maxHeartbeats 2000000
def Nw (a:Bool×Bool) (x:Ev) : Bool×Bool:=(if x.kind=0 then false else a.1,if x.kind=1 then false else a.2)
noncomputable def runTD (l0:List Ev) (r:Ru) : Nat→List Ev→T3×(Dy×Bool×Bool)→T3×(Dy×Bool×Bool)
 | _,[],z=>z
 | k,x::l,z=>if apE r z.1.1 x≠0 then (stepT r z.1 x,z.2) else runTD l0 r (k+1) l (stepT r z.1 x,(BE l0 z.2.1 k x,Nw z.2.2 x))
def Si (l:List Ev) : AV:=.fn (.func 142) [] [.ref 0 0,.vp [iZ l]]
def pj (r:Ru) (l:List Ev) : Int:=if iA r l≠0 then iA r l else (goP r 0 l (st0 r)).2.2
end Go.Proofs.YtoibondihdhnoaaGreatDoor
