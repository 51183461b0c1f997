/- Texts in one: Walks: the first car of a feeder moves up, as the reference has it. -/
import Derived.Test.YtoibondihdhnoaaGreatDoorFRL50
import Derived.Test.YtoibondihdhnoaaGreatDoorFRL53
namespace Go.Proofs.YtoibondihdhnoaaGreatDoor
open Go.RowKit
set_option maxRecDepth 100000
set_option maxHeartbeats 4000000
def d1y (s:St) (k:Nat) : List (List (List AV)):=e7_ (s.q.take k)
@[go_sem] theorem d1z (s:St) : d1y s 0=[]:=rfl
end Go.Proofs.YtoibondihdhnoaaGreatDoor
