/- Texts in one: Walks: the first car of a feeder moves up, as the reference has it. -/
import Derived.Test.YtoibondihdhnoaaGreatDoorFRM50
import Derived.Test.YtoibondihdhnoaaGreatDoorFRM51
namespace Go.Proofs.YtoibondihdhnoaaGreatDoor
open Go.RowKit
set_option maxRecDepth 100000
set_option maxHeartbeats 4000000
def d2m (s:St) (k:Nat) : List (List (List AV)):=e9_ (s.q.take k)
@[go_sem] theorem d2n (s:St) : d2m s 0=[]:=rfl
end Go.Proofs.YtoibondihdhnoaaGreatDoor
