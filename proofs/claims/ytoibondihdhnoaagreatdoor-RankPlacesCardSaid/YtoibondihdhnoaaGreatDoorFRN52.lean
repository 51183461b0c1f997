/- Texts in one: Walks: the first car of a feeder moves up, as the reference has it. -/
import Derived.Test.YtoibondihdhnoaaGreatDoorFRN50
import Derived.Test.YtoibondihdhnoaaGreatDoorFRN51
namespace Go.Proofs.YtoibondihdhnoaaGreatDoor
open Go.RowKit
set_option maxRecDepth 100000
set_option maxHeartbeats 4000000
def d2k (s:St) (k:Nat) : List (List (List AV)):=f3_ (s.q.take k)
@[go_sem] theorem d2l (s:St) : d2k s 0=[]:=rfl
end Go.Proofs.YtoibondihdhnoaaGreatDoor
