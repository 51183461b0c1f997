/- Texts in one: The law of right states and events: true whatever the input is. -/
import Derived.Test.YtoibondihdhnoaaGreatDoorFRK9
import Derived.Test.YtoibondihdhnoaaGreatDoorFRK51
namespace Go.Proofs.YtoibondihdhnoaaGreatDoor
open Go.RowKit
set_option maxRecDepth 100000
set_option maxHeartbeats 4000000
structure InS (s:St) : Prop where
 q:s.q.length≤9223372036854775807
 t:s.tk.length≤9223372036854775807
 ti:∀ t∈s.tk,i64 t.rank∧i64 t.time
 tm:i64 s.time
end Go.Proofs.YtoibondihdhnoaaGreatDoor
