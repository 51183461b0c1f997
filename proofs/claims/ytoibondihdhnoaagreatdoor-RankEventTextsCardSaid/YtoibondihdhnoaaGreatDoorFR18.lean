/- Texts in one: slices.Clone at rows of texts and of cars that were taken. -/
import Derived.Test.YtoibondihdhnoaaGreatDoorFR17
import Derived.Lib.LazyBuf
/-! RD: slices.Clone at rows of texts and of cars that were taken. -/
namespace Go.Proofs.YtoibondihdhnoaaGreatDoor
open Go.RowKit
set_option maxRecDepth 100000
set_option maxHeartbeats 1000000
end Go.Proofs.YtoibondihdhnoaaGreatDoor
