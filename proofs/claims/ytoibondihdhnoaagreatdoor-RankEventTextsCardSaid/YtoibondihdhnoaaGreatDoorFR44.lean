/- Texts in one: Chapter 4: how often cars were taken for good; no condition. -/
import Derived.Test.YtoibondihdhnoaaGreatDoorFR32
/-! RP14: Chapter 4: how often cars were taken for good; no condition. -/
namespace Go.Proofs.YtoibondihdhnoaaGreatDoor
open Go.RowKit
/-! ### How often cars were taken for good -/
end Go.Proofs.YtoibondihdhnoaaGreatDoor
