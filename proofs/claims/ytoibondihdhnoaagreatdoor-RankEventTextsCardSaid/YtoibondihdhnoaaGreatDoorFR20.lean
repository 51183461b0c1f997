/- Texts in one: A drawing region that appends to a row of the call's own and gives it to a variable, with operations that may come behind both: of every program; no condition. Printed by mkpart.py. -/
import Derived.Test.YtoibondihdhnoaaGreatDoorFR10
import Derived.Test.YtoibondihdhnoaaGreatDoorFR14
/-! VPart: A drawing region that appends to a row of the call's own and gives it to a variable, with operations that may come behind both: of every program; no condition. Printed by mkpart.py. -/
namespace Go.Proofs.YtoibondihdhnoaaGreatDoor
open Go.RowKit
section
variable {P : Program} {ops : Array Oper}
end
section
variable {P : Program} {M0 : Nat → Nat → Prop} {w0 : Bas} {N : Nm} {p : Pl} {st : VS} {a : Act} {w : World} {Q : Exit → VS → Prop}
end
end Go.Proofs.YtoibondihdhnoaaGreatDoor
