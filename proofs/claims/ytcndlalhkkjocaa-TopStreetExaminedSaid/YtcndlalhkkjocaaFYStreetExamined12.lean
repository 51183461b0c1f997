/- Texts in one: Nothing appended to a row without elements, in a drawing region's tail: of every program; no condition. -/
import Derived.Test.YtcndlalhkkjocaaFYStreetExamined11
import Derived.Laws.Append
/-! VApp0: Nothing appended to a row without elements, in a drawing region's tail: of every program; no condition. -/
namespace Go.Proofs.Ytcndlalhkkjocaa
open Go.RowKit
section
variable {P : Program} {M0 : Nat → Nat → Prop} {w0 : Bas} {N : Nm} {p : Pl} {st : VS} {a : Act} {w : World} {Q : Exit → VS → Prop}
variable {ops l : List Oper}
end
end Go.Proofs.Ytcndlalhkkjocaa
