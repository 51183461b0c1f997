/- Texts in one: The package variables that the walks read: none. -/
import Derived.WalkKit
/-! Glo: The package variables that the walks read: none. -/
namespace Go.Proofs.YthbgghmjbaldlaaGreatDoor
/-- Of each package variable that the walks read its place and its cells. -/
def genv : List (Nat × List Value) := []
/-- Package variables of one cell of which a shape alone is known. -/
def gany : List (Nat × (Value → Prop)) := []
end Go.Proofs.YthbgghmjbaldlaaGreatDoor
