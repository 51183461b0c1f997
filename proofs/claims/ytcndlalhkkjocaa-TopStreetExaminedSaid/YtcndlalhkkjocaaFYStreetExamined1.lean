/- Texts in one: The package variables that the walks read: none. -/
import Derived.WalkKit
/-! Glo: The package variables that the walks read: none. -/
namespace Go.Proofs.Ytcndlalhkkjocaa
/-- Of each package variable that the walks read its place and its cells. -/
def genv : List (Nat × List Value) := []
/-- Blocks of package variables of which something else is known, and what. -/
def gblk : List Nat := []
def gfact (_ : World) : Prop := True
theorem gfact_keep {w w' : World} (_ : ∀ g ∈ gblk, w'.heap[g]? = w.heap[g]?) (h : gfact w) : gfact w' := h
end Go.Proofs.Ytcndlalhkkjocaa
