/- Texts in one: The package variables that the walks read: tables of the library. -/
import Derived.WalkKit
import Derived.Lib.LaidTab
import Derived.Lib.ItoaNum
import Derived.Test.YtmfmpagfjgpodaaGreatDoorProg
/-! Glo: The package variables that the walks read: tables of the library. -/
namespace Go.Proofs.YtmfmpagfjgpodaaGreatDoor
/-- Of each package variable that the walks read its place and its cells. -/
def genv : List (Nat × List Value) := []
/-- Blocks of package variables of which something else is known, and what. -/
def gblk : List Nat := [2, 3, 0, 1]
/-- The least length that a fast search asks for is some number; the powers of ten are those; the errors of numerals are some errors. -/
def gfact (w : World) : Prop :=
  (∃ m, w.cell? ⟨2, 0, none⟩ = some (.int .i64 m)) ∧ Lib.TabIs Tryz.prog w "internal/strconv.uint64pow10" .u64 Lib.pow10Tab ∧ (∃ t q, w.cell? ⟨0, 0, none⟩ = some (.iface t q)) ∧ ∃ t q, w.cell? ⟨1, 0, none⟩ = some (.iface t q)
theorem pow_num : Tryz.prog.globalNamed "internal/strconv.uint64pow10" = some 3 := by kernel_rfl
theorem gfact_keep {w w' : World} (hk : ∀ g ∈ gblk, w'.heap[g]? = w.heap[g]?) (h : gfact w) : gfact w' := by
  obtain ⟨⟨m, h1⟩, h2, ⟨t, q, h3⟩, t', q', h4⟩ := h
  have c : ∀ {g : Nat} {v : Value}, g ∈ gblk → w.cell? ⟨g, 0, none⟩ = some v → w'.cell? ⟨g, 0, none⟩ = some v := fun {g v} hg hv => by
    rw [← hv]
    exact World.cell?_of_block (a := ⟨g, 0, none⟩) (hk g hg)
  refine ⟨⟨m, c (by decide) h1⟩, ?_, ⟨t, q, c (by decide) h3⟩, t', q', c (by decide) h4⟩
  unfold Lib.TabIs World.var? at h2 ⊢
  rw [pow_num] at h2 ⊢
  simp only [Option.bind_some] at h2 ⊢
  rw [hk 3 (by decide)]
  exact h2
end Go.Proofs.YtmfmpagfjgpodaaGreatDoor
