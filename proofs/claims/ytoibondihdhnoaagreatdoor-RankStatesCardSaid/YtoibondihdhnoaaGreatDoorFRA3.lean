/- Texts in one: The package variables that the walks read: the kinds of events, and tables of the library. -/
import Derived.WalkKit
import Derived.Lib.LaidTab
import Derived.Lib.ItoaNum
import Derived.Test.YtoibondihdhnoaaGreatDoorProg
namespace Go.Proofs.YtoibondihdhnoaaGreatDoor
def genv : List (Nat × List Value) := [(0, [.string ⟨#[97, 114, 114, 105, 118, 101]⟩, .func (.func 224) #[] #[], .string ⟨#[115, 101, 114, 118, 101]⟩, .func (.func 225) #[] #[], .string ⟨#[100, 101, 99, 108, 105, 110, 101]⟩, .func (.func 226) #[] #[], .string ⟨#[108, 101, 97, 118, 101]⟩, .func (.func 227) #[] #[], .string ⟨#[99, 97, 108, 108]⟩, .func (.func 228) #[] #[], .string ⟨#[114, 101, 116, 117, 114, 110]⟩, .func (.func 229) #[] #[]])]
def gblk : List Nat := [1, 2, 3, 4]
def gfact (w : World) : Prop :=
 (∃ m, w.cell? ⟨1, 0, none⟩ = some (.int .i64 m)) ∧ Lib.TabIs Tryz.prog w "internal/strconv.uint64pow10" .u64 Lib.pow10Tab ∧ (∃ t q, w.cell? ⟨3, 0, none⟩ = some (.iface t q)) ∧ ∃ t q, w.cell? ⟨4, 0, none⟩ = some (.iface t q)
theorem pow_num : Tryz.prog.globalNamed "internal/strconv.uint64pow10" = some 2 := by kernel_rfl
theorem gfact_keep {w w' : World} (hk : ∀ g ∈ gblk, w'.heap[g]? = w.heap[g]?) (h : gfact w) : gfact w' := by
 obtain ⟨⟨m, h1⟩, h2, ⟨t, q, h3⟩, t', q', h4⟩ := h
 have c : ∀ {g : Nat} {v : Value}, g ∈ gblk → w.cell? ⟨g, 0, none⟩ = some v → w'.cell? ⟨g, 0, none⟩ = some v := fun {g v} hg hv => by
  rw [← hv]
  exact World.cell?_of_block (a := ⟨g, 0, none⟩) (hk g hg)
 refine ⟨⟨m, c (by decide) h1⟩, ?_, ⟨t, q, c (by decide) h3⟩, t', q', c (by decide) h4⟩
 unfold Lib.TabIs World.var? at h2 ⊢
 rw [pow_num] at h2 ⊢
 simp only [Option.bind_some] at h2 ⊢
 rw [hk 2 (by decide)]
 exact h2
end Go.Proofs.YtoibondihdhnoaaGreatDoor
