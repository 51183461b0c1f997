/- Texts in one: The closure by which Plates sorts; of this program. -/
import Derived.Test.YtmfmpagfjgpodaaMS27
import Derived.Shelf.RegionOpenPlain
import Derived.Sort.Grow
/-! VSortD: The closure by which Plates sorts; of this program. -/
namespace Go.Proofs.Ytmfmpagfjgpodaa
open Go.RowKit Go.Sort
set_option maxRecDepth 100000
theorem c122 (W : World) (b o b2 o2 n cap i k : Nat) (x y : Int) (hi : i < n) (hk : k < n) (c1 : W.cell? ⟨b, o, none⟩ = some (.slice (some ⟨b2, o2, none⟩) n cap)) (c2 : W.cell? ⟨b2, o2 + i * 3 + 1, none⟩ = some (.int .i64 x)) (c3 : W.cell? ⟨b2, o2 + k * 3 + 1, none⟩ = some (.int .i64 y)) (hw : IntKind.i64.wrap (x - y) = x - y) :
    Calls Try.prog 122 #[.int .i64 i, .int .i64 k, .pointer (some ⟨b, o, none⟩)] W fun e w' => e = .returned (.int .i64 (x - y)) ∧ ∃ q os', w' = grow (W.drewN q) os' := by
  have mixed : Try.prog.follows .mixedOrders = true := by kernel_rfl
  have hi' : (i : Int) < n := by omega
  have hk' : (k : Int) < n := by omega
  go_enter Try.func122, Try.ntmps122
  go_wp2_with fail
  go_region_o
  go_wp2
  go_ret
  exact ⟨rfl, 1, #[], by rw [grow_empty]; rfl⟩
end Go.Proofs.Ytmfmpagfjgpodaa
