/- The closure by which Joined sorts; of this program. -/
import Derived.Test.YtmfmpagfjgpodaaVStint
import Derived.Sort.Grow
namespace Go.Proofs.Ytmfmpagfjgpodaa
open Go.RowKit Go.Sort
set_option maxRecDepth 100000
def cmpI (x y : Int) : Int := if x < y then -1 else if y < x then 1 else 0
theorem c148 (x : Int) (w : World) : Calls Try.prog 148 #[.int .i64 x] w fun e w' => e = .returned (.bool false) ∧ w' = w := by
  go_enter Try.func148, Try.ntmps148
  go_wp2
  go_ret
  exact ⟨rfl, rfl⟩
theorem c119 (x y : Int) (w : World) : Calls Try.prog 119 #[.int .i64 x, .int .i64 y] w fun e w' => e = .returned (.int .i64 (cmpI x y)) ∧ w' = w := by
  unfold cmpI
  go_enter Try.func119, Try.ntmps119
  by_cases h1 : x < y
  · go_wp2_with (go_at_call 148; refine (c148 _ _).mono ?_; rintro e w' ⟨rfl, rfl⟩)
    go_ret
    simp
  · by_cases h2 : y < x
    · go_wp2_with (go_at_call 148; refine (c148 _ _).mono ?_; rintro e w' ⟨rfl, rfl⟩)
      go_ret
      simp
    · go_wp2_with (go_at_call 148; refine (c148 _ _).mono ?_; rintro e w' ⟨rfl, rfl⟩)
      go_ret
      simp
def Rec.vals (r : Rec) : List Value := [.string r.driver, .int .i64 r.lo, .int .i64 r.hi]
theorem c118 (x y : Rec) (W : World) : Calls Try.prog 118 #[.agg x.vals.toArray, .agg y.vals.toArray] W fun e w' => e = .returned (.int .i64 (cmpI x.lo y.lo)) ∧ ∃ q os', w' = grow (W.drewN q) os' := by
  obtain ⟨d1, a1, b1⟩ := x
  obtain ⟨d2, a2, b2⟩ := y
  simp only [Rec.vals]
  have hcon := fun W' => c119 a1 a2 W'
  generalize cmpI a1 a2 = r at hcon ⊢
  go_enter Try.func118, Try.ntmps118
  go_wp2_with (go_at_call 119; refine (hcon _).mono ?_; rintro e w' ⟨rfl, rfl⟩)
  go_ret
  exact ⟨rfl, 0, _, by rw [alloc_eq_grow, alloc_eq_grow, grow_grow]; rfl⟩
end Go.Proofs.Ytmfmpagfjgpodaa
