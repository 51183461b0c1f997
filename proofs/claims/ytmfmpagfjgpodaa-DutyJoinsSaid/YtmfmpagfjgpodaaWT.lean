/- The walk of the first record of a group, of the reference; at most 1000 records. -/
import Derived.Test.YtmfmpagfjgpodaaSpec5
import Derived.Test.YtmfmpagfjgpodaaWB
import Derived.Test.YtmfmpagfjgpodaaWA
namespace Go.Proofs.Ytmfmpagfjgpodaa
open Go.RowKit

/-- The first record of the group of record number k. -/
def firstIdx (l : List Rec) (gap : Int) : Nat → Nat
  | 0 => 0
  | k + 1 => if (rat l (k + 1)).lo - (rat l k).hi < gap then firstIdx l gap k else k + 1
theorem firstIdx_le (l : List Rec) (gap : Int) : ∀ k, firstIdx l gap k ≤ k
  | 0 => Nat.le_refl _
  | k + 1 => by
    rw [firstIdx]
    split
    · exact Nat.le_succ_of_le (firstIdx_le l gap k)
    · exact Nat.le_refl _
set_option maxRecDepth 100000 in
set_option maxHeartbeats 4000000 in
theorem c138 (l : List Rec) (at_ : Nat) (gap : Int) (A : Option Addr) (n cap : Nat) (w : World) (hn : n = l.length) (hl : n ≤ 1000) (ha : at_ < n) (hT : Timed l) (hS : Sl Rec.cells 3 w A l) :
    Calls Try.prog 138 #[.slice A n cap, .int .i64 at_, .int .i64 gap] w fun e w' => e = .returned (.int .i64 (firstIdx l gap at_)) ∧ Below w.heap.size w w' := by
  subst hn
  generalize hR : firstIdx l gap at_ = R
  go_enter Try.func138, Try.ntmps138
  go_wp2
  go_loopw [1] (fun i w1 => ∃ k : Nat, k < l.length ∧ i = .int .i64 k ∧ firstIdx l gap k = R ∧ Below w.heap.size w w1) (fun i _ => (intOf i).toNat)
  case atStart => exact ⟨at_, ha, rfl, hR, Below.refl _ _⟩
  case round =>
    obtain ⟨k, hk, rfl, hf, hb⟩ := hrel
    by_cases hk0 : k = 0
    · subst hk0
      have hR0 : (0 : Nat) = R := by rw [← hf]; rfl
      subst hR0
      have hb0 := Lib.hid hb
      clear hb hS hT hf hR
      have gd : decide ((0 : Int) < ((0 : Nat) : Int)) = false := rfl
      go_wp2_with fail
      refine wp_region_later (by kernel_rfl) (by kernel_rfl) ?_
      repeat (go_big_quiet_step (fail))
      refine wpQuiet_nil ?_
      rintro _ ⟨nq, rfl⟩
      go_wp2
      go_ret
      exact ⟨rfl, below_step hb0.out nq.below⟩
    · obtain ⟨j, hj⟩ : ∃ j, k = j + 1 := ⟨k - 1, by omega⟩
      obtain ⟨b, o, rfl, x0, x1, x2⟩ := hS.recAt hk
      obtain ⟨b', o', hA', y0, y1, y2⟩ := hS.recAt (k := j) (by omega)
      obtain ⟨rfl, rfl⟩ : b' = b ∧ o' = o := by injection hA' with h; injection h with h1 h2; exact ⟨h1.symm, h2.symm⟩
      have g1 := Later.cell (below_cell hb x1)
      have g2 := Later.cell (below_cell hb y2)
      have hx1 := (hT.at_ hk).1
      have hx2 := (hT.at_ hk).2.1
      have hy1 := (hT.at_ (k := j) (by omega)).2.2.1
      have hy2 := (hT.at_ (k := j) (by omega)).2.2.2
      have hf2 : firstIdx l gap k = if l[k].lo - l[j].hi < gap then firstIdx l gap j else k := by
        subst hj
        rw [firstIdx, rat_get hk, rat_get (show j < l.length by omega)]
      rw [hf2] at hf
      have hj1 : (k : Int) - 1 = j := by omega
      have hp : decide ((0 : Int) < (k : Int)) = true := by simp; omega
      have HB := Lib.hid hb
      have hp2 : decide (0 < k) = true := by simp; omega
      have hjk : j < k := by omega
      clear hb hS hT x0 x1 x2 y0 y1 y2 hA' hR hf2
      generalize l[k].lo = x at *
      generalize l[j].hi = y at *
      clear hj
      by_cases hg : x - y < gap
      · rw [if_pos hg] at hf
        have hg' : decide (x - y < gap) = true := by simpa using hg
        have HF := Lib.hid hf
        clear hf
        go_wp2_with fail
        refine wp_region_later (by kernel_rfl) (by kernel_rfl) ?_
        repeat (go_big_quiet_step (fail))
        refine wpQuiet_nil ?_
        rintro _ ⟨nq, rfl⟩
        go_wp2_with fail
        go_roundw
        case rel => exact ⟨j, by omega, by first | rfl | go_num, HF.out, below_step HB.out nq.below⟩
        case measure => simp [intOf]; omega
      · rw [if_neg hg] at hf
        have hg' : decide (x - y < gap) = false := by simpa using hg
        subst hf
        go_wp2_with fail
        refine wp_region_later (by kernel_rfl) (by kernel_rfl) ?_
        repeat (go_big_quiet_step (fail))
        refine wpQuiet_nil ?_
        rintro _ ⟨nq, rfl⟩
        go_wp2
        go_ret
        exact ⟨rfl, below_step HB.out nq.below⟩

end Go.Proofs.Ytmfmpagfjgpodaa
