/- Texts in one: The walk of the check of records in the reference; at most 1000000 records, texts of at most 1000 bytes. -/
import Derived.Test.YtmfmpagfjgpodaaMS0
import Derived.Test.YtmfmpagfjgpodaaMS7
/-! WC: The walk of the check of records in the reference; at most 1000000 records, texts of at most 1000 bytes. -/
namespace Go.Proofs.Ytmfmpagfjgpodaa
open Go.RowKit

set_option maxRecDepth 100000 in
set_option maxHeartbeats 2000000 in
theorem c115 (l : List Rec) (one : Bool) (A : Option Addr) (n cap : Nat) (w : World) (hn : n = l.length) (hl : n ≤ 1000000) (hd : Small l) (hS : Sl Rec.cells 3 w A l) :
    Calls Try.prog 115 #[.slice A n cap, .bool one] w fun e w' => e = .returned (.tuple #[.int .i64 (checkRecs one l).1, .int .i64 (checkRecs one l).2]) ∧ Below w.heap.size w w' := by
  subst hn
  unfold checkRecs checkL
  obtain ⟨E, hEE⟩ : ∃ E, chkE one l = E := ⟨_, rfl⟩
  rw [hEE]
  have HE := Lib.hid hEE
  clear hEE
  by_cases hm : (l.length : Int) > 40
  · rw [if_pos hm]
    go_enter Try.func115, Try.ntmps115
    go_wp2
    go_ret2
    exact ⟨rfl, Below.refl _ _⟩
  rw [if_neg hm]
  have hm1 : decide (40 < (l.length : Int)) = false := by simpa using hm
  clear hm
  go_enter Try.func115, Try.ntmps115
  go_wp2
  go_loopw [6, 7] (fun i _ wr => ∃ k : Nat, k ≤ l.length ∧ i = .int .i64 k ∧ firstErr E 0 l.length = firstErr E k (l.length - k) ∧ Below w.heap.size w wr) (fun i _ _ => l.length - (intOf i).toNat)
  case atStart => exact ⟨0, Nat.zero_le _, rfl, by simp, Below.refl _ _⟩
  case round =>
    obtain ⟨k, hk, rfl, hf, hb⟩ := hrel
    by_cases hlt : k < l.length
    · rw [firstErr_at hlt] at hf
      have hs := hd.at_ hlt
      have e144 := c144 l[k]
      obtain ⟨b, o, rfl, h0, h1, h2⟩ := hS.recAt hlt
      have g0 := below_cell hb h0
      have g1 := below_cell hb h1
      have g2 := below_cell hb h2
      by_cases hr : recErr l[k] = 0
      · by_cases h0 : k = 0
        · have hE : E k = 0 := by rw [← HE.out, h0, chkE_zero, rat_get (by omega)]; simpa [h0] using hr
          rw [hE, if_neg (by simp)] at hf
          have H := Lib.hid (And.intro hf (And.intro hb (And.intro e144 hr)))
          have b1 : decide (0 < (k : Int)) = false := by simp [h0]
          have b2 : decide (0 < k) = false := by simp [h0]
          clear hf hb e144 hE h0 h1 h2 hS hd hr
          generalize l[k].driver = d at *
          generalize l[k].lo = x at *
          generalize l[k].hi = y at *
          cases one
          all_goals
            go_wp2_with fail
            refine (H.out.2.2.1 _ hs).mono ?_
            rw [H.out.2.2.2]
            rintro e w1 ⟨rfl, hb1⟩
            go_wp2_with fail
            refine wp_region_later (by kernel_rfl) (by kernel_rfl) ?_
            repeat (go_big_quiet_step (fail))
            refine wpQuiet_nil ?_
            rintro _ ⟨nq, rfl⟩
            go_wp2_with fail
            refine wp_region_later (by kernel_rfl) (by kernel_rfl) ?_
            repeat (go_big_quiet_step (fail))
            refine wpQuiet_nil ?_
            rintro _ ⟨np, rfl⟩
            go_wp2
            go_roundw
            case rel => exact ⟨k + 1, by omega, by go_num, H.out.1, below_step (below_step (below_step H.out.2.1 hb1) nq.2) np.2⟩
            case measure => simp [intOf]; omega
        · have hE : E k = if one && !sameS l[k].driver l[k-1].driver then 13 else if l[k].lo < l[k-1].hi then 26 else 0 := by
            rw [← HE.out]
            unfold chkE
            rw [rat_get hlt, rat_get (show k - 1 < l.length by omega), if_neg (by simp [hr]), if_neg h0]
          obtain ⟨b', o', hA, p0, p1, p2⟩ := hS.recAt (k := k - 1) (by omega)
          injection hA with hA
          injection hA with e1 e2 _
          subst e1
          subst e2
          have b1 : decide (0 < (k : Int)) = true := by simp; omega
          have b2 : decide (0 < k) = true := by simp; omega
          have hk1 : 1 ≤ k := by omega
          have q0 := below_cell hb p0
          have q2 := below_cell hb p2
          rw [hE] at hf
          have H := Lib.hid (And.intro hf (And.intro hb (And.intro e144 hr)))
          clear hf hb e144 hE h1 h2 hS hd hr p0 p1 p2
          generalize l[k].driver = d at *
          generalize l[k].lo = x at *
          generalize l[k].hi = y at *
          generalize l[k-1].driver = d' at *
          generalize l[k-1].lo = x' at *
          generalize l[k-1].hi = y' at *
          have hsame : sameS d d' = (d.toList == d'.toList) := rfl
          clear h0
          have key : (one = true ∧ sameS d d' = false) ∨ ((one = false ∨ sameS d d' = true) ∧ x < y') ∨ ((one = false ∨ sameS d d' = true) ∧ ¬ x < y') := by
            cases one <;> cases sameS d d' <;> by_cases hxy : x < y' <;> simp [hxy]
          rcases key with ⟨rfl, hd'⟩ | ⟨hd', hxy⟩ | ⟨hd', hxy⟩
          · replace H := Lib.hid (And.intro (show _ = (k, (13 : Int)) by simpa [hd'] using H.out.1) H.out.2)
            rw [hsame] at hd'
            clear hsame
            go_wp2_with fail
            refine (H.out.2.2.1 _ hs).mono ?_
            rw [H.out.2.2.2]
            rintro e w1 ⟨rfl, hb1⟩
            go_wp2_with fail
            have q2' := below_cell hb1 q2
            have g1' := below_cell hb1 g1
            have g0' := Later.cell (below_cell hb1 g0)
            have q0' := Later.cell (below_cell hb1 q0)
            refine wp_region_later (by kernel_rfl) (by kernel_rfl) ?_
            repeat (go_big_quiet_step (fail))
            refine wpQuiet_nil ?_
            rintro _ ⟨nq, rfl⟩
            go_wp2
            go_ret2
            rw [H.out.1]
            exact ⟨rfl, below_step (below_step H.out.2.1 hb1) nq.2⟩
          · replace H := Lib.hid (And.intro (show _ = (k, (26 : Int)) by rcases hd' with hd' | hd' <;> simpa [hd', hxy] using H.out.1) H.out.2)
            rw [hsame] at hd'
            clear hsame
            cases one
            all_goals try simp only [Bool.true_eq_false, false_or] at hd'
            all_goals
              go_wp2_with fail
              refine (H.out.2.2.1 _ hs).mono ?_
              rw [H.out.2.2.2]
              rintro e w1 ⟨rfl, hb1⟩
              go_wp2_with fail
              have q2' := below_cell hb1 q2
              have g1' := below_cell hb1 g1
              have g0' := Later.cell (below_cell hb1 g0)
              have q0' := Later.cell (below_cell hb1 q0)
              refine wp_region_later (by kernel_rfl) (by kernel_rfl) ?_
              repeat (go_big_quiet_step (fail))
              refine wpQuiet_nil ?_
              rintro _ ⟨nq, rfl⟩
              have g1'' := Later.cell (below_cell nq.below g1')
              have q2'' := Later.cell (below_cell nq.below q2')
              go_wp2_with fail
              refine wp_region_later (by kernel_rfl) (by kernel_rfl) ?_
              repeat (go_big_quiet_step (fail))

              refine wpQuiet_nil ?_
              rintro _ ⟨np, rfl⟩
              go_wp2
              go_ret2
              rw [H.out.1]
              exact ⟨rfl, below_step (below_step (below_step H.out.2.1 hb1) nq.2) np.2⟩
          · replace H := Lib.hid (And.intro (show _ = firstErr E (k + 1) (l.length - (k + 1)) by rcases hd' with hd' | hd' <;> simpa [hd', hxy] using H.out.1) H.out.2)
            rw [hsame] at hd'
            clear hsame
            cases one
            all_goals try simp only [Bool.true_eq_false, false_or] at hd'
            all_goals
              go_wp2_with fail
              refine (H.out.2.2.1 _ hs).mono ?_
              rw [H.out.2.2.2]
              rintro e w1 ⟨rfl, hb1⟩
              go_wp2_with fail
              have q2' := below_cell hb1 q2
              have g1' := below_cell hb1 g1
              have g0' := Later.cell (below_cell hb1 g0)
              have q0' := Later.cell (below_cell hb1 q0)
              refine wp_region_later (by kernel_rfl) (by kernel_rfl) ?_
              repeat (go_big_quiet_step (fail))
              refine wpQuiet_nil ?_
              rintro _ ⟨nq, rfl⟩
              have g1'' := Later.cell (below_cell nq.below g1')
              have q2'' := Later.cell (below_cell nq.below q2')
              go_wp2_with fail
              refine wp_region_later (by kernel_rfl) (by kernel_rfl) ?_
              repeat (go_big_quiet_step (fail))
              refine wpQuiet_nil ?_
              rintro _ ⟨np, rfl⟩
              go_wp2
              go_roundw
              case rel => exact ⟨k + 1, by omega, by go_num, H.out.1, below_step (below_step (below_step H.out.2.1 hb1) nq.2) np.2⟩
              case measure => simp [intOf]; omega
      · have hE : E k = recErr l[k] := by rw [← HE.out]; unfold chkE; rw [rat_get hlt, if_pos hr]
        rw [hE, if_pos hr] at hf
        have H := Lib.hid (And.intro hf (And.intro hb e144))
        have hr1 : (recErr l[k] != 0) = true := by simpa using hr
        clear hf hb e144 hE h0 h1 h2 hS hd hr
        generalize l[k].driver = d at *
        generalize l[k].lo = x at *
        generalize l[k].hi = y at *
        generalize recErr l[k] = er at *
        go_wp2_with fail
        refine (H.out.2.2 _ hs).mono ?_
        rintro e w1 ⟨rfl, hb1⟩
        go_wp2
        go_ret2
        rw [H.out.1]
        exact ⟨rfl, below_step H.out.2.1 hb1⟩
    · have H := Lib.hid (And.intro hf hb)
      clear hf hb hS hd
      go_wp2
      go_ret2
      rw [H.out.1, show l.length - k = 0 by omega]
      exact ⟨rfl, H.out.2⟩

end Go.Proofs.Ytmfmpagfjgpodaa
