/- The walks of names and spans; texts of at most 1000 bytes. -/
import Derived.Test.YtmfmpagfjgpodaaWA
import Derived.Lib.Hide
namespace Go.Proofs.Ytmfmpagfjgpodaa
open Go.RowKit

set_option maxRecDepth 100000 in
set_option maxHeartbeats 1000000 in
theorem c139 (s : ByteArray) (w : World) (hs : s.size ≤ 1000) : Calls Try.prog 139 #[.string s] w fun e w' => e = .returned (.bool (isName s)) ∧ Below w.heap.size w w' := by
  obtain ⟨w1, cap, hrun, hb, hc⟩ := bytes_of_string (P := Try.prog) w 9 122 5 s Try.underlying9 Try.underlying122 Try.underlying5
  have HB : Hid _ := hb
  clear hb
  go_enter Try.func139, Try.ntmps139
  go_wp2
  go_loop [3, 4, 5, 9] (fun _ _ _ i => ∃ k : Nat, k ≤ s.size ∧ i = .int .i64 k ∧ okTo s k = true) (fun _ _ _ i => s.size - (intOf i).toNat)
  case atStart => exact ⟨0, Nat.zero_le _, rfl, rfl⟩
  case round =>
    obtain ⟨k, hk, rfl, hf⟩ := hrel
    by_cases hlt : k < s.size
    · have hcb := hc k hlt
      have hs1 := okTo_succ s k
      have hs2 := okTo_no s hlt
      have hlt' := (byteAt s k).toNat_lt
      generalize (byteAt s k).toNat = c at *
      have H := And.intro hf (And.intro hs1 hs2)
      have HH : Hid _ := H
      clear hf hs1 hs2 H hc
      go_wp2
      all_goals first
        | (go_ret
           refine ⟨?_, HB.out⟩
           have ho : okChar k c = false := by
             rw [Bool.eq_false_iff, ne_eq, okChar_iff]
             simp only [bne_iff_ne, beq_iff_eq, ne_eq, Bool.not_eq_true', decide_eq_false_iff_not] at *
             omega
           have h1 := HH.out.2.2 ho
           simp [isName, h1])
        | (go_round
           case rel =>
             refine ⟨k + 1, by omega, by go_num, ?_⟩
             rw [HH.out.2.1, HH.out.1, Bool.true_and, okChar_iff]
             simp only [bne_eq_false_iff_eq, beq_eq_false_iff_ne, ne_eq, Bool.not_eq_false', decide_eq_true_eq] at *
             omega
           case measure => simp [intOf]; omega)
    · obtain rfl : k = s.size := by omega
      have H : Hid _ := hf
      clear hf hc
      by_cases he : s.size = 0
      · have he1 : s.toList = [] := toList_nil he
        go_wp2
        go_ret
        refine ⟨?_, HB.out⟩
        simp [isName, he]
      · have he1 : s.toList.isEmpty = false := toList_more he
        go_wp2
        go_ret
        refine ⟨?_, HB.out⟩
        rw [isName, H.out, Bool.and_true]
        have : decide (1 ≤ s.size) = true := by simp; omega
        rw [this]
        simp
        omega
set_option maxRecDepth 100000 in
set_option maxHeartbeats 1000000 in
theorem c102 (s : ByteArray) (w : World) (hs : s.size ≤ 1000) : Calls Try.prog 102 #[.string s] w fun e w' => e = .returned (.bool (isName s)) ∧ w = w' := by
  by_cases h1 : s.size < 1
  · have hl : decide ((s.size : Int) < 1) = true := by simp; omega
    go_enter Try.func102, Try.ntmps102
    go_wp2
    go_ret
    simp only [isName, and_true]
    rw [decide_eq_false (by omega)]
    rfl
  by_cases h2 : 12 < s.size
  · have hl : decide ((s.size : Int) < 1) = false := by simp; omega
    go_enter Try.func102, Try.ntmps102
    go_wp2
    go_ret
    simp only [isName, and_true]
    rw [decide_eq_false (show ¬ s.size ≤ 12 by omega), Bool.and_false]
    rfl
  have hl : decide ((s.size : Int) < 1) = false := by simp; omega
  have hl2 : decide (12 < (s.size : Int)) = false := by simp; omega
  go_enter Try.func102, Try.ntmps102
  go_wp2
  go_loop [3, 4, 5] (fun i _ _ => ∃ k : Nat, k ≤ s.size ∧ i = .int .i64 k ∧ okTo s k = true) (fun i _ _ => s.size - (intOf i).toNat)
  case atStart => exact ⟨0, Nat.zero_le _, rfl, rfl⟩
  case round =>
    obtain ⟨k, hk, rfl, hf⟩ := hrel
    by_cases hlt : k < s.size
    · have hs1 := okTo_succ s k
      have hs2 := okTo_no s hlt
      rw [byteAt_get hlt] at hs1 hs2
      have H := And.intro hf (And.intro hs1 hs2)
      have HH : Hid _ := H
      clear hf hs1 hs2 H
      by_cases hk0 : k = 0
      all_goals
        first
          | (have b0 : ((k : Int) == 0) = true := by simp [hk0])
          | (have b0 : ((k : Int) == 0) = false := by simp [hk0])
        have HK := Lib.hid hk0
        clear hk0
        go_wp2
        all_goals
          have hk0 := HK.out
          clear HK b0
          generalize s[k].toNat = c at *
          first
            | (go_ret
               refine ⟨?_, rfl⟩
               have ho : okChar k c = false := by
                 rw [Bool.eq_false_iff, ne_eq, okChar_iff]
                 simp only [bne_iff_ne, ne_eq, Bool.not_eq_true', decide_eq_false_iff_not] at *
                 omega
               have h1 := HH.out.2.2 ho
               simp [isName, h1])
            | (go_round
               case rel =>
                 refine ⟨k + 1, by omega, by go_num, ?_⟩
                 rw [HH.out.2.1, HH.out.1, Bool.true_and, okChar_iff]
                 simp only [bne_eq_false_iff_eq, ne_eq, Bool.not_eq_false', decide_eq_true_eq] at *
                 omega
               case measure => simp [intOf]; omega)
    · obtain rfl : k = s.size := by omega
      have H : Hid _ := hf
      clear hf
      go_wp2
      go_ret
      refine ⟨?_, rfl⟩
      rw [isName, H.out, Bool.and_true]
      rw [decide_eq_true (show 1 ≤ s.size by omega), decide_eq_true (show s.size ≤ 12 by omega)]
      rfl

theorem c99 (s : ByteArray) (w : World) (hs : s.size ≤ 1000) : Calls Try.prog 99 #[.string s] w fun e w' => e = .returned (.int .i64 (nameErr s)) ∧ Below w.heap.size w w' := by
  go_enter Try.func99, Try.ntmps99
  go_wp2_with (first | (go_at_call 139; refine (c139 _ _ hs).mono ?_; rintro e w1 ⟨rfl, hb1⟩) | (go_at_call 78; refine (c78 _ _ _).mono ?_; rintro e w' ⟨rfl, rfl⟩))
  go_ret
  exact ⟨rfl, by assumption⟩
theorem c130 (lo hi : Int) (w : World) : Calls Try.prog 130 #[.int .i64 lo, .int .i64 hi] w fun e w' => e = .returned (.int .i64 (spanErr lo hi)) ∧ w = w' := by
  unfold spanErr
  have h1 : ∀ n w, Calls Try.prog 22 #[.int .i64 n] w fun e w' => e = .returned (.bool (isTime n)) ∧ w = w' := c22
  cases hl : isTime lo <;> cases hh : isTime hi <;> by_cases ho : lo < hi
  all_goals
    go_enter Try.func130, Try.ntmps130
    go_wp2_with (go_at_call 22; refine (c22 _ _).mono ?_; rintro e w' ⟨rfl, rfl⟩)
    go_ret
    simp
theorem c143 (lo hi : Int) (w : World) : Calls Try.prog 143 #[.int .i64 lo, .int .i64 hi] w fun e w' => e = .returned (.int .i64 (spanErr lo hi)) ∧ Below w.heap.size w w' := by
  rw [← spanErr_fst]
  go_enter Try.func143, Try.ntmps143
  go_wp2_with (first | (go_at_call 77; refine (c77 _ _).mono ?_; rintro e w' ⟨rfl, rfl⟩) | (go_at_call 78; refine (c78 _ _ _).mono ?_; rintro e w' ⟨rfl, rfl⟩))
  refine (c75 [timeErr lo, timeErr hi, unl (decide (hi > lo)) 9] _ _ _ _ rfl (by simp) ?_).mono ?_
  · exact Sl.of_row (fun _ => rfl) (heap_alloc_new w _) rfl
  · rintro e w' ⟨rfl, rfl⟩
    go_wp2
    go_ret
    exact ⟨rfl, bl_alloc (Below.refl _ _) _⟩

end Go.Proofs.Ytmfmpagfjgpodaa
