/- The walks of the small functions: numbers, errors, names; no condition beyond what each says. -/
import Derived.Test.YtmfmpagfjgpodaaSpec
import Derived.Test.YtmfmpagfjgpodaaProg
namespace Go.Proofs.Ytmfmpagfjgpodaa
open Go.RowKit

theorem c36 (n lo hi : Int) (w : World) : Calls Try.prog 36 #[.int .i64 n, .int .i64 lo, .int .i64 hi] w fun e w' => e = .returned (.bool (inR n lo hi)) ∧ w = w' := by
  unfold inR
  by_cases h : lo ≤ n
  · have h1 : decide (lo ≤ n) = true := by simpa using h
    go_enter Try.func36, Try.ntmps36
    go_wp2
    go_ret
    simp [h]
  · have h1 : decide (lo ≤ n) = false := by simpa using h
    go_enter Try.func36, Try.ntmps36
    go_wp2
    go_ret
    simp
theorem c106 (n lo hi : Int) (w : World) : Calls Try.prog 106 #[.int .i64 n, .int .i64 lo, .int .i64 hi] w fun e w' => e = .returned (.bool (inR n lo hi)) ∧ w = w' := by
  unfold inR
  by_cases h : lo ≤ n
  · have h1 : decide (lo ≤ n) = true := by simpa using h
    go_enter Try.func106, Try.ntmps106
    go_wp2
    go_ret
    simp [h]
  · have h1 : decide (lo ≤ n) = false := by simpa using h
    go_enter Try.func106, Try.ntmps106
    go_wp2
    go_ret
    simp
theorem c78 (c : Bool) (n : Int) (w : World) : Calls Try.prog 78 #[.bool c, .int .i64 n] w fun e w' => e = .returned (.int .i64 (unl c n)) ∧ w = w' := by
  cases c
  · go_enter Try.func78, Try.ntmps78
    go_wp2
    go_ret
    exact ⟨rfl, rfl⟩
  · go_enter Try.func78, Try.ntmps78
    go_wp2
    go_ret
    exact ⟨rfl, rfl⟩
theorem c22 (n : Int) (w : World) : Calls Try.prog 22 #[.int .i64 n] w fun e w' => e = .returned (.bool (isTime n)) ∧ w = w' := by
  go_enter Try.func22, Try.ntmps22
  go_wp2_with (go_at_call 36; refine (c36 _ _ _ _).mono ?_; rintro e w' ⟨rfl, rfl⟩)
  go_ret
  exact ⟨rfl, rfl⟩
theorem c128 (n : Int) (w : World) : Calls Try.prog 128 #[.int .i64 n] w fun e w' => e = .returned (.bool (isTime n)) ∧ w = w' := by
  go_enter Try.func128, Try.ntmps128
  go_wp2_with (go_at_call 106; refine (c106 _ _ _ _).mono ?_; rintro e w' ⟨rfl, rfl⟩)
  go_ret
  exact ⟨rfl, rfl⟩
theorem c134 (n : Int) (w : World) : Calls Try.prog 134 #[.int .i64 n] w fun e w' => e = .returned (.bool (isTake n)) ∧ w = w' := by
  go_enter Try.func134, Try.ntmps134
  go_wp2_with (go_at_call 106; refine (c106 _ _ _ _).mono ?_; rintro e w' ⟨rfl, rfl⟩)
  go_ret
  exact ⟨rfl, rfl⟩
theorem c140 (n : Int) (w : World) : Calls Try.prog 140 #[.int .i64 n] w fun e w' => e = .returned (.bool (isDate n)) ∧ w = w' := by
  go_enter Try.func140, Try.ntmps140
  go_wp2_with (go_at_call 106; refine (c106 _ _ _ _).mono ?_; rintro e w' ⟨rfl, rfl⟩)
  go_ret
  exact ⟨rfl, rfl⟩
theorem c129 (n : Int) (w : World) : Calls Try.prog 129 #[.int .i64 n] w fun e w' => e = .returned (.bool (!inR n 0 13)) ∧ w = w' := by
  go_enter Try.func129, Try.ntmps129
  go_wp2_with (go_at_call 106; refine (c106 _ _ _ _).mono ?_; rintro e w' ⟨rfl, rfl⟩)
  go_ret
  exact ⟨rfl, rfl⟩
theorem c103 (n : Int) (w : World) : Calls Try.prog 103 #[.int .i64 n] w fun e w' => e = .returned (.int .i64 (dateErr n)) ∧ w = w' := by
  unfold dateErr isDate unl
  cases h : inR n 0 100000
  all_goals
    go_enter Try.func103, Try.ntmps103
    go_wp2_with (go_at_call 36; refine (c36 _ _ _ _).mono ?_; rintro e w' ⟨rfl, rfl⟩)
    go_ret
    exact ⟨rfl, rfl⟩
theorem c77 (n : Int) (w : World) : Calls Try.prog 77 #[.int .i64 n] w fun e w' => e = .returned (.int .i64 (timeErr n)) ∧ w = w' := by
  go_enter Try.func77, Try.ntmps77
  go_wp2_with (first | (go_at_call 128; refine (c128 _ _).mono ?_; rintro e w' ⟨rfl, rfl⟩) | (go_at_call 78; refine (c78 _ _ _).mono ?_; rintro e w' ⟨rfl, rfl⟩))
  go_ret
  exact ⟨rfl, rfl⟩
theorem c100 (n : Int) (w : World) : Calls Try.prog 100 #[.int .i64 n] w fun e w' => e = .returned (.int .i64 (dateErr n)) ∧ w = w' := by
  go_enter Try.func100, Try.ntmps100
  go_wp2_with (first | (go_at_call 140; refine (c140 _ _).mono ?_; rintro e w' ⟨rfl, rfl⟩) | (go_at_call 78; refine (c78 _ _ _).mono ?_; rintro e w' ⟨rfl, rfl⟩))
  go_ret
  exact ⟨rfl, rfl⟩

theorem fst_drop {l : List Int} {k : Nat} (hk : k < l.length) : fst (l.drop k) = if l[k] ≠ 0 then l[k] else fst (l.drop (k + 1)) := by
  rw [List.drop_eq_getElem_cons hk, fst]
theorem c75 (l : List Int) (A : Option Addr) (n cap : Nat) (w : World) (hn : n = l.length) (hl : n ≤ 1000) (hS : Sl intC 1 w A l) :
    Calls Try.prog 75 #[.slice A n cap] w fun e w' => e = .returned (.int .i64 (fst l)) ∧ w = w' := by
  subst hn
  go_enter Try.func75, Try.ntmps75
  go_wp2
  go_loop [4, 7] (fun x i => ∃ k : Nat, k ≤ l.length ∧ i = .int .i64 k ∧ fst l = fst (l.drop k)) (fun _ i => l.length - (intOf i).toNat)
  case atStart => exact ⟨0, Nat.zero_le _, rfl, rfl⟩
  case round =>
    obtain ⟨k, hk, rfl, hf⟩ := hrel
    by_cases hlt : k < l.length
    · obtain ⟨b, o, rfl, hc⟩ := hS.intAt hlt
      have hd := fst_drop hlt
      generalize l[k] = x at *
      have H := And.intro hf hd
      have HH : Hid _ := H
      clear hf hd H hS
      by_cases hx : x = 0
      · have hx1 : (x != 0) = false := by simpa using hx
        subst hx
        go_wp2
        go_round
        case rel => exact ⟨k + 1, by omega, by go_num, by rw [HH.out.1, HH.out.2, if_neg (by simp)]⟩
        case measure => simp [intOf]; omega
      · have hx1 : (x != 0) = true := by simpa using hx
        go_wp2
        go_ret
        rw [HH.out.1, HH.out.2, if_pos hx]
        exact ⟨rfl, rfl⟩
    · have hk' : k = l.length := by omega
      have HH : Hid (fst l = fst (l.drop k)) := hf
      clear hf
      go_wp2
      go_ret
      rw [HH.out, List.drop_of_length_le (by omega)]
      exact ⟨rfl, rfl⟩

end Go.Proofs.Ytmfmpagfjgpodaa
