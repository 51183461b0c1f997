/- Texts in one: How many plates uses need: the plain law; no program in sight. -/
import Derived.Test.YtmfmpagfjgpodaaMS27
/-! VPlateP: How many plates uses need: the plain law; no program in sight. -/
namespace Go.Proofs.Ytmfmpagfjgpodaa
theorem cnt_split (q r : Nat → Bool) : ∀ n, cntP q n = cntP (fun k => q k && r k) n + cntP (fun k => q k && !r k) n
  | 0 => rfl
  | n + 1 => by
    rw [cntP, cntP, cntP, cnt_split q r n]
    cases q n <;> cases r n <;> simp <;> omega
theorem cnt_none {q : Nat → Bool} : ∀ n, (∀ j, j < n → q j = false) → cntP q n = 0
  | 0, _ => rfl
  | n + 1, h => by
    rw [cntP, cnt_none n fun j hj => h j (by omega), h n (by omega)]
    rfl
theorem cnt_pos {q : Nat → Bool} : ∀ {n j : Nat}, j < n → q j = true → 1 ≤ cntP q n
  | 0, j, h, _ => by omega
  | n + 1, j, h, hq => by
    rw [cntP]
    by_cases hj : j = n
    · rw [← hj, hq]
      simp
    · have := cnt_pos (n := n) (j := j) (by omega) hq
      omega
theorem cnt_one {q : Nat → Bool} : ∀ n, (∀ i j, i < n → j < n → q i = true → q j = true → i = j) → cntP q n ≤ 1
  | 0, _ => by simp [cntP]
  | n + 1, h => by
    rw [cntP]
    cases hq : q n
    · have := cnt_one (q := q) n fun i j hi hj => h i j (by omega) (by omega)
      simpa using this
    · have : cntP q n = 0 := cnt_none n fun j hj => by
        cases hj2 : q j
        · rfl
        · have := h j n (by omega) (by omega) hj2 hq
          omega
      rw [this]
      simp
theorem pigeon_up {n : Nat} {col : Nat → Int} : ∀ (m : Nat) (q : Nat → Bool), (∀ j, j < n → q j = true → 0 ≤ col j ∧ col j < m) → (∀ i j, i < n → j < n → q i = true → q j = true → col i = col j → i = j) → cntP q n ≤ m
  | 0, q, h1, _ => by
    rw [cnt_none n fun j hj => ?_]
    · exact Nat.le_refl _
    · cases hq : q j
      · rfl
      · have := h1 j hj hq
        omega
  | m + 1, q, h1, h2 => by
    rw [cnt_split q (fun k => decide (col k = m)) n]
    have a := cnt_one (q := fun k => q k && decide (col k = m)) n fun i j hi hj hqi hqj => by
      simp only [Bool.and_eq_true, decide_eq_true_eq] at hqi hqj
      exact h2 i j hi hj hqi.1 hqj.1 (by rw [hqi.2, hqj.2])
    have b := pigeon_up (n := n) (col := col) m (fun k => q k && !decide (col k = m)) (fun j hj hq => by
      simp only [Bool.and_eq_true, Bool.not_eq_true', decide_eq_false_iff_not] at hq
      obtain ⟨hq1, hq2⟩ := hq
      have := h1 j hj hq1
      omega) fun i j hi hj hqi hqj => by
        simp only [Bool.and_eq_true] at hqi hqj
        exact h2 i j hi hj hqi.1 hqj.1
    omega
theorem pigeon_down {n : Nat} {col : Nat → Int} : ∀ (m : Nat) (q : Nat → Bool), (∀ c, c < m → ∃ j, j < n ∧ q j = true ∧ col j = (c : Nat)) → m ≤ cntP q n
  | 0, _, _ => Nat.zero_le _
  | m + 1, q, h => by
    rw [cnt_split q (fun k => decide (col k = m)) n]
    obtain ⟨j, hj, hq, hc⟩ := h m (by omega)
    have a := cnt_pos (q := fun k => q k && decide (col k = m)) hj (by simp [hq, hc])
    have b := pigeon_down (n := n) (col := col) m (fun k => q k && !decide (col k = m)) fun c hcm => by
      obtain ⟨j, hj, hq, hc⟩ := h c (by omega)
      refine ⟨j, hj, ?_, hc⟩
      simp [hq, hc]
      omega
    omega
theorem maxTo_ge {of : List Int} : ∀ {n k : Nat}, k < n → iat of k + 1 ≤ maxTo of n
  | 0, k, h => by omega
  | n + 1, k, h => by
    rw [maxTo]
    by_cases hk : k = n
    · subst hk
      split <;> omega
    · have := maxTo_ge (of := of) (n := n) (k := k) (by omega)
      split <;> omega
theorem maxTo_le {of : List Int} {m : Int} (h0 : 0 ≤ m) : ∀ (n : Nat), (∀ k, k < n → iat of k + 1 ≤ m) → maxTo of n ≤ m
  | 0, _ => h0
  | n + 1, h => by
    rw [maxTo]
    have := maxTo_le h0 n fun k hk => h k (by omega)
    have := h n (by omega)
    split <;> omega
theorem maxTo_zero (of : List Int) : ∀ n, 0 ≤ maxTo of n
  | 0 => by simp [maxTo]
  | n + 1 => by
    have := maxTo_zero of n
    rw [maxTo]
    split <;> omega
/-- No right plates are fewer than the uses at one time. -/
theorem plates_low {l : List Rec} {of : List Int} (h0 : ∀ k, k < l.length → 0 ≤ iat of k) (hc : ¬ Clash l of) (t : Int) : (usesAt l t l.length : Int) ≤ maxTo of l.length := by
  have hm := maxTo_zero of l.length
  have := pigeon_up (n := l.length) (col := iat of) (maxTo of l.length).toNat (fun k => inU (rat l k) t) (fun j hj _ => by
    have := maxTo_ge (of := of) hj
    have := h0 j hj
    omega) fun i j hi hj hqi hqj he => by
      by_cases hij : i = j
      · exact hij
      · refine absurd ?_ hc
        simp only [inU, Bool.and_eq_true, decide_eq_true_eq] at hqi hqj
        have ho : ovU (rat l i) (rat l j) = true := by simp only [ovU, Bool.and_eq_true, decide_eq_true_eq]; omega
        by_cases hlt : i < j
        · exact ⟨j, i, hlt, hj, he, by rw [ovU_comm]; exact ho⟩
        · exact ⟨i, j, by omega, hi, he.symm, ho⟩
  unfold usesAt
  omega
theorem mostTo_ge {l : List Rec} : ∀ {n k : Nat}, k < n → usesAt l (rat l k).lo l.length ≤ mostTo l n
  | 0, k, h => by omega
  | n + 1, k, h => by
    rw [mostTo]
    by_cases hk : k = n
    · subst hk
      omega
    · have := mostTo_ge (l := l) (n := n) (k := k) (by omega)
      omega
theorem mostTo_le {l : List Rec} {m : Nat} : ∀ (n : Nat), (∀ k, k < n → usesAt l (rat l k).lo l.length ≤ m) → mostTo l n ≤ m
  | 0, _ => Nat.zero_le _
  | n + 1, h => by
    rw [mostTo]
    have := mostTo_le n fun k hk => h k (by omega)
    have := h n (by omega)
    omega
/-- No right plates are fewer than the most uses at one time. -/
theorem plates_most {l : List Rec} {of : List Int} (h0 : ∀ k, k < l.length → 0 ≤ iat of k) (hc : ¬ Clash l of) : (mostTo l l.length : Int) ≤ maxTo of l.length := by
  have hm := maxTo_zero of l.length
  have := mostTo_le (l := l) (m := (maxTo of l.length).toNat) l.length fun k _ => by
    have := plates_low h0 hc (rat l k).lo
    omega
  omega
/-- Plates each of which is the smallest that is free ahead of it, in an order of the beginnings, are as many as the most uses at one time. -/
theorem plates_high {l : List Rec} {of : List Int} (pos : Nat → Nat) (hp : ∀ k, k < l.length → (rat l k).lo < (rat l k).hi) (hord : ∀ i j, i < l.length → j < l.length → pos i < pos j → (rat l i).lo ≤ (rat l j).lo)
    (hg : ∀ k, k < l.length → 0 ≤ iat of k ∧ ∀ c : Nat, (c : Int) < iat of k → ∃ j, j < l.length ∧ pos j < pos k ∧ iat of j = c ∧ ovU (rat l k) (rat l j) = true) : maxTo of l.length ≤ mostTo l l.length := by
  refine maxTo_le (by omega) _ fun k hk => ?_
  obtain ⟨h1, h2⟩ := hg k hk
  have hge := mostTo_ge (l := l) hk
  have := pigeon_down (n := l.length) (col := iat of) ((iat of k).toNat + 1) (fun j => inU (rat l j) (rat l k).lo) fun c hc => by
    by_cases he : c = (iat of k).toNat
    · refine ⟨k, hk, ?_, by omega⟩
      have := hp k hk
      simp only [inU, Bool.and_eq_true, decide_eq_true_eq]
      omega
    · obtain ⟨j, hj, h3, h4, h5⟩ := h2 c (by omega)
      refine ⟨j, hj, ?_, h4⟩
      have := hord j k hj hk h3
      simp only [ovU, inU, Bool.and_eq_true, decide_eq_true_eq] at h5 ⊢
      omega
  change (iat of k).toNat + 1 ≤ usesAt l (rat l k).lo l.length at this
  omega
end Go.Proofs.Ytmfmpagfjgpodaa
