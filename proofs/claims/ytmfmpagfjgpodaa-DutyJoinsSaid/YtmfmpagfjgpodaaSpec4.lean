/- Right records, as plain facts; no condition. -/
import Derived.Test.YtmfmpagfjgpodaaSpec3
namespace Go.Proofs.Ytmfmpagfjgpodaa
open Go.RowKit

theorem firstErr_zero {E : Nat → Int} : ∀ (n k : Nat), (firstErr E k n).2 = 0 → ∀ j, k ≤ j → j < k + n → E j = 0
  | 0, k, _, j, h1, h2 => by omega
  | n + 1, k, h, j, h1, h2 => by
    rw [firstErr] at h
    split at h
    · rename_i hne
      exact absurd h hne
    · rename_i he
      simp only [ne_eq, Decidable.not_not] at he
      by_cases hj : j = k
      · rw [hj, he]
      · exact firstErr_zero n (k + 1) h j (by omega) (by omega)
theorem firstErr_none {E : Nat → Int} : ∀ (n k : Nat), (∀ j, k ≤ j → j < k + n → E j = 0) → firstErr E k n = (0, 0)
  | 0, _, _ => rfl
  | n + 1, k, h => by
    rw [firstErr, if_neg (by simp [h k (Nat.le_refl _) (by omega)])]
    exact firstErr_none n (k + 1) fun j h1 h2 => h j (by omega) (by omega)
theorem firstErr_some {E : Nat → Int} : ∀ (n k : Nat), (firstErr E k n).2 ≠ 0 → k ≤ (firstErr E k n).1 ∧ (firstErr E k n).1 < k + n ∧ E (firstErr E k n).1 = (firstErr E k n).2 ∧ ∀ j, k ≤ j → j < (firstErr E k n).1 → E j = 0
  | 0, k, h => by simp [firstErr] at h
  | n + 1, k, h => by
    rw [firstErr] at h ⊢
    split
    · exact ⟨Nat.le_refl _, by simp, rfl, fun j h1 h2 => by simp at h2; omega⟩
    · rename_i he
      rw [if_neg he] at h
      simp only [ne_eq, Decidable.not_not] at he
      obtain ⟨h1, h2, h3, h4⟩ := firstErr_some n (k + 1) h
      refine ⟨by omega, by omega, h3, fun j hj1 hj2 => ?_⟩
      by_cases hj : j = k
      · rw [hj, he]
      · exact h4 j (by omega) hj2
/-- Records of one driver (or of any) are right. -/
def Right (one : Bool) (l : List Rec) : Prop := (checkRecs one l).2 = 0
section
variable {one : Bool} {l : List Rec}
theorem Right.len (h : Right one l) : l.length ≤ 40 := by
  unfold Right checkRecs checkL at h
  by_cases hl : (l.length : Int) > 40
  · rw [if_pos hl] at h
    simp at h
  · omega
theorem Right.err (h : Right one l) {k : Nat} (hk : k < l.length) : chkE one l k = 0 := by
  have hl := h.len
  unfold Right checkRecs checkL at h
  rw [if_neg (by omega)] at h
  exact firstErr_zero _ _ h k (Nat.zero_le _) (by omega)
theorem Right.recOk (h : Right one l) {k : Nat} (hk : k < l.length) : recErr l[k] = 0 := by
  have := h.err hk
  unfold chkE at this
  rw [rat_get hk] at this
  split at this
  · assumption
  · rename_i h; simpa using h
theorem recErr_zero {r : Rec} (h : recErr r = 0) : isName r.driver = true ∧ 0 ≤ r.lo ∧ r.lo < r.hi ∧ r.hi ≤ 8640000000 := by
  unfold recErr spanErr at h
  cases hn : isName r.driver
  · simp [hn] at h
  · simp only [hn, if_true] at h
    cases h1 : isTime r.lo <;> cases h2 : isTime r.hi <;> simp only [h1, h2, Bool.and_true, Bool.and_false, if_true, Bool.false_eq_true, if_false] at h
    · omega
    · omega
    · omega
    · have a := inR_iff.1 h1
      have b := inR_iff.1 h2
      split at h
      · exact ⟨rfl, by omega, by omega, by omega⟩
      · omega
theorem Right.time (h : Right one l) {k : Nat} (hk : k < l.length) : 0 ≤ l[k].lo ∧ l[k].lo < l[k].hi ∧ l[k].hi ≤ 8640000000 := (recErr_zero (h.recOk hk)).2
theorem Right.timed (h : Right one l) : Timed l := fun x hx => by
  obtain ⟨k, hk, rfl⟩ := List.getElem_of_mem hx
  have := h.time hk
  omega
theorem Right.next (h : Right one l) {k : Nat} (hk : k + 1 < l.length) : l[k].hi ≤ l[k + 1].lo := by
  have := h.err hk
  unfold chkE at this
  rw [rat_get hk, rat_get (show k + 1 - 1 < l.length by omega)] at this
  rw [if_neg (by rw [h.recOk hk]; simp), if_neg (by omega)] at this
  simp only [Nat.add_sub_cancel] at this
  split at this
  · omega
  · split at this
    · omega
    · omega
theorem Right.same (h : Right true l) {k : Nat} (hk : k + 1 < l.length) : l[k + 1].driver = l[k].driver := by
  have := h.err hk
  unfold chkE at this
  rw [rat_get hk, rat_get (show k + 1 - 1 < l.length by omega)] at this
  rw [if_neg (by rw [h.recOk hk]; simp), if_neg (by omega)] at this
  simp only [Nat.add_sub_cancel, Bool.true_and] at this
  split at this
  · omega
  · rename_i hs
    simp only [Bool.not_eq_true', Bool.not_eq_false] at hs
    exact sameS_iff.1 hs
end
def bothErr (r : Rul) (l : List Rec) : Int := if rulesErr r ≠ 0 then rulesErr r else (checkRecs true l).2
theorem bothErr_zero {r : Rul} {l : List Rec} (h : bothErr r l = 0) : rulesErr r = 0 ∧ Right true l := by
  unfold bothErr at h
  split at h
  · rename_i h'; exact absurd h h'
  · rename_i h'
    exact ⟨by simpa using h', h⟩
theorem rulesErr_zero {r : Rul} (h : rulesErr r = 0) : 1 ≤ r.brk ∧ r.brk ≤ r.rest ∧ r.rest ≤ 2000000 ∧ 1 ≤ r.stint ∧ r.stint ≤ 2000000 ∧ 1 ≤ r.shift ∧ r.shift ≤ 2000000 ∧ 1 ≤ r.week ∧ r.week ≤ 2000000 := by
  unfold rulesErr at h
  split at h
  · rename_i hh
    simp only [Bool.and_eq_true, ruleOk, inR_iff] at hh
    unfold unl at h
    split at h
    · rename_i hb
      simp only [decide_eq_true_eq] at hb
      omega
    · omega
  · omega

/-- The first record at which a rule is broken, and that rule. -/
def firstBroken (r : Rul) (l : List Rec) : Nat × Int := firstErr (fun k => brokenP r (l.take (k + 1))) 0 l.length

end Go.Proofs.Ytmfmpagfjgpodaa
