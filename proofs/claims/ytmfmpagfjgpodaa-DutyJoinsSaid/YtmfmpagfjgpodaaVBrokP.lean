/- The plain law of broken rules: the reference's and the library's first broken rule are one; no condition. -/
import Derived.Test.YtmfmpagfjgpodaaWU
namespace Go.Proofs.Ytmfmpagfjgpodaa
open Go.RowKit
theorem rat_take {l : List Rec} {m k : Nat} (h : k < m) : rat (l.take m) k = rat l k := by
  unfold rat
  simp only [List.getD_eq_getElem?_getD, List.getElem?_take, if_pos h]
theorem firstErr_congr {E E' : Nat → Int} : ∀ (n k : Nat), (∀ j, k ≤ j → j < k + n → E j = E' j) → firstErr E k n = firstErr E' k n
  | 0, k, _ => rfl
  | n + 1, k, h => by
    rw [firstErr, firstErr, h k (Nat.le_refl _) (by omega), firstErr_congr n (k + 1) fun j h1 h2 => h j (by omega) (by omega)]
theorem firstErr_hit {E : Nat → Int} {k0 : Nat} (h0 : E k0 ≠ 0) : ∀ (n k : Nat), k ≤ k0 → k0 < k + n → (∀ j, k ≤ j → j < k0 → E j = 0) → firstErr E k n = (k0, E k0)
  | 0, k, h1, h2, _ => by omega
  | n + 1, k, h1, h2, h3 => by
    rw [firstErr]
    by_cases hk : k = k0
    · subst hk
      rw [if_pos h0]
    · rw [h3 k (Nat.le_refl _) (by omega), if_neg (by simp)]
      exact firstErr_hit h0 n (k + 1) (by omega) (by omega) fun j a b => h3 j (by omega) b
theorem chkE_take {one : Bool} {l : List Rec} {m k : Nat} (h : k < m) : chkE one (l.take m) k = chkE one l k := by
  unfold chkE
  rw [rat_take h, rat_take (show k - 1 < m by omega)]
theorem Right.take {one : Bool} {l : List Rec} (h : Right one l) (m : Nat) : Right one (l.take m) := by
  have hl := h.len
  unfold Right checkRecs checkL
  rw [if_neg (by rw [List.length_take]; omega), firstErr_none _ _ fun j _ hj => ?_]
  rw [List.length_take] at hj
  rw [chkE_take (by omega)]
  exact h.err (by omega)
theorem bothErr_take {r : Rul} {l : List Rec} (h : bothErr r l = 0) (m : Nat) : bothErr r (l.take m) = 0 := by
  obtain ⟨h1, h2⟩ := bothErr_zero h
  have h3 : (checkRecs true (l.take m)).2 = 0 := h2.take m
  unfold bothErr
  rw [h1, h3]
  rfl
theorem gstart_take {l : List Rec} {gap : Int} {m k : Nat} (h : k < m) : gstart (l.take m) gap k = gstart l gap k := by
  unfold gstart
  rw [rat_take h, rat_take (show k - 1 < m by omega)]
theorem groups_take {l : List Rec} {gap : Int} {m : Nat} : ∀ k, k ≤ m → groups (l.take m) gap k = groups l gap k
  | 0, _ => rfl
  | k + 1, h => by
    rw [groups, groups, gstart_take (by omega), groups_take k (by omega)]
theorem groups_first {l : List Rec} {gap : Int} : ∀ k, ((groups l gap (k + 1)).getLastD (0, 0)).1 = firstIdx l gap k
  | 0 => by simp [groups, gstart, firstIdx]
  | k + 1 => by
    have ih := groups_first (l := l) (gap := gap) k
    rw [groups, firstIdx]
    by_cases hg : (rat l (k + 1)).lo - (rat l k).hi < gap
    · have : gstart l gap (k + 1) = false := by
        unfold gstart
        simp only [Nat.add_sub_cancel]
        simp
        omega
      rw [this, if_pos hg]
      simpa [List.getLastD_eq_getLast?] using ih
    · have : gstart l gap (k + 1) = true := by
        unfold gstart
        simp only [Nat.add_sub_cancel]
        simp
        omega
      rw [this, if_neg hg]
      simp
theorem lastOf_take {l : List Rec} {gap : Int} {k : Nat} (hk : k < l.length) : lastOf (l.take (k + 1)) gap = firstIdx l gap k := by
  unfold lastOf
  rw [show (l.take (k + 1)).length = k + 1 by rw [List.length_take]; omega, groups_take _ (Nat.le_refl _), groups_first]
theorem Right.mono {one : Bool} {l : List Rec} (h : Right one l) {i : Nat} : ∀ {j : Nat} (hj : j < l.length) (hij : i ≤ j), (l[i]'(by omega)).lo ≤ l[j].lo ∧ (l[i]'(by omega)).hi ≤ l[j].hi
  | 0, hj, hij => by
    obtain rfl : i = 0 := by omega
    exact ⟨Int.le_refl _, Int.le_refl _⟩
  | j + 1, hj, hij => by
    by_cases he : i = j + 1
    · subst he
      exact ⟨Int.le_refl _, Int.le_refl _⟩
    · have h1 := h.mono (i := i) (j := j) (by omega) (by omega)
      have h2 := h.next hj
      have h3 := h.time (k := j) (by omega)
      have h4 := h.time hj
      omega
theorem sum_map_congr {α : Type} {f g : α → Int} : ∀ {l : List α}, (∀ x ∈ l, f x = g x) → (l.map f).sum = (l.map g).sum
  | [], _ => rfl
  | x :: l, h => by
    rw [List.map_cons, List.map_cons, List.sum_cons, List.sum_cons, h x (List.mem_cons_self ..), sum_map_congr fun y hy => h y (List.mem_cons_of_mem _ hy)]
theorem work_seg {one : Bool} {l : List Rec} (h : Right one l) {i k : Nat} (hi : i ≤ k) (hk : k < l.length) : workIn ((l.take (k + 1)).drop i) (l[i]'(by omega)).lo l[k].hi = segSum l i (k + 1) := by
  unfold workIn segSum
  refine sum_map_congr fun x hx => ?_
  obtain ⟨j, hj, rfl⟩ := List.getElem_of_mem hx
  rw [List.length_drop, List.length_take] at hj
  rw [List.getElem_drop, List.getElem_take]
  have h1 := h.mono (i := i) (j := i + j) (by omega) (by omega)
  have h2 := h.mono (i := i + j) (j := k) hk (by omega)
  have h3 := h.time (k := i + j) (by omega)
  unfold wk
  simp only [Int.max_def, Int.min_def]
  repeat' split
  all_goals omega
theorem broken_is {one : Bool} {r : Rul} {l : List Rec} (h : Right one l) {k : Nat} (hk : k < l.length) : brokenP r (l.take (k + 1)) = brokenRef r l k := by
  have hlen : (l.take (k + 1)).length = k + 1 := by rw [List.length_take]; omega
  have h1 := firstIdx_le l r.brk k
  have h2 := firstIdx_le l r.rest k
  unfold brokenP brokenRef
  rw [lastOf_take hk, lastOf_take hk, hlen, Nat.add_sub_cancel, rat_take (by omega), rat_take (by omega), rat_take (by omega), rat_get hk, rat_get (show firstIdx l r.brk k < l.length by omega), work_seg h h1 hk]
theorem firstBroken_is {one : Bool} {r : Rul} {l : List Rec} (h : Right one l) : firstBroken r l = firstErr (brokenRef r l) 0 l.length :=
  firstErr_congr _ _ fun j _ hj => broken_is h (by omega)
/-- Without the records behind it it is the same one; ahead of it there is none. -/
theorem firstBroken_cut {r : Rul} {l : List Rec} (h0 : (firstBroken r l).2 ≠ 0) : (firstBroken r l).1 < l.length ∧ firstBroken r (l.take ((firstBroken r l).1 + 1)) = firstBroken r l ∧ firstBroken r (l.take (firstBroken r l).1) = (0, 0) := by
  obtain ⟨_, h1, h2, h3⟩ := firstErr_some l.length 0 h0
  have ht : ∀ {m j : Nat}, j < m → (l.take m).take (j + 1) = l.take (j + 1) := fun {m j} h => by
    rw [List.take_take, Nat.min_eq_left (by omega)]
  have e1 : (firstErr (fun k => brokenP r (l.take (k + 1))) 0 l.length).1 = (firstBroken r l).1 := rfl
  have e2 : (firstErr (fun k => brokenP r (l.take (k + 1))) 0 l.length).2 = (firstBroken r l).2 := rfl
  rw [e1, e2] at h2
  rw [e1] at h1 h3
  generalize firstBroken r l = F at *
  obtain ⟨k, b⟩ := F
  simp only at *
  refine ⟨by omega, ?_, ?_⟩
  · unfold firstBroken
    rw [show (l.take (k + 1)).length = k + 1 by rw [List.length_take]; omega, firstErr_hit (k0 := k) (by simp only [ht (Nat.lt_succ_self k)]; rw [h2]; exact h0) _ _ (Nat.zero_le _) (by omega) fun j _ hj => by
      simp only [ht (show j < k + 1 by omega)]
      exact h3 j (Nat.zero_le _) hj]
    simp only [ht (Nat.lt_succ_self k)]
    rw [h2]
  · unfold firstBroken
    rw [show (l.take k).length = k by rw [List.length_take]; omega]
    refine firstErr_none _ _ fun j _ hj => ?_
    simp only [ht (show j < k by omega)]
    exact h3 j (Nat.zero_le _) (by omega)
end Go.Proofs.Ytmfmpagfjgpodaa
