/- The plain law of the longest trip: a longer trip breaks whatever a shorter one breaks; no condition. -/
import Derived.Test.YtmfmpagfjgpodaaVAllowP
import Derived.Test.YtmfmpagfjgpodaaWS
namespace Go.Proofs.Ytmfmpagfjgpodaa
open Go.RowKit
/-- There is no more work than time. -/
theorem work_le {one : Bool} {l : List Rec} (h : Right one l) {a b : Int} (hab : a ≤ b) : ∀ k (hk : k ≤ l.length), workIn (l.take k) a b ≤ (if h0 : 0 < k then max a (min (l[k - 1]'(by omega)).hi b) - a else 0)
  | 0, _ => by simp [workIn]
  | k + 1, hk => by
    have ih := work_le h hab k (by omega)
    have ht := h.time (k := k) (by omega)
    rw [workIn_succ l a b (by omega), dif_pos (by omega)]
    simp only [Nat.add_sub_cancel]
    unfold wk
    by_cases h0 : 0 < k
    · rw [dif_pos h0] at ih
      obtain ⟨m, rfl⟩ : ∃ m, k = m + 1 := ⟨k - 1, by omega⟩
      simp only [Nat.add_sub_cancel] at ih
      have hn := h.next (k := m) (by omega)
      have ht2 := h.time (k := m) (by omega)
      simp only [Int.max_def, Int.min_def] at ih ⊢
      repeat' split
      all_goals (repeat' split at ih)
      all_goals omega
    · rw [dif_neg h0] at ih
      simp only [Int.max_def, Int.min_def] at ih ⊢
      repeat' split
      all_goals omega
theorem work_le_all {one : Bool} {l : List Rec} (h : Right one l) {a b : Int} (hab : a ≤ b) : workIn l a b ≤ b - a := by
  have := work_le h hab l.length (Nat.le_refl _)
  rw [List.take_length] at this
  split at this
  · simp only [Int.max_def, Int.min_def] at this
    repeat' split at this
    all_goals omega
  · omega
theorem workIn_app (l : List Rec) (x : Rec) (f t : Int) : workIn (l ++ [x]) f t = workIn l f t + wk f t x := by
  unfold workIn
  rw [List.map_append, List.sum_append]
  simp
theorem work_far {one : Bool} {l : List Rec} (h : Right one l) {f t t' : Int} (h1 : endOf l ≤ t) (h2 : endOf l ≤ t') : workIn l f t = workIn l f t' := by
  unfold workIn
  refine sum_map_congr fun x hx => ?_
  obtain ⟨k, hk, rfl⟩ := List.getElem_of_mem hx
  have := endOf_ge h hk
  unfold wk
  rw [Int.min_eq_left (by omega), Int.min_eq_left (by omega)]
/-- The last week's work does not fall with the length of a trip. -/
theorem week_mono {one : Bool} {l : List Rec} (h : Right one l) {start m m' : Int} (he : endOf l ≤ start) (h0 : 0 ≤ m) (h1 : m ≤ m') (h2 : m' ≤ 200000) :
    workIn (withTrip l start m) (start + m - 604800) (start + m) ≤ workIn (withTrip l start m') (start + m' - 604800) (start + m') := by
  unfold withTrip
  rw [workIn_app, workIn_app]
  have e1 := workIn_add l (fun x hx => by obtain ⟨k, hk, rfl⟩ := List.getElem_of_mem hx; have := h.time hk; omega) (show start + m - 604800 ≤ start + m' - 604800 by omega) (show start + m' - 604800 ≤ start + m by omega)
  have e2 := work_le_all h (show start + m - 604800 ≤ start + m' - 604800 by omega)
  have e3 := work_far h (f := start + m' - 604800) (show endOf l ≤ start + m by omega) (show endOf l ≤ start + m' by omega)
  have w1 : wk (start + m - 604800) (start + m) ⟨ByteArray.empty, start, start + m⟩ = m := by
    unfold wk
    simp only [Int.max_def, Int.min_def]
    repeat' split
    all_goals omega
  have w2 : wk (start + m' - 604800) (start + m') ⟨ByteArray.empty, start, start + m'⟩ = m' := by
    unfold wk
    simp only [Int.max_def, Int.min_def]
    repeat' split
    all_goals omega
  rw [w1, w2]
  omega
theorem rat_trip (l : List Rec) (start m : Int) {k : Nat} (hk : k < l.length) : rat (withTrip l start m) k = l[k] := by
  unfold withTrip
  rw [rat_get (by simp; omega)]
  exact List.getElem_append_left hk
theorem rat_trip_last (l : List Rec) (start m : Int) : rat (withTrip l start m) l.length = ⟨ByteArray.empty, start, start + m⟩ := by
  unfold withTrip
  rw [rat_get (by simp)]
  simp
theorem first_trip (l : List Rec) (start m m' gap : Int) : ∀ k, k ≤ l.length → firstIdx (withTrip l start m) gap k = firstIdx (withTrip l start m') gap k
  | 0, _ => rfl
  | k + 1, hk => by
    have h1 : (rat (withTrip l start m) (k + 1)).lo = (rat (withTrip l start m') (k + 1)).lo := by
      rcases Nat.lt_or_ge (k + 1) l.length with h | h
      · rw [rat_trip l start m h, rat_trip l start m' h]
      · have : k + 1 = l.length := by omega
        rw [this, rat_trip_last, rat_trip_last]
    rw [firstIdx, firstIdx, h1, rat_trip l start m (show k < l.length by omega), rat_trip l start m' (show k < l.length by omega), first_trip l start m m' gap k (by omega)]
theorem seg_trip (l : List Rec) (start m : Int) {i : Nat} (hi : i ≤ l.length) : segSum (withTrip l start m) i (l.length + 1) = segSum l i l.length + m := by
  have hx : (withTrip l start m)[l.length]'(by simp [withTrip]) = ⟨ByteArray.empty, start, start + m⟩ := by simp [withTrip]
  rw [segSum_succ (withTrip l start m) hi (by simp [withTrip]), hx]
  have : segSum (withTrip l start m) i l.length = segSum l i l.length := by
    unfold segSum withTrip
    rw [List.take_left' rfl, List.take_length]
  rw [this]
  simp only
  omega
/-- A longer trip breaks whatever a shorter one breaks. -/
theorem broken_mono {one : Bool} {r : Rul} {l : List Rec} (h : Right one l) {start m m' : Int} (he : endOf l ≤ start) (h0 : 0 ≤ m) (h1 : m ≤ m') (h2 : m' ≤ 200000) (hb : brokenP r (withTrip l start m) ≠ 0) : brokenP r (withTrip l start m') ≠ 0 := by
  have e1 : brokenRef r (withTrip l start m) l.length = _ := broken_trip h r ByteArray.empty he h0
  have e2 : brokenRef r (withTrip l start m') l.length = _ := broken_trip h r ByteArray.empty (len := m') he (by omega)
  rw [← e1] at hb
  rw [← e2]
  have hw := week_mono h he h0 h1 h2
  have f1 := firstIdx_le (withTrip l start m) r.brk l.length
  have f2 := firstIdx_le (withTrip l start m) r.rest l.length
  have hlo : (rat (withTrip l start m) (firstIdx (withTrip l start m) r.rest l.length)).lo = (rat (withTrip l start m') (firstIdx (withTrip l start m) r.rest l.length)).lo := by
    rcases Nat.lt_or_ge (firstIdx (withTrip l start m) r.rest l.length) l.length with hf | hf
    · rw [rat_trip l start m hf, rat_trip l start m' hf]
    · have : firstIdx (withTrip l start m) r.rest l.length = l.length := by omega
      rw [this, rat_trip_last, rat_trip_last]
  have t1 : ∀ m, (withTrip l start m).take (l.length + 1) = withTrip l start m := fun m => List.take_of_length_le (by simp [withTrip])
  unfold brokenRef at hb ⊢
  rw [t1, rat_trip_last] at hb
  rw [t1, rat_trip_last]
  rw [first_trip l start m' m r.brk _ (Nat.le_refl _), first_trip l start m' m r.rest _ (Nat.le_refl _), ← hlo, seg_trip l start m' f1]
  rw [seg_trip l start m f1] at hb
  simp only at hb ⊢
  split
  · omega
  · split
    · omega
    · split
      · omega
      · rename_i g1 g2 g3
        rw [if_neg (by omega), if_neg (by omega), if_neg (by omega)] at hb
        exact hb
theorem breaks_mono {one : Bool} {r : Rul} {l : List Rec} (h : Right one l) {start m m' : Int} (he : endOf l ≤ start) (h0 : 0 ≤ m) (h1 : m ≤ m') (h2 : m' ≤ 200000) (hb : breaksP r l start (-1) m ≠ 0) : breaksP r l start (-1) m' ≠ 0 := by
  unfold breaksP at hb ⊢
  by_cases hm : 0 < m ∧ brokenP r (withTrip l start m) ≠ 0
  · have := broken_mono h he h0 h1 h2 hm.2
    rw [if_pos ⟨by omega, this⟩]
    exact this
  · rw [if_neg hm, if_neg (by simp)] at hb
    exact absurd rfl hb
theorem breaks_zero (r : Rul) (l : List Rec) (start : Int) : breaksP r l start (-1) 0 = 0 := by
  unfold breaksP
  rw [if_neg (by omega), if_neg (by simp)]
/-- The least place, by halves. -/
theorem search_spec {p : Nat → Bool} {N : Nat} : ∀ (f i j : Nat), j - i ≤ f → i ≤ j → j ≤ N → (∀ a b, a ≤ b → b < N → p a = true → p b = true) → (∀ k, k < i → p k = false) → (j = N ∨ p j = true) →
    (∀ k, k < searchP p f i j → p k = false) ∧ (searchP p f i j = N ∨ p (searchP p f i j) = true) ∧ searchP p f i j ≤ N
  | 0, i, j, h1, h2, h3, _, h5, h6 => by
    have : i = j := by omega
    subst this
    exact ⟨h5, h6, h3⟩
  | f + 1, i, j, h1, h2, h3, h4, h5, h6 => by
    rw [searchP]
    split
    · rename_i hij
      split
      · rename_i hp
        exact search_spec f i _ (by omega) (by omega) (by omega) h4 h5 (.inr hp)
      · rename_i hp
        refine search_spec f _ j (by omega) (by omega) h3 h4 (fun k hk => ?_) h6
        cases hk2 : p k
        · rfl
        · exact absurd (h4 k _ (by omega) (by omega) hk2) hp
    · rename_i hij
      have : i = j := by omega
      subst this
      exact ⟨h5, h6, h3⟩
/-- Whoever lies at the edge is the one that the halving gives. -/
theorem long_is {one : Bool} {r : Rul} {l : List Rec} (h : Right one l) {start : Int} (he : endOf l ≤ start) {n : Nat} (hn : n ≤ 200000) (h0 : breaksP r l start (-1) n = 0) (h1 : n = 200000 ∨ breaksP r l start (-1) ((n : Int) + 1) ≠ 0) :
    (searchP (fun m => breaksP r l start (-1) m != 0) 200001 0 200001 : Int) - 1 = n := by
  obtain ⟨s1, s2, s3⟩ := search_spec (p := fun m => breaksP r l start (-1) m != 0) (N := 200001) 200001 0 200001 (by omega) (by omega) (Nat.le_refl _) (fun a b hab hb hp => by
    simp only [bne_iff_ne] at hp ⊢
    exact breaks_mono h he (by omega) (by omega) (by omega) hp) (fun k hk => absurd hk (Nat.not_lt_zero k)) (.inl rfl)
  generalize searchP (fun m => breaksP r l start (-1) m != 0) 200001 0 200001 = R at *
  rcases Nat.lt_trichotomy R (n + 1) with hlt | heq | hgt
  · rcases s2 with h2 | h2
    · omega
    · simp only [bne_iff_ne] at h2
      exact absurd h0 (breaks_mono h he (by omega) (by omega) (by omega) h2)
  · omega
  · rcases h1 with h1 | h1
    · omega
    · have := s1 (n + 1) hgt
      simp only [bne_eq_false_iff_eq] at this
      have e : ((n + 1 : Nat) : Int) = (n : Int) + 1 := by omega
      rw [e] at this
      exact absurd this h1
end Go.Proofs.Ytmfmpagfjgpodaa
