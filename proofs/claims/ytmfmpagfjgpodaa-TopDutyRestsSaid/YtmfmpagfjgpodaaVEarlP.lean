/- The plain law of the earliest trip: from each of three times on all but the week's work is best as early as may be; no condition. -/
import Derived.Test.YtmfmpagfjgpodaaVRestP
namespace Go.Proofs.Ytmfmpagfjgpodaa
open Go.RowKit
theorem wk_anti {f f' t t' : Int} {x : Rec} (h1 : x.hi ≤ t) (h2 : x.hi ≤ t') (hf : f ≤ f') : wk f' t' x ≤ wk f t x := by
  unfold wk
  rw [Int.min_eq_left h1, Int.min_eq_left h2]
  simp only [Int.max_def]
  repeat' split
  all_goals omega
theorem sum_map_le {α : Type} {f g : α → Int} : ∀ {l : List α}, (∀ x ∈ l, f x ≤ g x) → (l.map f).sum ≤ (l.map g).sum
  | [], _ => by simp
  | x :: l, h => by
    rw [List.map_cons, List.map_cons, List.sum_cons, List.sum_cons]
    have := h x (List.mem_cons_self ..)
    have := sum_map_le (l := l) fun y hy => h y (List.mem_cons_of_mem _ hy)
    omega
theorem work_anti {one : Bool} {l : List Rec} (h : Right one l) {f f' t t' : Int} (h1 : endOf l ≤ t) (h2 : endOf l ≤ t') (hf : f ≤ f') : workIn l f' t' ≤ workIn l f t := by
  unfold workIn
  refine sum_map_le fun x hx => ?_
  obtain ⟨k, hk, rfl⟩ := List.getElem_of_mem hx
  have := endOf_ge h hk
  exact wk_anti (by omega) (by omega) hf
/-- The same part of the records. -/
def SameZ (l : List Rec) (gap s s' : Int) : Prop := l.length = 0 ∨ (s - endOf l < gap ↔ s' - endOf l < gap)
theorem rat_trip_end {l : List Rec} (start m : Int) {k : Nat} (hk : k + 1 = l.length) : (rat (withTrip l start m) k).hi = endOf l := by
  rw [rat_trip l start m (show k < l.length by omega)]
  unfold endOf
  rw [if_neg (by omega), rat_get (show l.length - 1 < l.length by omega)]
  have : k = l.length - 1 := by omega
  subst this
  rfl
theorem first_start (l : List Rec) (s s' m gap : Int) : ∀ k, k < l.length → firstIdx (withTrip l s m) gap k = firstIdx (withTrip l s' m) gap k
  | 0, _ => rfl
  | k + 1, hk => by
    rw [firstIdx, firstIdx, rat_trip l s m hk, rat_trip l s' m hk, rat_trip l s m (show k < l.length by omega), rat_trip l s' m (show k < l.length by omega), first_start l s s' m gap k (by omega)]
theorem first_zone {l : List Rec} {s s' m gap : Int} (hz : SameZ l gap s s') : firstIdx (withTrip l s m) gap l.length = firstIdx (withTrip l s' m) gap l.length := by
  rcases Nat.eq_zero_or_pos l.length with h0 | h0
  · rw [h0]; rfl
  · obtain ⟨k, hk⟩ : ∃ k, l.length = k + 1 := ⟨l.length - 1, by omega⟩
    have e1 : (rat (withTrip l s m) (k + 1)).lo = s := by rw [← hk, rat_trip_last]
    have e2 : (rat (withTrip l s' m) (k + 1)).lo = s' := by rw [← hk, rat_trip_last]
    have hz' := hz.resolve_left (by omega)
    rw [hk, firstIdx, firstIdx, e1, e2, rat_trip_end s m hk.symm, rat_trip_end s' m hk.symm, first_start l s s' m gap k (by omega)]
    by_cases hc : s - endOf l < gap
    · rw [if_pos hc, if_pos (hz'.1 hc)]
    · rw [if_neg hc, if_neg (fun h => hc (hz'.2 h))]
/-- There is work enough left in the week. -/
def weekOK (r : Rul) (l : List Rec) (m s : Int) : Prop := m = 0 ∨ workIn l (s + m - 604800) (s + m) + m ≤ r.week
theorem weekOK_mono {one : Bool} {r : Rul} {l : List Rec} (h : Right one l) {m s s' : Int} (he : endOf l ≤ s) (hs : s ≤ s') (hm : 0 ≤ m) (hw : weekOK r l m s) : weekOK r l m s' := by
  rcases hw with hw | hw
  · exact .inl hw
  · have := work_anti h (f := s + m - 604800) (f' := s' + m - 604800) (t := s + m) (t' := s' + m) (by omega) (by omega) (by omega)
    exact .inr (by omega)
theorem trip_week {l : List Rec} {s m : Int} (hm : 0 < m) (hm2 : m ≤ 200000) : workIn (withTrip l s m) (s + m - 604800) (s + m) = workIn l (s + m - 604800) (s + m) + m := by
  unfold withTrip
  rw [workIn_app]
  have : wk (s + m - 604800) (s + m) ⟨ByteArray.empty, s, s + m⟩ = m := by
    unfold wk
    simp only [Int.max_def, Int.min_def]
    repeat' split
    all_goals omega
  rw [this]
theorem broken_zero {one : Bool} {r : Rul} {l : List Rec} (h : Right one l) {s m : Int} (he : endOf l ≤ s) (hm : 0 < m) (hm2 : m ≤ 200000) : brokenP r (withTrip l s m) = 0 ↔
    (segSum l (firstIdx (withTrip l s m) r.brk l.length) l.length + m ≤ r.stint ∧ s + m - (rat (withTrip l s m) (firstIdx (withTrip l s m) r.rest l.length)).lo ≤ r.shift ∧ workIn l (s + m - 604800) (s + m) + m ≤ r.week) := by
  have e1 : brokenRef r (withTrip l s m) l.length = _ := broken_trip h r ByteArray.empty he (by omega : (0 : Int) ≤ m)
  have t1 : (withTrip l s m).take (l.length + 1) = withTrip l s m := List.take_of_length_le (by simp [withTrip])
  have f1 := firstIdx_le (withTrip l s m) r.brk l.length
  rw [← e1]
  unfold brokenRef
  rw [t1, rat_trip_last, seg_trip l s m f1]
  simp only
  rw [trip_week hm hm2]
  constructor
  · intro hb
    split at hb
    · omega
    · split at hb
      · omega
      · split at hb
        · omega
        · exact ⟨by omega, by omega, by omega⟩
  · rintro ⟨h1, h2, h3⟩
    rw [if_neg (by omega), if_neg (by omega), if_neg (by omega)]
theorem broken_early {one : Bool} {r : Rul} {l : List Rec} (h : Right one l) {s s' m : Int} (he : endOf l ≤ s) (hs : s ≤ s') (hm : 0 < m) (hm2 : m ≤ 200000) (z1 : SameZ l r.brk s s') (z2 : SameZ l r.rest s s') (hw : weekOK r l m s) (hb : brokenP r (withTrip l s' m) = 0) : brokenP r (withTrip l s m) = 0 := by
  obtain ⟨b1, b2, b3⟩ := (broken_zero h (show endOf l ≤ s' by omega) hm hm2).1 hb
  refine (broken_zero h he hm hm2).2 ⟨?_, ?_, ?_⟩
  · rw [first_zone z1]
    exact b1
  · rw [first_zone z2]
    have f2 := firstIdx_le (withTrip l s' m) r.rest l.length
    rcases Nat.lt_or_ge (firstIdx (withTrip l s' m) r.rest l.length) l.length with hf | hf
    · rw [rat_trip l s m hf]
      rw [rat_trip l s' m hf] at b2
      omega
    · have e : firstIdx (withTrip l s' m) r.rest l.length = l.length := by omega
      rw [e, rat_trip_last]
      rw [e, rat_trip_last] at b2
      simp only at b2 ⊢
      omega
  · rcases hw with hw | hw
    · omega
    · exact hw
theorem breaks_nil {r : Rul} {l : List Rec} {s next : Int} : (breaksP r l s next 0 = 0) ↔ (next = -1 ∨ r.rest ≤ next - s) := by
  unfold breaksP
  rw [if_neg (by omega)]
  split
  · rename_i h
    constructor
    · intro h'; omega
    · rintro (h' | h')
      · exact absurd h' h.1
      · omega
  · rename_i h
    refine ⟨fun _ => ?_, fun _ => rfl⟩
    by_cases hn : next = -1
    · exact .inl hn
    · exact .inr (by have : ¬ next - (s + 0) < r.rest := fun h' => h ⟨hn, h'⟩; omega)
theorem breaks_early {one : Bool} {r : Rul} {l : List Rec} (h : Right one l) {s s' m next : Int} (he : endOf l ≤ s) (hs : s ≤ s') (hm : 0 ≤ m) (hm2 : m ≤ 200000) (z1 : SameZ l r.brk s s') (z2 : SameZ l r.rest s s') (hw : weekOK r l m s) (hb : breaksP r l s' next m = 0) : breaksP r l s next m = 0 := by
  by_cases h0 : m = 0
  · subst h0
    rw [breaks_nil] at hb ⊢
    omega
  · rw [breaks_pos (by omega)] at hb ⊢
    refine ⟨broken_early h he hs (by omega) hm2 z1 z2 hw hb.1, ?_⟩
    have := hb.2
    omega
theorem breaks_week {one : Bool} {r : Rul} {l : List Rec} (h : Right one l) {s m next : Int} (he : endOf l ≤ s) (hm : 0 ≤ m) (hm2 : m ≤ 200000) (hb : breaksP r l s next m = 0) : weekOK r l m s := by
  by_cases h0 : m = 0
  · exact .inl h0
  · rw [breaks_pos (by omega)] at hb
    exact .inr ((broken_zero h he (by omega) hm2).1 hb.1).2.2
/-- v is the earliest time from which the trip breaks no rule; -1: there is none. -/
def IsEarl (r : Rul) (l : List Rec) (start stop next m v : Int) : Prop :=
  (v = -1 ∧ ∀ s, start ≤ s → s ≤ stop → breaksP r l s next m ≠ 0) ∨ (start ≤ v ∧ v ≤ stop ∧ breaksP r l v next m = 0 ∧ ∀ s, start ≤ s → s < v → breaksP r l s next m ≠ 0)
theorem IsEarl.one {r : Rul} {l : List Rec} {start stop next m v v' : Int} (h : IsEarl r l start stop next m v) (h' : IsEarl r l start stop next m v') : v = v' := by
  rcases h with ⟨h1, h2⟩ | ⟨h1, h2, h3, h4⟩
  · rcases h' with ⟨g1, g2⟩ | ⟨g1, g2, g3, g4⟩
    · omega
    · exact absurd g3 (h2 _ g1 g2)
  · rcases h' with ⟨g1, g2⟩ | ⟨g1, g2, g3, g4⟩
    · exact absurd h3 (g2 _ h1 h2)
    · rcases Int.lt_trichotomy v v' with hlt | heq | hgt
      · exact absurd h3 (g4 _ h1 hlt)
      · exact heq
      · exact absurd g3 (h4 _ g1 hgt)
theorem least_nat {p : Nat → Prop} : ∀ n, p n → ∃ m, p m ∧ ∀ k, k < m → ¬ p k := fun n => by
  induction n using Nat.strongRecOn with
  | ind n ih =>
    intro hp
    by_cases h : ∃ k, k < n ∧ p k
    · obtain ⟨k, hk, hpk⟩ := h
      exact ih k hk hpk
    · exact ⟨n, hp, fun k hk hpk => h ⟨k, hk, hpk⟩⟩
theorem earl_ex (r : Rul) (l : List Rec) (start stop next m : Int) : ∃ v, IsEarl r l start stop next m v := by
  by_cases h : ∃ s, start ≤ s ∧ s ≤ stop ∧ breaksP r l s next m = 0
  · obtain ⟨s, h1, h2, h3⟩ := h
    obtain ⟨n, ⟨n1, n2⟩, n3⟩ := least_nat (p := fun n => start + n ≤ stop ∧ breaksP r l (start + n) next m = 0) (s - start).toNat ⟨by omega, by rw [show start + ((s - start).toNat : Int) = s by omega]; exact h3⟩
    refine ⟨start + n, .inr ⟨by omega, n1, n2, fun s' g1 g2 g3 => ?_⟩⟩
    refine n3 (s' - start).toNat (by omega) ⟨by omega, ?_⟩
    rw [show start + ((s' - start).toNat : Int) = s' by omega]
    exact g3
  · exact ⟨-1, .inl ⟨rfl, fun s h1 h2 h3 => h ⟨s, h1, h2, h3⟩⟩⟩
/-- The three gaps. -/
def gapOf (r : Rul) (i : Nat) : Int := if i = 0 then 0 else if i = 1 then r.brk else r.rest
/-- In which of the three parts a time lies. -/
theorem zone_ex {r : Rul} (hr : 1 ≤ r.brk ∧ r.brk ≤ r.rest) {l : List Rec} (_hl : l.length ≠ 0) {s : Int} (he : endOf l ≤ s) : ∃ j, j < 3 ∧ endOf l + gapOf r j ≤ s ∧ (j + 1 < 3 → s < endOf l + gapOf r (j + 1)) ∧ ∀ s', endOf l + gapOf r j ≤ s' → s' ≤ s → SameZ l r.brk s' s ∧ SameZ l r.rest s' s := by
  by_cases h1 : s - endOf l < r.brk
  · exact ⟨0, by omega, by simp [gapOf]; omega, fun _ => by simp [gapOf]; omega, fun s' a b => by
      simp [gapOf] at a
      exact ⟨.inr (by omega), .inr (by omega)⟩⟩
  · by_cases h2 : s - endOf l < r.rest
    · exact ⟨1, by omega, by simp [gapOf]; omega, fun _ => by simp [gapOf]; omega, fun s' a b => by
        simp [gapOf] at a
        exact ⟨.inr (by omega), .inr (by omega)⟩⟩
    · exact ⟨2, by omega, by simp [gapOf]; omega, fun h => by omega, fun s' a b => by
        simp [gapOf] at a
        exact ⟨.inr (by omega), .inr (by omega)⟩⟩
theorem gap_mono {r : Rul} (hr : 1 ≤ r.brk ∧ r.brk ≤ r.rest) {i j : Nat} (h : i ≤ j) : gapOf r i ≤ gapOf r j := by
  unfold gapOf
  repeat' split
  all_goals omega
/-- The time that the library tries. -/
def tryAt (r : Rul) (l : List Rec) (W : Int) (i : Nat) : Int := if l.length = 0 then W else max W (endOf l + gapOf r i)
/-- W is the first time at which the week has room. -/
def IsWeek (r : Rul) (l : List Rec) (start m W : Int) : Prop := start ≤ W ∧ (∀ s, start ≤ s → s < W → ¬ weekOK r l m s) ∧ (W ≤ start + 10000000 → weekOK r l m W)
section
variable {one : Bool} {r : Rul} {l : List Rec} {start stop next m W : Int}
/-- Whatever breaks nothing from s on breaks nothing from a time on that the library tries, no later. -/
theorem try_hit (h : Right one l) (hr : 1 ≤ r.brk ∧ r.brk ≤ r.rest) (he : endOf l ≤ start) (hst : stop ≤ start + 10000000) (hm : 0 ≤ m ∧ m ≤ 200000) (hW : IsWeek r l start m W) {s : Int} (h1 : start ≤ s) (h2 : s ≤ stop) (hb : breaksP r l s next m = 0) :
    ∃ j, j < 3 ∧ tryAt r l W j ≤ s ∧ breaksP r l (tryAt r l W j) next m = 0 := by
  obtain ⟨w1, w2, w3⟩ := hW
  have hs := breaks_week h (by omega) hm.1 hm.2 hb
  have hWs : W ≤ s := by
    rcases Int.lt_or_le s W with hlt | hle
    · exact absurd hs (w2 s h1 hlt)
    · exact hle
  have hWk := w3 (by omega)
  by_cases hl : l.length = 0
  · refine ⟨0, by omega, by unfold tryAt; rw [if_pos hl]; exact hWs, ?_⟩
    unfold tryAt
    rw [if_pos hl]
    exact breaks_early h (by omega) hWs hm.1 hm.2 (.inl hl) (.inl hl) hWk hb
  · obtain ⟨j, j1, j2, j3, j4⟩ := zone_ex hr hl (show endOf l ≤ s by omega)
    have hle : tryAt r l W j ≤ s := by unfold tryAt; rw [if_neg hl]; exact Int.max_le.2 ⟨hWs, j2⟩
    have hge : W ≤ tryAt r l W j ∧ endOf l + gapOf r j ≤ tryAt r l W j := by unfold tryAt; rw [if_neg hl]; exact ⟨Int.le_max_left .., Int.le_max_right ..⟩
    obtain ⟨z1, z2⟩ := j4 _ hge.2 hle
    exact ⟨j, j1, hle, breaks_early h (by omega) hle hm.1 hm.2 z1 z2 (weekOK_mono h (by omega) hge.1 hm.1 hWk) hb⟩
theorem try_mono (hr : 1 ≤ r.brk ∧ r.brk ≤ r.rest) {i j : Nat} (hij : i ≤ j) : tryAt r l W i ≤ tryAt r l W j := by
  have := gap_mono hr hij
  unfold tryAt
  split
  · exact Int.le_refl _
  · simp only [Int.max_def]
    repeat' split
    all_goals omega
theorem try_found (h : Right one l) (hr : 1 ≤ r.brk ∧ r.brk ≤ r.rest) (he : endOf l ≤ start) (hst : stop ≤ start + 10000000) (hm : 0 ≤ m ∧ m ≤ 200000) (hW : IsWeek r l start m W) {i : Nat} (hno : ∀ j, j < i → breaksP r l (tryAt r l W j) next m ≠ 0) (hle : tryAt r l W i ≤ stop) (hb : breaksP r l (tryAt r l W i) next m = 0) :
    IsEarl r l start stop next m (tryAt r l W i) := by
  have hge : start ≤ tryAt r l W i := by
    have := hW.1
    unfold tryAt
    split
    · exact this
    · exact Int.le_trans this (Int.le_max_left ..)
  refine .inr ⟨hge, hle, hb, fun s h1 h2 h3 => ?_⟩
  obtain ⟨j, j1, j2, j3⟩ := try_hit h hr he hst hm hW h1 (by omega) h3
  rcases Nat.lt_or_ge j i with hj | hj
  · exact hno j hj j3
  · have := try_mono (l := l) (W := W) hr hj
    omega
theorem try_none (h : Right one l) (hr : 1 ≤ r.brk ∧ r.brk ≤ r.rest) (he : endOf l ≤ start) (hst : stop ≤ start + 10000000) (hm : 0 ≤ m ∧ m ≤ 200000) (hW : IsWeek r l start m W) {i : Nat} (hno : ∀ j, j < i → breaksP r l (tryAt r l W j) next m ≠ 0) (hend : i = 3 ∨ stop < tryAt r l W i) :
    IsEarl r l start stop next m (-1) := by
  refine .inl ⟨rfl, fun s h1 h2 h3 => ?_⟩
  obtain ⟨j, j1, j2, j3⟩ := try_hit h hr he hst hm hW h1 h2 h3
  rcases Nat.lt_or_ge j i with hj | hj
  · exact hno j hj j3
  · rcases hend with rfl | hend
    · omega
    · have := try_mono (l := l) (W := W) hr hj
      omega
/-! ### The reference -/
/-- The times from which the reference looks on, and how many there are. -/
def begAt (r : Rul) (l : List Rec) (start : Int) (i : Nat) : Int := if i = 0 then start else max start (endOf l + gapOf r i)
def begN (l : List Rec) : Nat := if l.length = 0 then 1 else 3
/-- The work of the week. -/
def weekly (l : List Rec) (s m : Int) : Int := m + workIn l (s + m - 604800) s
theorem weekly_is (h : Right one l) (hb : (firstBroken r l).2 = 0) (hw : 0 ≤ r.week) {s : Int} (he : endOf l ≤ s) (hm : 0 ≤ m) : weekly l s m ≤ r.week ↔ weekOK r l m s := by
  unfold weekly weekOK
  have e := work_far h (f := s + m - 604800) (t := s) (t' := s + m) he (by omega)
  by_cases h0 : m = 0
  · refine ⟨fun _ => .inl h0, fun _ => ?_⟩
    subst h0
    rcases Nat.eq_zero_or_pos l.length with hl | hl
    · have : l = [] := List.length_eq_zero_iff.1 hl
      subst this
      simpa [workIn] using hw
    · rw [firstBroken_is h] at hb
      have hk : l.length - 1 < l.length := by omega
      have := firstErr_zero _ _ hb (l.length - 1) (Nat.zero_le _) (by omega)
      unfold brokenRef at this
      rw [rat_get hk, show l.length - 1 + 1 = l.length by omega, List.take_length] at this
      have hE : endOf l = l[l.length - 1].hi := by unfold endOf; rw [if_neg (by omega), rat_get hk]
      split at this
      · omega
      · split at this
        · omega
        · split at this
          · omega
          · rename_i _ _ hw3
            have := work_anti h (f := l[l.length - 1].hi - 604800) (f' := s + 0 - 604800) (t := l[l.length - 1].hi) (t' := s) (by omega) he (by omega)
            omega
  · omega
/-- lo is what the halving from number i's time on ends at. -/
def IsLo (r : Rul) (l : List Rec) (start stop m : Int) (i : Nat) (lo : Int) : Prop :=
  begAt r l start i ≤ lo ∧ lo ≤ stop ∧ (∀ s, begAt r l start i ≤ s → s < lo → ¬ weekly l s m ≤ r.week) ∧ (lo = stop ∨ weekly l lo m ≤ r.week)
/-- Number j was passed by. -/
def Passed (r : Rul) (l : List Rec) (start stop next m : Int) (j : Nat) : Prop :=
  stop < begAt r l start j ∨ ∃ lo, IsLo r l start stop m j lo ∧ ((j + 1 < begN l ∧ begAt r l start (j + 1) ≤ lo ∧ begAt r l start j < begAt r l start (j + 1)) ∨ breaksP r l lo next m ≠ 0)
theorem beg_le (_he : endOf l ≤ start) {s : Int} {j : Nat} (h1 : start ≤ s) (h2 : endOf l + gapOf r j ≤ s) : begAt r l start j ≤ s := by
  unfold begAt
  split
  · exact h1
  · exact Int.max_le.2 ⟨h1, h2⟩
theorem beg_mono (hr : 1 ≤ r.brk ∧ r.brk ≤ r.rest) {i j : Nat} (hij : i ≤ j) : begAt r l start i ≤ begAt r l start j := by
  have := gap_mono hr hij
  unfold begAt
  simp only [Int.max_def]
  repeat' split
  all_goals omega
theorem pass_no (h : Right one l) (hfb : (firstBroken r l).2 = 0) (hr : 1 ≤ r.brk ∧ r.brk ≤ r.rest) (hw : 0 ≤ r.week) (he : endOf l ≤ start) (hm : 0 ≤ m ∧ m ≤ 200000) {s : Int} (h1 : start ≤ s) (h2 : s ≤ stop) (hb : breaksP r l s next m = 0) :
    ∃ j, j < begN l ∧ begAt r l start j ≤ s ∧ ¬ Passed r l start stop next m j := by
  have hs := breaks_week h (by omega) hm.1 hm.2 hb
  have hs' := (weekly_is h hfb hw (show endOf l ≤ s by omega) hm.1).2 hs
  by_cases hl : l.length = 0
  · refine ⟨0, by unfold begN; rw [if_pos hl]; omega, h1, fun hp => ?_⟩
    rcases hp with hp | ⟨lo, ⟨l1, l2, l3, l4⟩, hp | hp⟩
    · unfold begAt at hp
      simp at hp
      omega
    · have : begN l = 1 := by unfold begN; rw [if_pos hl]
      omega
    · have hlo : lo ≤ s := by
        rcases Int.lt_or_le s lo with hlt | hle
        · exact absurd hs' (l3 s h1 hlt)
        · exact hle
      have l1' : start ≤ lo := l1
      have hwl : weekly l lo m ≤ r.week := by
        rcases l4 with l4 | l4
        · have : lo = s := by omega
          rw [this]; exact hs'
        · exact l4
      exact hp (breaks_early h (by omega) hlo hm.1 hm.2 (.inl hl) (.inl hl) ((weekly_is h hfb hw (by omega) hm.1).1 hwl) hb)
  · obtain ⟨j, j1, j2, j3, j4⟩ := zone_ex hr hl (show endOf l ≤ s by omega)
    have hN : begN l = 3 := by unfold begN; rw [if_neg hl]
    refine ⟨j, by omega, beg_le he h1 j2, fun hp => ?_⟩
    rcases hp with hp | ⟨lo, ⟨l1, l2, l3, l4⟩, hp⟩
    · have := beg_le (r := r) he h1 j2
      omega
    · have hlo : lo ≤ s := by
        rcases Int.lt_or_le s lo with hlt | hle
        · exact absurd hs' (l3 s (beg_le he h1 j2) hlt)
        · exact hle
      have hb0 : start ≤ begAt r l start j ∧ (j = 0 ∨ endOf l + gapOf r j ≤ begAt r l start j) := by
        unfold begAt
        split
        · exact ⟨Int.le_refl _, .inl ‹_›⟩
        · exact ⟨Int.le_max_left .., .inr (Int.le_max_right ..)⟩
      have hz : endOf l + gapOf r j ≤ lo := by
        rcases hb0.2 with hj | hj
        · subst hj
          simp [gapOf]
          omega
        · omega
      rcases hp with ⟨p1, p2, p3⟩ | hp
      · have := j3 (by omega)
        have hg : endOf l + gapOf r (j + 1) ≤ begAt r l start (j + 1) := by
          unfold begAt
          rw [if_neg (by omega)]
          exact Int.le_max_right ..
        omega
      · have hwl : weekly l lo m ≤ r.week := by
          rcases l4 with l4 | l4
          · have : lo = s := by omega
            rw [this]; exact hs'
          · exact l4
        obtain ⟨z1, z2⟩ := j4 _ hz hlo
        exact hp (breaks_early h (by omega) hlo hm.1 hm.2 z1 z2 ((weekly_is h hfb hw (by omega) hm.1).1 hwl) hb)
theorem ref_found (h : Right one l) (hfb : (firstBroken r l).2 = 0) (hr : 1 ≤ r.brk ∧ r.brk ≤ r.rest) (hw : 0 ≤ r.week) (he : endOf l ≤ start) (hm : 0 ≤ m ∧ m ≤ 200000) {i : Nat} {lo : Int} (hno : ∀ j, j < i → Passed r l start stop next m j) (hlo : IsLo r l start stop m i lo) (hb : breaksP r l lo next m = 0) :
    IsEarl r l start stop next m lo := by
  obtain ⟨l1, l2, l3, l4⟩ := hlo
  have hb0 : start ≤ begAt r l start i := by
    unfold begAt
    split
    · exact Int.le_refl _
    · exact Int.le_max_left ..
  refine .inr ⟨by omega, l2, hb, fun s h1 h2 h3 => ?_⟩
  obtain ⟨j, j1, j2, j3⟩ := pass_no h hfb hr hw he hm h1 (show s ≤ stop by omega) h3
  rcases Nat.lt_or_ge j i with hj | hj
  · exact j3 (hno j hj)
  · have := beg_mono (l := l) (start := start) hr hj
    have hs := breaks_week h (by omega) hm.1 hm.2 h3
    exact l3 s (by omega) h2 ((weekly_is h hfb hw (show endOf l ≤ s by omega) hm.1).2 hs)
theorem ref_none (h : Right one l) (hfb : (firstBroken r l).2 = 0) (hr : 1 ≤ r.brk ∧ r.brk ≤ r.rest) (hw : 0 ≤ r.week) (he : endOf l ≤ start) (hm : 0 ≤ m ∧ m ≤ 200000) (hno : ∀ j, j < begN l → Passed r l start stop next m j) : IsEarl r l start stop next m (-1) := by
  refine .inl ⟨rfl, fun s h1 h2 h3 => ?_⟩
  obtain ⟨j, j1, j2, j3⟩ := pass_no h hfb hr hw he hm h1 h2 h3
  exact j3 (hno j j1)
end
end Go.Proofs.Ytmfmpagfjgpodaa
