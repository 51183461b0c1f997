/- The plain law of rests: the records with a trip behind them; no condition. -/
import Derived.Test.YtmfmpagfjgpodaaVLongP
namespace Go.Proofs.Ytmfmpagfjgpodaa
open Go.RowKit
theorem breaks_mono' {one : Bool} {r : Rul} {l : List Rec} (h : Right one l) {start next m m' : Int} (he : endOf l ≤ start) (h0 : 0 ≤ m) (h1 : m ≤ m') (h2 : m' ≤ 200000) (hb : breaksP r l start next m ≠ 0) : breaksP r l start next m' ≠ 0 := by
  unfold breaksP at hb ⊢
  by_cases hm : 0 < m ∧ brokenP r (withTrip l start m) ≠ 0
  · have := broken_mono h he h0 h1 h2 hm.2
    rw [if_pos ⟨by omega, this⟩]
    exact this
  · rw [if_neg hm] at hb
    split
    · rename_i hm2
      exact hm2.2
    · split at hb
      · rename_i hn
        rw [if_pos ⟨hn.1, by omega⟩]
        omega
      · exact absurd rfl hb
theorem breaks_pos {r : Rul} {l : List Rec} {start next m : Int} (hm : 0 < m) : (breaksP r l start next m = 0) ↔ (brokenP r (withTrip l start m) = 0 ∧ (next = -1 ∨ r.rest ≤ next - (start + m))) := by
  unfold breaksP
  by_cases hb : brokenP r (withTrip l start m) = 0
  · rw [if_neg (by simp [hb])]
    split
    · rename_i h
      constructor
      · intro h'; omega
      · rintro ⟨_, h' | h'⟩
        · exact absurd h' h.1
        · omega
    · rename_i h
      refine ⟨fun _ => ⟨hb, ?_⟩, fun _ => rfl⟩
      by_cases hn : next = -1
      · exact .inl hn
      · exact .inr (by have : ¬ next - (start + m) < r.rest := fun h' => h ⟨hn, h'⟩; omega)
  · rw [if_pos ⟨hm, hb⟩]
    exact ⟨fun h => absurd h hb, fun h => absurd h.1 hb⟩
theorem rat_app {l : List Rec} {x : Rec} {k : Nat} (hk : k < l.length) : rat (l ++ [x]) k = rat l k := by
  rw [rat_get (show k < (l ++ [x]).length by simp; omega), rat_get hk]
  exact List.getElem_append_left hk
theorem rat_app_last {l : List Rec} {x : Rec} : rat (l ++ [x]) l.length = x := by
  rw [rat_get (by simp)]
  simp
theorem same_all {l : List Rec} (h : Right true l) : ∀ (k : Nat) (hk : k < l.length), l[k].driver = (l[0]'(by omega)).driver
  | 0, _ => rfl
  | k + 1, hk => by rw [h.same hk, same_all h k (by omega)]
theorem right_app {l : List Rec} {x : Rec} (h : Right true l) (hl : l.length < 40) (hn : isName x.driver = true) (hs : ∀ h0 : 0 < l.length, x.driver = l[0].driver) (h1 : endOf l ≤ x.lo) (h0 : 0 ≤ x.lo) (h2 : x.lo < x.hi) (h3 : x.hi ≤ 8640000000) : Right true (l ++ [x]) := by
  have hrec : recErr x = 0 := by
    unfold recErr spanErr
    rw [hn, show isTime x.lo = true from inR_iff.2 ⟨h0, by omega⟩, show isTime x.hi = true from inR_iff.2 ⟨by omega, h3⟩]
    simp [h2]
  unfold Right checkRecs checkL
  rw [if_neg (by simp; omega), firstErr_none _ _ fun j _ hj => ?_]
  simp at hj
  rcases Nat.lt_or_ge j l.length with hjl | hjl
  · have := h.err hjl
    unfold chkE at this ⊢
    rw [rat_app hjl]
    rcases Nat.eq_zero_or_pos j with hj0 | hj0
    · subst hj0
      exact this
    · rw [rat_app (show j - 1 < l.length by omega)]
      exact this
  · have : j = l.length := by omega
    subst this
    unfold chkE
    rw [rat_app_last, hrec, if_neg (by simp)]
    split
    · rfl
    · rename_i hne
      have hk : l.length - 1 < l.length := by omega
      rw [rat_app hk, rat_get hk]
      have hd : x.driver = l[l.length - 1].driver := by rw [hs (by omega), same_all h _ hk]
      have he : l[l.length - 1].hi ≤ endOf l := endOf_ge h hk
      rw [if_neg (by rw [show sameS x.driver l[l.length - 1].driver = true from sameS_iff.2 hd]; simp), if_neg (by omega)]
theorem first_app {r : Rul} {l : List Rec} {x : Rec} (h : Right true l) (h' : Right true (l ++ [x])) (h0 : (firstBroken r l).2 = 0) : (firstBroken r (l ++ [x])).2 = brokenRef r (l ++ [x]) l.length := by
  rw [firstBroken_is h'] 
  rw [firstBroken_is h] at h0
  have hz : ∀ j, 0 ≤ j → j < l.length → brokenRef r (l ++ [x]) j = 0 := fun j _ hj => by
    rw [← broken_is h' (by simp; omega), List.take_append_of_le_length (by omega), broken_is h hj]
    exact firstErr_zero _ _ h0 j (Nat.zero_le _) (by omega)
  have hlen : (l ++ [x]).length = l.length + 1 := by simp
  rw [hlen]
  by_cases hb : brokenRef r (l ++ [x]) l.length = 0
  · rw [firstErr_none _ _ fun j h1 h2 => ?_, hb]
    rcases Nat.lt_or_ge j l.length with hj | hj
    · exact hz j h1 hj
    · have : j = l.length := by omega
      rw [this]
      exact hb
  · rw [firstErr_hit hb _ _ (Nat.zero_le _) (by omega) hz]
end Go.Proofs.Ytmfmpagfjgpodaa
