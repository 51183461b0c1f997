/- The plain law of trips: what the reference says of a trip is what the library says; no condition. -/
import Derived.Test.YtmfmpagfjgpodaaVBrokP
namespace Go.Proofs.Ytmfmpagfjgpodaa
open Go.RowKit
/-- The same times. -/
def SameT (l m : List Rec) : Prop := l.length = m.length ∧ ∀ k (h : k < l.length) (h' : k < m.length), l[k].lo = m[k].lo ∧ l[k].hi = m[k].hi
theorem SameT.rat {l m : List Rec} (h : SameT l m) (k : Nat) : (rat l k).lo = (rat m k).lo ∧ (rat l k).hi = (rat m k).hi := by
  rcases Nat.lt_or_ge k l.length with hk | hk
  · have hk' : k < m.length := by rw [← h.1]; exact hk
    rw [rat_get hk, rat_get hk']
    exact h.2 k hk hk'
  · have hk' : m.length ≤ k := by rw [← h.1]; exact hk
    have e1 : Go.Proofs.Ytmfmpagfjgpodaa.rat l k = default := by unfold Go.Proofs.Ytmfmpagfjgpodaa.rat; simp [List.getD, hk]
    have e2 : Go.Proofs.Ytmfmpagfjgpodaa.rat m k = default := by unfold Go.Proofs.Ytmfmpagfjgpodaa.rat; simp [List.getD, hk']
    rw [e1, e2]
    exact ⟨rfl, rfl⟩
theorem SameT.map {l m : List Rec} (h : SameT l m) {f : Rec → Int} (hf : ∀ x y : Rec, x.lo = y.lo → x.hi = y.hi → f x = f y) : l.map f = m.map f := by
  refine List.ext_getElem (by simp [h.1]) fun k h1 h2 => ?_
  simp only [List.getElem_map]
  have := h.2 k (by simpa using h1) (by simpa using h2)
  exact hf _ _ this.1 this.2
theorem firstIdx_same {l m : List Rec} (h : SameT l m) (gap : Int) : ∀ k, firstIdx l gap k = firstIdx m gap k
  | 0 => rfl
  | k + 1 => by
    rw [firstIdx, firstIdx, (h.rat (k + 1)).1, (h.rat k).2, firstIdx_same h gap k]
theorem brokenRef_same {l m : List Rec} (h : SameT l m) (r : Rul) (k : Nat) : brokenRef r l k = brokenRef r m k := by
  have hs : ∀ i j, segSum l i j = segSum m i j := fun i j => by
    unfold segSum
    rw [List.map_drop, List.map_take, h.map (fun x y h1 h2 => by rw [h1, h2]), List.map_drop, List.map_take]
  have hw : ∀ n f t, workIn (l.take n) f t = workIn (m.take n) f t := fun n f t => by
    unfold workIn
    rw [List.map_take, h.map (fun x y h1 h2 => by unfold wk; rw [h1, h2]), List.map_take]
  unfold brokenRef
  rw [hs, firstIdx_same h, firstIdx_same h, (h.rat k).2, (h.rat _).1, hw]
/-- One behind the other. -/
def Mono (l : List Rec) : Prop := ∀ i j (hi : i < l.length) (hj : j < l.length), i ≤ j → l[i].lo ≤ l[j].lo ∧ l[i].hi ≤ l[j].hi ∧ l[i].lo ≤ l[i].hi
theorem Right.mono' {one : Bool} {l : List Rec} (h : Right one l) : Mono l := fun i j hi hj hij => by
  have h1 := h.mono hj hij
  have h2 := h.time hi
  exact ⟨h1.1, h1.2, by omega⟩
theorem work_seg' {l : List Rec} (h : Mono l) {i k : Nat} (hi : i ≤ k) (hk : k < l.length) : workIn ((l.take (k + 1)).drop i) (l[i]'(by omega)).lo l[k].hi = segSum l i (k + 1) := by
  unfold workIn segSum
  refine sum_map_congr fun x hx => ?_
  obtain ⟨j, hj, rfl⟩ := List.getElem_of_mem hx
  rw [List.length_drop, List.length_take] at hj
  rw [List.getElem_drop, List.getElem_take]
  have h1 := h i (i + j) (by omega) (by omega) (by omega)
  have h2 := h (i + j) k (by omega) hk (by omega)
  unfold wk
  simp only [Int.max_def, Int.min_def]
  repeat' split
  all_goals omega
theorem broken_is' {r : Rul} {l : List Rec} (h : Mono l) {k : Nat} (hk : k < l.length) : brokenP r (l.take (k + 1)) = brokenRef r l k := by
  have hlen : (l.take (k + 1)).length = k + 1 := by rw [List.length_take]; omega
  have h1 := firstIdx_le l r.brk k
  have h2 := firstIdx_le l r.rest k
  unfold brokenP brokenRef
  rw [lastOf_take hk, lastOf_take hk, hlen, Nat.add_sub_cancel, rat_take (by omega), rat_take (by omega), rat_take (by omega), rat_get hk, rat_get (show firstIdx l r.brk k < l.length by omega), work_seg' h h1 hk]
theorem app_at {l : List Rec} {x : Rec} {k : Nat} (h : k < (l ++ [x]).length) : ((l ++ [x])[k]'h = x ∧ k = l.length) ∨ (∃ h' : k < l.length, (l ++ [x])[k]'h = l[k]) := by
  rcases Nat.lt_or_ge k l.length with hk | hk
  · exact .inr ⟨hk, List.getElem_append_left hk⟩
  · have : k = l.length := by simp at h; omega
    subst this
    exact .inl ⟨by simp, rfl⟩
theorem endOf_ge {one : Bool} {l : List Rec} (h : Right one l) {k : Nat} (hk : k < l.length) : l[k].hi ≤ endOf l := by
  unfold endOf
  rw [if_neg (by omega), rat_get (show l.length - 1 < l.length by omega)]
  exact (h.mono (i := k) (j := l.length - 1) (by omega) (by omega)).2
theorem mono_app {one : Bool} {l : List Rec} (h : Right one l) {x : Rec} (h1 : endOf l ≤ x.lo) (h2 : x.lo ≤ x.hi) : Mono (l ++ [x]) := fun i j hi hj hij => by
  rcases app_at hi with ⟨e1, k1⟩ | ⟨k1, e1⟩
  · rcases app_at hj with ⟨e2, k2⟩ | ⟨k2, e2⟩
    · rw [e1, e2]
      exact ⟨Int.le_refl _, Int.le_refl _, h2⟩
    · omega
  · have ht := h.time k1
    have he := endOf_ge h k1
    rcases app_at hj with ⟨e2, k2⟩ | ⟨k2, e2⟩
    · rw [e1, e2]
      exact ⟨by omega, by omega, by omega⟩
    · rw [e1, e2]
      have := h.mono k2 hij
      exact ⟨this.1, this.2, by omega⟩
/-- With a trip behind the records: the driver's name makes no difference. -/
theorem broken_trip {one : Bool} {l : List Rec} (h : Right one l) (r : Rul) (s : ByteArray) {start len : Int} (h1 : endOf l ≤ start) (h2 : 0 ≤ len) : brokenRef r (l ++ [⟨s, start, start + len⟩]) l.length = brokenP r (withTrip l start len) := by
  have hs : SameT (l ++ [⟨s, start, start + len⟩]) (withTrip l start len) := by
    unfold withTrip
    refine ⟨by simp, fun k h1 h2 => ?_⟩
    rcases app_at h1 with ⟨e1, k1⟩ | ⟨k1, e1⟩
    · rcases app_at h2 with ⟨e2, k2⟩ | ⟨k2, e2⟩
      · rw [e1, e2]; exact ⟨rfl, rfl⟩
      · omega
    · rcases app_at h2 with ⟨e2, k2⟩ | ⟨k2, e2⟩
      · omega
      · rw [e1, e2]; exact ⟨rfl, rfl⟩
  rw [brokenRef_same hs]
  have hm : Mono (withTrip l start len) := mono_app h (x := ⟨ByteArray.empty, start, start + len⟩) h1 (by show start ≤ start + len; omega)
  have := broken_is' (r := r) hm (k := l.length) (by simp [withTrip])
  rw [← this, List.take_of_length_le (by simp [withTrip])]
end Go.Proofs.Ytmfmpagfjgpodaa
