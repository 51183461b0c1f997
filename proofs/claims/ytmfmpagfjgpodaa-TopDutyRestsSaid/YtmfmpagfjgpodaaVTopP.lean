/- The plain law of a driver who takes just those trips that are surely allowed; no condition. -/
import Derived.Test.YtmfmpagfjgpodaaVRest
namespace Go.Proofs.Ytmfmpagfjgpodaa
open Go.RowKit
set_option maxRecDepth 100000
theorem tripErr_none {r : Rul} {l : List Rec} {start lo hi : Int} (h1 : bothErr r l = 0) (h2 : l.length < 40) (h3 : 0 ≤ start ∧ start ≤ 8640000000) (h4 : 0 ≤ lo ∧ lo ≤ hi ∧ hi ≤ 200000) (h8 : endOf l ≤ start) (h9 : (firstBroken r l).2 = 0) : tripErrP r l ⟨start, lo, hi, -1⟩ = 0 := by
  have e1 : isTime start = true := inR_iff.2 h3
  have e2 : isTake lo = true := inR_iff.2 ⟨h4.1, by omega⟩
  have e4 : isTake hi = true := inR_iff.2 ⟨by omega, h4.2.2⟩
  have e3 : (l.length : Int) < 40 := by omega
  have e5 : lo ≤ hi := h4.2.1
  unfold tripErrP tripE
  simp [fst, unl, h1, e1, e2, e3, e4, e5, h8, h9]
def annS : ByteArray := ⟨#[97, 110, 110]⟩
/-- The records of one who takes what is allowed. -/
structure Day (r : Rul) (l : List Rec) (at_ : Int) : Prop where
  both : bothErr r l = 0
  who : whoP l = annS
  fb : (firstBroken r l).2 = 0
  end_ : endOf l = at_
  pos : 0 ≤ at_
theorem endOf_app (l : List Rec) (x : Rec) : endOf (l ++ [x]) = x.hi := by
  unfold endOf
  rw [if_neg (by simp), show (l ++ [x]).length - 1 = l.length by simp, rat_app_last]
theorem day_nil {r : Rul} (h : rulesErr r = 0) : Day r [] 0 := by
  refine ⟨?_, rfl, rfl, rfl, Int.le_refl _⟩
  unfold bothErr
  rw [h]
  rfl
theorem who_app (l : List Rec) (x : Rec) (h : x.driver = whoP l) : whoP (l ++ [x]) = whoP l := by
  rcases Nat.eq_zero_or_pos l.length with h0 | h0
  · have : l = [] := List.length_eq_zero_iff.1 h0
    subst this
    rw [← h]
    rfl
  · unfold whoP
    rw [if_neg (by simp), if_neg (by omega), rat_app h0]
/-- One trip more. -/
theorem day_trip {r : Rul} {l : List Rec} {at_ after lo hi len : Int} (h : Day r l at_) (hl : l.length < 40) (ha : 0 ≤ after) (hb : at_ + after + 200000 ≤ 8640000000) (h1 : 1 ≤ lo) (h2 : lo ≤ len) (h3 : len ≤ hi) (h4 : hi ≤ 200000) :
    tripErrP r l ⟨at_ + after, lo, hi, -1⟩ = 0 ∧ bothErr r (l ++ [⟨annS, at_ + after, at_ + after + len⟩]) = 0 ∧
      ((firstBroken r (l ++ [⟨annS, at_ + after, at_ + after + len⟩])).2 = 0 ↔ breaksP r l (at_ + after) (-1) len = 0) ∧
      (breaksP r l (at_ + after) (-1) hi = 0 → breaksP r l (at_ + after) (-1) len = 0) ∧ (breaksP r l (at_ + after) (-1) lo ≠ 0 → breaksP r l (at_ + after) (-1) len ≠ 0) ∧
      (breaksP r l (at_ + after) (-1) hi = 0 → Day r (l ++ [⟨annS, at_ + after, at_ + after + len⟩]) (at_ + after + len)) := by
  have ht : tripErrP r l ⟨at_ + after, lo, hi, -1⟩ = 0 := tripErr_none h.both hl ⟨by have := h.pos; omega, by omega⟩ ⟨by omega, by omega, h4⟩ (by rw [h.end_]; omega) h.fb
  obtain ⟨f1, f2, f3, f4, f5, f6⟩ := rest_facts (L := len) ht (by omega) ⟨h2, h3⟩ (by show at_ + after + len ≤ _; omega)
  simp only [h.who] at f1 f2 f3
  simp only at f4 f5
  refine ⟨ht, f2, ?_, f4, f5, fun hh => ?_⟩
  · constructor
    · exact fun hh => f3.1 ⟨hh, .inl trivial⟩
    · exact fun hh => (f3.2 hh).1
  · exact ⟨f2, (who_app l _ h.who.symm).trans h.who, (f3.2 (f4 hh)).1, endOf_app _ _, by have := h.pos; omega⟩
end Go.Proofs.Ytmfmpagfjgpodaa
