/- Texts in one: Chapter 4: which states are right; no condition. -/
import Derived.Test.YtoibondihdhnoaaGreatDoorFRA21
namespace Go.Proofs.YtoibondihdhnoaaGreatDoor
open Go.RowKit
def inL (c : ByteArray) (l : List ByteArray) : Bool := decide (0 < cnt c l)
theorem inL_iff {c : ByteArray} {l : List ByteArray} : inL c l = true ↔ c ∈ l := by
 unfold inL
 rw [decide_eq_true_eq, cnt_pos]
def carE (c : ByteArray) (seen : List ByteArray) : Int := fst [unl (isName c) 4, unl (!inL c seen) 5]
def allE (E : Nat → Int) (n : Nat) : Int := fst ((List.range n).map E)
def nameE (seen l : List ByteArray) (j : Nat) : Int := carE (tat l j) (seen ++ l.take j)
def queueE (r : Ru) (s : St) (k : Nat) : Int := if ((qat s.q k).length : Int) > (rat r.ranks k).places then 8 else allE (nameE (s.q.take k).flatten (qat s.q k)) (qat s.q k).length
def takeE (r : Ru) (s : St) (k : Nat) : Int :=
 fst [carE (tkat s.tk k).car (s.q.flatten ++ (s.tk.take k).map (·.car)), unl (inR (tkat s.tk k).rank 0 ((r.ranks.length : Int) - 1)) 6, unl (inR (tkat s.tk k).time 0 s.time) 2, unl (decide (k = 0) || decide ((tkat s.tk (k - 1)).time ≤ (tkat s.tk k).time)) 9]
def checkS (r : Ru) (s : St) : Int :=
 fst [unl (decide (s.q.length = r.ranks.length)) 10, allE (queueE r s) s.q.length, unl (decide ((s.tk.length : Int) ≤ 40)) 8, allE (takeE r s) s.tk.length, unl (inR s.time 0 604800) 2, unl (decide (nextR r s < 0)) 22]
theorem unl_iff {c : Bool} {e : Int} (he : e ≠ 0) : unl c e = 0 ↔ c = true := ⟨unl_zero he, fun h => by rw [h]; rfl⟩
theorem allE_iff {E : Nat → Int} {n : Nat} : allE E n = 0 ↔ ∀ k, k < n → E k = 0 := by
 have h : ∀ l : List Int, fst l = 0 ↔ ∀ x ∈ l, x = 0 := fun l => by
  induction l with
  | nil => simp [fst]
  | cons x l ih => rw [fst_cons, ih]; simp
 unfold allE
 rw [h]
 simp
theorem carE_iff {c : ByteArray} {seen : List ByteArray} : carE c seen = 0 ↔ isName c = true ∧ c ∉ seen := by
 unfold carE
 rw [fst_cons, fst_cons, unl_iff (by decide), unl_iff (by decide), Bool.not_eq_true', ← Bool.not_eq_true, inL_iff]
 simp [fst]
theorem takeS_at {α : Type} {l : List α} {k : Nat} (h : k < l.length) : l.take (k + 1) = l.take k ++ [l[k]] := by simp
theorem flat_take {q : List (List ByteArray)} {k : Nat} (h : k < q.length) : (q.take (k + 1)).flatten = (q.take k).flatten ++ qat q k := by
 rw [takeS_at h, List.flatten_append, qat_get h]
 simp
end Go.Proofs.YtoibondihdhnoaaGreatDoor
namespace Go.Proofs.YtoibondihdhnoaaGreatDoor
open Go.RowKit
def aheadN (r : Ru) (i : Nat) : Bool := anyP (fun k => decide ((rat r.ranks k).name = (rat r.ranks i).name)) 0 i
def aheadF (r : Ru) (i : Nat) : Bool := anyP (fun k => decide ((rat r.ranks k).feeder = (rat r.ranks i).feeder)) 0 i
def feedsB (r : Ru) (i : Nat) : Bool := !decide ((rat r.ranks i).feeder = -1)
def rkE (r : Ru) (i : Nat) : Int :=
 fst [unl (isName (rat r.ranks i).name) 4, unl (!aheadN r i) 5, unl (inR (rat r.ranks i).places 1 12) 2, unl (!feedsB r i || inR (rat r.ranks i).feeder 0 ((r.ranks.length : Int) - 1)) 6,
  unl (!feedsB r i || decide ((i : Int) < (rat r.ranks i).feeder)) 9, unl (!feedsB r i || !aheadF r i) 26, unl (feedsB r i || !(rat r.ranks i).called) 3]
def endE (r : Ru) : Int := unl ((decide (r.back = -1) || inR r.back 0 12) && inR r.ret 0 3600) 2
def checkR (r : Ru) : Nat × Int :=
 if r.ranks.length = 0 then (0, 10) else if 6 < r.ranks.length then (0, 8) else if (firstErr (rkE r) 0 r.ranks.length).2 ≠ 0 then firstErr (rkE r) 0 r.ranks.length else (0, endE r)
theorem firstErr_zero {E : Nat → Int} : ∀ (n k : Nat), (firstErr E k n).2 = 0 ↔ ∀ j, k ≤ j → j < k + n → E j = 0
 | 0, k => ⟨fun _ j h1 h2 => by omega, fun _ => rfl⟩
 | n + 1, k => by
  rw [firstErr]
  by_cases h : E k = 0
  ·rw [if_neg (by simp [h]), firstErr_zero n (k + 1)]
   constructor
   ·intro hh j h1 h2
    by_cases he : j = k
    ·rw [he]
     exact h
    ·exact hh j (by omega) (by omega)
   ·exact fun hh j h1 h2 => hh j (by omega) (by omega)
  ·rw [if_pos h]
   exact ⟨fun hh => absurd hh h, fun hh => absurd (hh k (Nat.le_refl k) (by omega)) h⟩
theorem checkR_ok {r : Ru} (h : (checkR r).2 = 0) : RuOK r ∧ (∀ k, k < r.ranks.length → isName (rat r.ranks k).name = true) ∧ ∀ k, k < r.ranks.length → (rat r.ranks k).feeder ≠ -1 → ∀ j, j < k → (rat r.ranks j).feeder ≠ (rat r.ranks k).feeder := by
 unfold checkR at h
 split at h
 ·simp at h
 ·rename_i h0
  split at h
  ·simp at h
  ·rename_i h6
   split at h
   ·rename_i hne
    exact absurd h hne
   ·rename_i hz
    have hz : (firstErr (rkE r) 0 r.ranks.length).2 = 0 := Classical.byContradiction hz
    rw [firstErr_zero] at hz
    simp only at h
    unfold endE at h
    have he := unl_zero (by decide) h
    simp only [Bool.and_eq_true, Bool.or_eq_true, decide_eq_true_eq, inR_iff] at he
    have hk : ∀ k, k < r.ranks.length → isName (rat r.ranks k).name = true ∧ (1 ≤ (rat r.ranks k).places ∧ (rat r.ranks k).places ≤ 12) ∧ ((rat r.ranks k).feeder ≠ -1 → ((k : Int) < (rat r.ranks k).feeder ∧ (rat r.ranks k).feeder < r.ranks.length) ∧ aheadF r k = false) := fun k hk => by
     have := hz k (Nat.zero_le k) (by omega)
     unfold rkE at this
     rw [fst_cons, fst_cons, fst_cons, fst_cons, fst_cons, fst_cons] at this
     obtain ⟨a1, _, a3, a4, a5, a6, _⟩ := this
     replace a1 := unl_zero (by decide) a1
     replace a3 := unl_zero (by decide) a3
     replace a4 := unl_zero (by decide) a4
     replace a5 := unl_zero (by decide) a5
     replace a6 := unl_zero (by decide) a6
     rw [inR_iff] at a3
     refine ⟨a1, a3, fun hf => ?_⟩
     have hfb : feedsB r k = true := by simp [feedsB, hf]
     rw [hfb] at a4 a5 a6
     simp only [Bool.not_true, Bool.false_or, inR_iff, decide_eq_true_eq, Bool.not_eq_true'] at a4 a5 a6
     exact ⟨⟨a5, by omega⟩, a6⟩
    refine ⟨⟨by omega, by omega, fun k h => (hk k h).2.1, fun k h hf => ((hk k h).2.2 hf).1, he.1, he.2⟩, fun k h => (hk k h).1, fun k h hf j hj heq => ?_⟩
    have := ((hk k h).2.2 hf).2
    unfold aheadF anyP at this
    rw [List.any_eq_false] at this
    have := this j (List.mem_range.2 hj)
    simp [heq] at this
end Go.Proofs.YtoibondihdhnoaaGreatDoor
