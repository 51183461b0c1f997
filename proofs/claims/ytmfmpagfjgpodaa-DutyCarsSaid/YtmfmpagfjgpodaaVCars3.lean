/- Walks on plain values: when a car is looked at next; conditions as each says. -/
import Derived.Test.YtmfmpagfjgpodaaVCars2
namespace Go.Proofs.Ytmfmpagfjgpodaa
open Go.RowKit
set_option maxRecDepth 100000
/-- Where the first date behind a date stands; the length, if there is none. -/
def upF (p : Nat → Bool) : Nat → Nat → Nat
  | k, 0 => k
  | k, n + 1 => if p k then k else upF p (k + 1) n
theorem upF_ix {p : Nat → Bool} : ∀ (n k : Nat), (upF p k n < k + n ∧ ixP p k n = (upF p k n : Nat)) ∨ (upF p k n = k + n ∧ ixP p k n = -1)
  | 0, k => .inr ⟨rfl, rfl⟩
  | n + 1, k => by
    rw [upF, ixP]
    cases h : p k
    · rcases upF_ix (p := p) n (k + 1) with ⟨h1, h2⟩ | ⟨h1, h2⟩
      · exact .inl ⟨by simp; omega, by simpa using h2⟩
      · exact .inr ⟨by simp; omega, by simpa using h2⟩
    · exact .inl ⟨by simp, by simp⟩
theorem upF_spec {p : Nat → Bool} : ∀ (n k : Nat), k ≤ upF p k n ∧ upF p k n ≤ k + n ∧ (∀ j, k ≤ j → j < upF p k n → p j = false) ∧ (upF p k n < k + n → p (upF p k n) = true)
  | 0, k => ⟨Nat.le_refl _, Nat.le_refl _, fun j h1 h2 => by simp only [upF] at h2; omega, fun h => by simp only [upF] at h; omega⟩
  | n + 1, k => by
    rw [upF]
    cases h : p k
    · obtain ⟨h1, h2, h3, h4⟩ := upF_spec (p := p) n (k + 1)
      refine ⟨by simp; omega, by simp; omega, fun j hj1 hj2 => ?_, fun hlt => ?_⟩
      · by_cases hj : j = k
        · subst hj; exact h
        · exact h3 j (by omega) (by simpa using hj2)
      · simp only [Bool.false_eq_true, if_false] at hlt ⊢
        exact h4 (by omega)
    · exact ⟨by simp, by simp, fun j h1 h2 => by simp at h2; omega, fun _ => by simpa using h⟩
def upD (l : List Int) (date : Int) : Nat := upF (fun k => decide (date < iat l k)) 0 l.length
def nextE (l : List Int) (every date : Int) : Int := fst [(datesE l).2, unl (inR every 1 1000) 2, dateErr date]
def nextI (l : List Int) (every date : Int) : Int × Int :=
  if nextE l every date ≠ 0 then (0, nextE l every date)
  else if upD l date = 0 then (0, 12)
  else if date > iat l (upD l date - 1) + every then (0, 22)
  else (iat l (upD l date - 1) + every, 0)
theorem dates_zero {l : List Int} (h : (datesE l).2 = 0) : l.length ≤ 20 ∧ ∀ k, k < l.length → dchk l k = 0 := by
  unfold datesE checkL at h
  split at h
  · cases h
  · rename_i hlen
    exact ⟨by omega, fun k hk => firstErr_zero (E := dchk l) _ _ h k (Nat.zero_le _) (by omega)⟩
theorem dchk_zero {l : List Int} {k : Nat} (h : dchk l k = 0) : 0 ≤ iat l k ∧ iat l k ≤ 100000 ∧ (k = 0 ∨ iat l (k - 1) < iat l k) := by
  unfold dchk at h
  simp only [fst] at h
  split at h
  · rename_i h1
    exact absurd h h1
  · rename_i h1
    have h2 : dateErr (iat l k) = 0 := by simpa using h1
    have h3 : isDate (iat l k) = true := by
      unfold dateErr unl at h2
      split at h2
      · assumption
      · cases h2
    unfold isDate at h3
    rw [inR_iff] at h3
    refine ⟨h3.1, h3.2, ?_⟩
    split at h
    · rename_i h4
      exact absurd h h4
    · rename_i h4
      simp only [unl] at h4
      by_cases hk : k = 0
      · exact .inl hk
      · by_cases hl : iat l (k - 1) < iat l k
        · exact .inr hl
        · simp [hk, hl] at h4
theorem dates_sorted {l : List Int} (hz : ∀ k, k < l.length → dchk l k = 0) : ∀ {i j : Nat}, i < j → j < l.length → iat l i < iat l j
  | i, 0, h, _ => by omega
  | i, j + 1, h, hj => by
    have h1 := (dchk_zero (hz (j + 1) hj)).2.2
    rw [Nat.add_sub_cancel] at h1
    rcases h1 with h1 | h1
    · omega
    · by_cases he : i = j
      · subst he; exact h1
      · have := dates_sorted hz (i := i) (j := j) (by omega) (by omega)
        omega
theorem up_cases (l : List Int) (date : Int) : (upD l date < l.length ∧ ixP (fun k => decide (date < iat l k)) 0 l.length = (upD l date : Nat)) ∨ (upD l date = l.length ∧ ixP (fun k => decide (date < iat l k)) 0 l.length = -1) := by
  have h := upF_ix (p := fun k => decide (date < iat l k)) l.length 0
  rw [Nat.zero_add] at h
  exact h
theorem nextE_zero {l : List Int} {every date : Int} (h : nextE l every date = 0) : (datesE l).2 = 0 ∧ inR every 1 1000 = true ∧ dateErr date = 0 := by
  unfold nextE at h
  by_cases h1 : (datesE l).2 = 0
  · cases h2 : inR every 1 1000
    · simp [fst, h1, h2, unl] at h
    · by_cases h3 : dateErr date = 0
      · exact ⟨h1, rfl, h3⟩
      · simp [fst, h1, h2, h3, unl] at h
  · simp [fst, h1] at h
theorem v54 (l : List Int) (every date : Int) (hl : l.length ≤ 1000) : VC Try.prog 54 [intsA l, I every, I date] (.tup [I (nextI l every date).1, I (nextI l every date).2]) := by
  have h113 := v113 l date (by omega)
  have hup := up_cases l date
  have hz := dates_zero (l := l)
  have H111 := Lib.hid (v111 l hl)
  have hu1 : unl true 2 = 0 := rfl
  have hu2 : unl false 2 = 2 := rfl
  generalize hR0 : nextI l every date = R
  unfold nextI at hR0
  by_cases hE : nextE l every date = 0
  · rw [if_neg (by simpa using hE)] at hR0
    obtain ⟨e1, e2, e3⟩ := nextE_zero hE
    have hD := (hz e1).2
    have hlen := (hz e1).1
    have hev := inR_iff.1 e2
    have hb : ∀ m (hm : m < l.length), IntKind.i64.wrap (l[m] + every) = l[m] + every := fun m hm => by
      have := dchk_zero (hD m hm)
      rw [iat_get hm] at this
      exact wrap_eq (by omega) (by omega)
    clear hz hD hE hev
    generalize upD l date = U at hup hR0
    generalize datesE l = D at H111 e1
    generalize (ixP (fun k => decide (date < iat l k)) 0 l.length) = X at h113 hup
    have H113 := Lib.hid h113
    clear h113
    have HR := Lib.hid hR0
    have HB := Lib.hid hb
    clear hR0 hb
    rcases hup with ⟨hu, hx⟩ | ⟨hu, hx⟩
    · subst hx
      rcases U with _ | m
      · have e := HR.out
        rw [if_pos rfl] at e
        subst e
        refine VC_of Try.func54 rfl (by kernel_rfl) (by kernel_rfl) rfl fun M0 w0 => ?_
        simp only [Try.ntmps54, Try.results54, enumA]
        repeat (first | (with_reducible refine vseq ?_) | (with_reducible refine vthenN ?_) | (with_reducible refine vthenE ?_) | (with_reducible refine vthenR ?_) | (with_reducible refine vret ?_) | (with_reducible refine vskip ?_) | (with_reducible refine vexit ?_) | (with_reducible refine vblock ?_) | (with_reducible refine vblockN ?_) | (with_reducible refine vblockR ?_) | (with_reducible refine vblockH ?_) | (with_reducible refine vrun_nil ?_) | (with_reducible refine vblockE rfl ?_) | (with_reducible refine vregion [] ?_) | (with_reducible refine vhrun_nil ?_) | ((with_reducible refine vcondT ?_ ?_); (focus (go_simp; done))) | ((with_reducible refine vcondF ?_ ?_); (focus (go_simp; done))) | ((with_reducible refine vrun_cons fun KK hKK => ?_); go_simp; (first | (refine ⟨_, H111.out, ?_⟩) | (with_reducible refine ⟨_, v106 _ _ _, ?_⟩) | (with_reducible refine ⟨_, v100 _, ?_⟩) | (with_reducible refine ⟨_, v78 _ _, ?_⟩) | skip); refine hKK _ ?_; clear hKK KK) | ((with_reducible refine vhrun_cons fun KK hKK => ?_); go_simp; (first | (refine ⟨_, H111.out, ?_⟩) | (with_reducible refine ⟨_, v106 _ _ _, ?_⟩) | (with_reducible refine ⟨_, v100 _, ?_⟩) | (with_reducible refine ⟨_, v78 _ _, ?_⟩) | skip); refine hKK _ ?_; clear hKK KK))
        refine vdraw 8 [] (by kernel_rfl) (by kernel_rfl) ?_
        simp only [List.take, List.drop]
        repeat (first | (with_reducible refine vseq ?_) | (with_reducible refine vthenN ?_) | (with_reducible refine vthenE ?_) | (with_reducible refine vthenR ?_) | (with_reducible refine vret ?_) | (with_reducible refine vskip ?_) | (with_reducible refine vexit ?_) | (with_reducible refine vblock ?_) | (with_reducible refine vblockN ?_) | (with_reducible refine vblockR ?_) | (with_reducible refine vblockH ?_) | (with_reducible refine vrun_nil ?_) | (with_reducible refine vblockE rfl ?_) | (with_reducible refine vregion [] ?_) | (with_reducible refine vhrun_nil ?_) | ((with_reducible refine vcondT ?_ ?_); (focus (go_simp; done))) | ((with_reducible refine vcondF ?_ ?_); (focus (go_simp; done))) | ((with_reducible refine vrun_cons fun KK hKK => ?_); go_simp; (first | (refine ⟨_, H111.out, ?_⟩) | (with_reducible refine ⟨_, v106 _ _ _, ?_⟩) | (with_reducible refine ⟨_, v100 _, ?_⟩) | (with_reducible refine ⟨_, v78 _ _, ?_⟩) | (refine ⟨_, v75 [_, _, _] rfl, ?_⟩) | (refine ⟨_, H113.out, ?_⟩) | skip); refine hKK _ ?_; clear hKK KK) | ((with_reducible refine vhrun_cons fun KK hKK => ?_); go_simp; (first | (refine ⟨_, H111.out, ?_⟩) | (with_reducible refine ⟨_, v106 _ _ _, ?_⟩) | (with_reducible refine ⟨_, v100 _, ?_⟩) | (with_reducible refine ⟨_, v78 _ _, ?_⟩) | (refine ⟨_, v75 [_, _, _] rfl, ?_⟩) | (refine ⟨_, H113.out, ?_⟩) | skip); refine hKK _ ?_; clear hKK KK))
        go_simp
      · have hm : m < l.length := by omega
        have hw := HB.out m hm
        have hw3 := wrap_eq (x := (m : Int)) (by omega) (by omega)
        have hne : ¬ ((m : Int) + 1 = 0) := by omega
        have hnn : ¬ ((m : Int) + 1 < 0) := by omega
        have e := HR.out
        rw [if_neg (by omega), Nat.add_sub_cancel, iat_get hm] at e
        by_cases hgt : l[m] + every < date
        · rw [if_pos hgt] at e
          subst e
          refine VC_of Try.func54 rfl (by kernel_rfl) (by kernel_rfl) rfl fun M0 w0 => ?_
          simp only [Try.ntmps54, Try.results54, enumA]
          repeat (first | (with_reducible refine vseq ?_) | (with_reducible refine vthenN ?_) | (with_reducible refine vthenE ?_) | (with_reducible refine vthenR ?_) | (with_reducible refine vret ?_) | (with_reducible refine vskip ?_) | (with_reducible refine vexit ?_) | (with_reducible refine vblock ?_) | (with_reducible refine vblockN ?_) | (with_reducible refine vblockR ?_) | (with_reducible refine vblockH ?_) | (with_reducible refine vrun_nil ?_) | (with_reducible refine vblockE rfl ?_) | (with_reducible refine vregion [] ?_) | (with_reducible refine vhrun_nil ?_) | ((with_reducible refine vcondT ?_ ?_); (focus (go_simp; done))) | ((with_reducible refine vcondF ?_ ?_); (focus (go_simp; done))) | ((with_reducible refine vrun_cons fun KK hKK => ?_); go_simp; (first | (refine ⟨_, H111.out, ?_⟩) | (with_reducible refine ⟨_, v106 _ _ _, ?_⟩) | (with_reducible refine ⟨_, v100 _, ?_⟩) | (with_reducible refine ⟨_, v78 _ _, ?_⟩) | skip); refine hKK _ ?_; clear hKK KK) | ((with_reducible refine vhrun_cons fun KK hKK => ?_); go_simp; (first | (refine ⟨_, H111.out, ?_⟩) | (with_reducible refine ⟨_, v106 _ _ _, ?_⟩) | (with_reducible refine ⟨_, v100 _, ?_⟩) | (with_reducible refine ⟨_, v78 _ _, ?_⟩) | skip); refine hKK _ ?_; clear hKK KK))
          refine vdraw 8 [] (by kernel_rfl) (by kernel_rfl) ?_
          simp only [List.take, List.drop]
          repeat (first | (with_reducible refine vseq ?_) | (with_reducible refine vthenN ?_) | (with_reducible refine vthenE ?_) | (with_reducible refine vthenR ?_) | (with_reducible refine vret ?_) | (with_reducible refine vskip ?_) | (with_reducible refine vexit ?_) | (with_reducible refine vblock ?_) | (with_reducible refine vblockN ?_) | (with_reducible refine vblockR ?_) | (with_reducible refine vblockH ?_) | (with_reducible refine vrun_nil ?_) | (with_reducible refine vblockE rfl ?_) | (with_reducible refine vregion [] ?_) | (with_reducible refine vhrun_nil ?_) | ((with_reducible refine vcondT ?_ ?_); (focus (go_simp; done))) | ((with_reducible refine vcondF ?_ ?_); (focus (go_simp; done))) | ((with_reducible refine vrun_cons fun KK hKK => ?_); go_simp; (first | (refine ⟨_, H111.out, ?_⟩) | (with_reducible refine ⟨_, v106 _ _ _, ?_⟩) | (with_reducible refine ⟨_, v100 _, ?_⟩) | (with_reducible refine ⟨_, v78 _ _, ?_⟩) | (refine ⟨_, v75 [_, _, _] rfl, ?_⟩) | (refine ⟨_, H113.out, ?_⟩) | skip); refine hKK _ ?_; clear hKK KK) | ((with_reducible refine vhrun_cons fun KK hKK => ?_); go_simp; (first | (refine ⟨_, H111.out, ?_⟩) | (with_reducible refine ⟨_, v106 _ _ _, ?_⟩) | (with_reducible refine ⟨_, v100 _, ?_⟩) | (with_reducible refine ⟨_, v78 _ _, ?_⟩) | (refine ⟨_, v75 [_, _, _] rfl, ?_⟩) | (refine ⟨_, H113.out, ?_⟩) | skip); refine hKK _ ?_; clear hKK KK))
          go_simp
        · rw [if_neg (by omega)] at e
          subst e
          refine VC_of Try.func54 rfl (by kernel_rfl) (by kernel_rfl) rfl fun M0 w0 => ?_
          simp only [Try.ntmps54, Try.results54, enumA]
          repeat (first | (with_reducible refine vseq ?_) | (with_reducible refine vthenN ?_) | (with_reducible refine vthenE ?_) | (with_reducible refine vthenR ?_) | (with_reducible refine vret ?_) | (with_reducible refine vskip ?_) | (with_reducible refine vexit ?_) | (with_reducible refine vblock ?_) | (with_reducible refine vblockN ?_) | (with_reducible refine vblockR ?_) | (with_reducible refine vblockH ?_) | (with_reducible refine vrun_nil ?_) | (with_reducible refine vblockE rfl ?_) | (with_reducible refine vregion [] ?_) | (with_reducible refine vhrun_nil ?_) | ((with_reducible refine vcondT ?_ ?_); (focus (go_simp; done))) | ((with_reducible refine vcondF ?_ ?_); (focus (go_simp; done))) | ((with_reducible refine vrun_cons fun KK hKK => ?_); go_simp; (first | (refine ⟨_, H111.out, ?_⟩) | (with_reducible refine ⟨_, v106 _ _ _, ?_⟩) | (with_reducible refine ⟨_, v100 _, ?_⟩) | (with_reducible refine ⟨_, v78 _ _, ?_⟩) | skip); refine hKK _ ?_; clear hKK KK) | ((with_reducible refine vhrun_cons fun KK hKK => ?_); go_simp; (first | (refine ⟨_, H111.out, ?_⟩) | (with_reducible refine ⟨_, v106 _ _ _, ?_⟩) | (with_reducible refine ⟨_, v100 _, ?_⟩) | (with_reducible refine ⟨_, v78 _ _, ?_⟩) | skip); refine hKK _ ?_; clear hKK KK))
          refine vdraw 8 [] (by kernel_rfl) (by kernel_rfl) ?_
          simp only [List.take, List.drop]
          repeat (first | (with_reducible refine vseq ?_) | (with_reducible refine vthenN ?_) | (with_reducible refine vthenE ?_) | (with_reducible refine vthenR ?_) | (with_reducible refine vret ?_) | (with_reducible refine vskip ?_) | (with_reducible refine vexit ?_) | (with_reducible refine vblock ?_) | (with_reducible refine vblockN ?_) | (with_reducible refine vblockR ?_) | (with_reducible refine vblockH ?_) | (with_reducible refine vrun_nil ?_) | (with_reducible refine vblockE rfl ?_) | (with_reducible refine vregion [] ?_) | (with_reducible refine vhrun_nil ?_) | ((with_reducible refine vcondT ?_ ?_); (focus (go_simp; done))) | ((with_reducible refine vcondF ?_ ?_); (focus (go_simp; done))) | ((with_reducible refine vrun_cons fun KK hKK => ?_); go_simp; (first | (refine ⟨_, H111.out, ?_⟩) | (with_reducible refine ⟨_, v106 _ _ _, ?_⟩) | (with_reducible refine ⟨_, v100 _, ?_⟩) | (with_reducible refine ⟨_, v78 _ _, ?_⟩) | (refine ⟨_, v75 [_, _, _] rfl, ?_⟩) | (refine ⟨_, H113.out, ?_⟩) | skip); refine hKK _ ?_; clear hKK KK) | ((with_reducible refine vhrun_cons fun KK hKK => ?_); go_simp; (first | (refine ⟨_, H111.out, ?_⟩) | (with_reducible refine ⟨_, v106 _ _ _, ?_⟩) | (with_reducible refine ⟨_, v100 _, ?_⟩) | (with_reducible refine ⟨_, v78 _ _, ?_⟩) | (refine ⟨_, v75 [_, _, _] rfl, ?_⟩) | (refine ⟨_, H113.out, ?_⟩) | skip); refine hKK _ ?_; clear hKK KK))
          go_simp
    · subst hx
      by_cases h0 : l.length = 0
      · have e := HR.out
        rw [hu, if_pos h0] at e
        subst e
        have h0' : (l.length : Int) = 0 := by omega
        refine VC_of Try.func54 rfl (by kernel_rfl) (by kernel_rfl) rfl fun M0 w0 => ?_
        simp only [Try.ntmps54, Try.results54, enumA]
        repeat (first | (with_reducible refine vseq ?_) | (with_reducible refine vthenN ?_) | (with_reducible refine vthenE ?_) | (with_reducible refine vthenR ?_) | (with_reducible refine vret ?_) | (with_reducible refine vskip ?_) | (with_reducible refine vexit ?_) | (with_reducible refine vblock ?_) | (with_reducible refine vblockN ?_) | (with_reducible refine vblockR ?_) | (with_reducible refine vblockH ?_) | (with_reducible refine vrun_nil ?_) | (with_reducible refine vblockE rfl ?_) | (with_reducible refine vregion [] ?_) | (with_reducible refine vhrun_nil ?_) | ((with_reducible refine vcondT ?_ ?_); (focus (go_simp; done))) | ((with_reducible refine vcondF ?_ ?_); (focus (go_simp; done))) | ((with_reducible refine vrun_cons fun KK hKK => ?_); go_simp; (first | (refine ⟨_, H111.out, ?_⟩) | (with_reducible refine ⟨_, v106 _ _ _, ?_⟩) | (with_reducible refine ⟨_, v100 _, ?_⟩) | (with_reducible refine ⟨_, v78 _ _, ?_⟩) | skip); refine hKK _ ?_; clear hKK KK) | ((with_reducible refine vhrun_cons fun KK hKK => ?_); go_simp; (first | (refine ⟨_, H111.out, ?_⟩) | (with_reducible refine ⟨_, v106 _ _ _, ?_⟩) | (with_reducible refine ⟨_, v100 _, ?_⟩) | (with_reducible refine ⟨_, v78 _ _, ?_⟩) | skip); refine hKK _ ?_; clear hKK KK))
        refine vdraw 8 [] (by kernel_rfl) (by kernel_rfl) ?_
        simp only [List.take, List.drop]
        repeat (first | (with_reducible refine vseq ?_) | (with_reducible refine vthenN ?_) | (with_reducible refine vthenE ?_) | (with_reducible refine vthenR ?_) | (with_reducible refine vret ?_) | (with_reducible refine vskip ?_) | (with_reducible refine vexit ?_) | (with_reducible refine vblock ?_) | (with_reducible refine vblockN ?_) | (with_reducible refine vblockR ?_) | (with_reducible refine vblockH ?_) | (with_reducible refine vrun_nil ?_) | (with_reducible refine vblockE rfl ?_) | (with_reducible refine vregion [] ?_) | (with_reducible refine vhrun_nil ?_) | ((with_reducible refine vcondT ?_ ?_); (focus (go_simp; done))) | ((with_reducible refine vcondF ?_ ?_); (focus (go_simp; done))) | ((with_reducible refine vrun_cons fun KK hKK => ?_); go_simp; (first | (refine ⟨_, H111.out, ?_⟩) | (with_reducible refine ⟨_, v106 _ _ _, ?_⟩) | (with_reducible refine ⟨_, v100 _, ?_⟩) | (with_reducible refine ⟨_, v78 _ _, ?_⟩) | (refine ⟨_, v75 [_, _, _] rfl, ?_⟩) | (refine ⟨_, H113.out, ?_⟩) | skip); refine hKK _ ?_; clear hKK KK) | ((with_reducible refine vhrun_cons fun KK hKK => ?_); go_simp; (first | (refine ⟨_, H111.out, ?_⟩) | (with_reducible refine ⟨_, v106 _ _ _, ?_⟩) | (with_reducible refine ⟨_, v100 _, ?_⟩) | (with_reducible refine ⟨_, v78 _ _, ?_⟩) | (refine ⟨_, v75 [_, _, _] rfl, ?_⟩) | (refine ⟨_, H113.out, ?_⟩) | skip); refine hKK _ ?_; clear hKK KK))
        go_simp
      · obtain ⟨m, hm1⟩ : ∃ m, l.length = m + 1 := ⟨l.length - 1, by omega⟩
        have hm : m < l.length := by omega
        have hw := HB.out m hm
        have hw3 := wrap_eq (x := (m : Int)) (by omega) (by omega)
        have hne : ¬ ((m : Int) + 1 = 0) := by omega
        have hnn : ¬ ((m : Int) + 1 < 0) := by omega
        have e := HR.out
        rw [hu, if_neg h0, hm1, Nat.add_sub_cancel, iat_get hm] at e
        by_cases hgt : l[m] + every < date
        · rw [if_pos hgt] at e
          subst e
          refine VC_of Try.func54 rfl (by kernel_rfl) (by kernel_rfl) rfl fun M0 w0 => ?_
          simp only [Try.ntmps54, Try.results54, enumA]
          repeat (first | (with_reducible refine vseq ?_) | (with_reducible refine vthenN ?_) | (with_reducible refine vthenE ?_) | (with_reducible refine vthenR ?_) | (with_reducible refine vret ?_) | (with_reducible refine vskip ?_) | (with_reducible refine vexit ?_) | (with_reducible refine vblock ?_) | (with_reducible refine vblockN ?_) | (with_reducible refine vblockR ?_) | (with_reducible refine vblockH ?_) | (with_reducible refine vrun_nil ?_) | (with_reducible refine vblockE rfl ?_) | (with_reducible refine vregion [] ?_) | (with_reducible refine vhrun_nil ?_) | ((with_reducible refine vcondT ?_ ?_); (focus (go_simp; done))) | ((with_reducible refine vcondF ?_ ?_); (focus (go_simp; done))) | ((with_reducible refine vrun_cons fun KK hKK => ?_); go_simp; (first | (refine ⟨_, H111.out, ?_⟩) | (with_reducible refine ⟨_, v106 _ _ _, ?_⟩) | (with_reducible refine ⟨_, v100 _, ?_⟩) | (with_reducible refine ⟨_, v78 _ _, ?_⟩) | skip); refine hKK _ ?_; clear hKK KK) | ((with_reducible refine vhrun_cons fun KK hKK => ?_); go_simp; (first | (refine ⟨_, H111.out, ?_⟩) | (with_reducible refine ⟨_, v106 _ _ _, ?_⟩) | (with_reducible refine ⟨_, v100 _, ?_⟩) | (with_reducible refine ⟨_, v78 _ _, ?_⟩) | skip); refine hKK _ ?_; clear hKK KK))
          refine vdraw 8 [] (by kernel_rfl) (by kernel_rfl) ?_
          simp only [List.take, List.drop]
          repeat (first | (with_reducible refine vseq ?_) | (with_reducible refine vthenN ?_) | (with_reducible refine vthenE ?_) | (with_reducible refine vthenR ?_) | (with_reducible refine vret ?_) | (with_reducible refine vskip ?_) | (with_reducible refine vexit ?_) | (with_reducible refine vblock ?_) | (with_reducible refine vblockN ?_) | (with_reducible refine vblockR ?_) | (with_reducible refine vblockH ?_) | (with_reducible refine vrun_nil ?_) | (with_reducible refine vblockE rfl ?_) | (with_reducible refine vregion [] ?_) | (with_reducible refine vhrun_nil ?_) | ((with_reducible refine vcondT ?_ ?_); (focus (go_simp; done))) | ((with_reducible refine vcondF ?_ ?_); (focus (go_simp; done))) | ((with_reducible refine vrun_cons fun KK hKK => ?_); go_simp; (first | (refine ⟨_, H111.out, ?_⟩) | (with_reducible refine ⟨_, v106 _ _ _, ?_⟩) | (with_reducible refine ⟨_, v100 _, ?_⟩) | (with_reducible refine ⟨_, v78 _ _, ?_⟩) | (refine ⟨_, v75 [_, _, _] rfl, ?_⟩) | (refine ⟨_, H113.out, ?_⟩) | skip); refine hKK _ ?_; clear hKK KK) | ((with_reducible refine vhrun_cons fun KK hKK => ?_); go_simp; (first | (refine ⟨_, H111.out, ?_⟩) | (with_reducible refine ⟨_, v106 _ _ _, ?_⟩) | (with_reducible refine ⟨_, v100 _, ?_⟩) | (with_reducible refine ⟨_, v78 _ _, ?_⟩) | (refine ⟨_, v75 [_, _, _] rfl, ?_⟩) | (refine ⟨_, H113.out, ?_⟩) | skip); refine hKK _ ?_; clear hKK KK))
          go_simp
        · rw [if_neg (by omega)] at e
          subst e
          refine VC_of Try.func54 rfl (by kernel_rfl) (by kernel_rfl) rfl fun M0 w0 => ?_
          simp only [Try.ntmps54, Try.results54, enumA]
          repeat (first | (with_reducible refine vseq ?_) | (with_reducible refine vthenN ?_) | (with_reducible refine vthenE ?_) | (with_reducible refine vthenR ?_) | (with_reducible refine vret ?_) | (with_reducible refine vskip ?_) | (with_reducible refine vexit ?_) | (with_reducible refine vblock ?_) | (with_reducible refine vblockN ?_) | (with_reducible refine vblockR ?_) | (with_reducible refine vblockH ?_) | (with_reducible refine vrun_nil ?_) | (with_reducible refine vblockE rfl ?_) | (with_reducible refine vregion [] ?_) | (with_reducible refine vhrun_nil ?_) | ((with_reducible refine vcondT ?_ ?_); (focus (go_simp; done))) | ((with_reducible refine vcondF ?_ ?_); (focus (go_simp; done))) | ((with_reducible refine vrun_cons fun KK hKK => ?_); go_simp; (first | (refine ⟨_, H111.out, ?_⟩) | (with_reducible refine ⟨_, v106 _ _ _, ?_⟩) | (with_reducible refine ⟨_, v100 _, ?_⟩) | (with_reducible refine ⟨_, v78 _ _, ?_⟩) | skip); refine hKK _ ?_; clear hKK KK) | ((with_reducible refine vhrun_cons fun KK hKK => ?_); go_simp; (first | (refine ⟨_, H111.out, ?_⟩) | (with_reducible refine ⟨_, v106 _ _ _, ?_⟩) | (with_reducible refine ⟨_, v100 _, ?_⟩) | (with_reducible refine ⟨_, v78 _ _, ?_⟩) | skip); refine hKK _ ?_; clear hKK KK))
          refine vdraw 8 [] (by kernel_rfl) (by kernel_rfl) ?_
          simp only [List.take, List.drop]
          repeat (first | (with_reducible refine vseq ?_) | (with_reducible refine vthenN ?_) | (with_reducible refine vthenE ?_) | (with_reducible refine vthenR ?_) | (with_reducible refine vret ?_) | (with_reducible refine vskip ?_) | (with_reducible refine vexit ?_) | (with_reducible refine vblock ?_) | (with_reducible refine vblockN ?_) | (with_reducible refine vblockR ?_) | (with_reducible refine vblockH ?_) | (with_reducible refine vrun_nil ?_) | (with_reducible refine vblockE rfl ?_) | (with_reducible refine vregion [] ?_) | (with_reducible refine vhrun_nil ?_) | ((with_reducible refine vcondT ?_ ?_); (focus (go_simp; done))) | ((with_reducible refine vcondF ?_ ?_); (focus (go_simp; done))) | ((with_reducible refine vrun_cons fun KK hKK => ?_); go_simp; (first | (refine ⟨_, H111.out, ?_⟩) | (with_reducible refine ⟨_, v106 _ _ _, ?_⟩) | (with_reducible refine ⟨_, v100 _, ?_⟩) | (with_reducible refine ⟨_, v78 _ _, ?_⟩) | (refine ⟨_, v75 [_, _, _] rfl, ?_⟩) | (refine ⟨_, H113.out, ?_⟩) | skip); refine hKK _ ?_; clear hKK KK) | ((with_reducible refine vhrun_cons fun KK hKK => ?_); go_simp; (first | (refine ⟨_, H111.out, ?_⟩) | (with_reducible refine ⟨_, v106 _ _ _, ?_⟩) | (with_reducible refine ⟨_, v100 _, ?_⟩) | (with_reducible refine ⟨_, v78 _ _, ?_⟩) | (refine ⟨_, v75 [_, _, _] rfl, ?_⟩) | (refine ⟨_, H113.out, ?_⟩) | skip); refine hKK _ ?_; clear hKK KK))
          go_simp
  · rw [if_pos (by simpa using hE)] at hR0
    subst hR0
    unfold nextE at hE ⊢
    clear hz hup
    have H113 := Lib.hid h113
    clear h113
    generalize datesE l = D at *
    by_cases e1 : D.2 = 0
    · cases e2 : inR every 1 1000
      · clear hE
        refine VC_of Try.func54 rfl (by kernel_rfl) (by kernel_rfl) rfl fun M0 w0 => ?_
        simp only [Try.ntmps54, Try.results54, enumA]
        repeat (first | (with_reducible refine vseq ?_) | (with_reducible refine vthenN ?_) | (with_reducible refine vthenE ?_) | (with_reducible refine vthenR ?_) | (with_reducible refine vret ?_) | (with_reducible refine vskip ?_) | (with_reducible refine vexit ?_) | (with_reducible refine vblock ?_) | (with_reducible refine vblockN ?_) | (with_reducible refine vblockR ?_) | (with_reducible refine vblockH ?_) | (with_reducible refine vrun_nil ?_) | (with_reducible refine vblockE rfl ?_) | (with_reducible refine vregion [] ?_) | (with_reducible refine vhrun_nil ?_) | ((with_reducible refine vcondT ?_ ?_); (focus (go_simp; done))) | ((with_reducible refine vcondF ?_ ?_); (focus (go_simp; done))) | ((with_reducible refine vrun_cons fun KK hKK => ?_); go_simp; (first | (refine ⟨_, H111.out, ?_⟩) | (with_reducible refine ⟨_, v106 _ _ _, ?_⟩) | (with_reducible refine ⟨_, v100 _, ?_⟩) | (with_reducible refine ⟨_, v78 _ _, ?_⟩) | skip); refine hKK _ ?_; clear hKK KK) | ((with_reducible refine vhrun_cons fun KK hKK => ?_); go_simp; (first | (refine ⟨_, H111.out, ?_⟩) | (with_reducible refine ⟨_, v106 _ _ _, ?_⟩) | (with_reducible refine ⟨_, v100 _, ?_⟩) | (with_reducible refine ⟨_, v78 _ _, ?_⟩) | skip); refine hKK _ ?_; clear hKK KK))
        refine vdraw 8 [] (by kernel_rfl) (by kernel_rfl) ?_
        simp only [List.take, List.drop]
        repeat (first | (with_reducible refine vseq ?_) | (with_reducible refine vthenN ?_) | (with_reducible refine vthenE ?_) | (with_reducible refine vthenR ?_) | (with_reducible refine vret ?_) | (with_reducible refine vskip ?_) | (with_reducible refine vexit ?_) | (with_reducible refine vblock ?_) | (with_reducible refine vblockN ?_) | (with_reducible refine vblockR ?_) | (with_reducible refine vblockH ?_) | (with_reducible refine vrun_nil ?_) | (with_reducible refine vblockE rfl ?_) | (with_reducible refine vregion [] ?_) | (with_reducible refine vhrun_nil ?_) | ((with_reducible refine vcondT ?_ ?_); (focus (go_simp; done))) | ((with_reducible refine vcondF ?_ ?_); (focus (go_simp; done))) | ((with_reducible refine vrun_cons fun KK hKK => ?_); go_simp; (first | (refine ⟨_, H111.out, ?_⟩) | (with_reducible refine ⟨_, v106 _ _ _, ?_⟩) | (with_reducible refine ⟨_, v100 _, ?_⟩) | (with_reducible refine ⟨_, v78 _ _, ?_⟩) | (refine ⟨_, v75 [_, _, _] rfl, ?_⟩) | (refine ⟨_, H113.out, ?_⟩) | skip); refine hKK _ ?_; clear hKK KK) | ((with_reducible refine vhrun_cons fun KK hKK => ?_); go_simp; (first | (refine ⟨_, H111.out, ?_⟩) | (with_reducible refine ⟨_, v106 _ _ _, ?_⟩) | (with_reducible refine ⟨_, v100 _, ?_⟩) | (with_reducible refine ⟨_, v78 _ _, ?_⟩) | (refine ⟨_, v75 [_, _, _] rfl, ?_⟩) | (refine ⟨_, H113.out, ?_⟩) | skip); refine hKK _ ?_; clear hKK KK))
        go_simp
      · have e3 : dateErr date ≠ 0 := fun h => hE (by simp [fst, e1, e2, h, unl])
        clear hE
        refine VC_of Try.func54 rfl (by kernel_rfl) (by kernel_rfl) rfl fun M0 w0 => ?_
        simp only [Try.ntmps54, Try.results54, enumA]
        repeat (first | (with_reducible refine vseq ?_) | (with_reducible refine vthenN ?_) | (with_reducible refine vthenE ?_) | (with_reducible refine vthenR ?_) | (with_reducible refine vret ?_) | (with_reducible refine vskip ?_) | (with_reducible refine vexit ?_) | (with_reducible refine vblock ?_) | (with_reducible refine vblockN ?_) | (with_reducible refine vblockR ?_) | (with_reducible refine vblockH ?_) | (with_reducible refine vrun_nil ?_) | (with_reducible refine vblockE rfl ?_) | (with_reducible refine vregion [] ?_) | (with_reducible refine vhrun_nil ?_) | ((with_reducible refine vcondT ?_ ?_); (focus (go_simp; done))) | ((with_reducible refine vcondF ?_ ?_); (focus (go_simp; done))) | ((with_reducible refine vrun_cons fun KK hKK => ?_); go_simp; (first | (refine ⟨_, H111.out, ?_⟩) | (with_reducible refine ⟨_, v106 _ _ _, ?_⟩) | (with_reducible refine ⟨_, v100 _, ?_⟩) | (with_reducible refine ⟨_, v78 _ _, ?_⟩) | skip); refine hKK _ ?_; clear hKK KK) | ((with_reducible refine vhrun_cons fun KK hKK => ?_); go_simp; (first | (refine ⟨_, H111.out, ?_⟩) | (with_reducible refine ⟨_, v106 _ _ _, ?_⟩) | (with_reducible refine ⟨_, v100 _, ?_⟩) | (with_reducible refine ⟨_, v78 _ _, ?_⟩) | skip); refine hKK _ ?_; clear hKK KK))
        refine vdraw 8 [] (by kernel_rfl) (by kernel_rfl) ?_
        simp only [List.take, List.drop]
        repeat (first | (with_reducible refine vseq ?_) | (with_reducible refine vthenN ?_) | (with_reducible refine vthenE ?_) | (with_reducible refine vthenR ?_) | (with_reducible refine vret ?_) | (with_reducible refine vskip ?_) | (with_reducible refine vexit ?_) | (with_reducible refine vblock ?_) | (with_reducible refine vblockN ?_) | (with_reducible refine vblockR ?_) | (with_reducible refine vblockH ?_) | (with_reducible refine vrun_nil ?_) | (with_reducible refine vblockE rfl ?_) | (with_reducible refine vregion [] ?_) | (with_reducible refine vhrun_nil ?_) | ((with_reducible refine vcondT ?_ ?_); (focus (go_simp; done))) | ((with_reducible refine vcondF ?_ ?_); (focus (go_simp; done))) | ((with_reducible refine vrun_cons fun KK hKK => ?_); go_simp; (first | (refine ⟨_, H111.out, ?_⟩) | (with_reducible refine ⟨_, v106 _ _ _, ?_⟩) | (with_reducible refine ⟨_, v100 _, ?_⟩) | (with_reducible refine ⟨_, v78 _ _, ?_⟩) | (refine ⟨_, v75 [_, _, _] rfl, ?_⟩) | (refine ⟨_, H113.out, ?_⟩) | skip); refine hKK _ ?_; clear hKK KK) | ((with_reducible refine vhrun_cons fun KK hKK => ?_); go_simp; (first | (refine ⟨_, H111.out, ?_⟩) | (with_reducible refine ⟨_, v106 _ _ _, ?_⟩) | (with_reducible refine ⟨_, v100 _, ?_⟩) | (with_reducible refine ⟨_, v78 _ _, ?_⟩) | (refine ⟨_, v75 [_, _, _] rfl, ?_⟩) | (refine ⟨_, H113.out, ?_⟩) | skip); refine hKK _ ?_; clear hKK KK))
        go_simp
    · clear hE
      refine VC_of Try.func54 rfl (by kernel_rfl) (by kernel_rfl) rfl fun M0 w0 => ?_
      simp only [Try.ntmps54, Try.results54, enumA]
      repeat (first | (with_reducible refine vseq ?_) | (with_reducible refine vthenN ?_) | (with_reducible refine vthenE ?_) | (with_reducible refine vthenR ?_) | (with_reducible refine vret ?_) | (with_reducible refine vskip ?_) | (with_reducible refine vexit ?_) | (with_reducible refine vblock ?_) | (with_reducible refine vblockN ?_) | (with_reducible refine vblockR ?_) | (with_reducible refine vblockH ?_) | (with_reducible refine vrun_nil ?_) | (with_reducible refine vblockE rfl ?_) | (with_reducible refine vregion [] ?_) | (with_reducible refine vhrun_nil ?_) | ((with_reducible refine vcondT ?_ ?_); (focus (go_simp; done))) | ((with_reducible refine vcondF ?_ ?_); (focus (go_simp; done))) | ((with_reducible refine vrun_cons fun KK hKK => ?_); go_simp; (first | (refine ⟨_, H111.out, ?_⟩) | (with_reducible refine ⟨_, v106 _ _ _, ?_⟩) | (with_reducible refine ⟨_, v100 _, ?_⟩) | (with_reducible refine ⟨_, v78 _ _, ?_⟩) | skip); refine hKK _ ?_; clear hKK KK) | ((with_reducible refine vhrun_cons fun KK hKK => ?_); go_simp; (first | (refine ⟨_, H111.out, ?_⟩) | (with_reducible refine ⟨_, v106 _ _ _, ?_⟩) | (with_reducible refine ⟨_, v100 _, ?_⟩) | (with_reducible refine ⟨_, v78 _ _, ?_⟩) | skip); refine hKK _ ?_; clear hKK KK))
      refine vdraw 8 [] (by kernel_rfl) (by kernel_rfl) ?_
      simp only [List.take, List.drop]
      repeat (first | (with_reducible refine vseq ?_) | (with_reducible refine vthenN ?_) | (with_reducible refine vthenE ?_) | (with_reducible refine vthenR ?_) | (with_reducible refine vret ?_) | (with_reducible refine vskip ?_) | (with_reducible refine vexit ?_) | (with_reducible refine vblock ?_) | (with_reducible refine vblockN ?_) | (with_reducible refine vblockR ?_) | (with_reducible refine vblockH ?_) | (with_reducible refine vrun_nil ?_) | (with_reducible refine vblockE rfl ?_) | (with_reducible refine vregion [] ?_) | (with_reducible refine vhrun_nil ?_) | ((with_reducible refine vcondT ?_ ?_); (focus (go_simp; done))) | ((with_reducible refine vcondF ?_ ?_); (focus (go_simp; done))) | ((with_reducible refine vrun_cons fun KK hKK => ?_); go_simp; (first | (refine ⟨_, H111.out, ?_⟩) | (with_reducible refine ⟨_, v106 _ _ _, ?_⟩) | (with_reducible refine ⟨_, v100 _, ?_⟩) | (with_reducible refine ⟨_, v78 _ _, ?_⟩) | (refine ⟨_, v75 [_, _, _] rfl, ?_⟩) | (refine ⟨_, H113.out, ?_⟩) | skip); refine hKK _ ?_; clear hKK KK) | ((with_reducible refine vhrun_cons fun KK hKK => ?_); go_simp; (first | (refine ⟨_, H111.out, ?_⟩) | (with_reducible refine ⟨_, v106 _ _ _, ?_⟩) | (with_reducible refine ⟨_, v100 _, ?_⟩) | (with_reducible refine ⟨_, v78 _ _, ?_⟩) | (refine ⟨_, v75 [_, _, _] rfl, ?_⟩) | (refine ⟨_, H113.out, ?_⟩) | skip); refine hKK _ ?_; clear hKK KK))
      go_simp
end Go.Proofs.Ytmfmpagfjgpodaa
