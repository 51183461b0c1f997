/- Texts in one: Chapter 3: who sets out later arrives no earlier; plain functions, no condition. -/
import Derived.Test.YtcndlalhkkjocaaFYStreetExamined15
import Derived.Test.YtcndlalhkkjocaaFYStreetExamined19
/-! SYH: Chapter 3: who sets out later arrives no earlier; plain functions, no condition. -/
namespace Go.Proofs.Ytcndlalhkkjocaa
open Go.RowKit
theorem ceilF_eq (n d : Int) (hd : 0 < d) : ceilF n d = -((-n) / d) := by
  unfold ceilF
  have h1 : n.tdiv d * d + n.tmod d = n := Int.tdiv_mul_add_tmod n d
  have h2 := tmod_lt n d hd
  have hs : 0 ≤ n.tmod d ∨ n.tmod d ≤ 0 := by omega
  have h3 := Int.ediv_mul_add_emod (-n) d
  have h4 := Int.emod_nonneg (-n) (show d ≠ 0 by omega)
  have h5 := Int.emod_lt_of_pos (-n) hd
  generalize n.tdiv d = q at *
  generalize n.tmod d = r at *
  generalize (-n) / d = p at *
  generalize (-n) % d = s at *
  have hk : (q + p) * d = -(r + s) := by rw [Int.add_mul]; omega
  have k1 : q + p < 2 := Classical.byContradiction fun hc => by
    have : 2 * d ≤ (q + p) * d := Int.mul_le_mul_of_nonneg_right (by omega) (by omega)
    omega
  have k2 : -2 < q + p := Classical.byContradiction fun hc => by
    have : (q + p) * d ≤ (-2) * d := Int.mul_le_mul_of_nonneg_right (by omega) (by omega)
    omega
  have k3 : q + p = -1 ∨ q + p = 0 ∨ q + p = 1 := by omega
  rcases k3 with k | k | k <;> rw [k] at hk <;> split <;> omega
theorem ceil_le {n d m : Int} (hd : 0 < d) (h : n ≤ m * d) : ceilF n d ≤ m := by
  rw [ceilF_eq n d hd]
  have : -m ≤ (-n) / d := (Int.le_ediv_iff_mul_le hd).2 (by rw [Int.neg_mul]; omega)
  omega
theorem le_ceil {n d m : Int} (hd : 0 < d) (h : (m - 1) * d < n) : m ≤ ceilF n d := by
  rw [ceilF_eq n d hd]
  have : (-n) / d < 1 - m := (Int.ediv_lt_iff_lt_mul hd).2 (by
    have : (1 - m) * d = -((m - 1) * d) := by rw [← Int.neg_mul]; congr 1; omega
    omega)
  omega
theorem ceil_btw {c d g : Int} (hd : 0 < d) (h0 : 0 ≤ g) (hg : g ≤ d) : (0 ≤ c → 0 ≤ ceilF (c * g) d ∧ ceilF (c * g) d ≤ c) ∧ (c ≤ 0 → c ≤ ceilF (c * g) d ∧ ceilF (c * g) d ≤ 0) := by
  refine ⟨fun hc => ⟨le_ceil hd ?_, ceil_le hd (Int.mul_le_mul_of_nonneg_left hg hc)⟩, fun hc => ⟨le_ceil hd ?_, ceil_le hd ?_⟩⟩
  · have := Int.mul_nonneg hc h0
    omega
  · have h1 : c * d ≤ c * g := Int.mul_le_mul_of_nonpos_left hc hg
    rw [Int.sub_mul]
    omega
  · have : c * g ≤ 0 := Int.mul_nonpos_of_nonpos_of_nonneg hc h0
    omega
/-! ### The point that counts -/
theorem asc_lt {l : List Pt} (h : RightPts l) {j : Nat} : ∀ {k : Nat}, j < k → k < l.length → (ptat l j).time < (ptat l k).time
  | k + 1, hj, hk => by
    have h1 := h.asc (k + 1) (by omega) hk
    rw [Nat.add_sub_cancel] at h1
    by_cases he : j = k
    · subst he
      exact h1
    · have := asc_lt h (j := j) (k := k) (by omega) (by omega)
      omega
theorem lastP_spec {p : Nat → Bool} {d : Nat} : ∀ n : Nat, (lastP p d n < n ∧ p (lastP p d n) = true ∧ ∀ j, lastP p d n < j → j < n → p j = false) ∨ (lastP p d n = d ∧ ∀ j, j < n → p j = false)
  | 0 => .inr ⟨rfl, fun j h => by omega⟩
  | n + 1 => by
    rw [lastP]
    by_cases hp : p n = true
    · rw [if_pos hp]
      exact .inl ⟨by omega, hp, fun j h1 h2 => by omega⟩
    · rw [if_neg hp]
      have hp' : p n = false := by simpa using hp
      rcases lastP_spec (p := p) (d := d) n with ⟨h1, h2, h3⟩ | ⟨h1, h2⟩
      · refine .inl ⟨by omega, h2, fun j g1 g2 => ?_⟩
        by_cases he : j = n
        · rw [he]; exact hp'
        · exact h3 j g1 (by omega)
      · refine .inr ⟨h1, fun j g => ?_⟩
        by_cases he : j = n
        · rw [he]; exact hp'
        · exact h2 j (by omega)
theorem pnt_spec (l : List Pt) (x : Int) : (pnt l x < l.length ∧ (ptat l (pnt l x)).time ≤ x ∧ ∀ j, pnt l x < j → j < l.length → x < (ptat l j).time) ∨ (pnt l x = l.length - 1 ∧ ∀ j, j < l.length → x < (ptat l j).time) := by
  rcases lastP_spec (p := isLe l x) (d := l.length - 1) l.length with ⟨h1, h2, h3⟩ | ⟨h1, h2⟩
  · exact .inl ⟨h1, of_decide_eq_true h2, fun j g1 g2 => by have := of_decide_eq_false (h3 j g1 g2); omega⟩
  · exact .inr ⟨h1, fun j g => by have := of_decide_eq_false (h2 j g); omega⟩
theorem nx_eq {l : List Pt} {i : Nat} (h : i + 1 < l.length) : (i + 1) % l.length = i + 1 := Nat.mod_eq_of_lt h
theorem nx_last {l : List Pt} (h : 0 < l.length) : (l.length - 1 + 1) % l.length = 0 := by
  rw [show l.length - 1 + 1 = l.length by omega, Nat.mod_self]
theorem gone_le {l : List Pt} (h : RightPts l) {x : Int} (h0 : 0 ≤ x) (h1 : x < 86400) : pnt l x < l.length ∧ 0 ≤ goneF l x (pnt l x) ∧ goneF l x (pnt l x) ≤ behD l (pnt l x) := by
  have hi : pnt l x < l.length := lastP_lt (by have := h.pos; omega) (Nat.le_refl _)
  refine ⟨hi, (goneF_rng h.small hi h0 h1).1, ?_⟩
  have hp := h.pos
  have hlast := nx_last hp
  have rl := h.rng (l.length - 1) (by omega)
  have r0 := h.rng 0 hp
  rcases pnt_spec l x with ⟨a1, a2, a3⟩ | ⟨a1, a2⟩
  · generalize pnt l x = i at *
    have ri := h.rng i a1
    by_cases he : i = l.length - 1
    · subst he
      have h5 : (ptat l 0).time ≤ (ptat l (l.length - 1)).time := by
        by_cases hz : l.length - 1 = 0
        · rw [hz]
          exact Int.le_refl _
        · have := asc_lt h (j := 0) (k := l.length - 1) (by omega) (by omega)
          omega
      unfold goneF behD
      rw [hlast, if_neg (by omega), if_pos (by omega)]
      omega
    · have e := nx_eq (l := l) (i := i) (by omega)
      have h3 := a3 (i + 1) (by omega) (by omega)
      unfold goneF behD
      rw [e, if_neg (by omega), if_neg (by omega)]
      omega
  · rw [a1]
    have h5 : (ptat l 0).time ≤ (ptat l (l.length - 1)).time := by
      by_cases hz : l.length - 1 = 0
      · rw [hz]
        exact Int.le_refl _
      · have := asc_lt h (j := 0) (k := l.length - 1) (by omega) (by omega)
        omega
    have h6 := a2 0 hp
    have h7 := a2 (l.length - 1) (by omega)
    unfold goneF behD
    rw [hlast, if_pos (by omega), if_pos (by omega)]
    omega
theorem takes_rng {l : List Pt} (h : RightPts l) (e : Bool) {t : Int} (h0 : 0 ≤ t) : 0 ≤ takesF e l t ∧ takesF e l t ≤ 7200 := by
  have hx : t.tmod 86400 = t % 86400 := Int.tmod_eq_emod_of_nonneg h0
  have e1 := Int.emod_nonneg t (show (86400 : Int) ≠ 0 by decide)
  have e2 := Int.emod_lt_of_pos t (show (0 : Int) < 86400 by decide)
  unfold takesF
  rw [hx]
  have hg := gone_le h e1 e2
  generalize t % 86400 = x at *
  have hb := behD_rng h.small hg.1
  have r1 := eV_rng h.small e hg.1
  have r2 := eV_rng h.small e (nx_lt h.small (pnt l x))
  unfold takesAt
  have hc := ceil_btw (c := eV e (ptat l ((pnt l x + 1) % l.length)) - eV e (ptat l (pnt l x))) hb.1 hg.2.1 hg.2.2
  generalize eV e (ptat l ((pnt l x + 1) % l.length)) = b at *
  generalize eV e (ptat l (pnt l x)) = a at *
  by_cases hba : 0 ≤ b - a
  · have := hc.1 hba
    omega
  · have := hc.2 (by omega)
    omega
/-! ### Roads -/
/-- When one arrives by a road. -/
def alT (e : Bool) (r : Rd) (t : Int) : Int := t + takesF e r.pts t
def alM (r : Rd) (m : Int) : Int := m + r.metres
theorem along_T {n : Nt} (h : RightNet n) (e : Bool) {num : Int} (h0 : 0 ≤ num) : Along n (alT e) num 7200 :=
  ⟨h0, h.p20, fun i hi => by have := (h.road i hi).src; omega, fun i hi => by have := (h.road i hi).dst; omega, fun i hi t h1 _ => by
    have := takes_rng (h.road i hi).pts e (t := t) (by omega)
    unfold alT
    omega⟩
theorem along_M {n : Nt} (h : RightNet n) : Along n alM 0 100000 :=
  ⟨Int.le_refl _, h.p20, fun i hi => by have := (h.road i hi).src; omega, fun i hi => by have := (h.road i hi).dst; omega, fun i hi t h1 _ => by
    have := (h.road i hi).metres
    unfold alM
    omega⟩
end Go.Proofs.Ytcndlalhkkjocaa
