/- Texts in one: Chapter 3: who sets out later arrives no earlier; plain functions, no condition. -/
import Derived.Test.YtcndlalhkkjocaaFYStreetTrue15
import Derived.Test.YtcndlalhkkjocaaFYStreetTrue19
/-! SYH: Chapter 3: who sets out later arrives no earlier; plain functions, no condition. -/
namespace Go.Proofs.Ytcndlalhkkjocaa
open Go.RowKit
theorem ceilF_eq (n d : Int) (hd : 0 < d) : ceilF n d = -((-n) / d) := by
  unfold ceilF
  have h1 : n.tdiv d * d + n.tmod d = n := Int.tdiv_mul_add_tmod n d
  have h2 := tmod_lt n d hd
  have hs : 0 ≤ n.tmod d ∨ n.tmod d ≤ 0 := by omega
  have h3 := Int.ediv_mul_add_emod (-n) d
  have h4 := Int.emod_nonneg (-n) (show d ≠ 0 by omega)
  have h5 := Int.emod_lt_of_pos (-n) hd
  generalize n.tdiv d = q at *
  generalize n.tmod d = r at *
  generalize (-n) / d = p at *
  generalize (-n) % d = s at *
  have hk : (q + p) * d = -(r + s) := by rw [Int.add_mul]; omega
  have k1 : q + p < 2 := Classical.byContradiction fun hc => by
    have : 2 * d ≤ (q + p) * d := Int.mul_le_mul_of_nonneg_right (by omega) (by omega)
    omega
  have k2 : -2 < q + p := Classical.byContradiction fun hc => by
    have : (q + p) * d ≤ (-2) * d := Int.mul_le_mul_of_nonneg_right (by omega) (by omega)
    omega
  have k3 : q + p = -1 ∨ q + p = 0 ∨ q + p = 1 := by omega
  rcases k3 with k | k | k <;> rw [k] at hk <;> split <;> omega
theorem floorF_eq (n d : Int) (hd : 0 < d) : floorF n d = n / d := by
  unfold floorF
  have h1 : n.tdiv d * d + n.tmod d = n := Int.tdiv_mul_add_tmod n d
  have h2 := tmod_lt n d hd
  have h3 := Int.ediv_mul_add_emod n d
  have h4 := Int.emod_nonneg n (show d ≠ 0 by omega)
  have h5 := Int.emod_lt_of_pos n hd
  generalize n.tdiv d = q at *
  generalize n.tmod d = r at *
  generalize n / d = p at *
  generalize n % d = s at *
  have hk : (q - p) * d = s - r := by rw [Int.sub_mul]; omega
  have k1 : q - p < 2 := Classical.byContradiction fun hc => by
    have : 2 * d ≤ (q - p) * d := Int.mul_le_mul_of_nonneg_right (by omega) (by omega)
    omega
  have k2 : -2 < q - p := Classical.byContradiction fun hc => by
    have : (q - p) * d ≤ (-2) * d := Int.mul_le_mul_of_nonneg_right (by omega) (by omega)
    omega
  have k3 : q - p = -1 ∨ q - p = 0 ∨ q - p = 1 := by omega
  rcases k3 with k | k | k <;> rw [k] at hk <;> split <;> omega
theorem ceil_le {n d m : Int} (hd : 0 < d) (h : n ≤ m * d) : ceilF n d ≤ m := by
  rw [ceilF_eq n d hd]
  have : -m ≤ (-n) / d := (Int.le_ediv_iff_mul_le hd).2 (by rw [Int.neg_mul]; omega)
  omega
theorem le_ceil {n d m : Int} (hd : 0 < d) (h : (m - 1) * d < n) : m ≤ ceilF n d := by
  rw [ceilF_eq n d hd]
  have : (-n) / d < 1 - m := (Int.ediv_lt_iff_lt_mul hd).2 (by
    have : (1 - m) * d = -((m - 1) * d) := by rw [← Int.neg_mul]; congr 1; omega
    omega)
  omega
theorem ceil_up (n d : Int) (hd : 0 < d) : n ≤ ceilF n d * d ∧ (ceilF n d - 1) * d < n := by
  have h3 := Int.ediv_mul_add_emod (-n) d
  have h4 := Int.emod_nonneg (-n) (show d ≠ 0 by omega)
  have h5 := Int.emod_lt_of_pos (-n) hd
  rw [ceilF_eq n d hd, Int.sub_mul, Int.neg_mul]
  omega
/-- Along a line that falls by no more than it goes on. -/
theorem line_mono {c d g g' : Int} (hd : 0 < d) (hc : -d ≤ c) (hg : g ≤ g') : g + ceilF (c * g) d ≤ g' + ceilF (c * g') d := by
  have h := (ceil_up (c * g') d hd).1
  have h1 : ceilF (c * g) d ≤ g' - g + ceilF (c * g') d := by
    refine ceil_le hd ?_
    have e : c * g = c * g' - c * (g' - g) := by rw [Int.mul_sub]; omega
    have k : (-d) * (g' - g) ≤ c * (g' - g) := Int.mul_le_mul_of_nonneg_right hc (by omega)
    rw [Int.neg_mul] at k
    rw [Int.add_mul, e, Int.mul_comm (g' - g) d]
    omega
  omega
theorem ceil_mul (c d : Int) (hd : 0 < d) : ceilF (c * d) d = c := by
  have h := ceil_up (c * d) d hd
  have h1 := ceil_le (n := c * d) (m := c) hd (Int.le_refl _)
  have h2 := le_ceil (n := c * d) (m := c) hd (by rw [Int.sub_mul]; omega)
  omega
theorem ceil_btw {c d g : Int} (hd : 0 < d) (h0 : 0 ≤ g) (hg : g ≤ d) : (0 ≤ c → 0 ≤ ceilF (c * g) d ∧ ceilF (c * g) d ≤ c) ∧ (c ≤ 0 → c ≤ ceilF (c * g) d ∧ ceilF (c * g) d ≤ 0) := by
  refine ⟨fun hc => ⟨le_ceil hd ?_, ceil_le hd (Int.mul_le_mul_of_nonneg_left hg hc)⟩, fun hc => ⟨le_ceil hd ?_, ceil_le hd ?_⟩⟩
  · have := Int.mul_nonneg hc h0
    omega
  · have h1 : c * d ≤ c * g := Int.mul_le_mul_of_nonpos_left hc hg
    rw [Int.sub_mul]
    omega
  · have : c * g ≤ 0 := Int.mul_nonpos_of_nonpos_of_nonneg hc h0
    omega
/-! ### The point that counts -/
theorem asc_lt {l : List Pt} (h : RightPts l) {j : Nat} : ∀ {k : Nat}, j < k → k < l.length → (ptat l j).time < (ptat l k).time
  | k + 1, hj, hk => by
    have h1 := h.asc (k + 1) (by omega) hk
    rw [Nat.add_sub_cancel] at h1
    by_cases he : j = k
    · subst he
      exact h1
    · have := asc_lt h (j := j) (k := k) (by omega) (by omega)
      omega
theorem lastP_spec {p : Nat → Bool} {d : Nat} : ∀ n : Nat, (lastP p d n < n ∧ p (lastP p d n) = true ∧ ∀ j, lastP p d n < j → j < n → p j = false) ∨ (lastP p d n = d ∧ ∀ j, j < n → p j = false)
  | 0 => .inr ⟨rfl, fun j h => by omega⟩
  | n + 1 => by
    rw [lastP]
    by_cases hp : p n = true
    · rw [if_pos hp]
      exact .inl ⟨by omega, hp, fun j h1 h2 => by omega⟩
    · rw [if_neg hp]
      have hp' : p n = false := by simpa using hp
      rcases lastP_spec (p := p) (d := d) n with ⟨h1, h2, h3⟩ | ⟨h1, h2⟩
      · refine .inl ⟨by omega, h2, fun j g1 g2 => ?_⟩
        by_cases he : j = n
        · rw [he]; exact hp'
        · exact h3 j g1 (by omega)
      · refine .inr ⟨h1, fun j g => ?_⟩
        by_cases he : j = n
        · rw [he]; exact hp'
        · exact h2 j (by omega)
theorem pnt_spec (l : List Pt) (x : Int) : (pnt l x < l.length ∧ (ptat l (pnt l x)).time ≤ x ∧ ∀ j, pnt l x < j → j < l.length → x < (ptat l j).time) ∨ (pnt l x = l.length - 1 ∧ ∀ j, j < l.length → x < (ptat l j).time) := by
  rcases lastP_spec (p := isLe l x) (d := l.length - 1) l.length with ⟨h1, h2, h3⟩ | ⟨h1, h2⟩
  · exact .inl ⟨h1, of_decide_eq_true h2, fun j g1 g2 => by have := of_decide_eq_false (h3 j g1 g2); omega⟩
  · exact .inr ⟨h1, fun j g => by have := of_decide_eq_false (h2 j g); omega⟩
theorem nx_eq {l : List Pt} {i : Nat} (h : i + 1 < l.length) : (i + 1) % l.length = i + 1 := Nat.mod_eq_of_lt h
theorem nx_last {l : List Pt} (h : 0 < l.length) : (l.length - 1 + 1) % l.length = 0 := by
  rw [show l.length - 1 + 1 = l.length by omega, Nat.mod_self]
/-- A second later: the same point, a second more; or the next one, at its time. -/
theorem pnt_step {l : List Pt} (h : RightPts l) {x y : Int} (_h0 : 0 ≤ x) (_h1 : x < 86400) (hy : y = x + 1 ∧ y < 86400 ∨ x = 86399 ∧ y = 0) :
    (pnt l y = pnt l x ∧ goneF l y (pnt l y) = goneF l x (pnt l x) + 1) ∨ (pnt l y = (pnt l x + 1) % l.length ∧ goneF l y (pnt l y) = 0 ∧ goneF l x (pnt l x) + 1 = behD l (pnt l x)) := by
  have hp := h.pos
  have hlast := nx_last hp
  have rl := h.rng (l.length - 1) (by omega)
  have r0 := h.rng 0 hp
  rcases pnt_spec l x with ⟨a1, a2, a3⟩ | ⟨a1, a2⟩
  · generalize pnt l x = i at *
    have ri := h.rng i a1
    rcases hy with ⟨hy, hy2⟩ | ⟨hx, hy⟩
    · rcases pnt_spec l y with ⟨b1, b2, b3⟩ | ⟨b1, b2⟩
      · generalize pnt l y = j at *
        by_cases he : j = i
        · subst he
          refine .inl ⟨rfl, ?_⟩
          unfold goneF
          rw [if_neg (by omega), if_neg (by omega)]
          omega
        · have hij : i < j := Classical.byContradiction fun hc => by
            have := b3 i (by omega) a1
            omega
          have h2 := a3 j hij b1
          have hj : j = i + 1 := Classical.byContradiction fun hc => by
            have h3 := a3 (i + 1) (by omega) (by omega)
            have h4 := asc_lt h (j := i + 1) (k := j) (by omega) b1
            omega
          subst hj
          have e := nx_eq (l := l) (i := i) b1
          refine .inr ⟨e.symm, ?_, ?_⟩
          · unfold goneF
            rw [if_neg (by omega)]
            omega
          · unfold goneF behD
            rw [e, if_neg (by omega), if_neg (by omega)]
            omega
      · have := b2 i a1
        omega
    · have hi : i = l.length - 1 := Classical.byContradiction fun hc => by
        have := a3 (l.length - 1) (by omega) (by omega)
        omega
      subst hi
      rcases pnt_spec l y with ⟨b1, b2, b3⟩ | ⟨b1, b2⟩
      · generalize pnt l y = j at *
        have hj : j = 0 := Classical.byContradiction fun hc => by
          have h3 := asc_lt h (j := 0) (k := j) (by omega) b1
          omega
        subst hj
        refine .inr ⟨hlast.symm, ?_, ?_⟩
        · unfold goneF
          rw [if_neg (by omega)]
          omega
        · unfold goneF behD
          rw [hlast, if_neg (by omega), if_pos (by omega)]
          omega
      · rw [b1]
        refine .inl ⟨rfl, ?_⟩
        have := b2 (l.length - 1) (by omega)
        unfold goneF
        rw [if_pos (by omega), if_neg (by omega)]
        omega
  · rw [a1]
    have hx2 := a2 (l.length - 1) (by omega)
    rcases hy with ⟨hy, hy2⟩ | ⟨hx, hy⟩
    · rcases pnt_spec l y with ⟨b1, b2, b3⟩ | ⟨b1, b2⟩
      · generalize pnt l y = j at *
        have hj : j = 0 := Classical.byContradiction fun hc => by
          have h3 := asc_lt h (j := 0) (k := j) (by omega) b1
          have h4 := a2 0 hp
          omega
        subst hj
        have h4 := a2 0 hp
        refine .inr ⟨hlast.symm, ?_, ?_⟩
        · unfold goneF
          rw [if_neg (by omega)]
          omega
        · have h5 : (ptat l 0).time ≤ (ptat l (l.length - 1)).time := by
            by_cases hz : l.length - 1 = 0
            · rw [hz]
              exact Int.le_refl _
            · have := asc_lt h (j := 0) (k := l.length - 1) (by omega) (by omega)
              omega
          unfold goneF behD
          rw [hlast, if_pos (by omega), if_pos (by omega)]
          omega
      · rw [b1]
        refine .inl ⟨rfl, ?_⟩
        have := b2 (l.length - 1) (by omega)
        unfold goneF
        rw [if_pos (by omega), if_pos (by omega)]
        omega
    · omega
theorem gone_le {l : List Pt} (h : RightPts l) {x : Int} (h0 : 0 ≤ x) (h1 : x < 86400) : pnt l x < l.length ∧ 0 ≤ goneF l x (pnt l x) ∧ goneF l x (pnt l x) ≤ behD l (pnt l x) := by
  have hi : pnt l x < l.length := lastP_lt (by have := h.pos; omega) (Nat.le_refl _)
  refine ⟨hi, (goneF_rng h.small hi h0 h1).1, ?_⟩
  have hp := h.pos
  have hlast := nx_last hp
  have rl := h.rng (l.length - 1) (by omega)
  have r0 := h.rng 0 hp
  rcases pnt_spec l x with ⟨a1, a2, a3⟩ | ⟨a1, a2⟩
  · generalize pnt l x = i at *
    have ri := h.rng i a1
    by_cases he : i = l.length - 1
    · subst he
      have h5 : (ptat l 0).time ≤ (ptat l (l.length - 1)).time := by
        by_cases hz : l.length - 1 = 0
        · rw [hz]
          exact Int.le_refl _
        · have := asc_lt h (j := 0) (k := l.length - 1) (by omega) (by omega)
          omega
      unfold goneF behD
      rw [hlast, if_neg (by omega), if_pos (by omega)]
      omega
    · have e := nx_eq (l := l) (i := i) (by omega)
      have h3 := a3 (i + 1) (by omega) (by omega)
      unfold goneF behD
      rw [e, if_neg (by omega), if_neg (by omega)]
      omega
  · rw [a1]
    have h5 : (ptat l 0).time ≤ (ptat l (l.length - 1)).time := by
      by_cases hz : l.length - 1 = 0
      · rw [hz]
        exact Int.le_refl _
      · have := asc_lt h (j := 0) (k := l.length - 1) (by omega) (by omega)
        omega
    have h6 := a2 0 hp
    have h7 := a2 (l.length - 1) (by omega)
    unfold goneF behD
    rw [hlast, if_pos (by omega), if_pos (by omega)]
    omega
theorem behD_ge {l : List Pt} (h : RightPts l) (e : Bool) {k : Nat} (hk : k < l.length) : -(behD l k) ≤ eV e (ptat l ((k + 1) % l.length)) - eV e (ptat l k) := by
  have h1 := h.ord k hk
  have rk := h.rng k hk
  have rn := h.rng _ (nx_lt h.small k)
  have hd : refD l k ≤ behD l k := by
    unfold refD behD modF
    generalize (ptat l ((k + 1) % l.length)).time = a at *
    generalize (ptat l k).time = b at *
    have ht : (a - b).tmod 86400 = a - b := by
      by_cases hs : 0 ≤ a - b
      · exact Int.tmod_eq_of_lt hs (by omega)
      · rw [show a - b = -(b - a) by omega, Int.neg_tmod, Int.tmod_eq_of_lt (by omega) (by omega)]
    rw [ht]
    split <;> split <;> omega
  cases e <;> simp only [eV] <;> omega
theorem takes_step {l : List Pt} (h : RightPts l) (e : Bool) {t : Int} (h0 : 0 ≤ t) : t + takesF e l t ≤ t + 1 + takesF e l (t + 1) := by
  have hx : t.tmod 86400 = t % 86400 := Int.tmod_eq_emod_of_nonneg h0
  have hy : (t + 1).tmod 86400 = (t + 1) % 86400 := Int.tmod_eq_emod_of_nonneg (by omega)
  have e1 := Int.emod_nonneg t (show (86400 : Int) ≠ 0 by decide)
  have e2 := Int.emod_lt_of_pos t (show (0 : Int) < 86400 by decide)
  unfold takesF
  rw [hx, hy]
  have hs := pnt_step h (x := t % 86400) (y := (t + 1) % 86400) e1 e2 (by omega)
  have hg := gone_le h e1 e2
  generalize t % 86400 = x at *
  generalize (t + 1) % 86400 = y at *
  have hb := behD_rng h.small hg.1
  have hc := behD_ge h e hg.1
  rcases hs with ⟨s1, s2⟩ | ⟨s1, s2, s3⟩
  · rw [s2, s1]
    unfold takesAt
    have := line_mono (g := goneF l x (pnt l x)) (g' := goneF l x (pnt l x) + 1) hb.1 hc (by omega)
    omega
  · rw [s2, s1]
    have hz : takesAt e l ((pnt l x + 1) % l.length) 0 = eV e (ptat l ((pnt l x + 1) % l.length)) := by
      unfold takesAt
      rw [Int.mul_zero]
      have : ceilF 0 (behD l ((pnt l x + 1) % l.length)) = 0 := by simp [ceilF]
      omega
    rw [hz]
    unfold takesAt
    have h1 := line_mono (g := goneF l x (pnt l x)) (g' := behD l (pnt l x)) hb.1 hc (by omega)
    rw [ceil_mul _ _ hb.1] at h1
    omega
theorem takes_mono {l : List Pt} (h : RightPts l) (e : Bool) {t : Int} (h0 : 0 ≤ t) : ∀ k : Nat, t + takesF e l t ≤ t + k + takesF e l (t + k)
  | 0 => by simp
  | k + 1 => by
    have h1 := takes_mono h e h0 k
    have h2 := takes_step h e (t := t + k) (by omega)
    rw [show t + ((k + 1 : Nat) : Int) = t + k + 1 by omega]
    omega
theorem takes_rng {l : List Pt} (h : RightPts l) (e : Bool) {t : Int} (h0 : 0 ≤ t) : 0 ≤ takesF e l t ∧ takesF e l t ≤ 7200 := by
  have hx : t.tmod 86400 = t % 86400 := Int.tmod_eq_emod_of_nonneg h0
  have e1 := Int.emod_nonneg t (show (86400 : Int) ≠ 0 by decide)
  have e2 := Int.emod_lt_of_pos t (show (0 : Int) < 86400 by decide)
  unfold takesF
  rw [hx]
  have hg := gone_le h e1 e2
  generalize t % 86400 = x at *
  have hb := behD_rng h.small hg.1
  have r1 := eV_rng h.small e hg.1
  have r2 := eV_rng h.small e (nx_lt h.small (pnt l x))
  unfold takesAt
  have hc := ceil_btw (c := eV e (ptat l ((pnt l x + 1) % l.length)) - eV e (ptat l (pnt l x))) hb.1 hg.2.1 hg.2.2
  generalize eV e (ptat l ((pnt l x + 1) % l.length)) = b at *
  generalize eV e (ptat l (pnt l x)) = a at *
  by_cases hba : 0 ≤ b - a
  · have := hc.1 hba
    omega
  · have := hc.2 (by omega)
    omega
theorem line_le {a b a' b' d g : Int} (hd : 0 < d) (h0 : 0 ≤ g) (hg : g ≤ d) (ha : a ≤ a') (hb : b ≤ b') : a + ceilF ((b - a) * g) d ≤ a' + ceilF ((b' - a') * g) d := by
  have h := (ceil_up ((b' - a') * g) d hd).1
  have h1 : ceilF ((b - a) * g) d ≤ a' - a + ceilF ((b' - a') * g) d := by
    refine ceil_le hd ?_
    have e1 : (b - a) * g = b * g - a * g := Int.sub_mul _ _ _
    have e2 : (b' - a') * g = b' * g - a' * g := Int.sub_mul _ _ _
    have e3 : (a' - a) * (d - g) = a' * d - a' * g - (a * d - a * g) := by
      rw [Int.mul_sub, Int.sub_mul, Int.sub_mul]; omega
    have k1 : 0 ≤ (a' - a) * (d - g) := Int.mul_nonneg (by omega) (by omega)
    have k2 : b * g ≤ b' * g := Int.mul_le_mul_of_nonneg_right hb h0
    have e4 : (a' - a + ceilF ((b' - a') * g) d) * d = a' * d - a * d + ceilF ((b' - a') * g) d * d := by rw [Int.add_mul, Int.sub_mul]
    have e5 : (a' - a) * d = a' * d - a * d := Int.sub_mul _ _ _
    omega
  omega
theorem takes_lohi {l : List Pt} (h : RightPts l) {t : Int} (h0 : 0 ≤ t) : takesF false l t ≤ takesF true l t := by
  have hx : t.tmod 86400 = t % 86400 := Int.tmod_eq_emod_of_nonneg h0
  have e1 := Int.emod_nonneg t (show (86400 : Int) ≠ 0 by decide)
  have e2 := Int.emod_lt_of_pos t (show (0 : Int) < 86400 by decide)
  unfold takesF
  rw [hx]
  have hg := gone_le h e1 e2
  generalize t % 86400 = x at *
  have hb := behD_rng h.small hg.1
  have r1 := h.rng _ hg.1
  have r2 := h.rng _ (nx_lt h.small (pnt l x))
  unfold takesAt
  exact line_le hb.1 hg.2.1 hg.2.2 r1.2.2.2.2.2.2 r2.2.2.2.2.2.2
/-! ### Roads -/
/-- When one arrives by a road. -/
def alT (e : Bool) (r : Rd) (t : Int) : Int := t + takesF e r.pts t
def alM (r : Rd) (m : Int) : Int := m + r.metres
theorem along_T {n : Nt} (h : RightNet n) (e : Bool) {num : Int} (h0 : 0 ≤ num) : Along n (alT e) num 7200 :=
  ⟨h0, h.p20, fun i hi => by have := (h.road i hi).src; omega, fun i hi => by have := (h.road i hi).dst; omega, fun i hi t h1 _ => by
    have := takes_rng (h.road i hi).pts e (t := t) (by omega)
    unfold alT
    omega⟩
theorem along_M {n : Nt} (h : RightNet n) : Along n alM 0 100000 :=
  ⟨Int.le_refl _, h.p20, fun i hi => by have := (h.road i hi).src; omega, fun i hi => by have := (h.road i hi).dst; omega, fun i hi t h1 _ => by
    have := (h.road i hi).metres
    unfold alM
    omega⟩
theorem mono_T {n : Nt} (h : RightNet n) (e : Bool) {num : Int} (h0 : 0 ≤ num) : Mono n (alT e) num :=
  ⟨fun i hi t h1 => by
    have := takes_rng (h.road i hi).pts e (t := t) (by omega)
    unfold alT
    omega, fun i hi t t' h1 h2 => by
    have := takes_mono (h.road i hi).pts e (t := t) (by omega) (t' - t).toNat
    rw [show t + ((t' - t).toNat : Int) = t' by omega] at this
    exact this⟩
end Go.Proofs.Ytcndlalhkkjocaa
