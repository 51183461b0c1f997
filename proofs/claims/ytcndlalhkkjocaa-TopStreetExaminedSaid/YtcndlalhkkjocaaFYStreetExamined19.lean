/- Texts in one: Chapter 3: labels of places that grow along roads, as plain functions; no condition. -/
import Derived.Test.YtcndlalhkkjocaaFYStreetExamined15
/-! SYG: Chapter 3: labels of places that grow along roads, as plain functions; no condition. -/
namespace Go.Proofs.Ytcndlalhkkjocaa
open Go.RowKit
/-! ### Sums over a list -/
def wS (f : Int → Nat) (l : List Int) : Nat := (l.map f).sum
theorem wS_set (f : Int → Nat) (x : Int) : ∀ {l : List Int} {v : Nat}, v < l.length → wS f (l.set v x) + f (iat l v) = wS f l + f x
  | [], v, h => by simp at h
  | a :: l, 0, _ => by simp [wS, iat]; omega
  | a :: l, v + 1, h => by
    have ih := wS_set f x (l := l) (v := v) (by simpa using h)
    simp only [List.set_cons_succ]
    have e : iat (a :: l) (v + 1) = iat l v := by simp [iat]
    rw [e]
    simp only [wS, List.map_cons, List.sum_cons] at ih ⊢
    omega
theorem wS_le (f : Int → Nat) (b : Nat) (hf : ∀ x, f x ≤ b) : ∀ l : List Int, wS f l ≤ b * l.length
  | [] => by simp [wS]
  | a :: l => by
    have ih := wS_le f b hf l
    have := hf a
    simp only [wS, List.map_cons, List.sum_cons, List.length_cons] at ih ⊢
    rw [Nat.mul_add]
    omega
theorem iat_set (l : List Int) (v : Nat) (x : Int) (u : Nat) (hv : v < l.length) : iat (l.set v x) u = if u = v then x else iat l u := by
  simp only [iat, List.getD_eq_getElem?_getD, List.getElem?_set]
  by_cases h : v = u
  · subst h
    simp [hv]
  · rw [if_neg h, if_neg fun e => h e.symm]
/-! ### Labels -/
structure Gs where
  L : List Int
  W : List Int
  ch : Bool
def stepG (n : Nt) (al : Rd → Int → Int) (i : Nat) (s : Gs) : Gs :=
  if iat s.L (rdat n.roads i).src.toNat = -1 then s else
  if iat s.L (rdat n.roads i).dst.toNat = -1 ∨ al (rdat n.roads i) (iat s.L (rdat n.roads i).src.toNat) < iat s.L (rdat n.roads i).dst.toNat then
    ⟨s.L.set (rdat n.roads i).dst.toNat (al (rdat n.roads i) (iat s.L (rdat n.roads i).src.toNat)), s.W.set (rdat n.roads i).dst.toNat (i : Int), true⟩ else s
def roundG (n : Nt) (al : Rd → Int → Int) : Nat → Gs → Gs
  | 0, s => s
  | k + 1, s => stepG n al k (roundG n al k s)
def growF (n : Nt) (al : Rd → Int → Int) : Nat → List Int → List Int → List Int × List Int
  | 0, L, W => (L, W)
  | f + 1, L, W => if (roundG n al n.roads.length ⟨L, W, false⟩).ch = true then growF n al f (roundG n al n.roads.length ⟨L, W, false⟩).L (roundG n al n.roads.length ⟨L, W, false⟩).W else ((roundG n al n.roads.length ⟨L, W, false⟩).L, (roundG n al n.roads.length ⟨L, W, false⟩).W)
/-- What is asked of a net and of what roads make of numbers: from num on, by M at most. -/
structure Along (n : Nt) (al : Rd → Int → Int) (num : Int) (M : Nat) : Prop where
  num0 : 0 ≤ num
  p20 : n.places.length ≤ 20
  src : ∀ i, i < n.roads.length → 0 ≤ (rdat n.roads i).src ∧ (rdat n.roads i).src.toNat < n.places.length
  dst : ∀ i, i < n.roads.length → 0 ≤ (rdat n.roads i).dst ∧ (rdat n.roads i).dst.toNat < n.places.length
  up : ∀ i, i < n.roads.length → ∀ t, num ≤ t → t ≤ num + 20 * M → t ≤ al (rdat n.roads i) t ∧ al (rdat n.roads i) t ≤ t + M
def cnt (l : List Int) : Nat := wS (fun x => if x = -1 then 0 else 1) l
def mu (B : Nat) (l : List Int) : Nat := wS (fun x => if x = -1 then B + 1 else x.toNat) l
structure GI (n : Nt) (num : Int) (M : Nat) (s : Gs) : Prop where
  L : s.L.length = n.places.length
  W : s.W.length = n.places.length
  rng : ∀ v, v < n.places.length → iat s.L v = -1 ∨ (num ≤ iat s.L v ∧ iat s.L v ≤ num + ((cnt s.L - 1 : Nat) : Int) * M)
theorem cnt_le (l : List Int) : cnt l ≤ l.length := by
  have := wS_le (fun x => if x = -1 then 0 else 1) 1 (fun x => by split <;> omega) l
  unfold cnt
  omega
theorem cnt_pos : ∀ {l : List Int} {v : Nat}, v < l.length → iat l v ≠ -1 → 0 < cnt l
  | [], v, h, _ => by simp at h
  | a :: l, 0, _, h => by
    have : a ≠ -1 := by simpa [iat] using h
    simp [cnt, wS, this]
    omega
  | a :: l, v + 1, hl, h => by
    have := cnt_pos (l := l) (v := v) (by simpa using hl) (by simpa [iat] using h)
    simp only [cnt, wS, List.map_cons, List.sum_cons] at this ⊢
    omega
theorem GI.top {n : Nt} {num : Int} {M : Nat} {s : Gs} (h : GI n num M s) (h20 : n.places.length ≤ 20) {v : Nat} (hv : v < n.places.length) : iat s.L v = -1 ∨ (num ≤ iat s.L v ∧ iat s.L v ≤ num + 19 * (M : Int)) := by
  rcases h.rng v hv with h1 | ⟨h1, h2⟩
  · exact .inl h1
  · refine .inr ⟨h1, Int.le_trans h2 ?_⟩
    have hc := cnt_le s.L
    have hl := h.L
    have : ((cnt s.L - 1 : Nat) : Int) * (M : Int) ≤ 19 * (M : Int) := Int.mul_le_mul_of_nonneg_right (by omega) (by omega)
    omega
theorem stepG_ok {n : Nt} {al : Rd → Int → Int} {num : Int} {M : Nat} {i : Nat} {s : Gs} (A : Along n al num M) (hi : i < n.roads.length) (h : GI n num M s) :
    GI n num M (stepG n al i s) ∧ ((stepG n al i s = s) ∨ ((stepG n al i s).ch = true ∧ mu (num + 20 * M).toNat (stepG n al i s).L < mu (num + 20 * M).toNat s.L)) := by
  unfold stepG
  split
  · exact ⟨h, .inl rfl⟩
  · rename_i h1
    split
    · rename_i h2
      have hs := A.src i hi
      have hd := A.dst i hi
      have hn := A.num0
      generalize (rdat n.roads i).src.toNat = u at *
      generalize (rdat n.roads i).dst.toNat = v at *
      have hu := (h.rng u hs.2).resolve_left h1
      have hu2 := (h.top A.p20 hs.2).resolve_left h1
      have hup := A.up i hi (iat s.L u) hu.1 (by omega)
      have hcp := cnt_pos (l := s.L) (v := u) (by rw [h.L]; exact hs.2) h1
      generalize al (rdat n.roads i) (iat s.L u) = t at *
      have hvl : v < s.L.length := by rw [h.L]; exact hd.2
      have ht : t ≠ -1 := by omega
      have hc := wS_set (fun x => if x = -1 then 0 else 1) t hvl
      have hm := wS_set (fun x => if x = -1 then (num + 20 * M).toNat + 1 else x.toNat) t hvl
      simp only [if_neg ht] at hc hm
      have hMM : ((cnt s.L - 1 : Nat) : Int) * M + M = (cnt s.L : Int) * M := by
        rw [show (cnt s.L : Int) = ((cnt s.L - 1 : Nat) : Int) + 1 by omega, Int.add_mul]
        omega
      refine ⟨⟨by simpa using h.L, by simpa using h.W, fun w hw => ?_⟩, .inr ⟨rfl, ?_⟩⟩
      · simp only
        rw [iat_set _ _ _ _ hvl]
        have hmono : cnt s.L ≤ cnt (s.L.set v t) := by
          unfold cnt
          split at hc <;> omega
        have hmul : ((cnt s.L - 1 : Nat) : Int) * M ≤ ((cnt (s.L.set v t) - 1 : Nat) : Int) * M := Int.mul_le_mul_of_nonneg_right (by omega) (by omega)
        by_cases hwv : w = v
        · rw [if_pos hwv]
          refine .inr ⟨by omega, ?_⟩
          by_cases hv1 : iat s.L v = -1
          · rw [if_pos hv1] at hc
            have hcc : cnt (s.L.set v t) = cnt s.L + 1 := by unfold cnt; omega
            rw [hcc, Nat.add_sub_cancel, ← hMM]
            omega
          · have h3 := (h.rng v hd.2).resolve_left hv1
            have h4 := h2.resolve_left hv1
            omega
        · rw [if_neg hwv]
          rcases h.rng w hw with h3 | ⟨h3, h4⟩
          · exact .inl h3
          · exact .inr ⟨h3, by omega⟩
      · simp only [mu]
        by_cases hv1 : iat s.L v = -1
        · rw [if_pos hv1] at hm
          have : t.toNat ≤ (num + 20 * M).toNat := by omega
          omega
        · rw [if_neg hv1] at hm
          have h4 := h2.resolve_left hv1
          omega
    · exact ⟨h, .inl rfl⟩
theorem roundG_ok {n : Nt} {al : Rd → Int → Int} {num : Int} {M : Nat} {s : Gs} (A : Along n al num M) (h : GI n num M s) : ∀ k, k ≤ n.roads.length →
    GI n num M (roundG n al k s) ∧ ((roundG n al k s = s) ∨ ((roundG n al k s).ch = true ∧ mu (num + 20 * M).toNat (roundG n al k s).L < mu (num + 20 * M).toNat s.L))
  | 0, _ => ⟨h, .inl rfl⟩
  | k + 1, hk => by
    obtain ⟨h1, h2⟩ := roundG_ok A h k (by omega)
    obtain ⟨h3, h4⟩ := stepG_ok (i := k) A (by omega) h1
    refine ⟨h3, ?_⟩
    change (stepG n al k (roundG n al k s) = s) ∨ ((stepG n al k (roundG n al k s)).ch = true ∧ mu _ (stepG n al k (roundG n al k s)).L < _)
    rcases h4 with h4 | ⟨h4, h5⟩
    · rw [h4]
      exact h2
    · rcases h2 with h2 | ⟨_, h2⟩
      · rw [h2] at h4 h5 ⊢
        exact .inr ⟨h4, h5⟩
      · exact .inr ⟨h4, by omega⟩
/-! ### Ways -/
/-- A way from a place to another one, its last road ahead. -/
def wk (n : Nt) (a : Nat) : List Nat → Nat → Prop
  | [], v => v = a
  | i :: w, v => i < n.roads.length ∧ (rdat n.roads i).dst.toNat = v ∧ wk n a w (rdat n.roads i).src.toNat
def ar (n : Nt) (al : Rd → Int → Int) (num : Int) : List Nat → Int
  | [] => num
  | i :: w => al (rdat n.roads i) (ar n al num w)
/-- Roads make more of more. -/
structure Mono (n : Nt) (al : Rd → Int → Int) (num : Int) : Prop where
  up : ∀ i, i < n.roads.length → ∀ t, num ≤ t → t ≤ al (rdat n.roads i) t
  mono : ∀ i, i < n.roads.length → ∀ t t', num ≤ t → t ≤ t' → al (rdat n.roads i) t ≤ al (rdat n.roads i) t'
theorem ar_ge {n : Nt} {al : Rd → Int → Int} {num : Int} (H : Mono n al num) {a : Nat} : ∀ {w : List Nat} {v : Nat}, wk n a w v → num ≤ ar n al num w
  | [], _, _ => Int.le_refl _
  | i :: w, v, h => by
    have h1 := ar_ge H h.2.2
    exact Int.le_trans h1 (H.up i h.1 _ h1)
def nodes (n : Nt) : List Nat → Nat → List Nat
  | [], v => [v]
  | i :: w, v => v :: nodes n w (rdat n.roads i).src.toNat
theorem nodes_len (n : Nt) : ∀ (w : List Nat) (v : Nat), (nodes n w v).length = w.length + 1
  | [], _ => rfl
  | i :: w, v => by simp [nodes, nodes_len n w]
theorem nodes_lt {n : Nt} {a : Nat} (hs : ∀ i, i < n.roads.length → (rdat n.roads i).src.toNat < n.places.length) : ∀ {w : List Nat} {v : Nat}, wk n a w v → v < n.places.length → ∀ x ∈ nodes n w v, x < n.places.length
  | [], v, _, hv, x, hx => by
    simp only [nodes, List.mem_singleton] at hx
    omega
  | i :: w, v, h, hv, x, hx => by
    simp only [nodes, List.mem_cons] at hx
    rcases hx with rfl | hx
    · exact hv
    · exact nodes_lt hs h.2.2 (hs i h.1) x hx
theorem nodes_mem {n : Nt} {al : Rd → Int → Int} {num : Int} (H : Mono n al num) {a : Nat} : ∀ {w : List Nat} {v : Nat}, wk n a w v → ∀ x ∈ nodes n w v, ∃ w', wk n a w' x ∧ w'.length ≤ w.length ∧ ar n al num w' ≤ ar n al num w
  | [], v, h, x, hx => by
    simp only [nodes, List.mem_singleton] at hx
    subst hx
    exact ⟨[], h, Nat.le_refl _, Int.le_refl _⟩
  | i :: w, v, h, x, hx => by
    simp only [nodes, List.mem_cons] at hx
    rcases hx with rfl | hx
    · exact ⟨i :: w, h, Nat.le_refl _, Int.le_refl _⟩
    · obtain ⟨w', h1, h2, h3⟩ := nodes_mem H h.2.2 x hx
      exact ⟨w', h1, by simp; omega, Int.le_trans h3 (H.up i h.1 _ (ar_ge H h.2.2))⟩
theorem shorten {n : Nt} {al : Rd → Int → Int} {num : Int} (H : Mono n al num) {a : Nat} : ∀ {w : List Nat} {v : Nat}, wk n a w v → (nodes n w v).Nodup ∨ ∃ w', wk n a w' v ∧ w'.length < w.length ∧ ar n al num w' ≤ ar n al num w
  | [], v, h => .inl (by simp [nodes])
  | i :: w, v, h => by
    rcases shorten H h.2.2 with h1 | ⟨w', h1, h2, h3⟩
    · by_cases hv : v ∈ nodes n w (rdat n.roads i).src.toNat
      · obtain ⟨w', g1, g2, g3⟩ := nodes_mem H h.2.2 v hv
        exact .inr ⟨w', g1, by simp; omega, Int.le_trans g3 (H.up i h.1 _ (ar_ge H h.2.2))⟩
      · exact .inl (List.nodup_cons.2 ⟨hv, h1⟩)
    · exact .inr ⟨i :: w', ⟨h.1, h.2.1, h1⟩, by simpa using h2, H.mono i h.1 _ _ (ar_ge H h1) h3⟩
theorem nodup_len {α : Type} : ∀ {l m : List α}, l.Nodup → (∀ x ∈ l, x ∈ m) → l.length ≤ m.length
  | [], _, _, _ => Nat.zero_le _
  | a :: l, m, h, hs => by
    obtain ⟨s, t, rfl⟩ := List.append_of_mem (hs a (by simp))
    have h1 := nodup_len (l := l) (m := s ++ t) (List.nodup_cons.1 h).2 fun x hx => by
      have := hs x (by simp [hx])
      have hne : x ≠ a := fun e => (List.nodup_cons.1 h).1 (by rw [← e]; exact hx)
      simp only [List.mem_append, List.mem_cons] at this ⊢
      rcases this with h | h | h
      · exact .inl h
      · exact absurd h hne
      · exact .inr h
    simp only [List.length_cons, List.length_append] at h1 ⊢
    omega
/-- Each way has one of fewer roads than there are places that arrives no later. -/
theorem short {n : Nt} {al : Rd → Int → Int} {num : Int} (H : Mono n al num) (hs : ∀ i, i < n.roads.length → (rdat n.roads i).src.toNat < n.places.length) {a : Nat} {v : Nat} (hv : v < n.places.length) :
    ∀ (m : Nat) {w : List Nat}, w.length ≤ m → wk n a w v → ∃ w', wk n a w' v ∧ w'.length < n.places.length ∧ ar n al num w' ≤ ar n al num w
  | m, w, hm, h => by
    rcases shorten H h with h1 | ⟨w', h1, h2, h3⟩
    · refine ⟨w, h, ?_, Int.le_refl _⟩
      have := nodup_len h1 (m := List.range n.places.length) fun x hx => List.mem_range.2 (nodes_lt hs h hv x hx)
      rw [nodes_len, List.length_range] at this
      omega
    · match m with
      | 0 => omega
      | m + 1 =>
        obtain ⟨w2, g1, g2, g3⟩ := short H hs hv m (by omega) h1
        exact ⟨w2, g1, g2, Int.le_trans g3 h3⟩
/-! ### What the labels are in the end -/
/-- The first place's label is there and is no more than num. -/
def Src (num : Int) (a : Nat) (L : List Int) : Prop := iat L a ≠ -1 ∧ iat L a ≤ num
theorem stepG_src {n : Nt} {al : Rd → Int → Int} {num : Int} {M : Nat} {a i : Nat} {s : Gs} (A : Along n al num M) (hi : i < n.roads.length) (h : GI n num M s) (hw : Src num a s.L) : Src num a (stepG n al i s).L := by
  unfold stepG
  split
  · exact hw
  · rename_i h1
    split
    · rename_i h2
      have hd := A.dst i hi
      have hs := A.src i hi
      have hvl : (rdat n.roads i).dst.toNat < s.L.length := by rw [h.L]; exact hd.2
      have hu := (h.top A.p20 hs.2).resolve_left h1
      have hup := A.up i hi _ hu.1 (by omega)
      have hn := A.num0
      unfold Src at hw ⊢
      simp only
      rw [iat_set _ _ _ _ hvl]
      by_cases he : a = (rdat n.roads i).dst.toNat
      · rw [if_pos he]
        rw [← he] at h2
        have := h2.resolve_left hw.1
        omega
      · rw [if_neg he]
        exact hw
    · exact hw
theorem roundG_src {n : Nt} {al : Rd → Int → Int} {num : Int} {M : Nat} {a : Nat} {s : Gs} (A : Along n al num M) (h : GI n num M s) (hw : Src num a s.L) : ∀ k, k ≤ n.roads.length → Src num a (roundG n al k s).L
  | 0, _ => hw
  | k + 1, hk => stepG_src A (by omega) (roundG_ok A h k (by omega)).1 (roundG_src A h hw k (by omega))
theorem stepG_ch {n : Nt} {al : Rd → Int → Int} {i : Nat} {s : Gs} (h : s.ch = true) : (stepG n al i s).ch = true := by
  unfold stepG
  split
  · exact h
  · split
    · rfl
    · exact h
theorem roundG_ch {n : Nt} {al : Rd → Int → Int} {s : Gs} : ∀ {k m : Nat}, k ≤ m → (roundG n al k s).ch = true → (roundG n al m s).ch = true
  | k, 0, h, hc => by
    obtain rfl : k = 0 := by omega
    exact hc
  | k, m + 1, h, hc => by
    by_cases he : k = m + 1
    · subst he
      exact hc
    · exact stepG_ch (roundG_ch (m := m) (by omega) hc)
/-- No road makes a label less. -/
def Fix (n : Nt) (al : Rd → Int → Int) (L : List Int) : Prop := ∀ i, i < n.roads.length → iat L (rdat n.roads i).src.toNat ≠ -1 → iat L (rdat n.roads i).dst.toNat ≠ -1 ∧ iat L (rdat n.roads i).dst.toNat ≤ al (rdat n.roads i) (iat L (rdat n.roads i).src.toNat)
theorem roundG_fix {n : Nt} {al : Rd → Int → Int} {num : Int} {M : Nat} {s : Gs} (A : Along n al num M) (h : GI n num M s) (hs : s.ch = false) (hc : (roundG n al n.roads.length s).ch = false) : roundG n al n.roads.length s = s ∧ Fix n al s.L := by
  have hz : ∀ k, k ≤ n.roads.length → roundG n al k s = s := fun k hk => by
    rcases (roundG_ok A h k hk).2 with h1 | ⟨h1, _⟩
    · exact h1
    · rw [roundG_ch hk h1] at hc
      cases hc
  refine ⟨hz _ (Nat.le_refl _), fun i hi h1 => ?_⟩
  have e1 := hz i (by omega)
  have e2 := hz (i + 1) (by omega)
  rw [roundG, e1] at e2
  unfold stepG at e2
  rw [if_neg h1] at e2
  split at e2
  · have : s.ch = true := by rw [← e2]
    rw [hs] at this
    cases this
  · rename_i h2
    rw [not_or] at h2
    exact ⟨h2.1, by omega⟩
/-- What is known of the labels. -/
structure Labels (n : Nt) (al : Rd → Int → Int) (num : Int) (M : Nat) (a : Nat) (L : List Int) : Prop where
  len : L.length = n.places.length
  rng : ∀ v, v < n.places.length → iat L v = -1 ∨ (num ≤ iat L v ∧ iat L v ≤ num + 19 * (M : Int))
  src : Src num a L
  fix : Fix n al L
theorem growF_ok {n : Nt} {al : Rd → Int → Int} {num : Int} {M : Nat} {a : Nat} (A : Along n al num M) : ∀ (f : Nat) (L W : List Int) (b : Bool), GI n num M ⟨L, W, b⟩ → Src num a L → mu (num + 20 * M).toNat L < f → Labels n al num M a (growF n al f L W).1 ∧ (growF n al f L W).2.length = n.places.length
  | 0, L, W, b, h, hs, hf => by omega
  | f + 1, L, W, b, h, hs, hf => by
    have h0 : GI n num M ⟨L, W, false⟩ := ⟨h.L, h.W, h.rng⟩
    obtain ⟨h1, h2⟩ := roundG_ok A h0 _ (Nat.le_refl _)
    have h3 := roundG_src A h0 (a := a) hs _ (Nat.le_refl _)
    rw [growF]
    split
    · rename_i hc
      rcases h2 with h2 | ⟨_, h2⟩
      · rw [h2] at hc
        cases hc
      · exact growF_ok A f _ _ true ⟨h1.L, h1.W, h1.rng⟩ h3 (by simp only at h2; omega)
    · rename_i hc
      obtain ⟨e1, e2⟩ := roundG_fix A h0 rfl (by simpa using hc)
      rw [e1]
      exact ⟨⟨h.L, fun v hv => h0.top A.p20 hv, hs, e2⟩, h.W⟩
/-- The labels at the beginning. -/
def lab0 (p a : Nat) (num : Int) : List Int := (List.replicate p (-1)).set a num
theorem iat_rep {p v : Nat} (h : v < p) : iat (List.replicate p (-1)) v = -1 := by simp [iat, h]
theorem lab0_ok {n : Nt} {num : Int} {M : Nat} {a : Nat} (h0 : 0 ≤ num) (ha : a < n.places.length) : GI n num M ⟨lab0 n.places.length a num, List.replicate n.places.length (-1), true⟩ ∧ Src num a (lab0 n.places.length a num) := by
  have e : ∀ v, v < n.places.length → iat (lab0 n.places.length a num) v = if v = a then num else -1 := fun v hv => by
    rw [lab0, iat_set _ _ _ _ (by simpa using ha), iat_rep hv]
  refine ⟨⟨by simp [lab0], by simp, fun v hv => ?_⟩, ?_⟩
  · simp only
    rw [e v hv]
    split
    · refine .inr ⟨Int.le_refl _, ?_⟩
      have : (0 : Int) ≤ ((cnt (lab0 n.places.length a num) - 1 : Nat) : Int) * (M : Int) := Int.mul_nonneg (by omega) (by omega)
      omega
    · exact .inl rfl
  · unfold Src
    rw [e a ha, if_pos rfl]
    exact ⟨by omega, Int.le_refl _⟩
def growN (n : Nt) (num : Int) (M : Nat) (a : Nat) : Nat := mu (num + 20 * M).toNat (lab0 n.places.length a num) + 1
/-- All labels from a place, and the roads by which they are. -/
def growL (n : Nt) (al : Rd → Int → Int) (num : Int) (M : Nat) (a : Nat) : List Int × List Int := growF n al (growN n num M a) (lab0 n.places.length a num) (List.replicate n.places.length (-1))
theorem growL_ok {n : Nt} {al : Rd → Int → Int} {num : Int} {M : Nat} {a : Nat} (A : Along n al num M) (ha : a < n.places.length) : Labels n al num M a (growL n al num M a).1 ∧ (growL n al num M a).2.length = n.places.length :=
  growF_ok A _ _ _ _ (lab0_ok A.num0 ha).1 (lab0_ok (M := M) A.num0 ha).2 (by unfold growN; omega)
end Go.Proofs.Ytcndlalhkkjocaa
