/- Texts in one: Plates given one by one, each the smallest that is free: the plain law; no program in sight. -/
import Derived.Test.YtmfmpagfjgpodaaMS27
import Derived.Test.YtmfmpagfjgpodaaMS28
/-! VPlateQ: Plates given one by one, each the smallest that is free: the plain law; no program in sight. -/
namespace Go.Proofs.Ytmfmpagfjgpodaa
theorem iat_set {of : List Int} {e k : Nat} {c : Int} (he : e < of.length) : iat (of.set e c) k = if e = k then c else iat of k := by
  unfold iat
  simp only [List.getD_eq_getElem?_getD, List.getElem?_set]
  by_cases h : e = k
  · subst h
    simp [he]
  · simp [h]
/-- The first i in the order have their plates. -/
structure Gr (l : List Rec) (os : List Nat) (of : List Int) (i : Nat) : Prop where
  len : of.length = l.length
  nn : ∀ j, j < i → 0 ≤ iat of (nat_ os j)
  low : ∀ j, j < i → ∀ c : Nat, (c : Int) < iat of (nat_ os j) → ∃ j', j' < j ∧ iat of (nat_ os j') = c ∧ ovU (rat l (nat_ os j)) (rat l (nat_ os j')) = true
  ok : ∀ j, j < i → ∀ j', j' < j → ¬ (iat of (nat_ os j') = iat of (nat_ os j) ∧ ovU (rat l (nat_ os j)) (rat l (nat_ os j')) = true)
  rest : ∀ k, k < l.length → (∀ j, j < i → nat_ os j ≠ k) → iat of k = 0
/-- No number stands twice in the order. -/
def Once (os : List Nat) (n : Nat) : Prop := os.length = n ∧ (∀ j, j < n → nat_ os j < n) ∧ ∀ i j, i < n → j < n → nat_ os i = nat_ os j → i = j
theorem taken_iff {l : List Rec} {os : List Nat} {of : List Int} {i n : Nat} {c : Int} (ho : Once os n) (hi : i < n) (hl : of.length = n) : taken l (of.set (nat_ os i) c) os c (nat_ os i) i = true ↔ ∃ j, j < i ∧ iat of (nat_ os j) = c ∧ ovU (rat l (nat_ os i)) (rat l (nat_ os j)) = true := by
  have he : nat_ os i < of.length := by rw [hl]; exact ho.2.1 i hi
  unfold taken
  rw [anyP_iff]
  constructor
  · rintro ⟨j, _, h2, h3⟩
    simp only [tk, Bool.and_eq_true, decide_eq_true_eq] at h3
    rw [iat_set he, if_neg fun h => by have := ho.2.2 i j hi (by omega) h; omega] at h3
    exact ⟨j, by omega, h3.1, h3.2⟩
  · rintro ⟨j, h1, h2, h3⟩
    refine ⟨j, Nat.zero_le _, by omega, ?_⟩
    simp only [tk, Bool.and_eq_true, decide_eq_true_eq]
    rw [iat_set he, if_neg fun h => by have := ho.2.2 i j hi (by omega) h; omega]
    exact ⟨h2, h3⟩
theorem Gr.step {l : List Rec} {os : List Nat} {of : List Int} {i c : Nat} (g : Gr l os of i) (ho : Once os l.length) (hi : i < l.length) (h1 : taken l (of.set (nat_ os i) (c : Int)) os c (nat_ os i) i = false)
    (h2 : ∀ c' : Nat, c' < c → taken l (of.set (nat_ os i) (c' : Int)) os c' (nat_ os i) i = true) : Gr l os (of.set (nat_ os i) (c : Int)) (i + 1) := by
  have he : nat_ os i < of.length := by rw [g.len]; exact ho.2.1 i hi
  have hne : ∀ j, j < i → ¬ nat_ os i = nat_ os j := fun j hj h => by have := ho.2.2 i j hi (by omega) h; omega
  have hat : ∀ j, j < i → iat (of.set (nat_ os i) (c : Int)) (nat_ os j) = iat of (nat_ os j) := fun j hj => by rw [iat_set he, if_neg (hne j hj)]
  have hme : iat (of.set (nat_ os i) (c : Int)) (nat_ os i) = c := by rw [iat_set he, if_pos rfl]
  refine ⟨by rw [List.length_set, g.len], fun j hj => ?_, fun j hj c' hc => ?_, fun j hj j' hj' => ?_, fun k hk hnot => ?_⟩
  · by_cases h : j = i
    · subst h
      rw [hme]
      omega
    · rw [hat j (by omega)]
      exact g.nn j (by omega)
  · by_cases h : j = i
    · subst h
      rw [hme] at hc
      obtain ⟨j', h3, h4, h5⟩ := (taken_iff ho hi g.len).1 (h2 c' (by omega))
      exact ⟨j', h3, by rw [hat j' h3]; exact h4, h5⟩
    · rw [hat j (by omega)] at hc
      obtain ⟨j', h3, h4, h5⟩ := g.low j (by omega) c' hc
      exact ⟨j', h3, by rw [hat j' (by omega)]; exact h4, h5⟩
  · by_cases h : j = i
    · subst h
      rw [hme, hat j' hj']
      intro hh
      have := (taken_iff (l := l) (c := (c : Int)) ho hi g.len).2 ⟨j', hj', hh.1, hh.2⟩
      rw [h1] at this
      cases this
    · rw [hat j (by omega), hat j' (by omega)]
      exact g.ok j (by omega) j' hj'
  · rw [iat_set he, if_neg (hnot i (by omega))]
    exact g.rest k hk fun j hj => hnot j (by omega)
/-- Not all of the first i plates and one more are taken by i uses. -/
theorem free_le {l : List Rec} {os : List Nat} {of : List Int} {i c : Nat} (g : Gr l os of i) (ho : Once os l.length) (hi : i < l.length) (h : ∀ c' : Nat, c' < c → taken l (of.set (nat_ os i) (c' : Int)) os c' (nat_ os i) i = true) : c ≤ i := by
  have a := pigeon_down (n := i) (col := fun j => iat of (nat_ os j)) c (fun _ => true) fun c' hc => by
    obtain ⟨j, h1, h2, _⟩ := (taken_iff ho hi g.len).1 (h c' hc)
    exact ⟨j, h1, rfl, h2⟩
  have b := cntP_le (fun _ => true) i
  omega
/-- All plates given: they are right, and as many as the most uses at one time. -/
theorem Gr.fin {l : List Rec} {os : List Nat} {of : List Int} (g : Gr l os of l.length) (ho : Once os l.length) (hall : ∀ k, k < l.length → ∃ j, j < l.length ∧ nat_ os j = k) (hsort : ∀ i j, i < j → j < l.length → (rat l (nat_ os i)).lo ≤ (rat l (nat_ os j)).lo) (hp : ∀ k, k < l.length → (rat l k).lo < (rat l k).hi) :
    (∀ k, k < l.length → 0 ≤ iat of k) ∧ ¬ Clash l of ∧ maxTo of l.length = mostTo l l.length := by
  have h0 : ∀ k, k < l.length → 0 ≤ iat of k := fun k hk => by
    obtain ⟨j, hj, rfl⟩ := hall k hk
    exact g.nn j hj
  have hc : ¬ Clash l of := by
    rintro ⟨i, j, hji, hi, hcl⟩
    obtain ⟨a, ha, rfl⟩ := hall i hi
    obtain ⟨b, hb, rfl⟩ := hall j (by omega)
    have hab : a ≠ b := fun h => by subst h; omega
    by_cases hlt : b < a
    · exact g.ok a ha b hlt ⟨hcl.1, hcl.2⟩
    · exact g.ok b hb a (by omega) ⟨hcl.1.symm, by rw [ovU_comm]; exact hcl.2⟩
  refine ⟨h0, hc, Int.le_antisymm ?_ (plates_most h0 hc)⟩
  have hch : ∃ pos : Nat → Nat, ∀ k, k < l.length → pos k < l.length ∧ nat_ os (pos k) = k := by
    refine ⟨fun k => if h : ∃ j, j < l.length ∧ nat_ os j = k then Classical.choose h else 0, fun k hk => ?_⟩
    have h := hall k hk
    dsimp only
    rw [dif_pos h]
    exact Classical.choose_spec h
  obtain ⟨pos, hpos⟩ := hch
  refine plates_high pos hp (fun i j hi hj hij => ?_) fun k hk => ⟨h0 k hk, fun c hcc => ?_⟩
  · have := hsort (pos i) (pos j) hij (hpos j hj).1
    rwa [(hpos i hi).2, (hpos j hj).2] at this
  · have h1 := hpos k hk
    obtain ⟨j', h2, h3, h4⟩ := g.low (pos k) h1.1 c (by rw [h1.2]; exact hcc)
    rw [h1.2] at h4
    have hj'n : j' < l.length := by omega
    have hn := ho.2.1 j' hj'n
    have hq := hpos _ hn
    have hpj : pos (nat_ os j') = j' := ho.2.2 _ _ hq.1 hj'n hq.2
    exact ⟨nat_ os j', hn, by rw [hpj]; exact h2, h3, h4⟩
theorem Gr.start {l : List Rec} {os : List Nat} : Gr l os (List.replicate l.length 0) 0 := by
  refine ⟨by simp, fun j h => by omega, fun j h => by omega, fun j h => by omega, fun k hk _ => ?_⟩
  rw [iat_get (by simpa using hk)]
  simp
end Go.Proofs.Ytmfmpagfjgpodaa

/-! VPlateG: The plates that the program gives, as functions; no program in sight. -/
namespace Go.Proofs.Ytmfmpagfjgpodaa
/-- The first from c on that is free, n tries at most. -/
def freeF (f : Nat → Bool) : Nat → Nat → Nat
  | 0, c => c
  | n + 1, c => if f c then freeF f n (c + 1) else c
theorem freeF_eq {f : Nat → Bool} {c : Nat} (hc : f c = false) : ∀ (n a : Nat), a ≤ c → c ≤ a + n → (∀ x, a ≤ x → x < c → f x = true) → freeF f n a = c
  | 0, a, h1, h2, _ => by rw [freeF]; omega
  | n + 1, a, h1, h2, h3 => by
    rw [freeF]
    by_cases ha : a = c
    · subst ha
      rw [hc]
      rfl
    · rw [h3 a (Nat.le_refl _) (by omega), if_pos rfl]
      exact freeF_eq hc n (a + 1) (by omega) (by omega) fun x hx1 hx2 => h3 x (by omega) hx2
/-- Whether plate c is taken, when number i of the order is asked. -/
def busy (l : List Rec) (os : List Nat) (of : List Int) (i : Nat) (c : Nat) : Bool := taken l (of.set (nat_ os i) (c : Int)) os c (nat_ os i) i
def plateAt (l : List Rec) (os : List Nat) (of : List Int) (i : Nat) : Nat := freeF (busy l os of i) (i + 1) 0
def gOf (l : List Rec) (os : List Nat) : Nat → List Int
  | 0 => List.replicate l.length 0
  | i + 1 => (gOf l os i).set (nat_ os i) (plateAt l os (gOf l os i) i : Nat)
def gAt (l : List Rec) (os : List Nat) : Nat → Int
  | 0 => 0
  | i + 1 => if usesAt l (gAt l os i) l.length < usesAt l (rat l (nat_ os i)).lo l.length then (rat l (nat_ os i)).lo else gAt l os i
theorem plateAt_eq {l : List Rec} {os : List Nat} {of : List Int} {i c : Nat} (g : Gr l os of i) (ho : Once os l.length) (hi : i < l.length) (h1 : busy l os of i c = false) (h2 : ∀ x, x < c → busy l os of i x = true) : plateAt l os of i = c :=
  freeF_eq h1 _ _ (Nat.zero_le _) (by have := free_le g ho hi h2; omega) fun x _ hx => h2 x hx
/-- There is a free one among the first i + 1. -/
theorem free_ex {l : List Rec} {os : List Nat} {of : List Int} {i : Nat} (g : Gr l os of i) (ho : Once os l.length) (hi : i < l.length) : ∃ c, busy l os of i c = false ∧ ∀ x, x < c → busy l os of i x = true := by
  have h : ¬ ∀ x, x < i + 1 → busy l os of i x = true := fun h => by
    have := free_le g ho hi h
    omega
  have key : ∀ n, (¬ ∀ x, x < n → busy l os of i x = true) → ∃ c, busy l os of i c = false ∧ ∀ x, x < c → busy l os of i x = true := by
    intro n
    induction n with
    | zero => intro h; exact absurd (fun x hx => by omega) h
    | succ n ih =>
      intro h
      by_cases hn : ∀ x, x < n → busy l os of i x = true
      · refine ⟨n, ?_, hn⟩
        cases hb : busy l os of i n
        · rfl
        · refine absurd (fun x hx => ?_) h
          by_cases he : x = n
          · rw [he]; exact hb
          · exact hn x (by omega)
      · exact ih hn
  exact key _ h
theorem gOf_gr {l : List Rec} {os : List Nat} (ho : Once os l.length) : ∀ i, i ≤ l.length → Gr l os (gOf l os i) i
  | 0, _ => Gr.start
  | i + 1, h => by
    have g := gOf_gr ho i (by omega)
    obtain ⟨c, h1, h2⟩ := free_ex g ho (by omega)
    rw [gOf, plateAt_eq g ho (by omega) h1 h2]
    exact g.step ho (by omega) h1 h2
theorem gAt_most {l : List Rec} {os : List Nat} : ∀ i, ∀ j, j < i → usesAt l (rat l (nat_ os j)).lo l.length ≤ usesAt l (gAt l os i) l.length
  | 0, j, h => by omega
  | i + 1, j, h => by
    rw [gAt]
    by_cases hj : j = i
    · subst hj
      split
      · exact Nat.le_refl _
      · omega
    · have := gAt_most (l := l) (os := os) i j (by omega)
      split
      · omega
      · exact this
end Go.Proofs.Ytmfmpagfjgpodaa
