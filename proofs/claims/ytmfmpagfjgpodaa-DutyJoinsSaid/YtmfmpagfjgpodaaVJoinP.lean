/- Two drivers' records joined: the plain law; no program in sight. -/
import Derived.Test.YtmfmpagfjgpodaaSpec4
namespace Go.Proofs.Ytmfmpagfjgpodaa
def Dis (x y : Rec) : Prop := x.hi ≤ y.lo ∨ y.hi ≤ x.lo
theorem Dis.symm {x y : Rec} (h : Dis x y) : Dis y x := by rcases h with h | h; exact .inr h; exact .inl h
def Aft (x y : Rec) : Prop := x.hi ≤ y.lo
def Pos (l : List Rec) : Prop := ∀ x ∈ l, x.lo < x.hi
def ov (x y : Rec) : Bool := decide (x.lo < y.hi) && decide (y.lo < x.hi)
theorem ov_dis {x y : Rec} : ov x y = false ↔ Dis x y := by
  unfold ov Dis
  by_cases h1 : x.lo < y.hi <;> by_cases h2 : y.lo < x.hi <;> simp [h1, h2] <;> omega
/-- Some record of a overlaps some of b. -/
def Ovl (a b : List Rec) : Prop := ∃ x ∈ a, ∃ y ∈ b, ov x y = true
theorem not_ovl {a b : List Rec} (h : ¬ Ovl a b) {x y : Rec} (hx : x ∈ a) (hy : y ∈ b) : Dis x y := by
  refine ov_dis.1 ?_
  cases h2 : ov x y
  · rfl
  · exact absurd ⟨x, hx, y, hy, h2⟩ h
theorem Aft.dis {l : List Rec} (h : l.Pairwise Aft) : l.Pairwise Dis := h.imp fun h => .inl h
theorem aft_of {l : List Rec} (hp : Pos l) (hs : l.Pairwise fun x y => x.lo ≤ y.lo) (hd : l.Pairwise Dis) : l.Pairwise Aft := by
  have := List.Pairwise.and_mem.1 (hs.and hd)
  refine this.imp ?_
  rintro x y ⟨hx, hy, h1, h2 | h2⟩
  · exact h2
  · have := hp x hx
    have := hp y hy
    unfold Aft
    omega
/-- Neighbours that lie one behind the other: all do. -/
theorem aft_chain : ∀ {l : List Rec}, Pos l → (∀ k (h : k + 1 < l.length), l[k].hi ≤ l[k + 1].lo) → l.Pairwise Aft
  | [], _, _ => .nil
  | [x], _, _ => by simp
  | x :: y :: l, hp, h => by
    have ih := aft_chain (l := y :: l) (fun z hz => hp z (List.mem_cons_of_mem _ hz)) fun k hk => by
      have := h (k + 1) (by simpa using hk)
      simpa using this
    refine List.pairwise_cons.2 ⟨fun z hz => ?_, ih⟩
    have h0 := h 0 (by simp)
    simp only [List.getElem_cons_zero, List.getElem_cons_succ] at h0
    rcases List.mem_cons.1 hz with rfl | hz
    · exact h0
    · have h1 := (List.pairwise_cons.1 ih).1 z hz
      have h2 := hp y (by simp)
      unfold Aft at *
      omega
/-- The two, the earlier ahead. -/
def mergeL : List Rec → List Rec → List Rec
  | [], ys => ys
  | x :: xs, [] => x :: xs
  | x :: xs, y :: ys => if x.lo < y.lo then x :: mergeL xs (y :: ys) else y :: mergeL (x :: xs) ys
termination_by xs ys => xs.length + ys.length
theorem mergeL_nil (xs : List Rec) : mergeL xs [] = xs := by cases xs <;> simp [mergeL]
theorem mergeL_perm : ∀ (n : Nat) (a b : List Rec), a.length + b.length ≤ n → (mergeL a b).Perm (a ++ b)
  | _, [], ys, _ => by simp [mergeL]
  | _, x :: xs, [], _ => by simp [mergeL]
  | 0, x :: xs, y :: ys, h => by simp at h
  | n + 1, x :: xs, y :: ys, h => by
    simp only [List.length_cons] at h
    rw [mergeL]
    split
    · exact (mergeL_perm n xs (y :: ys) (by simp only [List.length_cons]; omega)).cons x
    · have := (mergeL_perm n (x :: xs) ys (by simp only [List.length_cons]; omega)).cons y
      exact this.trans (List.perm_middle.symm)
theorem mergeL_aft : ∀ (n : Nat) (a b : List Rec), a.length + b.length ≤ n → Pos a → Pos b → a.Pairwise Aft → b.Pairwise Aft → (∀ x ∈ a, ∀ y ∈ b, Dis x y) → (mergeL a b).Pairwise Aft
  | _, [], ys, _, _, _, _, hb, _ => by simpa [mergeL] using hb
  | _, x :: xs, [], _, _, _, ha, _, _ => by simpa [mergeL] using ha
  | 0, x :: xs, y :: ys, h, _, _, _, _, _ => by simp at h
  | n + 1, x :: xs, y :: ys, h, pa, pb, ha, hb, hd => by
    simp only [List.length_cons] at h
    obtain ⟨ha1, ha2⟩ := List.pairwise_cons.1 ha
    obtain ⟨hb1, hb2⟩ := List.pairwise_cons.1 hb
    have px := pa x (by simp)
    have py := pb y (by simp)
    have hxy := hd x (by simp) y (by simp)
    rw [mergeL]
    split
    · rename_i hlt
      refine List.pairwise_cons.2 ⟨fun z hz => ?_, mergeL_aft n xs (y :: ys) (by simp only [List.length_cons]; omega) (fun z hz => pa z (List.mem_cons_of_mem _ hz)) pb ha2 hb fun u hu v hv => hd u (List.mem_cons_of_mem _ hu) v hv⟩
      have hxy' : x.hi ≤ y.lo := by unfold Dis at hxy; omega
      have hz' := (mergeL_perm _ xs (y :: ys) (Nat.le_refl _)).mem_iff.1 hz
      rcases List.mem_append.1 hz' with hz' | hz'
      · exact ha1 z hz'
      · rcases List.mem_cons.1 hz' with rfl | hz'
        · exact hxy'
        · have := hb1 z hz'
          unfold Aft at *
          omega
    · rename_i hge
      refine List.pairwise_cons.2 ⟨fun z hz => ?_, mergeL_aft n (x :: xs) ys (by simp only [List.length_cons]; omega) pa (fun z hz => pb z (List.mem_cons_of_mem _ hz)) ha hb2 fun u hu v hv => hd u hu v (List.mem_cons_of_mem _ hv)⟩
      have hxy' : y.hi ≤ x.lo := by unfold Dis at hxy; omega
      have hz' := (mergeL_perm _ (x :: xs) ys (Nat.le_refl _)).mem_iff.1 hz
      rcases List.mem_append.1 hz' with hz' | hz'
      · rcases List.mem_cons.1 hz' with rfl | hz'
        · exact hxy'
        · have := ha1 z hz'
          unfold Aft at *
          omega
      · exact hb1 z hz'
theorem aft_eq {l l' : List Rec} (hp : Pos l) (h1 : l.Pairwise Aft) (h2 : l'.Pairwise Aft) (h : l.Perm l') : l = l' := by
  refine List.Perm.eq_of_pairwise (le := Aft) ?_ h1 h2 h
  intro x y hx hy h1 h2
  have p1 := hp x hx
  have p2 := hp y (h.mem_iff.2 hy)
  unfold Aft at h1 h2
  omega
/-- The sorted list of both, and whether two of its neighbours overlap. -/
theorem join_right {a b S : List Rec} (pa : Pos a) (pb : Pos b) (ha : a.Pairwise Aft) (hb : b.Pairwise Aft) (hS : S.Perm (a ++ b)) (hs : S.Pairwise fun x y => x.lo ≤ y.lo) (h : ¬ Ovl a b) :
    S = mergeL a b ∧ ∀ k (hk : k + 1 < S.length), S[k].hi ≤ S[k + 1].lo := by
  have hpS : Pos S := fun x hx => by
    rcases List.mem_append.1 (hS.mem_iff.1 hx) with h | h
    · exact pa x h
    · exact pb x h
  have hd : (a ++ b).Pairwise Dis := List.pairwise_append.2 ⟨Aft.dis ha, Aft.dis hb, fun x hx y hy => not_ovl h hx hy⟩
  have hdS : S.Pairwise Dis := (hS.pairwise_iff (fun h => Dis.symm h)).2 hd
  have hA := aft_of hpS hs hdS
  refine ⟨aft_eq hpS hA (mergeL_aft _ a b (Nat.le_refl _) pa pb ha hb fun x hx y hy => not_ovl h hx hy) (hS.trans (mergeL_perm _ a b (Nat.le_refl _)).symm), fun k hk => ?_⟩
  exact List.pairwise_iff_getElem.1 hA k (k + 1) (by omega) hk (by omega)
theorem join_wrong {a b S : List Rec} (pa : Pos a) (pb : Pos b) (hS : S.Perm (a ++ b)) (h : Ovl a b) : ¬ ∀ k (hk : k + 1 < S.length), S[k].hi ≤ S[k + 1].lo := by
  intro hk
  have hpS : Pos S := fun x hx => by
    rcases List.mem_append.1 (hS.mem_iff.1 hx) with h | h
    · exact pa x h
    · exact pb x h
  have hd := (hS.pairwise_iff (fun h => Dis.symm h)).1 (Aft.dis (aft_chain hpS hk))
  obtain ⟨x, hx, y, hy, ho⟩ := h
  have := ov_dis.2 ((List.pairwise_append.1 hd).2.2 x hx y hy)
  rw [ho] at this
  cases this
theorem right_aft {l : List Rec} (h : Right true l) : Pos l ∧ l.Pairwise Aft := by
  have hp : Pos l := fun x hx => by
    obtain ⟨k, hk, rfl⟩ := List.getElem_of_mem hx
    exact (h.time hk).2.1
  exact ⟨hp, aft_chain hp fun k hk => h.next hk⟩
end Go.Proofs.Ytmfmpagfjgpodaa
