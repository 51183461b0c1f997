/- Texts in one: An order of all numbers; no program in sight. -/
import Derived.Test.YtmfmpagfjgpodaaMS29
import Derived.Test.YtmfmpagfjgpodaaMS31
/-! VPlateO: An order of all numbers; no program in sight. -/
namespace Go.Proofs.Ytmfmpagfjgpodaa
theorem once_of {os : List Nat} {n : Nat} (h : os.Perm (List.range n)) : Once os n ∧ ∀ k, k < n → ∃ j, j < n ∧ nat_ os j = k := by
  have hl : os.length = n := by rw [h.length_eq, List.length_range]
  have hnd : os.Nodup := (h.nodup_iff).2 List.nodup_range
  refine ⟨⟨hl, fun j hj => ?_, fun i j hi hj he => ?_⟩, fun k hk => ?_⟩
  · rw [nat_get (by omega)]
    exact List.mem_range.1 (h.mem_iff.1 (List.getElem_mem _))
  · rw [nat_get (by omega), nat_get (by omega)] at he
    by_cases hij : i = j
    · exact hij
    · rcases Nat.lt_or_ge i j with h1 | h1
      · exact absurd he (List.pairwise_iff_getElem.1 hnd i j (by omega) (by omega) h1)
      · exact absurd he.symm (List.pairwise_iff_getElem.1 hnd j i (by omega) (by omega) (by omega))
  · have hm : k ∈ os := h.mem_iff.2 (List.mem_range.2 hk)
    obtain ⟨j, hj, he⟩ := List.getElem_of_mem hm
    exact ⟨j, by omega, by rw [nat_get hj]; exact he⟩
theorem time_of {l : List Rec} (hE : (usesE l).2 = 0) : ∀ k, k < l.length → useE l k = 0 := by
  intro k hk
  unfold usesE checkL at hE
  split at hE
  · cases hE
  · exact firstErr_zero (E := useE l) _ _ hE k (Nat.zero_le _) (by omega)
theorem use_time {l : List Rec} (hE : (usesE l).2 = 0) {k : Nat} (hk : k < l.length) : 0 ≤ (rat l k).lo ∧ (rat l k).lo < (rat l k).hi ∧ (rat l k).hi ≤ 8640000000 := by
  have h := time_of hE k hk
  have hn : isName (rat l k).driver = true := by
    cases hc : isName (rat l k).driver
    · rw [useE_name hc] at h
      cases h
    · rfl
  have hs : spanErr (rat l k).lo (rat l k).hi = 0 := by
    by_cases hz : spanErr (rat l k).lo (rat l k).hi = 0
    · exact hz
    · rw [useE_span hn hz] at h
      exact h
  unfold spanErr at hs
  split at hs
  · rename_i ht
    simp only [Bool.and_eq_true, isTime] at ht
    have h1 := inR_iff.1 ht.1
    have h2 := inR_iff.1 ht.2
    split at hs
    · rename_i hlt
      exact ⟨h1.1, hlt, h2.2⟩
    · cases hs
  · cases hs
end Go.Proofs.Ytmfmpagfjgpodaa
