/- A row of the call's own that is written to no more is a slice like any other: of every program; no condition. -/
import Derived.Test.YtmfmpagfjgpodaaVWalk
namespace Go.Proofs.Ytmfmpagfjgpodaa
open Go.RowKit
section
variable {P : Program} {M0 : Nat → Prop} {w0 : World} {N : Nat} {p : Nat → Nat} {st : VS} {a : Act} {w : World} {Q : Exit → VS → Prop}
theorem get_set_none {h : Hp} {id i : Nat} {ob : Ob} (hi : (h.set id none)[i]? = some (some ob)) : i ≠ id ∧ h[i]? = some (some ob) := by
  by_cases hne : i = id
  · subst hne
    by_cases hl : i < h.length
    · rw [List.getElem?_set_self hl] at hi
      simp at hi
    · rw [List.getElem?_eq_none (by simp; omega)] at hi
      simp at hi
  · rw [List.getElem?_set_ne (fun h => hne h.symm)] at hi
    exact ⟨hne, hi⟩
/-- The row's memory is given up. -/
theorem Rel.drop (R : Rel M0 w0 N p st a w) (id : Nat) : Rel M0 w0 N p ⟨st.s, st.h.set id none⟩ a w := by
  have hM : ∀ b, ¬ Mof M0 st.h p b → ¬ Mof M0 (st.h.set id none) p b := fun b hb hb' => by
    rcases hb' with h | ⟨i, ob, hi, hl, hp⟩
    · exact hb (.inl h)
    · exact hb (.inr ⟨i, ob, (get_set_none hi).2, hl, hp⟩)
  have keep : ∀ {av : AV} {v : Value}, V1 w (Mof M0 st.h p) st.h p av v → V1 w (Mof M0 (st.h.set id none) p) (st.h.set id none) p av v := fun hv =>
    hv.keep (Keeps.refl _ _) (fun b _ h => hM b h) (by simp) (fun _ _ => rfl) fun i e sz nl es v _ he hv => hv _ _ _ _ (get_set_none he).2
  refine ⟨R.defers, R.size, R.below, R.m0, fun i => keep (R.slots i), fun i ob hi => ?_, fun i i' ob ob' hi hi' hl hl' hp => R.inj i i' ob ob' (get_set_none hi).2 (get_set_none hi').2 hl hl' hp⟩
  have ho := R.objs i ob (get_set_none hi).2
  cases ob with
  | box cs =>
    obtain ⟨h1, cur, e, h2, h3, h4, h5⟩ := ho
    exact ⟨h1, cur, e, h2, h3, h4, fun j c hj => by
      obtain ⟨u, hu, hv⟩ := h5 j c hj
      exact ⟨u, hu, keep hv⟩⟩
  | arr e sz nl es =>
    obtain ⟨h1, h2, h3⟩ := ho
    refine ⟨h1, h2, ?_⟩
    split
    · rename_i hn
      rw [if_pos hn] at h3
      exact h3
    · rename_i hn
      rw [if_neg hn] at h3
      obtain ⟨g1, cur, g2, g3, g4⟩ := h3
      exact ⟨g1, cur, g2, g3, fun k x j c hk hj => by
        obtain ⟨u, hu, hv⟩ := g4 k x j c hk hj
        exact ⟨u, hu, hv.keep (Keeps.refl _ _) (fun b _ h => hM b h)⟩⟩
theorem Rel.freeze (R : Rel M0 w0 N p st a w) {id t e sz : Nat} {nl : Bool} {es : List (List AV)} (ht : lkp st.s t = .osl id) (hi : st.h[id]? = some (some (.arr e sz nl es))) :
    Rel M0 w0 N p ⟨(t, .sl sz es) :: st.s, st.h.set id none⟩ a w := by
  have D := R.drop id
  refine ⟨D.defers, D.size, D.below, D.m0, fun i => ?_, D.objs, D.inj⟩
  by_cases hit : t = i
  · subst hit
    simp only [lkp, if_true]
    have hv := R.slots t
    rw [ht] at hv
    obtain ⟨A, n, c, hu, hid, ho⟩ := hv.osl_inv
    have hO := ho _ _ _ _ hi
    obtain ⟨o1, o2, o3⟩ := R.objs id _ hi
    refine .base _ _ ?_
    generalize a.tmps.getD t undef = v at hu hO
    by_cases hnl : nl = true
    · rw [if_pos hnl] at o3
      unfold Osl at hO
      rw [if_pos hnl] at hO
      rw [hO.1, o3]
      exact .slNil _ _ _
    · rw [if_neg hnl] at o3
      unfold Osl at hO
      rw [if_neg hnl] at hO
      obtain ⟨cap, cur, e1, e2, e3, e4, e5⟩ := hO
      obtain ⟨q1, cur', q2, q3, q4⟩ := o3
      have hcc : cur' = cur := by
        rw [q2] at e2
        injection e2 with e2
        injection e2 with e2
      subst hcc
      rw [e1]
      by_cases hes : es = []
      · subst hes
        exact .slNil _ _ _
      · have hb : p id < w.heap.size := (Array.getElem?_eq_some_iff.1 e2).1
        have hMn : ¬ Mof M0 (st.h.set id none) p (p id) := by
          rintro (h | ⟨i, ob, hi2, hl, hp⟩)
          · have := R.m0 _ h
            omega
          · obtain ⟨hne, hi3⟩ := get_set_none hi2
            refine hne (R.inj i id ob _ hi3 hi hl ?_ hp)
            cases nl
            · rfl
            · exact absurd rfl hnl
        have hM : ∀ b, ¬ Mof M0 st.h p b → ¬ Mof M0 (st.h.set id none) p b := fun b hb hb' => by
          rcases hb' with h | ⟨i, ob, hi, hl, hp⟩
          · exact hb (.inl h)
          · exact hb (.inr ⟨i, ob, (get_set_none hi).2, hl, hp⟩)
        have hcell : ∀ j, w.cell? ⟨p id, j, none⟩ = cur'[j]? := fun j => by simp [World.cell?, e2]
        have hlen : ∀ (k : Nat) (x : List AV), es[k]? = some x → x.length = sz := fun k x hk => (o2 k x hk).1
        refine .sl sz es cap (p id) 0 (fun k j => (cur'[k * sz + j]?).getD undef) hes hb hMn e4 hlen (fun k x j c hk hj => (o2 k x hk).2 c (List.mem_of_getElem? hj)) (fun k j hk hj => ?_) fun k x j c hk hj => ?_
        · rw [Nat.zero_add, hcell]
          have hx : es[k]? = some es[k] := List.getElem?_eq_getElem hk
          have hjl : j < es[k].length := by rw [hlen k _ hx]; exact hj
          obtain ⟨u, hu, _⟩ := q4 k _ j _ hx (List.getElem?_eq_getElem hjl)
          rw [hu]
          rfl
        · obtain ⟨u, hu, hv⟩ := q4 k x j c hk hj
          rw [hu]
          exact hv.keep (Keeps.refl _ _) (fun b _ h => hM b h)
  · simp only [lkp, if_neg hit]
    exact D.slots i
/-- From here on slot t holds a slice that nobody writes to. -/
theorem vfreeze {c : Code} (t id : Nat) {e sz : Nat} {nl : Bool} {es : List (List AV)} (ht : lkp st.s t = .osl id) (hi : st.h[id]? = some (some (.arr e sz nl es))) (h : VWp P M0 w0 N c Q ⟨(t, .sl sz es) :: st.s, st.h.set id none⟩) : VWp P M0 w0 N c Q st :=
  fun hB p a w R => h hB p a w (R.freeze ht hi)
end
end Go.Proofs.Ytmfmpagfjgpodaa
