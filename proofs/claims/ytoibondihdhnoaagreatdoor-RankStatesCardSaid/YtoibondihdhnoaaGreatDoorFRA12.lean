/- Texts in one: A nil slice, in a slot or in a cell, told as a row of the call's own of no element: of every program; no condition. -/
import Derived.Test.YtoibondihdhnoaaGreatDoorFRA7
namespace Go.Proofs.YtoibondihdhnoaaGreatDoor
open Go.RowKit
section
variable {P : Program} {M0 : Nat → Nat → Prop} {w0 : Bas} {N : Nm} {p : Pl} {st : VS} {a : Act} {w : World} {Q : Exit → VS → Prop}
theorem VRunW_ok {ow : List Nat} {ops : List Oper} {K : VS → Prop} {Q : Exit → Act → World → Prop} {l2 : List Oper} (hops : ops.all (dstB N) = true) (hk : ∀ p st a w, Rel M0 w0 N p st a w → K st → wpList P ops.toArray Q l2 a w) :
  ∀ (l : List Oper) (p : Pl) (st : VS) (a : Act) (w : World), l.all (dstB N) = true → Rel M0 w0 N p st a w → VRun P ow ops l st K → wpList P ops.toArray Q (l ++ l2) a w
 | [], p, st, a, w, _, R, h => hk p st a w R h
 | o :: l, p, st, a, w, hl, R, h => by
  simp only [List.all_cons, Bool.and_eq_true] at hl
  have ih := fun p st a w => VRunW_ok (ow := ow) (l2 := l2) hops hk l p st a w hl.2
  refine wpList_step fun KK hKK => ?_
  simp only [VRun, VOp] at h
  have hdo : VDo P ow o st (fun st' => VRun P ow ops l st' K) → o.wp P a w KK Q := fun h => VDo_ok R hl.1 h fun p st a w R h => hKK _ _ (ih p st a w R h)
  have hsk : VRun P ow ops l (st.put o.dst (.lit undef)) K → KK (a.put o.dst undef) w := fun h => hKK _ _ (ih p _ _ w (R.put (dstB_lt hl.1) (.base _ _ (.lit _))) h)
  split at h
  ·rename_i hg
   simp only [Region.wanted, hg, if_true]
   exact hdo h
  ·rename_i j want hg
   obtain ⟨hy1, hy2⟩ := yielded_lit (j := j) R hops
   simp only [Region.wanted, hg]
   split at h
   ·rename_i b hb
    rw [hy1 b hb]
    by_cases hw : b = want
    ·subst hw
     rw [if_pos (by simp)]
     rw [if_pos rfl] at h
     exact hdo h
    ·rw [if_neg (by simpa using hw)]
     rw [if_neg hw] at h
     exact hsk h
   ·rename_i vs hb
    rw [hy2 vs hb, if_neg (by simp)]
    exact hsk h
   ·exact h.elim
theorem vconv {c : Code} {st2 : VS} {Q : Exit → VS → Prop} (h : ∀ p a w, Rel M0 w0 N p st a w → ∃ p2, Rel M0 w0 N p2 st2 a w) (k : VWp P M0 w0 N c Q st2) : VWp P M0 w0 N c Q st := fun hC p a w R =>
 let ⟨p2, R2⟩ := h p a w R
 k hC p2 a w R2
theorem get_nilc {h : Hp} {bi : Nat} {cs' : List AV} {x ob : Ob} {i : Nat} (hi : (h.set bi (some (.box cs')) ++ [some x])[i]? = some (some ob)) (hb : bi < h.length) : (i = bi ∧ ob = .box cs') ∨ (i ≠ bi ∧ h[i]? = some (some ob)) ∨ (i = h.length ∧ ob = x) := by
 rcases Nat.lt_or_ge i h.length with hl | hl
 ·rw [List.getElem?_append_left (by simpa using hl), List.getElem?_set] at hi
  by_cases he : bi = i
  ·rw [if_pos he, if_pos hb] at hi
   simp only [Option.some.injEq] at hi
   exact .inl ⟨he.symm, hi.symm⟩
  ·rw [if_neg he] at hi
   exact .inr (.inl ⟨fun h => he h.symm, hi⟩)
 ·rw [List.getElem?_append_right (by simpa using hl)] at hi
  simp only [List.length_set] at hi
  cases hh : i - h.length with
  | zero =>
   rw [hh] at hi
   simp at hi
   exact .inr (.inr ⟨by omega, hi.symm⟩)
  | succ n => rw [hh] at hi; simp at hi
theorem Rel.nilCell (R : Rel M0 w0 N p st a w) {bi j e sz : Nat} {cs : List AV} (hb : st.h[bi]? = some (some (.box cs))) (hj : cs[j]? = some (.lit (.slice none 0 0))) (hsz : 0 < sz) : Rel M0 w0 N p ⟨st.s, st.h.set bi (some (.box (cs.set j (.osl st.h.length)))) ++ [some (.arr e sz true [])]⟩ a w := by
 have hbl : bi < st.h.length := (List.getElem?_eq_some_iff.1 hb).1
 refine (R.reheap _ (by simp) (fun i ob hi hl => ?_) (fun i e sz nl es hil he => ?_) (fun i e sz nl pe qs hil he => ?_) fun i ob hi hne keep => ?_).1
 ·rcases get_nilc hi hbl with ⟨rfl, rfl⟩ | ⟨_, hi'⟩ | ⟨rfl, rfl⟩
  ·exact ⟨_, hb, rfl⟩
  ·exact ⟨ob, hi', hl⟩
  ·cases hl
 ·rcases get_nilc he hbl with ⟨_, h⟩ | ⟨_, h⟩ | ⟨h, _⟩
  ·cases h
  ·exact h
  ·omega
 ·rcases get_nilc he hbl with ⟨_, h⟩ | ⟨_, h⟩ | ⟨h, _⟩
  ·cases h
  ·exact h
  ·omega
 ·rcases get_nilc hi hbl with ⟨rfl, rfl⟩ | ⟨_, hi'⟩ | ⟨rfl, rfl⟩
  ·obtain ⟨h1, cur, e2, h2, h3, h4, h5⟩ := R.objs i _ hb
   refine ⟨h1, cur, e2, h2, by simpa using h3, fun c hc => ?_, fun k c hk => ?_⟩
   ·rcases List.mem_or_eq_of_mem_set hc with h | rfl
    ·exact h4 c h
    ·rfl
   ·rw [List.getElem?_set] at hk
    by_cases he : j = k
    ·subst he
     have hjl : j < cs.length := (List.getElem?_eq_some_iff.1 hj).1
     rw [if_pos rfl, if_pos hjl] at hk
     simp only [Option.some.injEq] at hk
     subst hk
     obtain ⟨u, hu, hv⟩ := h5 j _ hj
     obtain rfl := hv.lit_inv
     refine ⟨_, hu, .osl _ _ _ _ (by simp) (fun e3 sz3 nl3 es3 he3 => ?_) fun e3 sz3 nl3 pe3 qs3 he3 => ?_⟩
     ·rw [List.getElem?_append_right (by simp)] at he3
      simp at he3
      obtain ⟨rfl, rfl, rfl, rfl⟩ := he3
      exact ⟨⟨none, rfl⟩, rfl⟩
     ·rw [List.getElem?_append_right (by simp)] at he3
      simp at he3
    ·rw [if_neg he] at hk
     obtain ⟨u, hu, hv⟩ := h5 k c hk
     exact ⟨u, hu, keep hv⟩
  ·exact absurd hi' hne
  ·exact ⟨hsz, (fun k x hk => by simp at hk), rfl⟩
end
end Go.Proofs.YtoibondihdhnoaaGreatDoor
