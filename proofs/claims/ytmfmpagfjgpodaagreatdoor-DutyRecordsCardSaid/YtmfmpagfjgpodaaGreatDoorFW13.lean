/- Texts in one: A nil slice, in a slot or in a cell, told as a row of the call's own of no element: of every program; no condition. -/
import Derived.Test.YtmfmpagfjgpodaaGreatDoorFW7
/-! VNil: A nil slice, in a slot or in a cell, told as a row of the call's own of no element: of every program; no condition. -/
namespace Go.Proofs.YtmfmpagfjgpodaaGreatDoor
open Go.RowKit
section
variable {P : Program} {M0 : Nat → Prop} {w0 : World} {N : Nat} {p : Nat → Nat} {st : VS} {a : Act} {w : World} {Q : Exit → VS → Prop}
theorem put_same {a : Act} {d : Nat} {v : Value} (h : a.tmps.getD d undef = v) (hd : d < a.tmps.size) : a.put (some d) v = a := by
  have : a.tmps.setIfInBounds d v = a.tmps := by
    apply Array.ext_getElem?
    intro i
    rw [Array.getElem?_setIfInBounds]
    by_cases hi : d = i
    · subst hi
      rw [if_pos rfl, if_pos hd, ← h]
      simp [Array.getD, hd]
    · rw [if_neg hi]
  cases a
  simp only [Act.put] at *
  simpa using this
/-- The nil slice in slot t, told as a row of the call's own. -/
theorem Rel.nilRe (R : Rel M0 w0 N p st a w) {t e sz : Nat} (ht : lkp st.s t = .lit (.slice none 0 0)) (hsz : 0 < sz) : ∃ p2, Rel M0 w0 N p2 ⟨(t, .osl st.h.length) :: st.s, st.h ++ [some (.arr e sz true [])]⟩ a w := by
  have hv := R.slots t
  rw [ht] at hv
  have hv := hv.lit_inv
  have hd : t < a.tmps.size := by
    by_cases h : t < a.tmps.size
    · exact h
    · have : a.tmps.getD t undef = undef := by simp [Array.getD, h]
      rw [this] at hv
      cases hv
  have := nil_new (e := e) R (by rw [← R.size]; exact hd) hsz
  rw [put_same hv hd] at this
  exact ⟨_, this⟩
theorem VRunW_ok {ow : List Nat} {ops : List Oper} {K : VS → Prop} {Q : Exit → Act → World → Prop} {l2 : List Oper} (hops : ops.all (dstB N) = true) (hk : ∀ p st a w, Rel M0 w0 N p st a w → K st → wpList P ops.toArray Q l2 a w) :
    ∀ (l : List Oper) (p : Nat → Nat) (st : VS) (a : Act) (w : World), l.all (dstB N) = true → Rel M0 w0 N p st a w → VRun P ow ops l st K → wpList P ops.toArray Q (l ++ l2) a w
  | [], p, st, a, w, _, R, h => hk p st a w R h
  | o :: l, p, st, a, w, hl, R, h => by
    simp only [List.all_cons, Bool.and_eq_true] at hl
    have ih := fun p st a w => VRunW_ok (ow := ow) (l2 := l2) hops hk l p st a w hl.2
    refine wpList_step fun KK hKK => ?_
    simp only [VRun, VOp] at h
    have hdo : VDo P ow o st (fun st' => VRun P ow ops l st' K) → o.wp P a w KK Q := fun h => VDo_ok R hl.1 h fun p st a w R h => hKK _ _ (ih p st a w R h)
    have hsk : VRun P ow ops l (st.put o.dst (.lit undef)) K → KK (a.put o.dst undef) w := fun h => hKK _ _ (ih p _ _ w (R.put (dstB_lt hl.1) (.base _ _ (.lit _))) h)
    split at h
    · rename_i hg
      simp only [Region.wanted, hg, if_true]
      exact hdo h
    · rename_i j want hg
      obtain ⟨hy1, hy2⟩ := yielded_lit (j := j) R hops
      simp only [Region.wanted, hg]
      split at h
      · rename_i b hb
        rw [hy1 b hb]
        by_cases hw : b = want
        · subst hw
          rw [if_pos (by simp)]
          rw [if_pos rfl] at h
          exact hdo h
        · rw [if_neg (by simpa using hw)]
          rw [if_neg hw] at h
          exact hsk h
      · rename_i vs hb
        rw [hy2 vs hb, if_neg (by simp)]
        exact hsk h
      · exact h.elim
/-- A region in two parts, between which the state is told otherwise. -/
theorem vregionS {rid : Nat} {l l1 l2 : List Oper} (ow : List Nat) (n : Nat) (hl : l.take n = l1 ∧ l.drop n = l2) (h : VRun P ow l l1 st fun st1 => ∃ st2, (∀ p a w, Rel M0 w0 N p st1 a w → ∃ p2, Rel M0 w0 N p2 st2 a w) ∧ VRun P ow l l2 st2 (Q .normal)) : VWp P M0 w0 N (.region rid l.toArray false) Q st := fun hB p a w R => by
  have hB' : l.all (dstB N) = true := by simpa [codeB] using hB
  have hsplit : l = l1 ++ l2 := by rw [← hl.1, ← hl.2, List.take_append_drop]
  have hB1 : l1.all (dstB N) = true := by
    rw [hsplit, List.all_append, Bool.and_eq_true] at hB'
    exact hB'.1
  have hB2 : l2.all (dstB N) = true := by
    rw [hsplit, List.all_append, Bool.and_eq_true] at hB'
    exact hB'.2
  refine wp_region_lit ?_
  have := VRunW_ok (P := P) (M0 := M0) (w0 := w0) (N := N) (ow := ow) (ops := l) (Q := fun e a' w' => ∃ st' p', Rel M0 w0 N p' st' a' w' ∧ Q e st') (l2 := l2) hB' (fun p st a w R h => by
    obtain ⟨st2, h1, h2⟩ := h
    obtain ⟨p2, R2⟩ := h1 p a w R
    exact VRun_ok (ow := ow) hB' (fun p st a w R h => ⟨st, p, R, h⟩) l2 p2 _ a w hB2 R2 h2) l1 p st a w hB1 R h
  rw [hsplit] at this ⊢
  exact this
/-- The state, told otherwise. -/
theorem vconv {c : Code} {st2 : VS} {Q : Exit → VS → Prop} (h : ∀ p a w, Rel M0 w0 N p st a w → ∃ p2, Rel M0 w0 N p2 st2 a w) (k : VWp P M0 w0 N c Q st2) : VWp P M0 w0 N c Q st := fun hC p a w R =>
  let ⟨p2, R2⟩ := h p a w R
  k hC p2 a w R2
/-- Cell j of variable bi holds a nil slice: told as a row of the call's own, of no element. -/
theorem get_nilc {h : Hp} {bi : Nat} {cs' : List AV} {x ob : Ob} {i : Nat} (hi : (h.set bi (some (.box cs')) ++ [some x])[i]? = some (some ob)) (hb : bi < h.length) : (i = bi ∧ ob = .box cs') ∨ (i ≠ bi ∧ h[i]? = some (some ob)) ∨ (i = h.length ∧ ob = x) := by
  rcases Nat.lt_or_ge i h.length with hl | hl
  · rw [List.getElem?_append_left (by simpa using hl), List.getElem?_set] at hi
    by_cases he : bi = i
    · rw [if_pos he, if_pos hb] at hi
      simp only [Option.some.injEq] at hi
      exact .inl ⟨he.symm, hi.symm⟩
    · rw [if_neg he] at hi
      exact .inr (.inl ⟨fun h => he h.symm, hi⟩)
  · rw [List.getElem?_append_right (by simpa using hl)] at hi
    simp only [List.length_set] at hi
    cases hh : i - h.length with
    | zero =>
      rw [hh] at hi
      simp at hi
      exact .inr (.inr ⟨by omega, hi.symm⟩)
    | succ n => rw [hh] at hi; simp at hi
theorem Rel.nilCell (R : Rel M0 w0 N p st a w) {bi j e sz : Nat} {cs : List AV} (hb : st.h[bi]? = some (some (.box cs))) (hj : cs[j]? = some (.lit (.slice none 0 0))) (hsz : 0 < sz) : Rel M0 w0 N p ⟨st.s, st.h.set bi (some (.box (cs.set j (.osl st.h.length)))) ++ [some (.arr e sz true [])]⟩ a w := by
  have hbl : bi < st.h.length := (List.getElem?_eq_some_iff.1 hb).1
  have hM : ∀ b, ¬ Mof M0 st.h p b → ¬ Mof M0 (st.h.set bi (some (.box (cs.set j (.osl st.h.length)))) ++ [some (.arr e sz true [])]) p b := fun b hn hm => by
    rcases hm with h | ⟨i, ob, hi, hl, hp⟩
    · exact hn (.inl h)
    · rcases get_nilc hi hbl with ⟨rfl, rfl⟩ | ⟨_, hi'⟩ | ⟨rfl, rfl⟩
      · exact hn (.inr ⟨i, _, hb, rfl, hp⟩)
      · exact hn (.inr ⟨i, ob, hi', hl, hp⟩)
      · cases hl
  have keep : ∀ {av : AV} {v : Value}, V1 w (Mof M0 st.h p) st.h p av v → V1 w (Mof M0 (st.h.set bi (some (.box (cs.set j (.osl st.h.length)))) ++ [some (.arr e sz true [])]) p) (st.h.set bi (some (.box (cs.set j (.osl st.h.length)))) ++ [some (.arr e sz true [])]) p av v := fun hv =>
    hv.keep (Keeps.refl _ _) (fun b _ h => hM b h) (by simp) (fun _ _ => rfl) fun i e sz nl es v hil he hv => by
      rcases get_nilc he hbl with ⟨_, h⟩ | ⟨_, h⟩ | ⟨h, _⟩
      · cases h
      · exact hv _ _ _ _ h
      · omega
  refine ⟨R.defers, R.size, R.below, R.m0, fun i => keep (R.slots i), fun i ob hi => ?_, fun i i' ob ob' hi hi' hl hl' hp => ?_⟩
  · rcases get_nilc hi hbl with ⟨rfl, rfl⟩ | ⟨_, hi'⟩ | ⟨rfl, rfl⟩
    · obtain ⟨h1, cur, e2, h2, h3, h4, h5⟩ := R.objs i _ hb
      refine ⟨h1, cur, e2, h2, by simpa using h3, fun c hc => ?_, fun k c hk => ?_⟩
      · rcases List.mem_or_eq_of_mem_set hc with h | rfl
        · exact h4 c h
        · rfl
      · rw [List.getElem?_set] at hk
        by_cases he : j = k
        · subst he
          have hjl : j < cs.length := (List.getElem?_eq_some_iff.1 hj).1
          rw [if_pos rfl, if_pos hjl] at hk
          simp only [Option.some.injEq] at hk
          subst hk
          obtain ⟨u, hu, hv⟩ := h5 j _ hj
          obtain rfl := hv.lit_inv
          refine ⟨_, hu, .osl _ _ _ _ (by simp) fun e3 sz3 nl3 es3 he3 => ?_⟩
          rw [List.getElem?_append_right (by simp)] at he3
          simp at he3
          obtain ⟨rfl, rfl, rfl, rfl⟩ := he3
          exact ⟨rfl, rfl⟩
        · rw [if_neg he] at hk
          obtain ⟨u, hu, hv⟩ := h5 k c hk
          exact ⟨u, hu, keep hv⟩
    · have ho := R.objs i ob hi'
      cases ob with
      | box cs2 =>
        obtain ⟨h1, cur, e, h2, h3, h4, h5⟩ := ho
        exact ⟨h1, cur, e, h2, h3, h4, fun k c hk => by
          obtain ⟨u, hu, hv⟩ := h5 k c hk
          exact ⟨u, hu, keep hv⟩⟩
      | mpo kf kvs => exact ho
      | arr e sz nl es =>
        obtain ⟨h1, h2, h3⟩ := ho
        refine ⟨h1, h2, ?_⟩
        split
        · rename_i hn
          rw [if_pos hn] at h3
          exact h3
        · rename_i hn
          rw [if_neg hn] at h3
          obtain ⟨g1, cur, g2, g3, g4⟩ := h3
          exact ⟨g1, cur, g2, g3, fun k x j c hk hj => by
            obtain ⟨u, hu, hv⟩ := g4 k x j c hk hj
            exact ⟨u, hu, hv.keep (Keeps.refl _ _) (fun b _ h => hM b h)⟩⟩
    · exact ⟨hsz, (fun k x hk => by simp at hk), rfl⟩
  · have old : ∀ {i ob}, (st.h.set bi (some (.box (cs.set j (.osl st.h.length)))) ++ [some (.arr e sz true [])])[i]? = some (some ob) → live ob = true → ∃ ob2, st.h[i]? = some (some ob2) ∧ live ob2 = true := fun {i ob} hi hl => by
      rcases get_nilc hi hbl with ⟨rfl, rfl⟩ | ⟨_, h⟩ | ⟨rfl, rfl⟩
      · exact ⟨_, hb, rfl⟩
      · exact ⟨ob, h, hl⟩
      · cases hl
    obtain ⟨o1, h1, l1⟩ := old hi hl
    obtain ⟨o2, h2, l2⟩ := old hi' hl'
    exact R.inj i i' o1 o2 h1 h2 l1 l2 hp
end
end Go.Proofs.YtmfmpagfjgpodaaGreatDoor
