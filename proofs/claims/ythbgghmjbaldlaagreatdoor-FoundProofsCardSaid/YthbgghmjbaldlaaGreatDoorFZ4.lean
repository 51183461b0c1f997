/- Texts in one: A row of the call's own that is written to no more is a slice like any other: of every program; no condition. -/
import Derived.Test.YthbgghmjbaldlaaGreatDoorFZ3
/-! VFrz: A row of the call's own that is written to no more is a slice like any other: of every program; no condition. -/
namespace Go.Proofs.YthbgghmjbaldlaaGreatDoor
open Go.RowKit
section
variable {P : Program} {M0 : Nat → Prop} {w0 : World} {N : Nat} {p : Nat → Nat} {st : VS} {a : Act} {w : World} {Q : Exit → VS → Prop}
theorem get_set_none {h : Hp} {id i : Nat} {ob : Ob} (hi : (h.set id none)[i]? = some (some ob)) : i ≠ id ∧ h[i]? = some (some ob) := by
  by_cases hne : i = id
  · subst hne
    by_cases hl : i < h.length
    · rw [List.getElem?_set_self hl] at hi
      simp at hi
    · rw [List.getElem?_eq_none (by simp; omega)] at hi
      simp at hi
  · rw [List.getElem?_set_ne (fun h => hne h.symm)] at hi
    exact ⟨hne, hi⟩
/-- The row's memory is given up. -/
theorem Rel.drop (R : Rel M0 w0 N p st a w) (id : Nat) : Rel M0 w0 N p ⟨st.s, st.h.set id none⟩ a w := by
  have hM : ∀ b, ¬ Mof M0 st.h p b → ¬ Mof M0 (st.h.set id none) p b := fun b hb hb' => by
    rcases hb' with h | ⟨i, ob, hi, hl, hp⟩
    · exact hb (.inl h)
    · exact hb (.inr ⟨i, ob, (get_set_none hi).2, hl, hp⟩)
  have keep : ∀ {av : AV} {v : Value}, V1 w (Mof M0 st.h p) st.h p av v → V1 w (Mof M0 (st.h.set id none) p) (st.h.set id none) p av v := fun hv =>
    hv.keep (Keeps.refl _ _) (fun b _ h => hM b h) (by simp) (fun _ _ => rfl) fun i e sz nl es v _ he hv => hv _ _ _ _ (get_set_none he).2
  refine ⟨R.defers, R.size, R.below, R.m0, fun i => keep (R.slots i), fun i ob hi => ?_, fun i i' ob ob' hi hi' hl hl' hp => R.inj i i' ob ob' (get_set_none hi).2 (get_set_none hi').2 hl hl' hp⟩
  have ho := R.objs i ob (get_set_none hi).2
  cases ob with
  | mpo kf kvs => exact ho
  | box cs =>
    obtain ⟨h1, cur, e, h2, h3, h4, h5⟩ := ho
    exact ⟨h1, cur, e, h2, h3, h4, fun j c hj => by
      obtain ⟨u, hu, hv⟩ := h5 j c hj
      exact ⟨u, hu, keep hv⟩⟩
  | arr e sz nl es =>
    obtain ⟨h1, h2, h3⟩ := ho
    refine ⟨h1, h2, ?_⟩
    split
    · rename_i hn
      rw [if_pos hn] at h3
      exact h3
    · rename_i hn
      rw [if_neg hn] at h3
      obtain ⟨g1, cur, g2, g3, g4⟩ := h3
      exact ⟨g1, cur, g2, g3, fun k x j c hk hj => by
        obtain ⟨u, hu, hv⟩ := g4 k x j c hk hj
        exact ⟨u, hu, hv.keep (Keeps.refl _ _) (fun b _ h => hM b h)⟩⟩
theorem Rel.freeze (R : Rel M0 w0 N p st a w) {id t e sz : Nat} {nl : Bool} {es : List (List AV)} (ht : lkp st.s t = .osl id) (hi : st.h[id]? = some (some (.arr e sz nl es))) :
    Rel M0 w0 N p ⟨(t, .sl sz es) :: st.s, st.h.set id none⟩ a w := by
  have D := R.drop id
  refine ⟨D.defers, D.size, D.below, D.m0, fun i => ?_, D.objs, D.inj⟩
  by_cases hit : t = i
  · subst hit
    simp only [lkp, if_true]
    have hv := R.slots t
    rw [ht] at hv
    obtain ⟨A, n, c, hu, hid, ho⟩ := hv.osl_inv
    have hO := ho _ _ _ _ hi
    obtain ⟨o1, o2, o3⟩ := R.objs id _ hi
    refine .base _ _ ?_
    generalize a.tmps.getD t undef = v at hu hO
    by_cases hnl : nl = true
    · rw [if_pos hnl] at o3
      unfold Osl at hO
      rw [if_pos hnl] at hO
      rw [hO.1, o3]
      exact .slNil _ _ _
    · rw [if_neg hnl] at o3
      unfold Osl at hO
      rw [if_neg hnl] at hO
      obtain ⟨cap, cur, e1, e2, e3, e4, e5⟩ := hO
      obtain ⟨q1, cur', q2, q3, q4⟩ := o3
      have hcc : cur' = cur := by
        rw [q2] at e2
        injection e2 with e2
        injection e2 with e2
      subst hcc
      rw [e1]
      by_cases hes : es = []
      · subst hes
        exact .slNil _ _ _
      · have hb : p id < w.heap.size := (Array.getElem?_eq_some_iff.1 e2).1
        have hMn : ¬ Mof M0 (st.h.set id none) p (p id) := by
          rintro (h | ⟨i, ob, hi2, hl, hp⟩)
          · have := R.m0.1 _ h
            omega
          · obtain ⟨hne, hi3⟩ := get_set_none hi2
            refine hne (R.inj i id ob _ hi3 hi hl ?_ hp)
            cases nl
            · rfl
            · exact absurd rfl hnl
        have hM : ∀ b, ¬ Mof M0 st.h p b → ¬ Mof M0 (st.h.set id none) p b := fun b hb hb' => by
          rcases hb' with h | ⟨i, ob, hi, hl, hp⟩
          · exact hb (.inl h)
          · exact hb (.inr ⟨i, ob, (get_set_none hi).2, hl, hp⟩)
        have hcell : ∀ j, w.cell? ⟨p id, j, none⟩ = cur'[j]? := fun j => by simp [World.cell?, e2]
        have hlen : ∀ (k : Nat) (x : List AV), es[k]? = some x → x.length = sz := fun k x hk => (o2 k x hk).1
        refine .sl sz es cap (p id) 0 (fun k j => (cur'[k * sz + j]?).getD undef) hes hb hMn e4 hlen (fun k x j c hk hj => (o2 k x hk).2 c (List.mem_of_getElem? hj)) (fun k j hk hj => ?_) fun k x j c hk hj => ?_
        · rw [Nat.zero_add, hcell]
          have hx : es[k]? = some es[k] := List.getElem?_eq_getElem hk
          have hjl : j < es[k].length := by rw [hlen k _ hx]; exact hj
          obtain ⟨u, hu, _⟩ := q4 k _ j _ hx (List.getElem?_eq_getElem hjl)
          rw [hu]
          rfl
        · obtain ⟨u, hu, hv⟩ := q4 k x j c hk hj
          rw [hu]
          exact hv.keep (Keeps.refl _ _) (fun b _ h => hM b h)
  · simp only [lkp, if_neg hit]
    exact D.slots i
/-- From here on slot t holds a slice that nobody writes to. -/
theorem vfreeze {c : Code} (t id : Nat) {e sz : Nat} {nl : Bool} {es : List (List AV)} (ht : lkp st.s t = .osl id) (hi : st.h[id]? = some (some (.arr e sz nl es))) (h : VWp P M0 w0 N c Q ⟨(t, .sl sz es) :: st.s, st.h.set id none⟩) : VWp P M0 w0 N c Q st :=
  fun hB p a w R => h hB p a w (R.freeze ht hi)
theorem sub_freeze {s : List (Nat × AV)} {H H' : Hp} {d id e sz : Nat} {nl : Bool} {es : List (List AV)} (hi : H[id]? = some (some (.arr e sz nl es))) (hH : H' = H.set id none) : SubRel ⟨(d, .osl id) :: s, H⟩ ⟨(d, .sl sz es) :: s, H'⟩ := by
  subst hH
  intro M0 w0 N p a w R
  refine (R.freeze (t := d) (id := id) (by simp [lkp]) hi).weak (s' := (d, .sl sz es) :: s) fun t => .inl ?_
  simp only [lkp]
  split <;> rfl
end
/-! What is so of a contract's result, so of one that says less. -/
theorem VC.weak {P : Program} {f : FuncId} {args : List AV} {r r' : AV} (h : VC P f args r) (hr : ∀ (w : World) (M : Nat → Prop) (v : Value), V0 w M r v → V0 w M r' v) : VC P f args r' :=
  ⟨h.1, fun w M vs hM hl hv => (h.2 w M vs hM hl hv).mono fun _ _ ⟨v, he, hb, h0⟩ => ⟨v, he, hb, hr _ _ _ h0⟩⟩
theorem V0.nilSl {w : World} {M : Nat → Prop} {v : Value} (h : V0 w M (.lit (.slice none 0 0)) v) (sz : Nat) : V0 w M (.sl sz []) v := by
  cases h with
  | lit => exact .slNil _ _ _
end Go.Proofs.YthbgghmjbaldlaaGreatDoor

/-! VCond: A test that is not decided is walked both ways: of every program; no condition. -/
namespace Go.Proofs.YthbgghmjbaldlaaGreatDoor
open Go.RowKit
def boolOf : AV → Bool
  | .lit (.bool b) => b
  | _ => false
attribute [go_sem] boolOf
/-- An equation that simp leaves alone. -/
def IsB (b want : Bool) : Prop := b = want
/-- The same of plain values. -/
def IsG (x y : AV) : Prop := x = y
theorem IsB.out {b want : Bool} (h : IsB b want) : b = want := h
section
variable {P : Program} {M0 : Nat → Prop} {w0 : World} {N : Nat} {st : VS} {Q : Exit → VS → Prop}
theorem vcondS {c : Operand} {x y : Code} (hc : ev st c = .lit (.bool (boolOf (ev st c)))) (h1 : IsB (boolOf (ev st c)) true → VWp P M0 w0 N x Q st) (h2 : IsB (boolOf (ev st c)) false → VWp P M0 w0 N y Q st) : VWp P M0 w0 N (.cond c x y) Q st := vcond hc h1 h2
/-- A guarded operation, whatever its guard: C tells when it is carried out. -/
theorem vrun_consGX {ow : List Nat} {ops : List Oper} {o : Oper} {l : List Oper} {K : VS → Prop} {j : Nat} {want : Bool} (C : Prop) [Decidable C] (hg : o.guard = some (j, want)) (hc : C → guardA ops st j = .lit (.bool want)) (hn : ¬ C → guardA ops st j = .lit (.bool (!want)) ∨ guardA ops st j = .lit undef) (ht : tailOp P ow st o = none ∧ ownCall ow o = none)
    {r : AV} (h : C → Gives P st.h (ev st) o.op r) (hK : ∀ KK : VS → Prop, (∀ st, VRun P ow ops l st K → KK st) → KK (st.put o.dst (if C then r else .lit undef))) : VRun P ow ops (o :: l) st K := by
  refine vrun_cons fun KK hKK => ?_
  have hk := hK KK hKK
  unfold VOp
  rw [hg]
  simp only
  by_cases hC : C
  · rw [hc hC]
    simp only [if_true]
    rw [if_pos hC] at hk
    unfold VDo
    rw [ht.1, ht.2]
    exact ⟨r, h hC, hk⟩
  · rw [if_neg hC] at hk
    rcases hn hC with e | e
    · rw [e]
      simp only
      rw [if_neg (by cases want <;> simp)]
      exact hk
    · rw [e]
      exact hk
theorem vrun_consG0 {ow : List Nat} {ops : List Oper} {o : Oper} {l : List Oper} {K : VS → Prop} {j : Nat} {want : Bool}  {b : Bool} {r : AV} (hg : o.guard = some (j, want)) (hb : IsG (guardA ops st j) ((.lit (.bool b)))) (ht : tailOp P ow st o = none ∧ ownCall ow o = none)
    (h : IsB b want → Gives P st.h (ev st) o.op r) (hK : ∀ KK : VS → Prop, (∀ st, VRun P ow ops l st K → KK st) → KK (st.put o.dst (selA b want r))) : VRun P ow ops (o :: l) st K := by
  refine vrun_consGX (r := r) (b = want) hg (fun hC => ?_) (fun hC => ?_) ht (fun hC => ?_) fun KK hKK => ?_
  · rw [show guardA ops st j = _ from hb, hC]
  · rw [show guardA ops st j = _ from hb]
    revert hC
    cases b <;> cases want <;> simp
  · exact h hC
  · exact hK KK hKK
theorem vrun_consG1 {ow : List Nat} {ops : List Oper} {o : Oper} {l : List Oper} {K : VS → Prop} {j : Nat} {want : Bool} {c0 w0 : Bool} {b : Bool} {r : AV} (hg : o.guard = some (j, want)) (hb : IsG (guardA ops st j) ((selA c0 w0 (.lit (.bool b))))) (ht : tailOp P ow st o = none ∧ ownCall ow o = none)
    (h : IsB c0 w0 → IsB b want → Gives P st.h (ev st) o.op r) (hK : ∀ KK : VS → Prop, (∀ st, VRun P ow ops l st K → KK st) → KK (st.put o.dst (selA c0 w0 (selA b want r)))) : VRun P ow ops (o :: l) st K := by
  refine vrun_consGX (r := r) (c0 = w0 ∧ b = want) hg (fun hC => ?_) (fun hC => ?_) ht (fun hC => ?_) fun KK hKK => ?_
  · rw [show guardA ops st j = _ from hb]
    simp only [selA, hC, if_true]
  · rw [show guardA ops st j = _ from hb]
    simp only [selA]
    revert hC
    cases c0 <;> cases w0 <;> cases b <;> cases want <;> simp
  · exact h hC.1 hC.2
  · have hk := hK KK hKK
    have e : (selA c0 w0 (selA b want r)) = if c0 = w0 ∧ b = want then r else .lit undef := by
      simp only [selA]
      cases c0 <;> cases w0 <;> cases b <;> cases want <;> simp
    rw [e] at hk
    exact hk
theorem vrun_consG2 {ow : List Nat} {ops : List Oper} {o : Oper} {l : List Oper} {K : VS → Prop} {j : Nat} {want : Bool} {c0 w0 : Bool} {c1 w1 : Bool} {b : Bool} {r : AV} (hg : o.guard = some (j, want)) (hb : IsG (guardA ops st j) ((selA c0 w0 (selA c1 w1 (.lit (.bool b)))))) (ht : tailOp P ow st o = none ∧ ownCall ow o = none)
    (h : IsB c0 w0 → IsB c1 w1 → IsB b want → Gives P st.h (ev st) o.op r) (hK : ∀ KK : VS → Prop, (∀ st, VRun P ow ops l st K → KK st) → KK (st.put o.dst (selA c0 w0 (selA c1 w1 (selA b want r))))) : VRun P ow ops (o :: l) st K := by
  refine vrun_consGX (r := r) (c0 = w0 ∧ c1 = w1 ∧ b = want) hg (fun hC => ?_) (fun hC => ?_) ht (fun hC => ?_) fun KK hKK => ?_
  · rw [show guardA ops st j = _ from hb]
    simp only [selA, hC, if_true]
  · rw [show guardA ops st j = _ from hb]
    simp only [selA]
    revert hC
    cases c0 <;> cases w0 <;> cases c1 <;> cases w1 <;> cases b <;> cases want <;> simp
  · exact h hC.1 hC.2.1 hC.2.2
  · have hk := hK KK hKK
    have e : (selA c0 w0 (selA c1 w1 (selA b want r))) = if c0 = w0 ∧ c1 = w1 ∧ b = want then r else .lit undef := by
      simp only [selA]
      cases c0 <;> cases w0 <;> cases c1 <;> cases w1 <;> cases b <;> cases want <;> simp
    rw [e] at hk
    exact hk
theorem vrun_consG3 {ow : List Nat} {ops : List Oper} {o : Oper} {l : List Oper} {K : VS → Prop} {j : Nat} {want : Bool} {c0 w0 : Bool} {c1 w1 : Bool} {c2 w2 : Bool} {b : Bool} {r : AV} (hg : o.guard = some (j, want)) (hb : IsG (guardA ops st j) ((selA c0 w0 (selA c1 w1 (selA c2 w2 (.lit (.bool b))))))) (ht : tailOp P ow st o = none ∧ ownCall ow o = none)
    (h : IsB c0 w0 → IsB c1 w1 → IsB c2 w2 → IsB b want → Gives P st.h (ev st) o.op r) (hK : ∀ KK : VS → Prop, (∀ st, VRun P ow ops l st K → KK st) → KK (st.put o.dst (selA c0 w0 (selA c1 w1 (selA c2 w2 (selA b want r)))))) : VRun P ow ops (o :: l) st K := by
  refine vrun_consGX (r := r) (c0 = w0 ∧ c1 = w1 ∧ c2 = w2 ∧ b = want) hg (fun hC => ?_) (fun hC => ?_) ht (fun hC => ?_) fun KK hKK => ?_
  · rw [show guardA ops st j = _ from hb]
    simp only [selA, hC, if_true]
  · rw [show guardA ops st j = _ from hb]
    simp only [selA]
    revert hC
    cases c0 <;> cases w0 <;> cases c1 <;> cases w1 <;> cases c2 <;> cases w2 <;> cases b <;> cases want <;> simp
  · exact h hC.1 hC.2.1 hC.2.2.1 hC.2.2.2
  · have hk := hK KK hKK
    have e : (selA c0 w0 (selA c1 w1 (selA c2 w2 (selA b want r)))) = if c0 = w0 ∧ c1 = w1 ∧ c2 = w2 ∧ b = want then r else .lit undef := by
      simp only [selA]
      cases c0 <;> cases w0 <;> cases c1 <;> cases w1 <;> cases c2 <;> cases w2 <;> cases b <;> cases want <;> simp
    rw [e] at hk
    exact hk
/-- A guarded operation, whatever its guard: C tells when it is carried out. -/
theorem vhrun_consGX {ops : List Oper} {o : Oper} {l : List Oper} {K : VS → Prop} {j : Nat} {want : Bool} (C : Prop) [Decidable C] (hg : o.guard = some (j, want)) (hc : C → guardA ops st j = .lit (.bool want)) (hn : ¬ C → guardA ops st j = .lit (.bool (!want)) ∨ guardA ops st j = .lit undef)
    {r : AV} (h : C → Gives P st.h (ev st) o.op r) (hK : ∀ KK : VS → Prop, (∀ st, VHRun P ops l st K → KK st) → KK (st.put o.dst (if C then r else .lit undef))) : VHRun P ops (o :: l) st K := by
  refine vhrun_cons fun KK hKK => ?_
  have hk := hK KK hKK
  unfold VHOp
  rw [hg]
  simp only
  by_cases hC : C
  · rw [hc hC]
    simp only [if_true]
    rw [if_pos hC] at hk
    exact ⟨r, h hC, hk⟩
  · rw [if_neg hC] at hk
    rcases hn hC with e | e
    · rw [e]
      simp only
      rw [if_neg (by cases want <;> simp)]
      exact hk
    · rw [e]
      exact hk
theorem vhrun_consG0 {ops : List Oper} {o : Oper} {l : List Oper} {K : VS → Prop} {j : Nat} {want : Bool}  {b : Bool} {r : AV} (hg : o.guard = some (j, want)) (hb : IsG (guardA ops st j) ((.lit (.bool b))))
    (h : IsB b want → Gives P st.h (ev st) o.op r) (hK : ∀ KK : VS → Prop, (∀ st, VHRun P ops l st K → KK st) → KK (st.put o.dst (selA b want r))) : VHRun P ops (o :: l) st K := by
  refine vhrun_consGX (r := r) (b = want) hg (fun hC => ?_) (fun hC => ?_) (fun hC => ?_) fun KK hKK => ?_
  · rw [show guardA ops st j = _ from hb, hC]
  · rw [show guardA ops st j = _ from hb]
    revert hC
    cases b <;> cases want <;> simp
  · exact h hC
  · exact hK KK hKK
theorem vhrun_consG1 {ops : List Oper} {o : Oper} {l : List Oper} {K : VS → Prop} {j : Nat} {want : Bool} {c0 w0 : Bool} {b : Bool} {r : AV} (hg : o.guard = some (j, want)) (hb : IsG (guardA ops st j) ((selA c0 w0 (.lit (.bool b)))))
    (h : IsB c0 w0 → IsB b want → Gives P st.h (ev st) o.op r) (hK : ∀ KK : VS → Prop, (∀ st, VHRun P ops l st K → KK st) → KK (st.put o.dst (selA c0 w0 (selA b want r)))) : VHRun P ops (o :: l) st K := by
  refine vhrun_consGX (r := r) (c0 = w0 ∧ b = want) hg (fun hC => ?_) (fun hC => ?_) (fun hC => ?_) fun KK hKK => ?_
  · rw [show guardA ops st j = _ from hb]
    simp only [selA, hC, if_true]
  · rw [show guardA ops st j = _ from hb]
    simp only [selA]
    revert hC
    cases c0 <;> cases w0 <;> cases b <;> cases want <;> simp
  · exact h hC.1 hC.2
  · have hk := hK KK hKK
    have e : (selA c0 w0 (selA b want r)) = if c0 = w0 ∧ b = want then r else .lit undef := by
      simp only [selA]
      cases c0 <;> cases w0 <;> cases b <;> cases want <;> simp
    rw [e] at hk
    exact hk
theorem vhrun_consG2 {ops : List Oper} {o : Oper} {l : List Oper} {K : VS → Prop} {j : Nat} {want : Bool} {c0 w0 : Bool} {c1 w1 : Bool} {b : Bool} {r : AV} (hg : o.guard = some (j, want)) (hb : IsG (guardA ops st j) ((selA c0 w0 (selA c1 w1 (.lit (.bool b))))))
    (h : IsB c0 w0 → IsB c1 w1 → IsB b want → Gives P st.h (ev st) o.op r) (hK : ∀ KK : VS → Prop, (∀ st, VHRun P ops l st K → KK st) → KK (st.put o.dst (selA c0 w0 (selA c1 w1 (selA b want r))))) : VHRun P ops (o :: l) st K := by
  refine vhrun_consGX (r := r) (c0 = w0 ∧ c1 = w1 ∧ b = want) hg (fun hC => ?_) (fun hC => ?_) (fun hC => ?_) fun KK hKK => ?_
  · rw [show guardA ops st j = _ from hb]
    simp only [selA, hC, if_true]
  · rw [show guardA ops st j = _ from hb]
    simp only [selA]
    revert hC
    cases c0 <;> cases w0 <;> cases c1 <;> cases w1 <;> cases b <;> cases want <;> simp
  · exact h hC.1 hC.2.1 hC.2.2
  · have hk := hK KK hKK
    have e : (selA c0 w0 (selA c1 w1 (selA b want r))) = if c0 = w0 ∧ c1 = w1 ∧ b = want then r else .lit undef := by
      simp only [selA]
      cases c0 <;> cases w0 <;> cases c1 <;> cases w1 <;> cases b <;> cases want <;> simp
    rw [e] at hk
    exact hk
theorem vhrun_consG3 {ops : List Oper} {o : Oper} {l : List Oper} {K : VS → Prop} {j : Nat} {want : Bool} {c0 w0 : Bool} {c1 w1 : Bool} {c2 w2 : Bool} {b : Bool} {r : AV} (hg : o.guard = some (j, want)) (hb : IsG (guardA ops st j) ((selA c0 w0 (selA c1 w1 (selA c2 w2 (.lit (.bool b)))))))
    (h : IsB c0 w0 → IsB c1 w1 → IsB c2 w2 → IsB b want → Gives P st.h (ev st) o.op r) (hK : ∀ KK : VS → Prop, (∀ st, VHRun P ops l st K → KK st) → KK (st.put o.dst (selA c0 w0 (selA c1 w1 (selA c2 w2 (selA b want r)))))) : VHRun P ops (o :: l) st K := by
  refine vhrun_consGX (r := r) (c0 = w0 ∧ c1 = w1 ∧ c2 = w2 ∧ b = want) hg (fun hC => ?_) (fun hC => ?_) (fun hC => ?_) fun KK hKK => ?_
  · rw [show guardA ops st j = _ from hb]
    simp only [selA, hC, if_true]
  · rw [show guardA ops st j = _ from hb]
    simp only [selA]
    revert hC
    cases c0 <;> cases w0 <;> cases c1 <;> cases w1 <;> cases c2 <;> cases w2 <;> cases b <;> cases want <;> simp
  · exact h hC.1 hC.2.1 hC.2.2.1 hC.2.2.2
  · have hk := hK KK hKK
    have e : (selA c0 w0 (selA c1 w1 (selA c2 w2 (selA b want r)))) = if c0 = w0 ∧ c1 = w1 ∧ c2 = w2 ∧ b = want then r else .lit undef := by
      simp only [selA]
      cases c0 <;> cases w0 <;> cases c1 <;> cases w1 <;> cases c2 <;> cases w2 <;> cases b <;> cases want <;> simp
    rw [e] at hk
    exact hk
end
end Go.Proofs.YthbgghmjbaldlaaGreatDoor

/-! VFor: Loops: of every program; no condition. -/
namespace Go.Proofs.YthbgghmjbaldlaaGreatDoor
open Go.RowKit
section
variable {P : Program} {M0 : Nat → Prop} {w0 : World} {N : Nat} {st : VS} {Q : Exit → VS → Prop}
/-- A region that draws its order, of so many operations. -/
theorem vdrawL {id : Nat} {l : List Oper} (len n : Nat) (ow : List Nat) (_hl : l.length = len) (hm : P.follows .mixedOrders = true) (hB : drawB l n = true) (h : VHRun P l (l.take n) st fun st' => VRun P ow l (l.drop n) st' (Q .normal)) :
    VWp P M0 w0 N (.region id l.toArray true) Q st := vdraw n ow hm hB h
/-- An equation of rows that simp leaves alone. -/
def IsL (x y : List AV) : Prop := x = y
/-- A loop: what it does not assign stays as it is (keep), F tells what it assigns, H the variables and rows. -/
theorem vloopK {c : Code} {α : Type} (keep : List Nat) (F : α → List (Nat × AV)) (H : α → Hp) (Inv : α → Prop) (μ : α → Nat) (x0 : α) (hI : Inv x0) {vals : List AV} (_hv : IsL (keep.map (lkp st.s)) vals) (h0 : Le st ⟨F x0 ++ keep.zip vals, H x0⟩)
    (round : ∀ x, Inv x → ∀ K : VS → Prop, (∀ st' y, Inv y → μ y < μ x → Le st' ⟨F y ++ keep.zip vals, H y⟩ → K st') → VWp P M0 w0 N c (VThen K Q) ⟨F x ++ keep.zip vals, H x⟩) : VWp P M0 w0 N (.loop c) Q st :=
  vloop (fun x => ⟨F x ++ keep.zip vals, H x⟩) Inv μ x0 hI h0 round
/-- A loop that counts up to n and leaves early at the first k that has p. -/
theorem vfor {c : Code} (keep : List Nat) (F : Nat → List (Nat × AV)) (H : Nat → Hp) (p : Nat → Bool) (n : Nat) {vals : List AV} (hv : IsL (keep.map (lkp st.s)) vals) (h0 : Le st ⟨F 0 ++ keep.zip vals, H 0⟩)
    (go : ∀ k, k < n → Hid (∀ j, j < k → p j = false) → Hid (p k = false) → ∀ K : VS → Prop, (∀ st', Le st' ⟨F (k + 1) ++ keep.zip vals, H (k + 1)⟩ → K st') → VWp P M0 w0 N c (VThen K Q) ⟨F k ++ keep.zip vals, H k⟩)
    (hit : ∀ k, k < n → Hid (∀ j, j < k → p j = false) → Hid (p k = true) → ∀ K : VS → Prop, VWp P M0 w0 N c (VThen K Q) ⟨F k ++ keep.zip vals, H k⟩)
    (out : Hid (∀ j, j < n → p j = false) → ∀ K : VS → Prop, VWp P M0 w0 N c (VThen K Q) ⟨F n ++ keep.zip vals, H n⟩) : VWp P M0 w0 N (.loop c) Q st := by
  refine vloopK keep F H (fun k => k ≤ n ∧ ∀ j, j < k → p j = false) (fun k => n - k) 0 ⟨Nat.zero_le _, fun j h => by omega⟩ hv h0 ?_
  rintro k ⟨hk, hb⟩ K hK
  by_cases hlt : k < n
  · cases hp : p k
    · refine go k hlt (Lib.hid hb) (Lib.hid hp) K fun st' hle => hK st' (k + 1) ⟨hlt, fun j hj => ?_⟩ (by omega) hle
      by_cases he : j = k
      · rw [he]; exact hp
      · exact hb j (by omega)
    · exact hit k hlt (Lib.hid hb) (Lib.hid hp) K
  · obtain rfl : k = n := by omega
    exact out (Lib.hid hb) K
end
end Go.Proofs.YthbgghmjbaldlaaGreatDoor
