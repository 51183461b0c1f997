/- Texts in one: A row of the call's own that is written to no more is a slice like any other: of every program; no condition. -/
import Derived.Test.YtmfmpagfjgpodaaGreatDoorFW3
import Derived.Test.YtmfmpagfjgpodaaGreatDoorProg
/-! VFrz: A row of the call's own that is written to no more is a slice like any other: of every program; no condition. -/
namespace Go.Proofs.YtmfmpagfjgpodaaGreatDoor
open Go.RowKit
section
variable {P : Program} {M0 : Nat → Prop} {w0 : World} {N : Nat} {p : Nat → Nat} {st : VS} {a : Act} {w : World} {Q : Exit → VS → Prop}
theorem get_set_none {h : Hp} {id i : Nat} {ob : Ob} (hi : (h.set id none)[i]? = some (some ob)) : i ≠ id ∧ h[i]? = some (some ob) := by
  by_cases hne : i = id
  · subst hne
    by_cases hl : i < h.length
    · rw [List.getElem?_set_self hl] at hi
      simp at hi
    · rw [List.getElem?_eq_none (by simp; omega)] at hi
      simp at hi
  · rw [List.getElem?_set_ne (fun h => hne h.symm)] at hi
    exact ⟨hne, hi⟩
/-- The row's memory is given up. -/
theorem Rel.drop (R : Rel M0 w0 N p st a w) (id : Nat) : Rel M0 w0 N p ⟨st.s, st.h.set id none⟩ a w := by
  have hM : ∀ b, ¬ Mof M0 st.h p b → ¬ Mof M0 (st.h.set id none) p b := fun b hb hb' => by
    rcases hb' with h | ⟨i, ob, hi, hl, hp⟩
    · exact hb (.inl h)
    · exact hb (.inr ⟨i, ob, (get_set_none hi).2, hl, hp⟩)
  have keep : ∀ {av : AV} {v : Value}, V1 w (Mof M0 st.h p) st.h p av v → V1 w (Mof M0 (st.h.set id none) p) (st.h.set id none) p av v := fun hv =>
    hv.keep (Keeps.refl _ _) (fun b _ h => hM b h) (by simp) (fun _ _ => rfl) fun i e sz nl es v _ he hv => hv _ _ _ _ (get_set_none he).2
  refine ⟨R.defers, R.size, R.below, R.m0, fun i => keep (R.slots i), fun i ob hi => ?_, fun i i' ob ob' hi hi' hl hl' hp => R.inj i i' ob ob' (get_set_none hi).2 (get_set_none hi').2 hl hl' hp⟩
  have ho := R.objs i ob (get_set_none hi).2
  cases ob with
  | mpo kf kvs => exact ho
  | box cs =>
    obtain ⟨h1, cur, e, h2, h3, h4, h5⟩ := ho
    exact ⟨h1, cur, e, h2, h3, h4, fun j c hj => by
      obtain ⟨u, hu, hv⟩ := h5 j c hj
      exact ⟨u, hu, keep hv⟩⟩
  | arr e sz nl es =>
    obtain ⟨h1, h2, h3⟩ := ho
    refine ⟨h1, h2, ?_⟩
    split
    · rename_i hn
      rw [if_pos hn] at h3
      exact h3
    · rename_i hn
      rw [if_neg hn] at h3
      obtain ⟨g1, cur, g2, g3, g4⟩ := h3
      exact ⟨g1, cur, g2, g3, fun k x j c hk hj => by
        obtain ⟨u, hu, hv⟩ := g4 k x j c hk hj
        exact ⟨u, hu, hv.keep (Keeps.refl _ _) (fun b _ h => hM b h)⟩⟩
theorem Rel.freeze (R : Rel M0 w0 N p st a w) {id t e sz : Nat} {nl : Bool} {es : List (List AV)} (ht : lkp st.s t = .osl id) (hi : st.h[id]? = some (some (.arr e sz nl es))) :
    Rel M0 w0 N p ⟨(t, .sl sz es) :: st.s, st.h.set id none⟩ a w := by
  have D := R.drop id
  refine ⟨D.defers, D.size, D.below, D.m0, fun i => ?_, D.objs, D.inj⟩
  by_cases hit : t = i
  · subst hit
    simp only [lkp, if_true]
    have hv := R.slots t
    rw [ht] at hv
    obtain ⟨A, n, c, hu, hid, ho⟩ := hv.osl_inv
    have hO := ho _ _ _ _ hi
    obtain ⟨o1, o2, o3⟩ := R.objs id _ hi
    refine .base _ _ ?_
    generalize a.tmps.getD t undef = v at hu hO
    by_cases hnl : nl = true
    · rw [if_pos hnl] at o3
      unfold Osl at hO
      rw [if_pos hnl] at hO
      rw [hO.1, o3]
      exact .slNil _ _ _
    · rw [if_neg hnl] at o3
      unfold Osl at hO
      rw [if_neg hnl] at hO
      obtain ⟨cap, cur, e1, e2, e3, e4, e5⟩ := hO
      obtain ⟨q1, cur', q2, q3, q4⟩ := o3
      have hcc : cur' = cur := by
        rw [q2] at e2
        injection e2 with e2
        injection e2 with e2
      subst hcc
      rw [e1]
      by_cases hes : es = []
      · subst hes
        exact .slNil _ _ _
      · have hb : p id < w.heap.size := (Array.getElem?_eq_some_iff.1 e2).1
        have hMn : ¬ Mof M0 (st.h.set id none) p (p id) := by
          rintro (h | ⟨i, ob, hi2, hl, hp⟩)
          · have := R.m0.1 _ h
            omega
          · obtain ⟨hne, hi3⟩ := get_set_none hi2
            refine hne (R.inj i id ob _ hi3 hi hl ?_ hp)
            cases nl
            · rfl
            · exact absurd rfl hnl
        have hM : ∀ b, ¬ Mof M0 st.h p b → ¬ Mof M0 (st.h.set id none) p b := fun b hb hb' => by
          rcases hb' with h | ⟨i, ob, hi, hl, hp⟩
          · exact hb (.inl h)
          · exact hb (.inr ⟨i, ob, (get_set_none hi).2, hl, hp⟩)
        have hcell : ∀ j, w.cell? ⟨p id, j, none⟩ = cur'[j]? := fun j => by simp [World.cell?, e2]
        have hlen : ∀ (k : Nat) (x : List AV), es[k]? = some x → x.length = sz := fun k x hk => (o2 k x hk).1
        refine .sl sz es cap (p id) 0 (fun k j => (cur'[k * sz + j]?).getD undef) hes hb hMn e4 hlen (fun k x j c hk hj => (o2 k x hk).2 c (List.mem_of_getElem? hj)) (fun k j hk hj => ?_) fun k x j c hk hj => ?_
        · rw [Nat.zero_add, hcell]
          have hx : es[k]? = some es[k] := List.getElem?_eq_getElem hk
          have hjl : j < es[k].length := by rw [hlen k _ hx]; exact hj
          obtain ⟨u, hu, _⟩ := q4 k _ j _ hx (List.getElem?_eq_getElem hjl)
          rw [hu]
          rfl
        · obtain ⟨u, hu, hv⟩ := q4 k x j c hk hj
          rw [hu]
          exact hv.keep (Keeps.refl _ _) (fun b _ h => hM b h)
  · simp only [lkp, if_neg hit]
    exact D.slots i
/-- From here on slot t holds a slice that nobody writes to. -/
theorem vfreeze {c : Code} (t id : Nat) {e sz : Nat} {nl : Bool} {es : List (List AV)} (ht : lkp st.s t = .osl id) (hi : st.h[id]? = some (some (.arr e sz nl es))) (h : VWp P M0 w0 N c Q ⟨(t, .sl sz es) :: st.s, st.h.set id none⟩) : VWp P M0 w0 N c Q st :=
  fun hB p a w R => h hB p a w (R.freeze ht hi)
theorem sub_freeze {s : List (Nat × AV)} {H H' : Hp} {d id e sz : Nat} {nl : Bool} {es : List (List AV)} (hi : H[id]? = some (some (.arr e sz nl es))) (hH : H' = H.set id none) : SubRel ⟨(d, .osl id) :: s, H⟩ ⟨(d, .sl sz es) :: s, H'⟩ := by
  subst hH
  intro M0 w0 N p a w R
  refine (R.freeze (t := d) (id := id) (by simp [lkp]) hi).weak (s' := (d, .sl sz es) :: s) fun t => .inl ?_
  simp only [lkp]
  split <;> rfl
end
/-! What is so of a contract's result, so of one that says less. -/
theorem VC.weak {P : Program} {f : FuncId} {args : List AV} {r r' : AV} (h : VC P f args r) (hr : ∀ (w : World) (M : Nat → Prop) (v : Value), V0 w M r v → V0 w M r' v) : VC P f args r' :=
  ⟨h.1, fun w M vs hM hl hv => (h.2 w M vs hM hl hv).mono fun _ _ ⟨v, he, hb, h0⟩ => ⟨v, he, hb, hr _ _ _ h0⟩⟩
theorem V0.nilSl {w : World} {M : Nat → Prop} {v : Value} (h : V0 w M (.lit (.slice none 0 0)) v) (sz : Nat) : V0 w M (.sl sz []) v := by
  cases h with
  | lit => exact .slNil _ _ _
end Go.Proofs.YtmfmpagfjgpodaaGreatDoor

/-! VCond: A test that is not decided is walked both ways: of every program; no condition. -/
namespace Go.Proofs.YtmfmpagfjgpodaaGreatDoor
open Go.RowKit
def boolOf : AV → Bool
  | .lit (.bool b) => b
  | _ => false
attribute [go_sem] boolOf
/-- An equation that simp leaves alone. -/
def IsB (b want : Bool) : Prop := b = want
/-- The same of plain values. -/
def IsG (x y : AV) : Prop := x = y
theorem IsB.out {b want : Bool} (h : IsB b want) : b = want := h
section
variable {P : Program} {M0 : Nat → Prop} {w0 : World} {N : Nat} {st : VS} {Q : Exit → VS → Prop}
theorem vcondS {c : Operand} {x y : Code} (hc : ev st c = .lit (.bool (boolOf (ev st c)))) (h1 : IsB (boolOf (ev st c)) true → VWp P M0 w0 N x Q st) (h2 : IsB (boolOf (ev st c)) false → VWp P M0 w0 N y Q st) : VWp P M0 w0 N (.cond c x y) Q st := vcond hc h1 h2
/-- A guarded operation, whatever its guard: C tells when it is carried out. -/
theorem vrun_consGX {ow : List Nat} {ops : List Oper} {o : Oper} {l : List Oper} {K : VS → Prop} {j : Nat} {want : Bool} (C : Prop) [Decidable C] (hg : o.guard = some (j, want)) (hc : C → guardA ops st j = .lit (.bool want)) (hn : ¬ C → guardA ops st j = .lit (.bool (!want)) ∨ guardA ops st j = .lit undef) (ht : tailOp P ow st o = none ∧ ownCall ow o = none)
    {r : AV} (h : C → Gives P st.h (ev st) o.op r) (hK : ∀ KK : VS → Prop, (∀ st, VRun P ow ops l st K → KK st) → KK (st.put o.dst (if C then r else .lit undef))) : VRun P ow ops (o :: l) st K := by
  refine vrun_cons fun KK hKK => ?_
  have hk := hK KK hKK
  unfold VOp
  rw [hg]
  simp only
  by_cases hC : C
  · rw [hc hC]
    simp only [if_true]
    rw [if_pos hC] at hk
    unfold VDo
    rw [ht.1, ht.2]
    exact ⟨r, h hC, hk⟩
  · rw [if_neg hC] at hk
    rcases hn hC with e | e
    · rw [e]
      simp only
      rw [if_neg (by cases want <;> simp)]
      exact hk
    · rw [e]
      exact hk
theorem vrun_consG0 {ow : List Nat} {ops : List Oper} {o : Oper} {l : List Oper} {K : VS → Prop} {j : Nat} {want : Bool}  {b : Bool} {r : AV} (hg : o.guard = some (j, want)) (hb : IsG (guardA ops st j) ((.lit (.bool b)))) (ht : tailOp P ow st o = none ∧ ownCall ow o = none)
    (h : IsB b want → Gives P st.h (ev st) o.op r) (hK : ∀ KK : VS → Prop, (∀ st, VRun P ow ops l st K → KK st) → KK (st.put o.dst (selA b want r))) : VRun P ow ops (o :: l) st K := by
  refine vrun_consGX (r := r) (b = want) hg (fun hC => ?_) (fun hC => ?_) ht (fun hC => ?_) fun KK hKK => ?_
  · rw [show guardA ops st j = _ from hb, hC]
  · rw [show guardA ops st j = _ from hb]
    revert hC
    cases b <;> cases want <;> simp
  · exact h hC
  · exact hK KK hKK
theorem vrun_consG1 {ow : List Nat} {ops : List Oper} {o : Oper} {l : List Oper} {K : VS → Prop} {j : Nat} {want : Bool} {c0 w0 : Bool} {b : Bool} {r : AV} (hg : o.guard = some (j, want)) (hb : IsG (guardA ops st j) ((selA c0 w0 (.lit (.bool b))))) (ht : tailOp P ow st o = none ∧ ownCall ow o = none)
    (h : IsB c0 w0 → IsB b want → Gives P st.h (ev st) o.op r) (hK : ∀ KK : VS → Prop, (∀ st, VRun P ow ops l st K → KK st) → KK (st.put o.dst (selA c0 w0 (selA b want r)))) : VRun P ow ops (o :: l) st K := by
  refine vrun_consGX (r := r) (c0 = w0 ∧ b = want) hg (fun hC => ?_) (fun hC => ?_) ht (fun hC => ?_) fun KK hKK => ?_
  · rw [show guardA ops st j = _ from hb]
    simp only [selA, hC, if_true]
  · rw [show guardA ops st j = _ from hb]
    simp only [selA]
    revert hC
    cases c0 <;> cases w0 <;> cases b <;> cases want <;> simp
  · exact h hC.1 hC.2
  · have hk := hK KK hKK
    have e : (selA c0 w0 (selA b want r)) = if c0 = w0 ∧ b = want then r else .lit undef := by
      simp only [selA]
      cases c0 <;> cases w0 <;> cases b <;> cases want <;> simp
    rw [e] at hk
    exact hk
theorem vrun_consG2 {ow : List Nat} {ops : List Oper} {o : Oper} {l : List Oper} {K : VS → Prop} {j : Nat} {want : Bool} {c0 w0 : Bool} {c1 w1 : Bool} {b : Bool} {r : AV} (hg : o.guard = some (j, want)) (hb : IsG (guardA ops st j) ((selA c0 w0 (selA c1 w1 (.lit (.bool b)))))) (ht : tailOp P ow st o = none ∧ ownCall ow o = none)
    (h : IsB c0 w0 → IsB c1 w1 → IsB b want → Gives P st.h (ev st) o.op r) (hK : ∀ KK : VS → Prop, (∀ st, VRun P ow ops l st K → KK st) → KK (st.put o.dst (selA c0 w0 (selA c1 w1 (selA b want r))))) : VRun P ow ops (o :: l) st K := by
  refine vrun_consGX (r := r) (c0 = w0 ∧ c1 = w1 ∧ b = want) hg (fun hC => ?_) (fun hC => ?_) ht (fun hC => ?_) fun KK hKK => ?_
  · rw [show guardA ops st j = _ from hb]
    simp only [selA, hC, if_true]
  · rw [show guardA ops st j = _ from hb]
    simp only [selA]
    revert hC
    cases c0 <;> cases w0 <;> cases c1 <;> cases w1 <;> cases b <;> cases want <;> simp
  · exact h hC.1 hC.2.1 hC.2.2
  · have hk := hK KK hKK
    have e : (selA c0 w0 (selA c1 w1 (selA b want r))) = if c0 = w0 ∧ c1 = w1 ∧ b = want then r else .lit undef := by
      simp only [selA]
      cases c0 <;> cases w0 <;> cases c1 <;> cases w1 <;> cases b <;> cases want <;> simp
    rw [e] at hk
    exact hk
theorem vrun_consG3 {ow : List Nat} {ops : List Oper} {o : Oper} {l : List Oper} {K : VS → Prop} {j : Nat} {want : Bool} {c0 w0 : Bool} {c1 w1 : Bool} {c2 w2 : Bool} {b : Bool} {r : AV} (hg : o.guard = some (j, want)) (hb : IsG (guardA ops st j) ((selA c0 w0 (selA c1 w1 (selA c2 w2 (.lit (.bool b))))))) (ht : tailOp P ow st o = none ∧ ownCall ow o = none)
    (h : IsB c0 w0 → IsB c1 w1 → IsB c2 w2 → IsB b want → Gives P st.h (ev st) o.op r) (hK : ∀ KK : VS → Prop, (∀ st, VRun P ow ops l st K → KK st) → KK (st.put o.dst (selA c0 w0 (selA c1 w1 (selA c2 w2 (selA b want r)))))) : VRun P ow ops (o :: l) st K := by
  refine vrun_consGX (r := r) (c0 = w0 ∧ c1 = w1 ∧ c2 = w2 ∧ b = want) hg (fun hC => ?_) (fun hC => ?_) ht (fun hC => ?_) fun KK hKK => ?_
  · rw [show guardA ops st j = _ from hb]
    simp only [selA, hC, if_true]
  · rw [show guardA ops st j = _ from hb]
    simp only [selA]
    revert hC
    cases c0 <;> cases w0 <;> cases c1 <;> cases w1 <;> cases c2 <;> cases w2 <;> cases b <;> cases want <;> simp
  · exact h hC.1 hC.2.1 hC.2.2.1 hC.2.2.2
  · have hk := hK KK hKK
    have e : (selA c0 w0 (selA c1 w1 (selA c2 w2 (selA b want r)))) = if c0 = w0 ∧ c1 = w1 ∧ c2 = w2 ∧ b = want then r else .lit undef := by
      simp only [selA]
      cases c0 <;> cases w0 <;> cases c1 <;> cases w1 <;> cases c2 <;> cases w2 <;> cases b <;> cases want <;> simp
    rw [e] at hk
    exact hk
/-- A guarded operation, whatever its guard: C tells when it is carried out. -/
theorem vhrun_consGX {ops : List Oper} {o : Oper} {l : List Oper} {K : VS → Prop} {j : Nat} {want : Bool} (C : Prop) [Decidable C] (hg : o.guard = some (j, want)) (hc : C → guardA ops st j = .lit (.bool want)) (hn : ¬ C → guardA ops st j = .lit (.bool (!want)) ∨ guardA ops st j = .lit undef)
    {r : AV} (h : C → Gives P st.h (ev st) o.op r) (hK : ∀ KK : VS → Prop, (∀ st, VHRun P ops l st K → KK st) → KK (st.put o.dst (if C then r else .lit undef))) : VHRun P ops (o :: l) st K := by
  refine vhrun_cons fun KK hKK => ?_
  have hk := hK KK hKK
  unfold VHOp
  rw [hg]
  simp only
  by_cases hC : C
  · rw [hc hC]
    simp only [if_true]
    rw [if_pos hC] at hk
    exact ⟨r, h hC, hk⟩
  · rw [if_neg hC] at hk
    rcases hn hC with e | e
    · rw [e]
      simp only
      rw [if_neg (by cases want <;> simp)]
      exact hk
    · rw [e]
      exact hk
theorem vhrun_consG0 {ops : List Oper} {o : Oper} {l : List Oper} {K : VS → Prop} {j : Nat} {want : Bool}  {b : Bool} {r : AV} (hg : o.guard = some (j, want)) (hb : IsG (guardA ops st j) ((.lit (.bool b))))
    (h : IsB b want → Gives P st.h (ev st) o.op r) (hK : ∀ KK : VS → Prop, (∀ st, VHRun P ops l st K → KK st) → KK (st.put o.dst (selA b want r))) : VHRun P ops (o :: l) st K := by
  refine vhrun_consGX (r := r) (b = want) hg (fun hC => ?_) (fun hC => ?_) (fun hC => ?_) fun KK hKK => ?_
  · rw [show guardA ops st j = _ from hb, hC]
  · rw [show guardA ops st j = _ from hb]
    revert hC
    cases b <;> cases want <;> simp
  · exact h hC
  · exact hK KK hKK
theorem vhrun_consG1 {ops : List Oper} {o : Oper} {l : List Oper} {K : VS → Prop} {j : Nat} {want : Bool} {c0 w0 : Bool} {b : Bool} {r : AV} (hg : o.guard = some (j, want)) (hb : IsG (guardA ops st j) ((selA c0 w0 (.lit (.bool b)))))
    (h : IsB c0 w0 → IsB b want → Gives P st.h (ev st) o.op r) (hK : ∀ KK : VS → Prop, (∀ st, VHRun P ops l st K → KK st) → KK (st.put o.dst (selA c0 w0 (selA b want r)))) : VHRun P ops (o :: l) st K := by
  refine vhrun_consGX (r := r) (c0 = w0 ∧ b = want) hg (fun hC => ?_) (fun hC => ?_) (fun hC => ?_) fun KK hKK => ?_
  · rw [show guardA ops st j = _ from hb]
    simp only [selA, hC, if_true]
  · rw [show guardA ops st j = _ from hb]
    simp only [selA]
    revert hC
    cases c0 <;> cases w0 <;> cases b <;> cases want <;> simp
  · exact h hC.1 hC.2
  · have hk := hK KK hKK
    have e : (selA c0 w0 (selA b want r)) = if c0 = w0 ∧ b = want then r else .lit undef := by
      simp only [selA]
      cases c0 <;> cases w0 <;> cases b <;> cases want <;> simp
    rw [e] at hk
    exact hk
theorem vhrun_consG2 {ops : List Oper} {o : Oper} {l : List Oper} {K : VS → Prop} {j : Nat} {want : Bool} {c0 w0 : Bool} {c1 w1 : Bool} {b : Bool} {r : AV} (hg : o.guard = some (j, want)) (hb : IsG (guardA ops st j) ((selA c0 w0 (selA c1 w1 (.lit (.bool b))))))
    (h : IsB c0 w0 → IsB c1 w1 → IsB b want → Gives P st.h (ev st) o.op r) (hK : ∀ KK : VS → Prop, (∀ st, VHRun P ops l st K → KK st) → KK (st.put o.dst (selA c0 w0 (selA c1 w1 (selA b want r))))) : VHRun P ops (o :: l) st K := by
  refine vhrun_consGX (r := r) (c0 = w0 ∧ c1 = w1 ∧ b = want) hg (fun hC => ?_) (fun hC => ?_) (fun hC => ?_) fun KK hKK => ?_
  · rw [show guardA ops st j = _ from hb]
    simp only [selA, hC, if_true]
  · rw [show guardA ops st j = _ from hb]
    simp only [selA]
    revert hC
    cases c0 <;> cases w0 <;> cases c1 <;> cases w1 <;> cases b <;> cases want <;> simp
  · exact h hC.1 hC.2.1 hC.2.2
  · have hk := hK KK hKK
    have e : (selA c0 w0 (selA c1 w1 (selA b want r))) = if c0 = w0 ∧ c1 = w1 ∧ b = want then r else .lit undef := by
      simp only [selA]
      cases c0 <;> cases w0 <;> cases c1 <;> cases w1 <;> cases b <;> cases want <;> simp
    rw [e] at hk
    exact hk
theorem vhrun_consG3 {ops : List Oper} {o : Oper} {l : List Oper} {K : VS → Prop} {j : Nat} {want : Bool} {c0 w0 : Bool} {c1 w1 : Bool} {c2 w2 : Bool} {b : Bool} {r : AV} (hg : o.guard = some (j, want)) (hb : IsG (guardA ops st j) ((selA c0 w0 (selA c1 w1 (selA c2 w2 (.lit (.bool b)))))))
    (h : IsB c0 w0 → IsB c1 w1 → IsB c2 w2 → IsB b want → Gives P st.h (ev st) o.op r) (hK : ∀ KK : VS → Prop, (∀ st, VHRun P ops l st K → KK st) → KK (st.put o.dst (selA c0 w0 (selA c1 w1 (selA c2 w2 (selA b want r)))))) : VHRun P ops (o :: l) st K := by
  refine vhrun_consGX (r := r) (c0 = w0 ∧ c1 = w1 ∧ c2 = w2 ∧ b = want) hg (fun hC => ?_) (fun hC => ?_) (fun hC => ?_) fun KK hKK => ?_
  · rw [show guardA ops st j = _ from hb]
    simp only [selA, hC, if_true]
  · rw [show guardA ops st j = _ from hb]
    simp only [selA]
    revert hC
    cases c0 <;> cases w0 <;> cases c1 <;> cases w1 <;> cases c2 <;> cases w2 <;> cases b <;> cases want <;> simp
  · exact h hC.1 hC.2.1 hC.2.2.1 hC.2.2.2
  · have hk := hK KK hKK
    have e : (selA c0 w0 (selA c1 w1 (selA c2 w2 (selA b want r)))) = if c0 = w0 ∧ c1 = w1 ∧ c2 = w2 ∧ b = want then r else .lit undef := by
      simp only [selA]
      cases c0 <;> cases w0 <;> cases c1 <;> cases w1 <;> cases c2 <;> cases w2 <;> cases b <;> cases want <;> simp
    rw [e] at hk
    exact hk
end
end Go.Proofs.YtmfmpagfjgpodaaGreatDoor

/-! VT: What the types of the program are; no condition. -/
namespace Go.Proofs.YtmfmpagfjgpodaaGreatDoor
open Go.RowKit
@[go_sem] theorem ti3 : tinfo Tryz.prog 3 = some ⟨5, 1, 8, 0, 1, 0, .i64, [], [.int .i64 0]⟩ := by kernel_rfl
@[go_sem] theorem ti4 : tinfo Tryz.prog 4 = some ⟨6, 1, 1, 0, 1, 0, .i64, [], [.bool false]⟩ := by kernel_rfl
@[go_sem] theorem ti5 : tinfo Tryz.prog 5 = some ⟨5, 1, 1, 0, 1, 0, .u8, [], [.int .u8 0]⟩ := by kernel_rfl
@[go_sem] theorem ti9 : tinfo Tryz.prog 9 = some ⟨4, 1, 16, 0, 1, 0, .i64, [], [.string ⟨#[]⟩]⟩ := by kernel_rfl
@[go_sem] theorem ti23 : tinfo Tryz.prog 23 = some ⟨3, 5, 40, 0, 1, 0, .i64, [(0, 1, false), (1, 1, false), (2, 1, false), (3, 1, false), (4, 1, false)], [.int .i64 0, .int .i64 0, .int .i64 0, .int .i64 0, .int .i64 0]⟩ := by kernel_rfl
@[go_sem] theorem ti24 : tinfo Tryz.prog 24 = some ⟨1, 1, 24, 36, 3, 0, .i64, [], [.slice none 0 0]⟩ := by kernel_rfl
@[go_sem] theorem ti27 : tinfo Tryz.prog 27 = some ⟨5, 1, 8, 0, 1, 0, .i64, [], [.int .i64 0]⟩ := by kernel_rfl
@[go_sem] theorem ti36 : tinfo Tryz.prog 36 = some ⟨3, 3, 32, 0, 1, 0, .i64, [(0, 1, false), (1, 1, false), (2, 1, false)], [.string ⟨#[]⟩, .int .i64 0, .int .i64 0]⟩ := by kernel_rfl
@[go_sem] theorem ti44 : tinfo Tryz.prog 44 = some ⟨1, 1, 24, 57, 2, 0, .i64, [], [.slice none 0 0]⟩ := by kernel_rfl
@[go_sem] theorem ti53 : tinfo Tryz.prog 53 = some ⟨3, 2, 16, 0, 1, 0, .i64, [(0, 1, false), (1, 1, false)], [.int .i64 0, .int .i64 0]⟩ := by kernel_rfl
@[go_sem] theorem ti55 : tinfo Tryz.prog 55 = some ⟨3, 4, 32, 0, 1, 0, .i64, [(0, 1, false), (1, 2, true), (3, 1, false)], [.int .i64 0, .int .i64 0, .int .i64 0, .int .i64 0]⟩ := by kernel_rfl
@[go_sem] theorem ti57 : tinfo Tryz.prog 57 = some ⟨2, 2, 16, 3, 1, 2, .i64, [], [.int .i64 0, .int .i64 0]⟩ := by kernel_rfl
@[go_sem] theorem ti58 : tinfo Tryz.prog 58 = some ⟨2, 5, 40, 3, 1, 5, .i64, [], [.int .i64 0, .int .i64 0, .int .i64 0, .int .i64 0, .int .i64 0]⟩ := by kernel_rfl
@[go_sem] theorem ti64 : tinfo Tryz.prog 64 = some ⟨8, 1, 8, 0, 1, 0, .i64, [], [.nilFunc]⟩ := by kernel_rfl
@[go_sem] theorem ti66 : tinfo Tryz.prog 66 = some ⟨1, 1, 24, 3, 1, 0, .i64, [], [.slice none 0 0]⟩ := by kernel_rfl
@[go_sem] theorem ti67 : tinfo Tryz.prog 67 = some ⟨1, 1, 24, 9, 1, 0, .i64, [], [.slice none 0 0]⟩ := by kernel_rfl
@[go_sem] theorem ti70 : tinfo Tryz.prog 70 = some ⟨7, 1, 8, 3, 1, 0, .i64, [], [.pointer none]⟩ := by kernel_rfl
@[go_sem] theorem ti71 : tinfo Tryz.prog 71 = some ⟨2, 2, 16, 70, 1, 2, .i64, [], [.pointer none, .pointer none]⟩ := by kernel_rfl
@[go_sem] theorem ti73 : tinfo Tryz.prog 73 = some ⟨9, 1, 16, 0, 1, 0, .i64, [], [.nilIface]⟩ := by kernel_rfl
@[go_sem] theorem ti82 : tinfo Tryz.prog 82 = some ⟨3, 6, 64, 0, 1, 0, .i64, [(0, 5, true), (5, 1, false)], [.int .i64 0, .int .i64 0, .int .i64 0, .int .i64 0, .int .i64 0, .slice none 0 0]⟩ := by kernel_rfl
@[go_sem] theorem ti89 : tinfo Tryz.prog 89 = some ⟨8, 1, 8, 0, 1, 0, .i64, [], [.nilFunc]⟩ := by kernel_rfl
@[go_sem] theorem ti95 : tinfo Tryz.prog 95 = some ⟨1, 1, 24, 27, 1, 0, .i64, [], [.slice none 0 0]⟩ := by kernel_rfl
@[go_sem] theorem ti102 : tinfo Tryz.prog 102 = some ⟨1, 1, 24, 5, 1, 0, .i64, [], [.slice none 0 0]⟩ := by kernel_rfl
@[go_sem] theorem ti105 : tinfo Tryz.prog 105 = some ⟨3, 2, 16, 0, 1, 0, .i64, [(0, 1, false), (1, 1, false)], [.int .i64 0, .int .i64 0]⟩ := by kernel_rfl
@[go_sem] theorem ti107 : tinfo Tryz.prog 107 = some ⟨5, 1, 8, 0, 1, 0, .u64, [], [.int .u64 0]⟩ := by kernel_rfl
@[go_sem] theorem ti122 : tinfo Tryz.prog 122 = some ⟨5, 1, 8, 0, 1, 0, .u64, [], [.int .u64 0]⟩ := by kernel_rfl
@[go_sem] theorem ti140 : tinfo Tryz.prog 140 = some ⟨2, 20, 160, 122, 1, 20, .i64, [], [.int .u64 0, .int .u64 0, .int .u64 0, .int .u64 0, .int .u64 0, .int .u64 0, .int .u64 0, .int .u64 0, .int .u64 0, .int .u64 0, .int .u64 0, .int .u64 0, .int .u64 0, .int .u64 0, .int .u64 0, .int .u64 0, .int .u64 0, .int .u64 0, .int .u64 0, .int .u64 0]⟩ := by kernel_rfl
@[go_sem] theorem ti146 : tinfo Tryz.prog 146 = some ⟨3, 2, 2, 0, 1, 0, .i64, [(0, 1, false), (1, 1, false)], [.int .u8 0, .int .u8 0]⟩ := by kernel_rfl
@[go_sem] theorem ti147 : tinfo Tryz.prog 147 = some ⟨2, 32, 32, 146, 2, 16, .i64, [], [.int .u8 0, .int .u8 0, .int .u8 0, .int .u8 0, .int .u8 0, .int .u8 0, .int .u8 0, .int .u8 0, .int .u8 0, .int .u8 0, .int .u8 0, .int .u8 0, .int .u8 0, .int .u8 0, .int .u8 0, .int .u8 0, .int .u8 0, .int .u8 0, .int .u8 0, .int .u8 0, .int .u8 0, .int .u8 0, .int .u8 0, .int .u8 0, .int .u8 0, .int .u8 0, .int .u8 0, .int .u8 0, .int .u8 0, .int .u8 0, .int .u8 0, .int .u8 0]⟩ := by kernel_rfl
@[go_sem] theorem ti151 : tinfo Tryz.prog 151 = some ⟨2, 32, 32, 5, 1, 32, .i64, [], [.int .u8 0, .int .u8 0, .int .u8 0, .int .u8 0, .int .u8 0, .int .u8 0, .int .u8 0, .int .u8 0, .int .u8 0, .int .u8 0, .int .u8 0, .int .u8 0, .int .u8 0, .int .u8 0, .int .u8 0, .int .u8 0, .int .u8 0, .int .u8 0, .int .u8 0, .int .u8 0, .int .u8 0, .int .u8 0, .int .u8 0, .int .u8 0, .int .u8 0, .int .u8 0, .int .u8 0, .int .u8 0, .int .u8 0, .int .u8 0, .int .u8 0, .int .u8 0]⟩ := by kernel_rfl
@[go_sem] theorem ti152 : tinfo Tryz.prog 152 = some ⟨2, 64, 64, 5, 1, 64, .i64, [], [.int .u8 0, .int .u8 0, .int .u8 0, .int .u8 0, .int .u8 0, .int .u8 0, .int .u8 0, .int .u8 0, .int .u8 0, .int .u8 0, .int .u8 0, .int .u8 0, .int .u8 0, .int .u8 0, .int .u8 0, .int .u8 0, .int .u8 0, .int .u8 0, .int .u8 0, .int .u8 0, .int .u8 0, .int .u8 0, .int .u8 0, .int .u8 0, .int .u8 0, .int .u8 0, .int .u8 0, .int .u8 0, .int .u8 0, .int .u8 0, .int .u8 0, .int .u8 0, .int .u8 0, .int .u8 0, .int .u8 0, .int .u8 0, .int .u8 0, .int .u8 0, .int .u8 0, .int .u8 0, .int .u8 0, .int .u8 0, .int .u8 0, .int .u8 0, .int .u8 0, .int .u8 0, .int .u8 0, .int .u8 0, .int .u8 0, .int .u8 0, .int .u8 0, .int .u8 0, .int .u8 0, .int .u8 0, .int .u8 0, .int .u8 0, .int .u8 0, .int .u8 0, .int .u8 0, .int .u8 0, .int .u8 0, .int .u8 0, .int .u8 0, .int .u8 0]⟩ := by kernel_rfl
@[go_sem] theorem tg3 : tagg Tryz.prog 3 = false := by kernel_rfl
@[go_sem] theorem tg27 : tagg Tryz.prog 27 = false := by kernel_rfl
@[go_sem] theorem tg9 : tagg Tryz.prog 9 = false := by kernel_rfl
@[go_sem] theorem eq57 : eqInfo Tryz.prog 57 = some [(0, 5), (1, 5)] := by kernel_rfl
@[go_sem] theorem eq36 : eqInfo Tryz.prog 36 = some [(0, 4), (1, 5), (2, 5)] := by kernel_rfl
end Go.Proofs.YtmfmpagfjgpodaaGreatDoor

/-! VLem: Plain values and contracts: small laws; no condition. -/
namespace Go.Proofs.YtmfmpagfjgpodaaGreatDoor
open Go.RowKit
def intA (n : Int) : List AV := [I n]
def txtA (s : ByteArray) : List AV := [S s]
def pairA (p : Nat × Nat) : List AV := [I p.1, I p.2]
attribute [go_sem] intA txtA pairA
section
variable {P : Program} {w w' : World} {M : Nat → Prop}
theorem V0.lit_inv {v u : Value} (h : V0 w M (.lit v) u) : u = v := by cases h; rfl
theorem V0.agg_lits {us : List Value} {v : Value} (h : V0 w M (.agg (us.map .lit)) v) : v = .agg us.toArray := by
  generalize he : us.map AV.lit = cs at h
  cases h with
  | agg _ vs hl h1 hv =>
    subst he
    congr 2
    apply List.ext_getElem?
    intro i
    cases hi : us[i]? with
    | none =>
      rw [List.getElem?_eq_none_iff] at hi ⊢
      simp at hl
      omega
    | some x =>
      have hlt : i < vs.length := by rw [hl]; simpa using (List.getElem?_eq_some_iff.1 hi).1
      have := hv i (.lit x) vs[i] (by simp [hi]) (List.getElem?_eq_getElem hlt)
      rw [List.getElem?_eq_getElem hlt, this.lit_inv]
theorem V0.of_lits (us : List Value) : V0 w M (.tup (us.map .lit)) (.tuple us.toArray) :=
  .tup _ _ (by simp) fun i c u hc hu => by
    obtain ⟨x, hx, rfl⟩ := map_at hc
    rw [hu] at hx
    obtain rfl := Option.some.inj hx
    exact .lit u
theorem V0.of_agg {us : List Value} (h : us.all (·.oneCell') = true) : V0 w M (.agg (us.map .lit)) (.agg us.toArray) :=
  .agg _ _ (by simp) (fun c hc => by
    obtain ⟨x, hx, rfl⟩ := List.mem_map.1 hc
    exact List.all_eq_true.1 h x hx) fun i c u hc hu => by
    obtain ⟨x, hx, rfl⟩ := map_at hc
    rw [hu] at hx
    obtain rfl := Option.some.inj hx
    exact .lit u
/-- A slice of elements all of whose cells are known, as a slice that reads as a list. -/
theorem V0.sl_inv {α : Type} {F : α → List AV} {C : α → List Value} {sz : Nat} (hF : ∀ x, F x = (C x).map .lit) {l : List α} {v : Value} (h : V0 w M (.sl sz (l.map F)) v) : ∃ A cap, v = .slice A l.length cap ∧ l.length ≤ cap ∧ Sl C sz w A l := by
  generalize he : l.map F = es at h
  cases h with
  | slNil _ A cap =>
    have : l = [] := by simpa using he
    subst this
    exact ⟨A, cap, rfl, Nat.zero_le _, Sl.nil _ _ _ _⟩
  | sl _ _ cap b o u hne hb hM hcap hsz h1 hc hv =>
    subst he
    refine ⟨_, cap, by rw [List.length_map], by simpa using hcap, fun _ => ⟨b, o, rfl, fun k x hk j c hj => ?_⟩⟩
    have hkl : k < l.length := (List.getElem?_eq_some_iff.1 hk).1
    have hx : (l.map F)[k]? = some (F x) := by simp [hk]
    have hjj : (F x)[j]? = some (.lit c) := by rw [hF]; simp [hj]
    have hjl : j < sz := by rw [← hsz k _ hx]; exact (List.getElem?_eq_some_iff.1 hjj).1
    rw [hc k j (by simpa using hkl) hjl]
    exact congrArg some (hv k _ j _ hx hjj).lit_inv
theorem V0.sl_mk {α : Type} {F : α → List AV} {C : α → List Value} {sz cap : Nat} (hF : ∀ x, F x = (C x).map .lit) (hC : ∀ x, (C x).length = sz) (h1 : ∀ x, ∀ u ∈ C x, u.oneCell' = true) {l : List α} {A : Option Addr} (hcap : l.length ≤ cap) (hM : ∀ b o, A = some ⟨b, o, none⟩ → l ≠ [] → ¬ M b)
    (hS : Sl C sz w A l) (hsz : 0 < sz) : V0 w M (.sl sz (l.map F)) (.slice A l.length cap) := by
  by_cases hne : l = []
  · subst hne
    exact .slNil _ _ _
  · obtain ⟨b, o, rfl, hc⟩ := hS hne
    have hget : ∀ (k : Nat) (e : List AV), (l.map F)[k]? = some e → ∃ x, l[k]? = some x ∧ e = (C x).map .lit := fun k e hk => by
      obtain ⟨x, hx, rfl⟩ := map_at hk
      exact ⟨x, hx, hF x⟩
    have hcell : ∀ k j, k < l.length → j < sz → ∃ v, w.cell? ⟨b, o + k * sz + j, none⟩ = some v := fun k j hk hj => by
      have hj' : j < (C l[k]).length := by rw [hC]; exact hj
      exact ⟨_, hc k l[k] (List.getElem?_eq_getElem hk) j _ (List.getElem?_eq_getElem hj')⟩
    have hb : b < w.heap.size := by
      obtain ⟨v, hv⟩ := hcell 0 0 (List.length_pos_iff.2 hne) hsz
      exact World.block_lt_of_cell? w _ hv
    have key := V0.sl (w := w) (M := M) sz (l.map F) cap b o (fun k j => (w.cell? ⟨b, o + k * sz + j, none⟩).getD undef) (by simpa using hne) hb (hM b o rfl hne) (by simpa using hcap) (fun k e hk => by
      obtain ⟨x, _, rfl⟩ := hget k e hk
      simp [hC]) (fun k e j c hk hj => by
      obtain ⟨x, _, rfl⟩ := hget k e hk
      obtain ⟨u, hu, rfl⟩ := map_at hj
      exact h1 x u (List.mem_of_getElem? hu)) (fun k j hk hj => by
      obtain ⟨v, hv⟩ := hcell k j (by simpa using hk) hj
      rw [hv]
      rfl) (fun k e j c hk hj => by
      obtain ⟨x, hx, rfl⟩ := hget k e hk
      obtain ⟨u, hu, rfl⟩ := map_at hj
      rw [hc k x hx j u hu]
      exact .lit u)
    rwa [List.length_map] at key
theorem VC_mk0 {f : FuncId} {r : AV} (hg : goesB P f = true) (h : ∀ w M, Calls P f #[] w fun e w' => ∃ v, e = .returned v ∧ Below w.heap.size w w' ∧ V0 w' M r v) : VC P f [] r :=
  ⟨hg, fun w M vs _ hl _ => by
    obtain rfl : vs = [] := List.eq_nil_of_length_eq_zero hl
    exact h w M⟩
theorem VC_mk1 {f : FuncId} {a r : AV} (hg : goesB P f = true) (h : ∀ w M v1, V0 w M a v1 → Calls P f #[v1] w fun e w' => ∃ v, e = .returned v ∧ Below w.heap.size w w' ∧ V0 w' M r v) : VC P f [a] r :=
  ⟨hg, fun w M vs _ hl hv => by
    obtain ⟨v1, rfl⟩ := List.length_eq_one_iff.1 hl
    exact h w M v1 (hv 0 a v1 rfl rfl)⟩
theorem VC_mk2 {f : FuncId} {a b r : AV} (hg : goesB P f = true) (h : ∀ w M v1 v2, V0 w M a v1 → V0 w M b v2 → Calls P f #[v1, v2] w fun e w' => ∃ v, e = .returned v ∧ Below w.heap.size w w' ∧ V0 w' M r v) : VC P f [a, b] r :=
  ⟨hg, fun w M vs _ hl hv => by
    match vs, hl with
    | [v1, v2], _ =>
    exact h w M v1 v2 (hv 0 a v1 rfl rfl) (hv 1 b v2 rfl rfl)⟩
theorem VC_mk3 {f : FuncId} {a b c r : AV} (hg : goesB P f = true) (h : ∀ w M v1 v2 v3, MOK w M → V0 w M a v1 → V0 w M b v2 → V0 w M c v3 → Calls P f #[v1, v2, v3] w fun e w' => ∃ v, e = .returned v ∧ Below w.heap.size w w' ∧ V0 w' M r v) : VC P f [a, b, c] r :=
  ⟨hg, fun w M vs hM hl hv => by
    match vs, hl with
    | [v1, v2, v3], _ =>
    exact h w M v1 v2 v3 hM (hv 0 a v1 rfl rfl) (hv 1 b v2 rfl rfl) (hv 2 c v3 rfl rfl)⟩
end
end Go.Proofs.YtmfmpagfjgpodaaGreatDoor

/-! Plain: What the functions of chapter 9 compute, as plain functions; no condition. -/
namespace Go.Proofs.YtmfmpagfjgpodaaGreatDoor
open Go.RowKit
/-! ### Numbers and errors -/
def inR (n lo hi : Int) : Bool := decide (lo ≤ n) && decide (n ≤ hi)
def unl (c : Bool) (e : Int) : Int := if c then 0 else e
def fst : List Int → Int
  | [] => 0
  | x :: r => if x ≠ 0 then x else fst r
def isDate (n : Int) : Bool := inR n 0 100000
theorem inR_iff {n lo hi : Int} : inR n lo hi = true ↔ lo ≤ n ∧ n ≤ hi := by simp [inR]
theorem inR_no {n lo hi : Int} : inR n lo hi = false ↔ n < lo ∨ hi < n := by simp [inR]; omega
/-- A byte of a name, by its place. -/
def okChar (i : Nat) (n : Int) : Bool :=
  (decide (97 ≤ n) && decide (n ≤ 122)) || (decide (65 ≤ n) && decide (n ≤ 90)) || (decide (i ≠ 0) && (decide (n = 45) || (decide (48 ≤ n) && decide (n ≤ 57))))
theorem okChar_iff {i : Nat} {n : Int} : okChar i n = true ↔ (97 ≤ n ∧ n ≤ 122) ∨ (65 ≤ n ∧ n ≤ 90) ∨ (i ≠ 0 ∧ (n = 45 ∨ (48 ≤ n ∧ n ≤ 57))) := by
  simp [okChar, or_assoc]
def okTo (s : ByteArray) (n : Nat) : Bool := (List.range n).all fun i => okChar i (byteAt s i).toNat
theorem okTo_succ (s : ByteArray) (n : Nat) : okTo s (n + 1) = (okTo s n && okChar n (byteAt s n).toNat) := by
  simp [okTo, List.range_succ]
theorem okTo_no (s : ByteArray) {n m : Nat} (h : n < m) (ho : okChar n (byteAt s n).toNat = false) : okTo s m = false := by
  unfold okTo
  rw [List.all_eq_false]
  exact ⟨n, by simpa using h, by simp [ho]⟩
def isName (s : ByteArray) : Bool := decide (1 ≤ s.size) && decide (s.size ≤ 12) && okTo s s.size
/-- The first k below n with E k ≠ 0, and that error; (0, 0) if there is none. -/
def firstErr (E : Nat → Int) : Nat → Nat → Nat × Int
  | _, 0 => (0, 0)
  | k, n + 1 => if E k ≠ 0 then (k, E k) else firstErr E (k + 1) n
theorem firstErr_at {E : Nat → Int} {k n : Nat} (h : k < n) : firstErr E k (n - k) = if E k ≠ 0 then (k, E k) else firstErr E (k + 1) (n - (k + 1)) := by
  rw [show n - k = (n - (k + 1)) + 1 by omega, firstErr]
def checkL (n : Nat) (most : Int) (E : Nat → Int) : Nat × Int := if (n : Int) > most then (0, 8) else firstErr E 0 n

def sameS (a b : ByteArray) : Bool := a.toList == b.toList
theorem sameS_iff {a b : ByteArray} : sameS a b = true ↔ a = b := by
  unfold sameS
  rw [beq_iff_eq, toList_data, toList_data]
  constructor
  · intro h
    cases a
    cases b
    congr
    exact Array.toList_inj.1 h
  · exact fun h => by rw [h]
end Go.Proofs.YtmfmpagfjgpodaaGreatDoor

/-! QA: Walks on plain values: numbers, errors, names; texts of at most 1000 bytes. -/
namespace Go.Proofs.YtmfmpagfjgpodaaGreatDoor
open Go.RowKit
set_option maxRecDepth 100000
theorem p_within (n lo hi : Int) : VC Tryz.prog 22 [I n, I lo, I hi] (B (inR n lo hi)) := by
  refine VC_of Tryz.func22 rfl (by kernel_rfl) (by kernel_rfl) rfl fun M0 w0 => ?_
  simp only [Tryz.ntmps22, Tryz.results22, enumA]
  repeat' (first | (with_reducible first | refine vseq ?_ | refine vthenN ?_ | refine vthenE ?_ | refine vthenR ?_ | refine vret ?_ | refine vskip ?_ | refine vexit ?_ | refine vblock ?_ | refine vblockN ?_ | refine vblockR ?_ | refine vblockH ?_ | refine vrun_nil ?_ | refine vblockE rfl ?_ | refine vregion [] ?_ | refine vhrun_nil ?_) | ((with_reducible refine vcondT ?_ ?_); (focus (go_simp; done))) | ((with_reducible refine vcondF ?_ ?_); (focus (go_simp; done))) | ((with_reducible first | refine vrun_cons fun KK hKK => ?_ | refine vhrun_cons fun KK hKK => ?_); go_simp; refine hKK _ ?_; clear hKK KK) | ((with_reducible refine vcondS ?_ (fun ht => ?_) (fun ht => ?_)); (focus (go_simp; done)); (all_goals (simp [go_sem] at ht; replace ht := ht.out))) | ((apply vrun_consG0 rfl); (focus (go_simp <;> exact rfl)); (focus (go_simp; done)); (focus (intro hb0; replace hb0 := hb0.out; go_simp <;> (first | exact rfl))); intro KK hKK; go_simp; refine hKK _ ?_; clear hKK KK))
  all_goals (first | (go_simp; done) | (go_simp; first | (simp [inR, *]; done) | (simp [inR, *]; omega) | (simp [inR, ] at *; omega) | (rfl)))
theorem b_within (n lo hi : Int) : VC Tryz.prog 29 [I n, I lo, I hi] (B (inR n lo hi)) := by
  refine VC_of Tryz.func29 rfl (by kernel_rfl) (by kernel_rfl) rfl fun M0 w0 => ?_
  simp only [Tryz.ntmps29, Tryz.results29, enumA]
  repeat' (first | (with_reducible first | refine vseq ?_ | refine vthenN ?_ | refine vthenE ?_ | refine vthenR ?_ | refine vret ?_ | refine vskip ?_ | refine vexit ?_ | refine vblock ?_ | refine vblockN ?_ | refine vblockR ?_ | refine vblockH ?_ | refine vrun_nil ?_ | refine vblockE rfl ?_ | refine vregion [] ?_ | refine vhrun_nil ?_) | ((with_reducible refine vcondT ?_ ?_); (focus (go_simp; done))) | ((with_reducible refine vcondF ?_ ?_); (focus (go_simp; done))) | ((with_reducible first | refine vrun_cons fun KK hKK => ?_ | refine vhrun_cons fun KK hKK => ?_); go_simp; refine hKK _ ?_; clear hKK KK) | ((with_reducible refine vcondS ?_ (fun ht => ?_) (fun ht => ?_)); (focus (go_simp; done)); (all_goals (simp [go_sem] at ht; replace ht := ht.out))) | ((apply vrun_consG0 rfl); (focus (go_simp <;> exact rfl)); (focus (go_simp; done)); (focus (intro hb0; replace hb0 := hb0.out; go_simp <;> (first | exact rfl))); intro KK hKK; go_simp; refine hKK _ ?_; clear hKK KK))
  all_goals (first | (go_simp; done) | (go_simp; first | (simp [inR, *]; done) | (simp [inR, *]; omega) | (simp [inR, ] at *; omega) | (rfl)))
theorem p_unless (c : Bool) (e : Int) : VC Tryz.prog 23 [B c, I e] (I (unl c e)) := by
  refine VC_of Tryz.func23 rfl (by kernel_rfl) (by kernel_rfl) rfl fun M0 w0 => ?_
  simp only [Tryz.ntmps23, Tryz.results23, enumA]
  repeat' (first | (with_reducible first | refine vseq ?_ | refine vthenN ?_ | refine vthenE ?_ | refine vthenR ?_ | refine vret ?_ | refine vskip ?_ | refine vexit ?_ | refine vblock ?_ | refine vblockN ?_ | refine vblockR ?_ | refine vblockH ?_ | refine vrun_nil ?_ | refine vblockE rfl ?_ | refine vregion [] ?_ | refine vhrun_nil ?_) | ((with_reducible refine vcondT ?_ ?_); (focus (go_simp; done))) | ((with_reducible refine vcondF ?_ ?_); (focus (go_simp; done))) | ((with_reducible first | refine vrun_cons fun KK hKK => ?_ | refine vhrun_cons fun KK hKK => ?_); go_simp; refine hKK _ ?_; clear hKK KK) | ((with_reducible refine vcondS ?_ (fun ht => ?_) (fun ht => ?_)); (focus (go_simp; done)); (all_goals (simp [go_sem] at ht; replace ht := ht.out))))
  all_goals (first | (go_simp; done) | (go_simp; first | (simp [unl, *]; done) | (simp [unl, *]; omega) | (simp [unl, ] at *; omega) | (rfl)))
theorem p_first (l : List Int) (hl : l.length ≤ 1000) : VC Tryz.prog 27 [.sl 1 (l.map intA)] (I (fst l)) := by
  obtain ⟨R, hR⟩ : ∃ R, fst l = R := ⟨_, rfl⟩
  rw [hR]
  have HR := Lib.hid hR
  clear hR
  refine VC_of Tryz.func27 rfl (by kernel_rfl) (by kernel_rfl) rfl fun M0 w0 => ?_
  simp only [Tryz.ntmps27, Tryz.results27, enumA]
  repeat (first | (with_reducible first | refine vseq ?_ | refine vthenN ?_ | refine vthenE ?_ | refine vthenR ?_ | refine vret ?_ | refine vskip ?_ | refine vexit ?_ | refine vblock ?_ | refine vblockN ?_ | refine vblockR ?_ | refine vblockH ?_ | refine vrun_nil ?_ | refine vblockE rfl ?_ | refine vregion [] ?_ | refine vhrun_nil ?_) | ((with_reducible refine vcondT ?_ ?_); (focus (go_simp; done))) | ((with_reducible refine vcondF ?_ ?_); (focus (go_simp; done))) | ((with_reducible first | refine vrun_cons fun KK hKK => ?_ | refine vhrun_cons fun KK hKK => ?_); go_simp; refine hKK _ ?_; clear hKK KK))
  refine vloop (α := Nat) (fun k => ⟨[(7, I k), (6, I l.length), (5, .sl 1 (l.map intA))], []⟩) (fun k => k ≤ l.length ∧ Hid (fst (l.drop k) = R)) (fun k => l.length - k) 0 ⟨by omega, by simpa using HR⟩ (by go_simp) ?_
  rintro k ⟨hk, hf⟩ K hR
  by_cases hlt : k < l.length
  · have hw := wrap_eq (x := (k : Int) + 1) (by omega) (by omega)
    have e := hf.out
    rw [List.drop_eq_getElem_cons hlt, fst] at e
    obtain ⟨x, hx⟩ : ∃ x, l[k] = x := ⟨_, rfl⟩
    rw [hx] at e
    have HE := Lib.hid e
    clear e
    by_cases c : x = 0
    · subst c
      repeat (first | (with_reducible first | refine vseq ?_ | refine vthenN ?_ | refine vthenE ?_ | refine vthenR ?_ | refine vret ?_ | refine vskip ?_ | refine vexit ?_ | refine vblock ?_ | refine vblockN ?_ | refine vblockR ?_ | refine vblockH ?_ | refine vrun_nil ?_ | refine vblockE rfl ?_ | refine vregion [] ?_ | refine vhrun_nil ?_) | ((with_reducible refine vcondT ?_ ?_); (focus (go_simp; done))) | ((with_reducible refine vcondF ?_ ?_); (focus (go_simp; done))) | ((with_reducible first | refine vrun_cons fun KK hKK => ?_ | refine vhrun_cons fun KK hKK => ?_); go_simp; refine hKK _ ?_; clear hKK KK))
      refine hR _ (k + 1) ⟨hlt, Lib.hid (by simpa using HE.out)⟩ (by omega) ?_
      go_simp
    · repeat (first | (with_reducible first | refine vseq ?_ | refine vthenN ?_ | refine vthenE ?_ | refine vthenR ?_ | refine vret ?_ | refine vskip ?_ | refine vexit ?_ | refine vblock ?_ | refine vblockN ?_ | refine vblockR ?_ | refine vblockH ?_ | refine vrun_nil ?_ | refine vblockE rfl ?_ | refine vregion [] ?_ | refine vhrun_nil ?_) | ((with_reducible refine vcondT ?_ ?_); (focus (go_simp; done))) | ((with_reducible refine vcondF ?_ ?_); (focus (go_simp; done))) | ((with_reducible first | refine vrun_cons fun KK hKK => ?_ | refine vhrun_cons fun KK hKK => ?_); go_simp; refine hKK _ ?_; clear hKK KK))
      have e := HE.out
      rw [if_pos c] at e
      subst e
      go_simp
  · repeat (first | (with_reducible first | refine vseq ?_ | refine vthenN ?_ | refine vthenE ?_ | refine vthenR ?_ | refine vret ?_ | refine vskip ?_ | refine vexit ?_ | refine vblock ?_ | refine vblockN ?_ | refine vblockR ?_ | refine vblockH ?_ | refine vrun_nil ?_ | refine vblockE rfl ?_ | refine vregion [] ?_ | refine vhrun_nil ?_) | ((with_reducible refine vcondT ?_ ?_); (focus (go_simp; done))) | ((with_reducible refine vcondF ?_ ?_); (focus (go_simp; done))) | ((with_reducible first | refine vrun_cons fun KK hKK => ?_ | refine vhrun_cons fun KK hKK => ?_); go_simp; refine hKK _ ?_; clear hKK KK))
    have e := hf.out
    rw [List.drop_eq_nil_of_le (by omega)] at e
    rw [show R = 0 from e.symm]
    go_simp
theorem p_isName (s : ByteArray) (hs : s.size ≤ 1000) : VC Tryz.prog 65 [S s] (B (isName s)) := by
  obtain ⟨R, hR⟩ : ∃ R, isName s = R := ⟨_, rfl⟩
  rw [hR]
  have HR := Lib.hid hR
  clear hR
  refine VC_of Tryz.func65 rfl (by kernel_rfl) (by kernel_rfl) rfl fun M0 w0 => ?_
  simp only [Tryz.ntmps65, Tryz.results65, enumA]
  repeat (first | (with_reducible first | refine vseq ?_ | refine vthenN ?_ | refine vthenE ?_ | refine vthenR ?_ | refine vret ?_ | refine vskip ?_ | refine vexit ?_ | refine vblock ?_ | refine vblockN ?_ | refine vblockR ?_ | refine vblockH ?_ | refine vrun_nil ?_ | refine vblockE rfl ?_ | refine vregion [] ?_ | refine vhrun_nil ?_) | ((with_reducible refine vcondT ?_ ?_); (focus (go_simp; done))) | ((with_reducible refine vcondF ?_ ?_); (focus (go_simp; done))) | ((with_reducible first | refine vrun_cons fun KK hKK => ?_ | refine vhrun_cons fun KK hKK => ?_); go_simp; refine hKK _ ?_; clear hKK KK))
  refine vloop (α := Nat) (fun k => ⟨[(9, I k), (8, I s.size), (7, .sl 1 ((List.range s.size).map fun i => [.lit (.int .u8 (byteAt s i).toNat)])), (0, S s)], []⟩) (fun k => k ≤ s.size ∧ Hid (okTo s k = true)) (fun k => s.size - k) 0 ⟨by omega, Lib.hid rfl⟩ (by go_simp) ?_
  rintro k ⟨hk, hf⟩ K hR
  by_cases hlt : k < s.size
  · have hw := wrap_eq (x := (k : Int) + 1) (by omega) (by omega)
    obtain ⟨x, hx⟩ : ∃ x : Int, ((byteAt s k).toNat : Int) = x := ⟨_, rfl⟩
    have HX := Lib.hid (okTo_succ s k)
    have hno : Hid (okChar k x = false → R = false) := Lib.hid fun h => by
      rw [← HR.out]
      unfold isName
      rw [okTo_no s hlt (by rw [hx]; exact h)]
      simp
    have hch : ((!decide (97 ≤ x) || !decide (x ≤ 122)) && (!decide (65 ≤ x) || !decide (x ≤ 90)) && (decide (k = 0) || !decide (x = 45) && (decide (x < 48) || decide (57 < x)))) = !okChar k x := by
      rw [Bool.eq_iff_iff]
      simp [okChar]
    have HC := Lib.hid hch
    have hok : Hid (okChar k x = true → okTo s (k + 1) = true) := Lib.hid fun h => by rw [HX.out, hf.out, hx, h]; rfl
    clear hch
    repeat' (first | (with_reducible first | refine vseq ?_ | refine vthenN ?_ | refine vthenE ?_ | refine vthenR ?_ | refine vret ?_ | refine vskip ?_ | refine vexit ?_ | refine vblock ?_ | refine vblockN ?_ | refine vblockR ?_ | refine vblockH ?_ | refine vrun_nil ?_ | refine vblockE rfl ?_ | refine vregion [] ?_ | refine vhrun_nil ?_) | ((with_reducible refine vcondT ?_ ?_); (focus (go_simp; done))) | ((with_reducible refine vcondF ?_ ?_); (focus (go_simp; done))) | ((with_reducible first | refine vrun_cons fun KK hKK => ?_ | refine vhrun_cons fun KK hKK => ?_); go_simp; refine hKK _ ?_; clear hKK KK) | ((with_reducible refine vcondS ?_ (fun ht => ?_) (fun ht => ?_)); (focus (go_simp; done)); (all_goals (simp [go_sem] at ht; replace ht := ht.out))) | ((apply vrun_consG0 rfl); (focus (go_simp <;> exact rfl)); (focus (go_simp; done)); (focus (intro hb0; replace hb0 := hb0.out; go_simp <;> (first | exact rfl))); intro KK hKK; go_simp; refine hKK _ ?_; clear hKK KK) | ((apply vrun_consG1 rfl); (focus (go_simp <;> exact rfl)); (focus (go_simp; done)); (focus (intro hb0 hb1; replace hb0 := hb0.out; replace hb1 := hb1.out; go_simp <;> (first | exact rfl))); intro KK hKK; go_simp; refine hKK _ ?_; clear hKK KK) | ((apply vrun_consG2 rfl); (focus (go_simp <;> exact rfl)); (focus (go_simp; done)); (focus (intro hb0 hb1 hb2; replace hb0 := hb0.out; replace hb1 := hb1.out; replace hb2 := hb2.out; go_simp <;> (first | exact rfl))); intro KK hKK; go_simp; refine hKK _ ?_; clear hKK KK) | ((apply vrun_consG3 rfl); (focus (go_simp <;> exact rfl)); (focus (go_simp; done)); (focus (intro hb0 hb1 hb2 hb3; replace hb0 := hb0.out; replace hb1 := hb1.out; replace hb2 := hb2.out; replace hb3 := hb3.out; go_simp <;> (first | exact rfl))); intro KK hKK; go_simp; refine hKK _ ?_; clear hKK KK))
    · rw [HC.out] at ht
      have e := hno.out (by simpa using ht)
      subst e
      go_simp
    · rw [HC.out] at ht
      refine hR _ (k + 1) ⟨hlt, Lib.hid (hok.out (by simpa using ht))⟩ (by omega) ?_
      go_simp
  · have hkk : k = s.size := by omega
    subst hkk
    have e : isName s = (decide (1 ≤ s.size) && decide (s.size ≤ 12)) := by unfold isName; rw [hf.out]; simp
    rw [HR.out] at e
    have he := Lib.hid e
    clear e
    repeat' (first | (with_reducible first | refine vseq ?_ | refine vthenN ?_ | refine vthenE ?_ | refine vthenR ?_ | refine vret ?_ | refine vskip ?_ | refine vexit ?_ | refine vblock ?_ | refine vblockN ?_ | refine vblockR ?_ | refine vblockH ?_ | refine vrun_nil ?_ | refine vblockE rfl ?_ | refine vregion [] ?_ | refine vhrun_nil ?_) | ((with_reducible refine vcondT ?_ ?_); (focus (go_simp; done))) | ((with_reducible refine vcondF ?_ ?_); (focus (go_simp; done))) | ((with_reducible first | refine vrun_cons fun KK hKK => ?_ | refine vhrun_cons fun KK hKK => ?_); go_simp; refine hKK _ ?_; clear hKK KK) | ((with_reducible refine vcondS ?_ (fun ht => ?_) (fun ht => ?_)); (focus (go_simp; done)); (all_goals (simp [go_sem] at ht; replace ht := ht.out))) | ((apply vrun_consG0 rfl); (focus (go_simp <;> exact rfl)); (focus (go_simp; done)); (focus (intro hb0; replace hb0 := hb0.out; go_simp <;> (first | exact rfl))); intro KK hKK; go_simp; refine hKK _ ?_; clear hKK KK) | ((apply vrun_consG1 rfl); (focus (go_simp <;> exact rfl)); (focus (go_simp; done)); (focus (intro hb0 hb1; replace hb0 := hb0.out; replace hb1 := hb1.out; go_simp <;> (first | exact rfl))); intro KK hKK; go_simp; refine hKK _ ?_; clear hKK KK) | ((apply vrun_consG2 rfl); (focus (go_simp <;> exact rfl)); (focus (go_simp; done)); (focus (intro hb0 hb1 hb2; replace hb0 := hb0.out; replace hb1 := hb1.out; replace hb2 := hb2.out; go_simp <;> (first | exact rfl))); intro KK hKK; go_simp; refine hKK _ ?_; clear hKK KK) | ((apply vrun_consG3 rfl); (focus (go_simp <;> exact rfl)); (focus (go_simp; done)); (focus (intro hb0 hb1 hb2 hb3; replace hb0 := hb0.out; replace hb1 := hb1.out; replace hb2 := hb2.out; replace hb3 := hb3.out; go_simp <;> (first | exact rfl))); intro KK hKK; go_simp; refine hKK _ ?_; clear hKK KK))
    rw [he.out]
    have hz : s.size = 0 → s = ByteArray.empty := fun h => by
      cases s
      rename_i a
      have : a = #[] := Array.eq_empty_of_size_eq_zero h
      rw [this]
      rfl
    have HZ := Lib.hid hz
    clear hz
    go_simp
    by_cases h0 : s = ByteArray.empty
    · subst h0
      rfl
    · have h1 : ¬ s.size = 0 := fun h => h0 (HZ.out h)
      have h2 : ¬ s = { data := #[] } := h0
      have h3 : (1 : Nat) ≤ s.size := by omega
      have h4 : decide ((s.size : Int) ≤ 12) = decide (s.size ≤ 12) := by
        rw [Bool.eq_iff_iff, decide_eq_true_eq, decide_eq_true_eq]
        omega
      rw [decide_eq_false h2, decide_eq_true h3, h4]
      rfl
theorem b_isName (s : ByteArray) (hs : s.size ≤ 9223372036854775807) : VC Tryz.prog 56 [S s] (B (isName s)) := by
  obtain ⟨R, hR⟩ : ∃ R, isName s = R := ⟨_, rfl⟩
  rw [hR]
  have HR := Lib.hid hR
  clear hR
  refine VC_of Tryz.func56 rfl (by kernel_rfl) (by kernel_rfl) rfl fun M0 w0 => ?_
  simp only [Tryz.ntmps56, Tryz.results56, enumA]
  by_cases h1 : s.size < 1 ∨ 12 < s.size
  · have e : R = false := by
      rw [← HR.out]
      unfold isName
      rcases h1 with h | h
      · rw [decide_eq_false (by omega)]; rfl
      · rw [show decide (s.size ≤ 12) = false from decide_eq_false (by omega)]; simp
    subst e
    have hb : (decide ((s.size : Int) < 1) || decide (12 < (s.size : Int))) = true := by simp; omega
    repeat' (first | (with_reducible first | refine vseq ?_ | refine vthenN ?_ | refine vthenE ?_ | refine vthenR ?_ | refine vret ?_ | refine vskip ?_ | refine vexit ?_ | refine vblock ?_ | refine vblockN ?_ | refine vblockR ?_ | refine vblockH ?_ | refine vrun_nil ?_ | refine vblockE rfl ?_ | refine vregion [] ?_ | refine vhrun_nil ?_) | ((with_reducible refine vcondT ?_ ?_); (focus (go_simp; done))) | ((with_reducible refine vcondF ?_ ?_); (focus (go_simp; done))) | ((with_reducible first | refine vrun_cons fun KK hKK => ?_ | refine vhrun_cons fun KK hKK => ?_); go_simp; refine hKK _ ?_; clear hKK KK) | ((with_reducible refine vcondS ?_ (fun ht => ?_) (fun ht => ?_)); (focus (go_simp; done)); (all_goals (simp [go_sem] at ht; replace ht := ht.out))) | ((apply vrun_consG0 rfl); (focus (go_simp <;> exact rfl)); (focus (go_simp; done)); (focus (intro hb0; replace hb0 := hb0.out; go_simp <;> (first | exact rfl))); intro KK hKK; go_simp; refine hKK _ ?_; clear hKK KK) | ((apply vrun_consG1 rfl); (focus (go_simp <;> exact rfl)); (focus (go_simp; done)); (focus (intro hb0 hb1; replace hb0 := hb0.out; replace hb1 := hb1.out; go_simp <;> (first | exact rfl))); intro KK hKK; go_simp; refine hKK _ ?_; clear hKK KK) | ((apply vrun_consG2 rfl); (focus (go_simp <;> exact rfl)); (focus (go_simp; done)); (focus (intro hb0 hb1 hb2; replace hb0 := hb0.out; replace hb1 := hb1.out; replace hb2 := hb2.out; go_simp <;> (first | exact rfl))); intro KK hKK; go_simp; refine hKK _ ?_; clear hKK KK) | ((apply vrun_consG3 rfl); (focus (go_simp <;> exact rfl)); (focus (go_simp; done)); (focus (intro hb0 hb1 hb2 hb3; replace hb0 := hb0.out; replace hb1 := hb1.out; replace hb2 := hb2.out; replace hb3 := hb3.out; go_simp <;> (first | exact rfl))); intro KK hKK; go_simp; refine hKK _ ?_; clear hKK KK))
    go_simp
  · have hb : (decide ((s.size : Int) < 1) || decide (12 < (s.size : Int))) = false := by simp; omega
    have hl1 : s.size ≤ 12 := by omega
    have e : isName s = okTo s s.size := by
      unfold isName
      rw [decide_eq_true (by omega), decide_eq_true hl1]
      rfl
    rw [HR.out] at e
    have HE := Lib.hid e
    clear e
    repeat' (first | (with_reducible first | refine vseq ?_ | refine vthenN ?_ | refine vthenE ?_ | refine vthenR ?_ | refine vret ?_ | refine vskip ?_ | refine vexit ?_ | refine vblock ?_ | refine vblockN ?_ | refine vblockR ?_ | refine vblockH ?_ | refine vrun_nil ?_ | refine vblockE rfl ?_ | refine vregion [] ?_ | refine vhrun_nil ?_) | ((with_reducible refine vcondT ?_ ?_); (focus (go_simp; done))) | ((with_reducible refine vcondF ?_ ?_); (focus (go_simp; done))) | ((with_reducible first | refine vrun_cons fun KK hKK => ?_ | refine vhrun_cons fun KK hKK => ?_); go_simp; refine hKK _ ?_; clear hKK KK) | ((with_reducible refine vcondS ?_ (fun ht => ?_) (fun ht => ?_)); (focus (go_simp; done)); (all_goals (simp [go_sem] at ht; replace ht := ht.out))) | ((apply vrun_consG0 rfl); (focus (go_simp <;> exact rfl)); (focus (go_simp; done)); (focus (intro hb0; replace hb0 := hb0.out; go_simp <;> (first | exact rfl))); intro KK hKK; go_simp; refine hKK _ ?_; clear hKK KK) | ((apply vrun_consG1 rfl); (focus (go_simp <;> exact rfl)); (focus (go_simp; done)); (focus (intro hb0 hb1; replace hb0 := hb0.out; replace hb1 := hb1.out; go_simp <;> (first | exact rfl))); intro KK hKK; go_simp; refine hKK _ ?_; clear hKK KK) | ((apply vrun_consG2 rfl); (focus (go_simp <;> exact rfl)); (focus (go_simp; done)); (focus (intro hb0 hb1 hb2; replace hb0 := hb0.out; replace hb1 := hb1.out; replace hb2 := hb2.out; go_simp <;> (first | exact rfl))); intro KK hKK; go_simp; refine hKK _ ?_; clear hKK KK) | ((apply vrun_consG3 rfl); (focus (go_simp <;> exact rfl)); (focus (go_simp; done)); (focus (intro hb0 hb1 hb2 hb3; replace hb0 := hb0.out; replace hb1 := hb1.out; replace hb2 := hb2.out; replace hb3 := hb3.out; go_simp <;> (first | exact rfl))); intro KK hKK; go_simp; refine hKK _ ?_; clear hKK KK))
    · clear hb
      refine vloop (α := Nat) (fun k => ⟨[(3, I k), (0, S s)], []⟩) (fun k => k ≤ s.size ∧ Hid (okTo s k = true)) (fun k => s.size - k) 0 ⟨by omega, Lib.hid rfl⟩ (by go_simp) ?_
      rintro k ⟨hk, hf⟩ K hR
      by_cases hlt : k < s.size
      · have hlt' : (k : Int) < s.size := by omega
        have hw := wrap_eq (x := (k : Int) + 1) (by omega) (by omega)
        obtain ⟨x, hx⟩ : ∃ x : Int, ((byteAt s k).toNat : Int) = x := ⟨_, rfl⟩
        have HX := Lib.hid (okTo_succ s k)
        have hno : Hid (okChar k x = false → R = false) := Lib.hid fun h => by
          rw [HE.out]
          exact okTo_no s hlt (by rw [hx]; exact h)
        have hch : ((!decide (97 ≤ x) || !decide (x ≤ 122)) && (!decide (65 ≤ x) || !decide (x ≤ 90)) && (decide (k = 0) || !decide (x = 45) && (decide (x < 48) || decide (57 < x)))) = !okChar k x := by
          rw [Bool.eq_iff_iff]
          simp [okChar]
        have HC := Lib.hid hch
        have hok : Hid (okChar k x = true → okTo s (k + 1) = true) := Lib.hid fun h => by rw [HX.out, hf.out, hx, h]; rfl
        clear hch
        repeat' (first | (with_reducible first | refine vseq ?_ | refine vthenN ?_ | refine vthenE ?_ | refine vthenR ?_ | refine vret ?_ | refine vskip ?_ | refine vexit ?_ | refine vblock ?_ | refine vblockN ?_ | refine vblockR ?_ | refine vblockH ?_ | refine vrun_nil ?_ | refine vblockE rfl ?_ | refine vregion [] ?_ | refine vhrun_nil ?_) | ((with_reducible refine vcondT ?_ ?_); (focus (go_simp; done))) | ((with_reducible refine vcondF ?_ ?_); (focus (go_simp; done))) | ((with_reducible first | refine vrun_cons fun KK hKK => ?_ | refine vhrun_cons fun KK hKK => ?_); go_simp; refine hKK _ ?_; clear hKK KK) | ((with_reducible refine vcondS ?_ (fun ht => ?_) (fun ht => ?_)); (focus (go_simp; done)); (all_goals (simp [go_sem] at ht; replace ht := ht.out))) | ((apply vrun_consG0 rfl); (focus (go_simp <;> exact rfl)); (focus (go_simp; done)); (focus (intro hb0; replace hb0 := hb0.out; go_simp <;> (first | exact rfl))); intro KK hKK; go_simp; refine hKK _ ?_; clear hKK KK) | ((apply vrun_consG1 rfl); (focus (go_simp <;> exact rfl)); (focus (go_simp; done)); (focus (intro hb0 hb1; replace hb0 := hb0.out; replace hb1 := hb1.out; go_simp <;> (first | exact rfl))); intro KK hKK; go_simp; refine hKK _ ?_; clear hKK KK) | ((apply vrun_consG2 rfl); (focus (go_simp <;> exact rfl)); (focus (go_simp; done)); (focus (intro hb0 hb1 hb2; replace hb0 := hb0.out; replace hb1 := hb1.out; replace hb2 := hb2.out; go_simp <;> (first | exact rfl))); intro KK hKK; go_simp; refine hKK _ ?_; clear hKK KK) | ((apply vrun_consG3 rfl); (focus (go_simp <;> exact rfl)); (focus (go_simp; done)); (focus (intro hb0 hb1 hb2 hb3; replace hb0 := hb0.out; replace hb1 := hb1.out; replace hb2 := hb2.out; replace hb3 := hb3.out; go_simp <;> (first | exact rfl))); intro KK hKK; go_simp; refine hKK _ ?_; clear hKK KK))
        · rw [HC.out] at ht
          have e := hno.out (by simpa using ht)
          subst e
          go_simp
        · rw [HC.out] at ht
          refine hR _ (k + 1) ⟨hlt, Lib.hid (hok.out (by simpa using ht))⟩ (by omega) ?_
          go_simp
      · have hkk : k = s.size := by omega
        subst hkk
        repeat' (first | (with_reducible first | refine vseq ?_ | refine vthenN ?_ | refine vthenE ?_ | refine vthenR ?_ | refine vret ?_ | refine vskip ?_ | refine vexit ?_ | refine vblock ?_ | refine vblockN ?_ | refine vblockR ?_ | refine vblockH ?_ | refine vrun_nil ?_ | refine vblockE rfl ?_ | refine vregion [] ?_ | refine vhrun_nil ?_) | ((with_reducible refine vcondT ?_ ?_); (focus (go_simp; done))) | ((with_reducible refine vcondF ?_ ?_); (focus (go_simp; done))) | ((with_reducible first | refine vrun_cons fun KK hKK => ?_ | refine vhrun_cons fun KK hKK => ?_); go_simp; refine hKK _ ?_; clear hKK KK) | ((with_reducible refine vcondS ?_ (fun ht => ?_) (fun ht => ?_)); (focus (go_simp; done)); (all_goals (simp [go_sem] at ht; replace ht := ht.out))) | ((apply vrun_consG0 rfl); (focus (go_simp <;> exact rfl)); (focus (go_simp; done)); (focus (intro hb0; replace hb0 := hb0.out; go_simp <;> (first | exact rfl))); intro KK hKK; go_simp; refine hKK _ ?_; clear hKK KK) | ((apply vrun_consG1 rfl); (focus (go_simp <;> exact rfl)); (focus (go_simp; done)); (focus (intro hb0 hb1; replace hb0 := hb0.out; replace hb1 := hb1.out; go_simp <;> (first | exact rfl))); intro KK hKK; go_simp; refine hKK _ ?_; clear hKK KK) | ((apply vrun_consG2 rfl); (focus (go_simp <;> exact rfl)); (focus (go_simp; done)); (focus (intro hb0 hb1 hb2; replace hb0 := hb0.out; replace hb1 := hb1.out; replace hb2 := hb2.out; go_simp <;> (first | exact rfl))); intro KK hKK; go_simp; refine hKK _ ?_; clear hKK KK) | ((apply vrun_consG3 rfl); (focus (go_simp <;> exact rfl)); (focus (go_simp; done)); (focus (intro hb0 hb1 hb2 hb3; replace hb0 := hb0.out; replace hb1 := hb1.out; replace hb2 := hb2.out; replace hb3 := hb3.out; go_simp <;> (first | exact rfl))); intro KK hKK; go_simp; refine hKK _ ?_; clear hKK KK))
        rw [HE.out, hf.out]
        go_simp
end Go.Proofs.YtmfmpagfjgpodaaGreatDoor
