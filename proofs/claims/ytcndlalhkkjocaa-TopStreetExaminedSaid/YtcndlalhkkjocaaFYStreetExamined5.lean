/- Texts in one: A row of the call's own that is written to no more is a slice like any other: of every program; no condition. -/
import Derived.Test.YtcndlalhkkjocaaFYStreetExamined4
/-! VFrz: A row of the call's own that is written to no more is a slice like any other: of every program; no condition. -/
namespace Go.Proofs.Ytcndlalhkkjocaa
open Go.RowKit
section
variable {P : Program} {M0 : Nat → Nat → Prop} {w0 : Bas} {N : Nm} {p : Pl} {st : VS} {a : Act} {w : World} {Q : Exit → VS → Prop}
theorem get_set_none {h : Hp} {id i : Nat} {ob : Ob} (hi : (h.set id none)[i]? = some (some ob)) : i ≠ id ∧ h[i]? = some (some ob) := by
  by_cases hne : i = id
  · subst hne
    by_cases hl : i < h.length
    · rw [List.getElem?_set_self hl] at hi
      simp at hi
    · rw [List.getElem?_eq_none (by simp; omega)] at hi
      simp at hi
  · rw [List.getElem?_set_ne (fun h => hne h.symm)] at hi
    exact ⟨hne, hi⟩
theorem Mof.drop {h : Hp} {p : Pl} {id b j : Nat} (hb : ¬ Mof M0 h p b j) : ¬ Mof M0 (h.set id none) p b j := fun hb' => by
  rcases hb' with h | ⟨i, ob, hi, hl, hp⟩
  · exact hb (.inl h)
  · exact hb (.inr ⟨i, ob, (get_set_none hi).2, hl, hp⟩)
/-- Another account of what the same memory holds. -/
theorem Rel.reheap (R : Rel M0 w0 N p st a w) (h' : Hp) (hl : st.h.length ≤ h'.length) (hlive : ∀ (i : Nat) (ob : Ob), h'[i]? = some (some ob) → live ob = true → ∃ ob', st.h[i]? = some (some ob') ∧ live ob' = true)
    (harr : ∀ (i e sz : Nat) (nl : Bool) (es : List (List AV)), i < st.h.length → h'[i]? = some (some (.arr e sz nl es)) → st.h[i]? = some (some (.arr e sz nl es)))
    (hbag : ∀ (i e sz : Nat) (nl : Bool) (pe : Option Nat) (qs : List (List (List AV))), i < st.h.length → h'[i]? = some (some (.bag e sz nl pe qs)) → st.h[i]? = some (some (.bag e sz nl pe qs)))
    (hobj : ∀ (i : Nat) (ob : Ob), h'[i]? = some (some ob) → st.h[i]? ≠ some (some ob) → (∀ {av : AV} {v : Value}, V1 w (Mof M0 st.h p) st.h p av v → V1 w (Mof M0 h' p) h' p av v) → ObOK w0 w (Mof M0 h' p) h' p i ob) :
    Rel M0 w0 N p ⟨st.s, h'⟩ a w ∧ ∀ {av : AV} {v : Value}, V1 w (Mof M0 st.h p) st.h p av v → V1 w (Mof M0 h' p) h' p av v := by
  have hM : ∀ b j, ¬ Mof M0 st.h p b j → ¬ Mof M0 h' p b j := fun b j hb hb' => by
    rcases hb' with h | ⟨i, ob, hi, hlv, hp⟩
    · exact hb (.inl h)
    · obtain ⟨ob', h1, h2⟩ := hlive i ob hi hlv
      exact hb (.inr ⟨i, ob', h1, h2, hp⟩)
  have keep : ∀ {av : AV} {v : Value}, V1 w (Mof M0 st.h p) st.h p av v → V1 w (Mof M0 h' p) h' p av v := fun hv =>
    hv.keep (Keeps.refl _ _) (fun b j _ h => hM b j h) hl (fun _ _ => rfl) (fun i e sz nl es v hil he hv => hv _ _ _ _ (harr _ _ _ _ _ hil he)) (fun i e sz nl pe qs v hil he hv => hv _ _ _ _ _ (hbag _ _ _ _ _ _ hil he)) (fun i k sz v hil hs => hs.keep (fun e sz pe qs he => ⟨hbag _ _ _ _ _ _ hil he, rfl, rfl, fun _ _ _ _ => rfl⟩) (Nat.le_refl _))
  refine ⟨⟨R.defers, R.size, R.below, R.m0, R.x0, fun i => keep (R.slots i), fun i ob hi => ?_, fun i i' ob ob' hi hi' hlv hlv' b j j' hO hO' => ?_⟩, keep⟩
  · by_cases hs : st.h[i]? = some (some ob)
    · exact (R.objs i ob hs).keep (fun _ => ⟨rfl, rfl⟩) (fun _ _ _ _ _ => rfl) (Nat.le_refl _) (fun hx => hx.keep (Keeps.refl _ _) fun b j _ => hM b j) fun _ _ _ _ _ hx => keep hx
    · exact hobj i ob hi hs keep
  · obtain ⟨o1, h1, l1⟩ := hlive i ob hi hlv
    obtain ⟨o2, h2, l2⟩ := hlive i' ob' hi' hlv'
    exact R.inj i i' o1 o2 h1 h2 l1 l2 b j j' hO hO'
/-- The row's memory is given up. -/
theorem Rel.drop (R : Rel M0 w0 N p st a w) (id : Nat) : Rel M0 w0 N p ⟨st.s, st.h.set id none⟩ a w :=
  (R.reheap (st.h.set id none) (by simp) (fun i ob hi hl => ⟨ob, (get_set_none hi).2, hl⟩) (fun i e sz nl es _ hi => (get_set_none hi).2) (fun i e sz nl pe qs _ hi => (get_set_none hi).2) fun i ob hi hne _ => absurd (get_set_none hi).2 hne).1
theorem Rel.freeze (R : Rel M0 w0 N p st a w) {id t e sz : Nat} {nl : Bool} {es : List (List AV)} (ht : lkp st.s t = .osl id) (hi : st.h[id]? = some (some (.arr e sz nl es))) :
    Rel M0 w0 N p ⟨(t, .sl sz es) :: st.s, st.h.set id none⟩ a w := by
  have D := R.drop id
  refine ⟨D.defers, D.size, D.below, D.m0, D.x0, fun i => ?_, D.objs, D.inj⟩
  by_cases hit : t = i
  · subst hit
    simp only [lkp, if_true]
    have hv := R.slots t
    rw [ht] at hv
    obtain ⟨A, n, c, hu, hid, ho⟩ := hv.osl_inv
    have hO := ho _ _ _ _ hi
    obtain ⟨o1, o2, o3⟩ := R.objs id _ hi
    refine .base _ _ ?_
    generalize a.tmps.getD t undef = v at hu hO
    by_cases hnl : nl = true
    · rw [if_pos hnl] at o3
      unfold Osl at hO
      rw [if_pos hnl] at hO
      obtain ⟨⟨A, hO⟩, _⟩ := hO
      rw [hO, o3]
      exact .slNil _ _ _
    · rw [if_neg hnl] at o3
      unfold Osl at hO
      rw [if_neg hnl] at hO
      obtain ⟨cap, cur, e1, e2, e3, e4, e5⟩ := hO
      obtain ⟨q1, cur', q2, q3, q4⟩ := o3
      have hcc : cur' = cur := by
        rw [q2] at e2
        injection e2 with e2
        injection e2 with e2
      subst hcc
      rw [e1]
      by_cases hes : es = []
      · subst hes
        exact .slNil _ _ _
      · have hb : p id < w.heap.size := (Array.getElem?_eq_some_iff.1 e2).1
        have hlv : live (.arr e sz nl es) = true := by
          cases nl
          · rfl
          · exact absurd rfl hnl
        have hMn : ∀ j, ¬ Mof M0 (st.h.set id none) p (p id) j := by
          rintro j (h | ⟨i, ob, hi2, hl, hp⟩)
          · exact R.h0 _ _ h (q1.1 j)
          · obtain ⟨hne, hi3⟩ := get_set_none hi2
            exact hne (R.inj i id ob _ hi3 hi hl hlv _ _ 0 hp (.inl rfl))
        have hM : ∀ b j, ¬ Mof M0 st.h p b j → ¬ Mof M0 (st.h.set id none) p b j := fun b j => Mof.drop
        have hcell : ∀ j, w.cell? ⟨p id, j, none⟩ = cur'[j]? := fun j => by simp [World.cell?, e2]
        have hlen : ∀ (k : Nat) (x : List AV), es[k]? = some x → x.length = sz := fun k x hk => (o2 k x hk).1
        refine .sl sz es cap (p id) 0 (fun k j => (cur'[k * sz + j]?).getD undef) hes hb (fun _ _ _ _ => hMn _) e4 hlen (fun k x j c hk hj => (o2 k x hk).2 c (List.mem_of_getElem? hj)) (fun k j hk hj => ?_) fun k x j c hk hj => ?_
        · rw [Nat.zero_add, hcell]
          have hx : es[k]? = some es[k] := List.getElem?_eq_getElem hk
          have hjl : j < es[k].length := by rw [hlen k _ hx]; exact hj
          obtain ⟨u, hu, _⟩ := q4 k _ j _ hx (List.getElem?_eq_getElem hjl)
          rw [hu]
          rfl
        · obtain ⟨u, hu, hv⟩ := q4 k x j c hk hj
          rw [hu]
          exact hv.keep (Keeps.refl _ _) (fun b j _ h => hM b j h)
  · simp only [lkp, if_neg hit]
    exact D.slots i
end
/-! What is so of a contract's result, so of one that says less. -/
theorem VC.weak {P : Program} {f : FuncId} {args : List AV} {r r' : AV} (h : VC P f args r) (hr : ∀ (w : World) (M : Nat → Nat → Prop) (v : Value), V0 w M r v → V0 w M r' v) : VC P f args r' :=
  ⟨h.1, fun w M vs hM hl hv => (h.2 w M vs hM hl hv).mono fun _ _ ⟨v, he, hb, h0⟩ => ⟨v, he, hb, hr _ _ _ h0⟩⟩
end Go.Proofs.Ytcndlalhkkjocaa

/-! VCond: A test that is not decided is walked both ways: of every program; no condition. -/
namespace Go.Proofs.Ytcndlalhkkjocaa
open Go.RowKit
def boolOf : AV → Bool
  | .lit (.bool b) => b
  | _ => false
attribute [go_sem] boolOf
/-- An equation that simp leaves alone. -/
def IsB (b want : Bool) : Prop := b = want
/-- The same of plain values. -/
def IsG (x y : AV) : Prop := x = y
theorem IsB.out {b want : Bool} (h : IsB b want) : b = want := h
section
variable {P : Program} {M0 : Nat → Nat → Prop} {w0 : Bas} {N : Nm} {st : VS} {Q : Exit → VS → Prop}
theorem vcondS {c : Operand} {x y : Code} (hc : ev st c = .lit (.bool (boolOf (ev st c)))) (h1 : IsB (boolOf (ev st c)) true → VWp P M0 w0 N x Q st) (h2 : IsB (boolOf (ev st c)) false → VWp P M0 w0 N y Q st) : VWp P M0 w0 N (.cond c x y) Q st := vcond hc h1 h2
/-- A guarded operation, whatever its guard: C tells when it is carried out. -/
theorem vrun_consGX {ow : List Nat} {ops : List Oper} {o : Oper} {l : List Oper} {K : VS → Prop} {j : Nat} {want : Bool} (C : Prop) [Decidable C] (hg : o.guard = some (j, want)) (hc : C → guardA ops st j = .lit (.bool want)) (hn : ¬ C → guardA ops st j = .lit (.bool (!want)) ∨ guardA ops st j = .lit undef) (ht : tailOp P ow st o = none ∧ tailBag P st o = none ∧ ownCall ow o = none)
    {r : AV} (h : C → Gives P st.h (ev st) o.op r) (hK : ∀ KK : VS → Prop, (∀ st, VRun P ow ops l st K → KK st) → KK (st.put o.dst (if C then r else .lit undef))) : VRun P ow ops (o :: l) st K := by
  refine vrun_cons fun KK hKK => ?_
  have hk := hK KK hKK
  unfold VOp
  rw [hg]
  simp only
  by_cases hC : C
  · rw [hc hC]
    simp only [if_true]
    rw [if_pos hC] at hk
    unfold VDo
    rw [ht.1, ht.2.1, ht.2.2]
    exact ⟨r, h hC, hk⟩
  · rw [if_neg hC] at hk
    rcases hn hC with e | e
    · rw [e]
      simp only
      rw [if_neg (by cases want <;> simp)]
      exact hk
    · rw [e]
      exact hk
theorem vrun_consG0 {ow : List Nat} {ops : List Oper} {o : Oper} {l : List Oper} {K : VS → Prop} {j : Nat} {want : Bool}  {b : Bool} {r : AV} (hg : o.guard = some (j, want)) (hb : IsG (guardA ops st j) ((.lit (.bool b)))) (ht : tailOp P ow st o = none ∧ tailBag P st o = none ∧ ownCall ow o = none)
    (h : IsB b want → Gives P st.h (ev st) o.op r) (hK : ∀ KK : VS → Prop, (∀ st, VRun P ow ops l st K → KK st) → KK (st.put o.dst (selA b want r))) : VRun P ow ops (o :: l) st K := by
  refine vrun_consGX (r := r) (b = want) hg (fun hC => ?_) (fun hC => ?_) ht (fun hC => ?_) fun KK hKK => ?_
  · rw [show guardA ops st j = _ from hb, hC]
  · rw [show guardA ops st j = _ from hb]
    revert hC
    cases b <;> cases want <;> simp
  · exact h hC
  · exact hK KK hKK
theorem vrun_consG1 {ow : List Nat} {ops : List Oper} {o : Oper} {l : List Oper} {K : VS → Prop} {j : Nat} {want : Bool} {c0 w0 : Bool} {b : Bool} {r : AV} (hg : o.guard = some (j, want)) (hb : IsG (guardA ops st j) ((selA c0 w0 (.lit (.bool b))))) (ht : tailOp P ow st o = none ∧ tailBag P st o = none ∧ ownCall ow o = none)
    (h : IsB c0 w0 → IsB b want → Gives P st.h (ev st) o.op r) (hK : ∀ KK : VS → Prop, (∀ st, VRun P ow ops l st K → KK st) → KK (st.put o.dst (selA c0 w0 (selA b want r)))) : VRun P ow ops (o :: l) st K := by
  refine vrun_consGX (r := r) (c0 = w0 ∧ b = want) hg (fun hC => ?_) (fun hC => ?_) ht (fun hC => ?_) fun KK hKK => ?_
  · rw [show guardA ops st j = _ from hb]
    simp only [selA, hC, if_true]
  · rw [show guardA ops st j = _ from hb]
    simp only [selA]
    revert hC
    cases c0 <;> cases w0 <;> cases b <;> cases want <;> simp
  · exact h hC.1 hC.2
  · have hk := hK KK hKK
    have e : (selA c0 w0 (selA b want r)) = if c0 = w0 ∧ b = want then r else .lit undef := by
      simp only [selA]
      cases c0 <;> cases w0 <;> cases b <;> cases want <;> simp
    rw [e] at hk
    exact hk
theorem vrun_consG2 {ow : List Nat} {ops : List Oper} {o : Oper} {l : List Oper} {K : VS → Prop} {j : Nat} {want : Bool} {c0 w0 : Bool} {c1 w1 : Bool} {b : Bool} {r : AV} (hg : o.guard = some (j, want)) (hb : IsG (guardA ops st j) ((selA c0 w0 (selA c1 w1 (.lit (.bool b)))))) (ht : tailOp P ow st o = none ∧ tailBag P st o = none ∧ ownCall ow o = none)
    (h : IsB c0 w0 → IsB c1 w1 → IsB b want → Gives P st.h (ev st) o.op r) (hK : ∀ KK : VS → Prop, (∀ st, VRun P ow ops l st K → KK st) → KK (st.put o.dst (selA c0 w0 (selA c1 w1 (selA b want r))))) : VRun P ow ops (o :: l) st K := by
  refine vrun_consGX (r := r) (c0 = w0 ∧ c1 = w1 ∧ b = want) hg (fun hC => ?_) (fun hC => ?_) ht (fun hC => ?_) fun KK hKK => ?_
  · rw [show guardA ops st j = _ from hb]
    simp only [selA, hC, if_true]
  · rw [show guardA ops st j = _ from hb]
    simp only [selA]
    revert hC
    cases c0 <;> cases w0 <;> cases c1 <;> cases w1 <;> cases b <;> cases want <;> simp
  · exact h hC.1 hC.2.1 hC.2.2
  · have hk := hK KK hKK
    have e : (selA c0 w0 (selA c1 w1 (selA b want r))) = if c0 = w0 ∧ c1 = w1 ∧ b = want then r else .lit undef := by
      simp only [selA]
      cases c0 <;> cases w0 <;> cases c1 <;> cases w1 <;> cases b <;> cases want <;> simp
    rw [e] at hk
    exact hk
theorem vrun_consG3 {ow : List Nat} {ops : List Oper} {o : Oper} {l : List Oper} {K : VS → Prop} {j : Nat} {want : Bool} {c0 w0 : Bool} {c1 w1 : Bool} {c2 w2 : Bool} {b : Bool} {r : AV} (hg : o.guard = some (j, want)) (hb : IsG (guardA ops st j) ((selA c0 w0 (selA c1 w1 (selA c2 w2 (.lit (.bool b))))))) (ht : tailOp P ow st o = none ∧ tailBag P st o = none ∧ ownCall ow o = none)
    (h : IsB c0 w0 → IsB c1 w1 → IsB c2 w2 → IsB b want → Gives P st.h (ev st) o.op r) (hK : ∀ KK : VS → Prop, (∀ st, VRun P ow ops l st K → KK st) → KK (st.put o.dst (selA c0 w0 (selA c1 w1 (selA c2 w2 (selA b want r)))))) : VRun P ow ops (o :: l) st K := by
  refine vrun_consGX (r := r) (c0 = w0 ∧ c1 = w1 ∧ c2 = w2 ∧ b = want) hg (fun hC => ?_) (fun hC => ?_) ht (fun hC => ?_) fun KK hKK => ?_
  · rw [show guardA ops st j = _ from hb]
    simp only [selA, hC, if_true]
  · rw [show guardA ops st j = _ from hb]
    simp only [selA]
    revert hC
    cases c0 <;> cases w0 <;> cases c1 <;> cases w1 <;> cases c2 <;> cases w2 <;> cases b <;> cases want <;> simp
  · exact h hC.1 hC.2.1 hC.2.2.1 hC.2.2.2
  · have hk := hK KK hKK
    have e : (selA c0 w0 (selA c1 w1 (selA c2 w2 (selA b want r)))) = if c0 = w0 ∧ c1 = w1 ∧ c2 = w2 ∧ b = want then r else .lit undef := by
      simp only [selA]
      cases c0 <;> cases w0 <;> cases c1 <;> cases w1 <;> cases c2 <;> cases w2 <;> cases b <;> cases want <;> simp
    rw [e] at hk
    exact hk
/-- A guarded operation, whatever its guard: C tells when it is carried out. -/
theorem vhrun_consGX {ops : List Oper} {o : Oper} {l : List Oper} {K : VS → Prop} {j : Nat} {want : Bool} (C : Prop) [Decidable C] (hg : o.guard = some (j, want)) (hc : C → guardA ops st j = .lit (.bool want)) (hn : ¬ C → guardA ops st j = .lit (.bool (!want)) ∨ guardA ops st j = .lit undef)
    {r : AV} (h : C → Gives P st.h (ev st) o.op r) (hK : ∀ KK : VS → Prop, (∀ st, VHRun P ops l st K → KK st) → KK (st.put o.dst (if C then r else .lit undef))) : VHRun P ops (o :: l) st K := by
  refine vhrun_cons fun KK hKK => ?_
  have hk := hK KK hKK
  unfold VHOp
  rw [hg]
  simp only
  by_cases hC : C
  · rw [hc hC]
    simp only [if_true]
    rw [if_pos hC] at hk
    exact ⟨r, h hC, hk⟩
  · rw [if_neg hC] at hk
    rcases hn hC with e | e
    · rw [e]
      simp only
      rw [if_neg (by cases want <;> simp)]
      exact hk
    · rw [e]
      exact hk
theorem vhrun_consG0 {ops : List Oper} {o : Oper} {l : List Oper} {K : VS → Prop} {j : Nat} {want : Bool}  {b : Bool} {r : AV} (hg : o.guard = some (j, want)) (hb : IsG (guardA ops st j) ((.lit (.bool b))))
    (h : IsB b want → Gives P st.h (ev st) o.op r) (hK : ∀ KK : VS → Prop, (∀ st, VHRun P ops l st K → KK st) → KK (st.put o.dst (selA b want r))) : VHRun P ops (o :: l) st K := by
  refine vhrun_consGX (r := r) (b = want) hg (fun hC => ?_) (fun hC => ?_) (fun hC => ?_) fun KK hKK => ?_
  · rw [show guardA ops st j = _ from hb, hC]
  · rw [show guardA ops st j = _ from hb]
    revert hC
    cases b <;> cases want <;> simp
  · exact h hC
  · exact hK KK hKK
theorem vhrun_consG1 {ops : List Oper} {o : Oper} {l : List Oper} {K : VS → Prop} {j : Nat} {want : Bool} {c0 w0 : Bool} {b : Bool} {r : AV} (hg : o.guard = some (j, want)) (hb : IsG (guardA ops st j) ((selA c0 w0 (.lit (.bool b)))))
    (h : IsB c0 w0 → IsB b want → Gives P st.h (ev st) o.op r) (hK : ∀ KK : VS → Prop, (∀ st, VHRun P ops l st K → KK st) → KK (st.put o.dst (selA c0 w0 (selA b want r)))) : VHRun P ops (o :: l) st K := by
  refine vhrun_consGX (r := r) (c0 = w0 ∧ b = want) hg (fun hC => ?_) (fun hC => ?_) (fun hC => ?_) fun KK hKK => ?_
  · rw [show guardA ops st j = _ from hb]
    simp only [selA, hC, if_true]
  · rw [show guardA ops st j = _ from hb]
    simp only [selA]
    revert hC
    cases c0 <;> cases w0 <;> cases b <;> cases want <;> simp
  · exact h hC.1 hC.2
  · have hk := hK KK hKK
    have e : (selA c0 w0 (selA b want r)) = if c0 = w0 ∧ b = want then r else .lit undef := by
      simp only [selA]
      cases c0 <;> cases w0 <;> cases b <;> cases want <;> simp
    rw [e] at hk
    exact hk
end
end Go.Proofs.Ytcndlalhkkjocaa

/-! VFor: Loops: of every program; no condition. -/
namespace Go.Proofs.Ytcndlalhkkjocaa
open Go.RowKit
section
variable {P : Program} {M0 : Nat → Nat → Prop} {w0 : Bas} {N : Nm} {st : VS} {Q : Exit → VS → Prop}
/-- A region that draws its order, of so many operations. -/
theorem vdrawL {id : Nat} {l : List Oper} (len n : Nat) (ow : List Nat) (_hl : l.length = len) (hm : P.follows .mixedOrders = true) (hB : drawB l n = true) (h : VHRun P l (l.take n) st fun st' => VRun P ow l (l.drop n) st' (Q .normal)) :
    VWp P M0 w0 N (.region id l.toArray true) Q st := vdraw n ow hm hB h
/-- An equation of rows that simp leaves alone. -/
def IsL (x y : List AV) : Prop := x = y
/-- A loop: what it does not assign stays as it is (keep), F tells what it assigns, H the variables and rows. -/
theorem vloopK {c : Code} {α : Type} (keep : List Nat) (F : α → List (Nat × AV)) (H : α → Hp) (Inv : α → Prop) (μ : α → Nat) (x0 : α) (hI : Inv x0) {vals : List AV} (_hv : IsL (keep.map (lkp st.s)) vals) (h0 : Le st ⟨F x0 ++ keep.zip vals, H x0⟩)
    (round : ∀ x, Inv x → ∀ K : VS → Prop, (∀ st' y, Inv y → μ y < μ x → Le st' ⟨F y ++ keep.zip vals, H y⟩ → K st') → VWp P M0 w0 N c (VThen K Q) ⟨F x ++ keep.zip vals, H x⟩) : VWp P M0 w0 N (.loop c) Q st :=
  vloop (fun x => ⟨F x ++ keep.zip vals, H x⟩) Inv μ x0 hI h0 round
/-- A loop that counts up to n and leaves early at the first k that has p. -/
theorem vfor {c : Code} (keep : List Nat) (F : Nat → List (Nat × AV)) (H : Nat → Hp) (p : Nat → Bool) (n : Nat) {vals : List AV} (hv : IsL (keep.map (lkp st.s)) vals) (h0 : Le st ⟨F 0 ++ keep.zip vals, H 0⟩)
    (go : ∀ k, k < n → Hid (∀ j, j < k → p j = false) → Hid (p k = false) → ∀ K : VS → Prop, (∀ st', Le st' ⟨F (k + 1) ++ keep.zip vals, H (k + 1)⟩ → K st') → VWp P M0 w0 N c (VThen K Q) ⟨F k ++ keep.zip vals, H k⟩)
    (hit : ∀ k, k < n → Hid (∀ j, j < k → p j = false) → Hid (p k = true) → ∀ K : VS → Prop, VWp P M0 w0 N c (VThen K Q) ⟨F k ++ keep.zip vals, H k⟩)
    (out : Hid (∀ j, j < n → p j = false) → ∀ K : VS → Prop, VWp P M0 w0 N c (VThen K Q) ⟨F n ++ keep.zip vals, H n⟩) : VWp P M0 w0 N (.loop c) Q st := by
  refine vloopK keep F H (fun k => k ≤ n ∧ ∀ j, j < k → p j = false) (fun k => n - k) 0 ⟨Nat.zero_le _, fun j h => by omega⟩ hv h0 ?_
  rintro k ⟨hk, hb⟩ K hK
  by_cases hlt : k < n
  · cases hp : p k
    · refine go k hlt (Lib.hid hb) (Lib.hid hp) K fun st' hle => hK st' (k + 1) ⟨hlt, fun j hj => ?_⟩ (by omega) hle
      by_cases he : j = k
      · rw [he]; exact hp
      · exact hb j (by omega)
    · exact hit k hlt (Lib.hid hb) (Lib.hid hp) K
  · obtain rfl : k = n := by omega
    exact out (Lib.hid hb) K
end
section
variable {P : Program} {M0 : Nat → Nat → Prop} {w0 : Bas} {N : Nm} {st : VS} {Q : Exit → VS → Prop}
/-- A loop that counts up to n. -/
theorem vcnt {c : Code} (keep : List Nat) (F : Nat → List (Nat × AV)) (H : Nat → Hp) (n : Nat) {vals : List AV} (hv : IsL (keep.map (lkp st.s)) vals) (h0 : Le st ⟨F 0 ++ keep.zip vals, H 0⟩)
    (go : ∀ k, k < n → ∀ K : VS → Prop, (∀ st', Le st' ⟨F (k + 1) ++ keep.zip vals, H (k + 1)⟩ → K st') → VWp P M0 w0 N c (VThen K Q) ⟨F k ++ keep.zip vals, H k⟩)
    (out : ∀ K : VS → Prop, VWp P M0 w0 N c (VThen K Q) ⟨F n ++ keep.zip vals, H n⟩) : VWp P M0 w0 N (.loop c) Q st :=
  vfor keep F H (fun _ => false) n hv h0 (fun k hk _ _ => go k hk) (fun _ _ _ h => by cases h.out) fun _ => out
end
end Go.Proofs.Ytcndlalhkkjocaa
