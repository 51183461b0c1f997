/- Texts in one: A row of the call's own that is written to no more is a slice like any other: of every program; no condition. -/
import Derived.Test.YtoibondihdhnoaaGreatDoorFRA6
import Derived.Test.YtoibondihdhnoaaGreatDoorProg
namespace Go.Proofs.YtoibondihdhnoaaGreatDoor
open Go.RowKit
section
variable {P : Program} {M0 : Nat → Nat → Prop} {w0 : Bas} {N : Nm} {p : Pl} {st : VS} {a : Act} {w : World} {Q : Exit → VS → Prop}
theorem get_set_none {h : Hp} {id i : Nat} {ob : Ob} (hi : (h.set id none)[i]? = some (some ob)) : i ≠ id ∧ h[i]? = some (some ob) := by
 by_cases hne : i = id
 ·subst hne
  by_cases hl : i < h.length
  ·rw [List.getElem?_set_self hl] at hi
   simp at hi
  ·rw [List.getElem?_eq_none (by simp; omega)] at hi
   simp at hi
 ·rw [List.getElem?_set_ne (fun h => hne h.symm)] at hi
  exact ⟨hne, hi⟩
theorem Mof.drop {h : Hp} {p : Pl} {id b j : Nat} (hb : ¬ Mof M0 h p b j) : ¬ Mof M0 (h.set id none) p b j := fun hb' => by
 rcases hb' with h | ⟨i, ob, hi, hl, hp⟩
 ·exact hb (.inl h)
 ·exact hb (.inr ⟨i, ob, (get_set_none hi).2, hl, hp⟩)
theorem Rel.reheap (R : Rel M0 w0 N p st a w) (h' : Hp) (hl : st.h.length ≤ h'.length) (hlive : ∀ (i : Nat) (ob : Ob), h'[i]? = some (some ob) → live ob = true → ∃ ob', st.h[i]? = some (some ob') ∧ live ob' = true)
  (harr : ∀ (i e sz : Nat) (nl : Bool) (es : List (List AV)), i < st.h.length → h'[i]? = some (some (.arr e sz nl es)) → st.h[i]? = some (some (.arr e sz nl es)))
  (hbag : ∀ (i e sz : Nat) (nl : Bool) (pe : Option Nat) (qs : List (List (List AV))), i < st.h.length → h'[i]? = some (some (.bag e sz nl pe qs)) → st.h[i]? = some (some (.bag e sz nl pe qs)))
  (hobj : ∀ (i : Nat) (ob : Ob), h'[i]? = some (some ob) → st.h[i]? ≠ some (some ob) → (∀ {av : AV} {v : Value}, V1 w (Mof M0 st.h p) st.h p av v → V1 w (Mof M0 h' p) h' p av v) → ObOK w0 w (Mof M0 h' p) h' p i ob) :
  Rel M0 w0 N p ⟨st.s, h'⟩ a w ∧ ∀ {av : AV} {v : Value}, V1 w (Mof M0 st.h p) st.h p av v → V1 w (Mof M0 h' p) h' p av v := by
 have hM : ∀ b j, ¬ Mof M0 st.h p b j → ¬ Mof M0 h' p b j := fun b j hb hb' => by
  rcases hb' with h | ⟨i, ob, hi, hlv, hp⟩
  ·exact hb (.inl h)
  ·obtain ⟨ob', h1, h2⟩ := hlive i ob hi hlv
   exact hb (.inr ⟨i, ob', h1, h2, hp⟩)
 have keep : ∀ {av : AV} {v : Value}, V1 w (Mof M0 st.h p) st.h p av v → V1 w (Mof M0 h' p) h' p av v := fun hv =>
  hv.keep (Keeps.refl _ _) (fun b j _ h => hM b j h) hl (fun _ _ => rfl) (fun i e sz nl es v hil he hv => hv _ _ _ _ (harr _ _ _ _ _ hil he)) (fun i e sz nl pe qs v hil he hv => hv _ _ _ _ _ (hbag _ _ _ _ _ _ hil he)) (fun i k sz v hil hs => hs.keep (fun e sz pe qs he => ⟨hbag _ _ _ _ _ _ hil he, rfl, rfl, fun _ _ _ _ => rfl⟩) (Nat.le_refl _))
 refine ⟨⟨R.defers, R.size, R.below, R.m0, R.x0, fun i => keep (R.slots i), fun i ob hi => ?_, fun i i' ob ob' hi hi' hlv hlv' b j j' hO hO' => ?_⟩, keep⟩
 ·by_cases hs : st.h[i]? = some (some ob)
  ·exact (R.objs i ob hs).keep (fun _ => ⟨rfl, rfl⟩) (fun _ _ _ _ _ => rfl) (Nat.le_refl _) (fun hx => hx.keep (Keeps.refl _ _) fun b j _ => hM b j) fun _ _ _ _ _ hx => keep hx
  ·exact hobj i ob hi hs keep
 ·obtain ⟨o1, h1, l1⟩ := hlive i ob hi hlv
  obtain ⟨o2, h2, l2⟩ := hlive i' ob' hi' hlv'
  exact R.inj i i' o1 o2 h1 h2 l1 l2 b j j' hO hO'
theorem Rel.drop (R : Rel M0 w0 N p st a w) (id : Nat) : Rel M0 w0 N p ⟨st.s, st.h.set id none⟩ a w :=
 (R.reheap (st.h.set id none) (by simp) (fun i ob hi hl => ⟨ob, (get_set_none hi).2, hl⟩) (fun i e sz nl es _ hi => (get_set_none hi).2) (fun i e sz nl pe qs _ hi => (get_set_none hi).2) fun i ob hi hne _ => absurd (get_set_none hi).2 hne).1
theorem Rel.freeze (R : Rel M0 w0 N p st a w) {id t e sz : Nat} {nl : Bool} {es : List (List AV)} (ht : lkp st.s t = .osl id) (hi : st.h[id]? = some (some (.arr e sz nl es))) :
  Rel M0 w0 N p ⟨(t, .sl sz es) :: st.s, st.h.set id none⟩ a w := by
 have D := R.drop id
 refine ⟨D.defers, D.size, D.below, D.m0, D.x0, fun i => ?_, D.objs, D.inj⟩
 by_cases hit : t = i
 ·subst hit
  simp only [lkp, if_true]
  have hv := R.slots t
  rw [ht] at hv
  obtain ⟨A, n, c, hu, hid, ho⟩ := hv.osl_inv
  have hO := ho _ _ _ _ hi
  obtain ⟨o1, o2, o3⟩ := R.objs id _ hi
  refine .base _ _ ?_
  generalize a.tmps.getD t undef = v at hu hO
  by_cases hnl : nl = true
  ·rw [if_pos hnl] at o3
   unfold Osl at hO
   rw [if_pos hnl] at hO
   obtain ⟨⟨A, hO⟩, _⟩ := hO
   rw [hO, o3]
   exact .slNil _ _ _
  ·rw [if_neg hnl] at o3
   unfold Osl at hO
   rw [if_neg hnl] at hO
   obtain ⟨cap, cur, e1, e2, e3, e4, e5⟩ := hO
   obtain ⟨q1, cur', q2, q3, q4⟩ := o3
   have hcc : cur' = cur := by
    rw [q2] at e2
    injection e2 with e2
    injection e2 with e2
   subst hcc
   rw [e1]
   by_cases hes : es = []
   ·subst hes
    exact .slNil _ _ _
   ·have hb : p id < w.heap.size := (Array.getElem?_eq_some_iff.1 e2).1
    have hlv : live (.arr e sz nl es) = true := by
     cases nl
     ·rfl
     ·exact absurd rfl hnl
    have hMn : ∀ j, ¬ Mof M0 (st.h.set id none) p (p id) j := by
     rintro j (h | ⟨i, ob, hi2, hl, hp⟩)
     ·exact R.h0 _ _ h (q1.1 j)
     ·obtain ⟨hne, hi3⟩ := get_set_none hi2
      exact hne (R.inj i id ob _ hi3 hi hl hlv _ _ 0 hp (.inl rfl))
    have hM : ∀ b j, ¬ Mof M0 st.h p b j → ¬ Mof M0 (st.h.set id none) p b j := fun b j => Mof.drop
    have hcell : ∀ j, w.cell? ⟨p id, j, none⟩ = cur'[j]? := fun j => by simp [World.cell?, e2]
    have hlen : ∀ (k : Nat) (x : List AV), es[k]? = some x → x.length = sz := fun k x hk => (o2 k x hk).1
    refine .sl sz es cap (p id) 0 (fun k j => (cur'[k * sz + j]?).getD undef) hes hb (fun _ _ _ _ => hMn _) e4 hlen (fun k x j c hk hj => (o2 k x hk).2 c (List.mem_of_getElem? hj)) (fun k j hk hj => ?_) fun k x j c hk hj => ?_
    ·rw [Nat.zero_add, hcell]
     have hx : es[k]? = some es[k] := List.getElem?_eq_getElem hk
     have hjl : j < es[k].length := by rw [hlen k _ hx]; exact hj
     obtain ⟨u, hu, _⟩ := q4 k _ j _ hx (List.getElem?_eq_getElem hjl)
     rw [hu]
     rfl
    ·obtain ⟨u, hu, hv⟩ := q4 k x j c hk hj
     rw [hu]
     exact hv.keep (Keeps.refl _ _) (fun b j _ h => hM b j h)
 ·simp only [lkp, if_neg hit]
  exact D.slots i
end
theorem VC.weak {P : Program} {f : FuncId} {args : List AV} {r r' : AV} (h : VC P f args r) (hr : ∀ (w : World) (M : Nat → Nat → Prop) (v : Value), V0 w M r v → V0 w M r' v) : VC P f args r' :=
 ⟨h.1, fun w M vs hM hl hv => (h.2 w M vs hM hl hv).mono fun _ _ ⟨v, he, hb, h0⟩ => ⟨v, he, hb, hr _ _ _ h0⟩⟩
theorem V0.nilSl {w : World} {M : Nat → Nat → Prop} {v : Value} (h : V0 w M (.lit (.slice none 0 0)) v) (sz : Nat) : V0 w M (.sl sz []) v := by
 cases h with
 | lit => exact .slNil _ _ _
end Go.Proofs.YtoibondihdhnoaaGreatDoor
namespace Go.Proofs.YtoibondihdhnoaaGreatDoor
open Go.RowKit
def boolOf : AV → Bool
 | .lit (.bool b) => b
 | _ => false
attribute [go_sem] boolOf
def IsB (b want : Bool) : Prop := b = want
def IsG (x y : AV) : Prop := x = y
theorem IsB.out {b want : Bool} (h : IsB b want) : b = want := h
section
variable {P : Program} {M0 : Nat → Nat → Prop} {w0 : Bas} {N : Nm} {st : VS} {Q : Exit → VS → Prop}
theorem vcondS {c : Operand} {x y : Code} (hc : ev st c = .lit (.bool (boolOf (ev st c)))) (h1 : IsB (boolOf (ev st c)) true → VWp P M0 w0 N x Q st) (h2 : IsB (boolOf (ev st c)) false → VWp P M0 w0 N y Q st) : VWp P M0 w0 N (.cond c x y) Q st := vcond hc h1 h2
theorem vrun_consGX {ow : List Nat} {ops : List Oper} {o : Oper} {l : List Oper} {K : VS → Prop} {j : Nat} {want : Bool} (C : Prop) [Decidable C] (hg : o.guard = some (j, want)) (hc : C → guardA ops st j = .lit (.bool want)) (hn : ¬ C → guardA ops st j = .lit (.bool (!want)) ∨ guardA ops st j = .lit undef) (ht : tailOp P ow st o = none ∧ tailBag P st o = none ∧ ownCall ow o = none)
  {r : AV} (h : C → Gives P st.h (ev st) o.op r) (hK : ∀ KK : VS → Prop, (∀ st, VRun P ow ops l st K → KK st) → KK (st.put o.dst (if C then r else .lit undef))) : VRun P ow ops (o :: l) st K := by
 refine vrun_cons fun KK hKK => ?_
 have hk := hK KK hKK
 unfold VOp
 rw [hg]
 simp only
 by_cases hC : C
 ·rw [hc hC]
  simp only [if_true]
  rw [if_pos hC] at hk
  unfold VDo
  rw [ht.1, ht.2.1, ht.2.2]
  exact ⟨r, h hC, hk⟩
 ·rw [if_neg hC] at hk
  rcases hn hC with e | e
  ·rw [e]
   simp only
   rw [if_neg (by cases want <;> simp)]
   exact hk
  ·rw [e]
   exact hk
theorem vrun_consG0 {ow : List Nat} {ops : List Oper} {o : Oper} {l : List Oper} {K : VS → Prop} {j : Nat} {want : Bool}  {b : Bool} {r : AV} (hg : o.guard = some (j, want)) (hb : IsG (guardA ops st j) ((.lit (.bool b)))) (ht : tailOp P ow st o = none ∧ tailBag P st o = none ∧ ownCall ow o = none)
  (h : IsB b want → Gives P st.h (ev st) o.op r) (hK : ∀ KK : VS → Prop, (∀ st, VRun P ow ops l st K → KK st) → KK (st.put o.dst (selA b want r))) : VRun P ow ops (o :: l) st K := by
 refine vrun_consGX (r := r) (b = want) hg (fun hC => ?_) (fun hC => ?_) ht (fun hC => ?_) fun KK hKK => ?_
 ·rw [show guardA ops st j = _ from hb, hC]
 ·rw [show guardA ops st j = _ from hb]
  revert hC
  cases b <;> cases want <;> simp
 ·exact h hC
 ·exact hK KK hKK
theorem vrun_consG1 {ow : List Nat} {ops : List Oper} {o : Oper} {l : List Oper} {K : VS → Prop} {j : Nat} {want : Bool} {c0 w0 : Bool} {b : Bool} {r : AV} (hg : o.guard = some (j, want)) (hb : IsG (guardA ops st j) ((selA c0 w0 (.lit (.bool b))))) (ht : tailOp P ow st o = none ∧ tailBag P st o = none ∧ ownCall ow o = none)
  (h : IsB c0 w0 → IsB b want → Gives P st.h (ev st) o.op r) (hK : ∀ KK : VS → Prop, (∀ st, VRun P ow ops l st K → KK st) → KK (st.put o.dst (selA c0 w0 (selA b want r)))) : VRun P ow ops (o :: l) st K := by
 refine vrun_consGX (r := r) (c0 = w0 ∧ b = want) hg (fun hC => ?_) (fun hC => ?_) ht (fun hC => ?_) fun KK hKK => ?_
 ·rw [show guardA ops st j = _ from hb]
  simp only [selA, hC, if_true]
 ·rw [show guardA ops st j = _ from hb]
  simp only [selA]
  revert hC
  cases c0 <;> cases w0 <;> cases b <;> cases want <;> simp
 ·exact h hC.1 hC.2
 ·have hk := hK KK hKK
  have e : (selA c0 w0 (selA b want r)) = if c0 = w0 ∧ b = want then r else .lit undef := by
   simp only [selA]
   cases c0 <;> cases w0 <;> cases b <;> cases want <;> simp
  rw [e] at hk
  exact hk
theorem vrun_consG2 {ow : List Nat} {ops : List Oper} {o : Oper} {l : List Oper} {K : VS → Prop} {j : Nat} {want : Bool} {c0 w0 : Bool} {c1 w1 : Bool} {b : Bool} {r : AV} (hg : o.guard = some (j, want)) (hb : IsG (guardA ops st j) ((selA c0 w0 (selA c1 w1 (.lit (.bool b)))))) (ht : tailOp P ow st o = none ∧ tailBag P st o = none ∧ ownCall ow o = none)
  (h : IsB c0 w0 → IsB c1 w1 → IsB b want → Gives P st.h (ev st) o.op r) (hK : ∀ KK : VS → Prop, (∀ st, VRun P ow ops l st K → KK st) → KK (st.put o.dst (selA c0 w0 (selA c1 w1 (selA b want r))))) : VRun P ow ops (o :: l) st K := by
 refine vrun_consGX (r := r) (c0 = w0 ∧ c1 = w1 ∧ b = want) hg (fun hC => ?_) (fun hC => ?_) ht (fun hC => ?_) fun KK hKK => ?_
 ·rw [show guardA ops st j = _ from hb]
  simp only [selA, hC, if_true]
 ·rw [show guardA ops st j = _ from hb]
  simp only [selA]
  revert hC
  cases c0 <;> cases w0 <;> cases c1 <;> cases w1 <;> cases b <;> cases want <;> simp
 ·exact h hC.1 hC.2.1 hC.2.2
 ·have hk := hK KK hKK
  have e : (selA c0 w0 (selA c1 w1 (selA b want r))) = if c0 = w0 ∧ c1 = w1 ∧ b = want then r else .lit undef := by
   simp only [selA]
   cases c0 <;> cases w0 <;> cases c1 <;> cases w1 <;> cases b <;> cases want <;> simp
  rw [e] at hk
  exact hk
theorem vrun_consG3 {ow : List Nat} {ops : List Oper} {o : Oper} {l : List Oper} {K : VS → Prop} {j : Nat} {want : Bool} {c0 w0 : Bool} {c1 w1 : Bool} {c2 w2 : Bool} {b : Bool} {r : AV} (hg : o.guard = some (j, want)) (hb : IsG (guardA ops st j) ((selA c0 w0 (selA c1 w1 (selA c2 w2 (.lit (.bool b))))))) (ht : tailOp P ow st o = none ∧ tailBag P st o = none ∧ ownCall ow o = none)
  (h : IsB c0 w0 → IsB c1 w1 → IsB c2 w2 → IsB b want → Gives P st.h (ev st) o.op r) (hK : ∀ KK : VS → Prop, (∀ st, VRun P ow ops l st K → KK st) → KK (st.put o.dst (selA c0 w0 (selA c1 w1 (selA c2 w2 (selA b want r)))))) : VRun P ow ops (o :: l) st K := by
 refine vrun_consGX (r := r) (c0 = w0 ∧ c1 = w1 ∧ c2 = w2 ∧ b = want) hg (fun hC => ?_) (fun hC => ?_) ht (fun hC => ?_) fun KK hKK => ?_
 ·rw [show guardA ops st j = _ from hb]
  simp only [selA, hC, if_true]
 ·rw [show guardA ops st j = _ from hb]
  simp only [selA]
  revert hC
  cases c0 <;> cases w0 <;> cases c1 <;> cases w1 <;> cases c2 <;> cases w2 <;> cases b <;> cases want <;> simp
 ·exact h hC.1 hC.2.1 hC.2.2.1 hC.2.2.2
 ·have hk := hK KK hKK
  have e : (selA c0 w0 (selA c1 w1 (selA c2 w2 (selA b want r)))) = if c0 = w0 ∧ c1 = w1 ∧ c2 = w2 ∧ b = want then r else .lit undef := by
   simp only [selA]
   cases c0 <;> cases w0 <;> cases c1 <;> cases w1 <;> cases c2 <;> cases w2 <;> cases b <;> cases want <;> simp
  rw [e] at hk
  exact hk
end
end Go.Proofs.YtoibondihdhnoaaGreatDoor
namespace Go.Proofs.YtoibondihdhnoaaGreatDoor
open Go.RowKit
@[go_sem] theorem ti3 : tinfo Tryz.prog 3 = some ⟨5, 1, 8, 0, 1, 0, .i64, [], [.int .i64 0]⟩ := by kernel_rfl
@[go_sem] theorem ti4 : tinfo Tryz.prog 4 = some ⟨6, 1, 1, 0, 1, 0, .i64, [], [.bool false]⟩ := by kernel_rfl
@[go_sem] theorem ti5 : tinfo Tryz.prog 5 = some ⟨5, 1, 1, 0, 1, 0, .u8, [], [.int .u8 0]⟩ := by kernel_rfl
@[go_sem] theorem ti9 : tinfo Tryz.prog 9 = some ⟨4, 1, 16, 0, 1, 0, .i64, [], [.string ⟨#[]⟩]⟩ := by kernel_rfl
@[go_sem] theorem ti20 : tinfo Tryz.prog 20 = some ⟨9, 1, 16, 0, 1, 0, .i64, [], [.nilIface]⟩ := by kernel_rfl
@[go_sem] theorem ti22 : tinfo Tryz.prog 22 = some ⟨1, 1, 24, 61, 4, 0, .i64, [], [.slice none 0 0]⟩ := by kernel_rfl
@[go_sem] theorem ti24 : tinfo Tryz.prog 24 = some ⟨3, 3, 40, 0, 1, 0, .i64, [(0, 1, false), (1, 1, false), (2, 1, false)], [.slice none 0 0, .int .i64 0, .int .i64 0]⟩ := by kernel_rfl
@[go_sem] theorem ti25 : tinfo Tryz.prog 25 = some ⟨1, 1, 24, 58, 4, 0, .i64, [], [.slice none 0 0]⟩ := by kernel_rfl
@[go_sem] theorem ti29 : tinfo Tryz.prog 29 = some ⟨1, 1, 24, 62, 1, 0, .i64, [], [.slice none 0 0]⟩ := by kernel_rfl
@[go_sem] theorem ti30 : tinfo Tryz.prog 30 = some ⟨1, 1, 24, 148, 3, 0, .i64, [], [.slice none 0 0]⟩ := by kernel_rfl
@[go_sem] theorem ti32 : tinfo Tryz.prog 32 = some ⟨3, 3, 56, 0, 1, 0, .i64, [(0, 1, false), (1, 1, false), (2, 1, false)], [.slice none 0 0, .slice none 0 0, .int .i64 0]⟩ := by kernel_rfl
@[go_sem] theorem ti33 : tinfo Tryz.prog 33 = some ⟨5, 1, 8, 0, 1, 0, .i64, [], [.int .i64 0]⟩ := by kernel_rfl
@[go_sem] theorem ti40 : tinfo Tryz.prog 40 = some ⟨1, 1, 24, 45, 3, 0, .i64, [], [.slice none 0 0]⟩ := by kernel_rfl
@[go_sem] theorem ti45 : tinfo Tryz.prog 45 = some ⟨3, 3, 32, 0, 1, 0, .i64, [(0, 1, false), (1, 1, false), (2, 1, false)], [.int .i64 0, .int .i64 0, .string ⟨#[]⟩]⟩ := by kernel_rfl
@[go_sem] theorem ti46 : tinfo Tryz.prog 46 = some ⟨2, 3, 24, 3, 1, 3, .i64, [], [.int .i64 0, .int .i64 0, .int .i64 0]⟩ := by kernel_rfl
@[go_sem] theorem ti58 : tinfo Tryz.prog 58 = some ⟨3, 4, 40, 0, 1, 0, .i64, [(0, 1, false), (1, 1, false), (2, 1, false), (3, 1, false)], [.int .i64 0, .int .i64 0, .int .i64 0, .string ⟨#[]⟩]⟩ := by kernel_rfl
@[go_sem] theorem ti61 : tinfo Tryz.prog 61 = some ⟨3, 4, 40, 0, 1, 0, .i64, [(0, 1, false), (1, 1, false), (2, 1, false), (3, 1, false)], [.string ⟨#[]⟩, .int .i64 0, .int .i64 0, .bool false]⟩ := by kernel_rfl
@[go_sem] theorem ti62 : tinfo Tryz.prog 62 = some ⟨1, 1, 24, 9, 1, 0, .i64, [], [.slice none 0 0]⟩ := by kernel_rfl
@[go_sem] theorem ti63 : tinfo Tryz.prog 63 = some ⟨1, 1, 24, 67, 3, 0, .i64, [], [.slice none 0 0]⟩ := by kernel_rfl
@[go_sem] theorem ti67 : tinfo Tryz.prog 67 = some ⟨3, 3, 32, 0, 1, 0, .i64, [(0, 1, false), (1, 1, false), (2, 1, false)], [.string ⟨#[]⟩, .int .i64 0, .int .i64 0]⟩ := by kernel_rfl
@[go_sem] theorem ti76 : tinfo Tryz.prog 76 = some ⟨1, 1, 24, 167, 4, 0, .i64, [], [.slice none 0 0]⟩ := by kernel_rfl
@[go_sem] theorem ti89 : tinfo Tryz.prog 89 = some ⟨8, 1, 8, 0, 1, 0, .i64, [], [.nilFunc]⟩ := by kernel_rfl
@[go_sem] theorem ti100 : tinfo Tryz.prog 100 = some ⟨3, 2, 16, 0, 1, 0, .i64, [(0, 1, false), (1, 1, false)], [.int .i64 0, .int .i64 0]⟩ := by kernel_rfl
@[go_sem] theorem ti124 : tinfo Tryz.prog 124 = some ⟨3, 2, 24, 0, 1, 0, .i64, [(0, 1, false), (1, 1, false)], [.int .i64 0, .string ⟨#[]⟩]⟩ := by kernel_rfl
@[go_sem] theorem ti128 : tinfo Tryz.prog 128 = some ⟨3, 2, 16, 0, 1, 0, .i64, [(0, 1, false), (1, 1, false)], [.int .i64 0, .int .i64 0]⟩ := by kernel_rfl
@[go_sem] theorem ti141 : tinfo Tryz.prog 141 = some ⟨7, 1, 8, 146, 7, 0, .i64, [], [.pointer none]⟩ := by kernel_rfl
@[go_sem] theorem ti144 : tinfo Tryz.prog 144 = some ⟨8, 1, 8, 0, 1, 0, .i64, [], [.nilFunc]⟩ := by kernel_rfl
@[go_sem] theorem ti146 : tinfo Tryz.prog 146 = some ⟨3, 7, 120, 0, 1, 0, .i64, [(0, 3, true), (3, 3, true), (6, 1, false)], [.slice none 0 0, .slice none 0 0, .int .i64 0, .slice none 0 0, .int .i64 0, .int .i64 0, .slice none 0 0]⟩ := by kernel_rfl
@[go_sem] theorem ti148 : tinfo Tryz.prog 148 = some ⟨3, 3, 32, 0, 1, 0, .i64, [(0, 1, false), (1, 1, false), (2, 1, false)], [.string ⟨#[]⟩, .int .i64 0, .int .i64 0]⟩ := by kernel_rfl
@[go_sem] theorem ti150 : tinfo Tryz.prog 150 = some ⟨1, 1, 24, 3, 1, 0, .i64, [], [.slice none 0 0]⟩ := by kernel_rfl
@[go_sem] theorem ti155 : tinfo Tryz.prog 155 = some ⟨7, 1, 8, 160, 4, 0, .i64, [], [.pointer none]⟩ := by kernel_rfl
@[go_sem] theorem ti158 : tinfo Tryz.prog 158 = some ⟨10, 1, 8, 0, 1, 0, .i64, [], [.map none]⟩ := by kernel_rfl
@[go_sem] theorem ti160 : tinfo Tryz.prog 160 = some ⟨3, 4, 64, 0, 1, 0, .i64, [(0, 1, false), (1, 1, false), (2, 1, false), (3, 1, false)], [.slice none 0 0, .map none, .slice none 0 0, .map none]⟩ := by kernel_rfl
@[go_sem] theorem ti162 : tinfo Tryz.prog 162 = some ⟨8, 1, 8, 0, 1, 0, .i64, [], [.nilFunc]⟩ := by kernel_rfl
@[go_sem] theorem ti167 : tinfo Tryz.prog 167 = some ⟨3, 4, 40, 0, 1, 0, .i64, [(0, 1, false), (1, 1, false), (2, 1, false), (3, 1, false)], [.string ⟨#[]⟩, .int .i64 0, .int .i64 0, .int .i64 0]⟩ := by kernel_rfl
@[go_sem] theorem ti169 : tinfo Tryz.prog 169 = some ⟨8, 1, 8, 0, 1, 0, .i64, [], [.nilFunc]⟩ := by kernel_rfl
@[go_sem] theorem ti171 : tinfo Tryz.prog 171 = some ⟨3, 2, 24, 0, 1, 0, .i64, [(0, 1, false), (1, 1, false)], [.string ⟨#[]⟩, .nilFunc]⟩ := by kernel_rfl
@[go_sem] theorem ti172 : tinfo Tryz.prog 172 = some ⟨2, 12, 144, 171, 2, 6, .i64, [], [.string ⟨#[]⟩, .nilFunc, .string ⟨#[]⟩, .nilFunc, .string ⟨#[]⟩, .nilFunc, .string ⟨#[]⟩, .nilFunc, .string ⟨#[]⟩, .nilFunc, .string ⟨#[]⟩, .nilFunc]⟩ := by kernel_rfl
@[go_sem] theorem ti177 : tinfo Tryz.prog 177 = some ⟨1, 1, 24, 171, 2, 0, .i64, [], [.slice none 0 0]⟩ := by kernel_rfl
@[go_sem] theorem ti178 : tinfo Tryz.prog 178 = some ⟨8, 1, 8, 0, 1, 0, .i64, [], [.nilFunc]⟩ := by kernel_rfl
@[go_sem] theorem ti184 : tinfo Tryz.prog 184 = some ⟨10, 1, 8, 0, 1, 0, .i64, [], [.map none]⟩ := by kernel_rfl
@[go_sem] theorem ti185 : tinfo Tryz.prog 185 = some ⟨8, 1, 8, 0, 1, 0, .i64, [], [.nilFunc]⟩ := by kernel_rfl
@[go_sem] theorem ti208 : tinfo Tryz.prog 208 = some ⟨8, 1, 8, 0, 1, 0, .i64, [], [.nilFunc]⟩ := by kernel_rfl
@[go_sem] theorem ti210 : tinfo Tryz.prog 210 = some ⟨1, 1, 24, 33, 1, 0, .i64, [], [.slice none 0 0]⟩ := by kernel_rfl
@[go_sem] theorem ti211 : tinfo Tryz.prog 211 = some ⟨1, 1, 24, 5, 1, 0, .i64, [], [.slice none 0 0]⟩ := by kernel_rfl
@[go_sem] theorem ti212 : tinfo Tryz.prog 212 = some ⟨8, 1, 8, 0, 1, 0, .i64, [], [.nilFunc]⟩ := by kernel_rfl
@[go_sem] theorem ti213 : tinfo Tryz.prog 213 = some ⟨8, 1, 8, 0, 1, 0, .i64, [], [.nilFunc]⟩ := by kernel_rfl
@[go_sem] theorem ti221 : tinfo Tryz.prog 221 = some ⟨9, 1, 16, 0, 1, 0, .i64, [], [.nilIface]⟩ := by kernel_rfl
@[go_sem] theorem ti233 : tinfo Tryz.prog 233 = some ⟨8, 1, 8, 0, 1, 0, .i64, [], [.nilFunc]⟩ := by kernel_rfl
@[go_sem] theorem ti234 : tinfo Tryz.prog 234 = some ⟨7, 1, 8, 167, 4, 0, .i64, [], [.pointer none]⟩ := by kernel_rfl
@[go_sem] theorem ti298 : tinfo Tryz.prog 298 = some ⟨8, 1, 8, 0, 1, 0, .i64, [], [.nilFunc]⟩ := by kernel_rfl
@[go_sem] theorem mi158 : minfo Tryz.prog 158 = some ((4, .i64), .int .i64 0) := by kernel_rfl
@[go_sem] theorem mi184 : minfo Tryz.prog 184 = some ((4, .i64), .bool false) := by kernel_rfl
@[go_sem] theorem tg3 : tagg Tryz.prog 3 = false := by kernel_rfl
@[go_sem] theorem tg33 : tagg Tryz.prog 33 = false := by kernel_rfl
@[go_sem] theorem tg9 : tagg Tryz.prog 9 = false := by kernel_rfl
@[go_sem] theorem eq46 : eqInfo Tryz.prog 46 = some [(0, 5), (1, 5), (2, 5)] := by kernel_rfl
@[go_sem] theorem eq128 : eqInfo Tryz.prog 128 = some [(0, 5), (1, 5)] := by kernel_rfl
@[go_sem] theorem eq100 : eqInfo Tryz.prog 100 = some [(0, 5), (1, 5)] := by kernel_rfl
@[go_sem] theorem eq58 : eqInfo Tryz.prog 58 = some [(0, 5), (1, 5), (2, 5), (3, 4)] := by kernel_rfl
@[go_sem] theorem eq45 : eqInfo Tryz.prog 45 = some [(0, 5), (1, 5), (2, 4)] := by kernel_rfl
@[go_sem] theorem eq148 : eqInfo Tryz.prog 148 = some [(0, 4), (1, 5), (2, 5)] := by kernel_rfl
@[go_sem] theorem eq167 : eqInfo Tryz.prog 167 = some [(0, 4), (1, 5), (2, 5), (3, 5)] := by kernel_rfl
@[go_sem] theorem eq67 : eqInfo Tryz.prog 67 = some [(0, 4), (1, 5), (2, 5)] := by kernel_rfl
end Go.Proofs.YtoibondihdhnoaaGreatDoor
namespace Go.Proofs.YtoibondihdhnoaaGreatDoor
open Go.RowKit
def intA (n : Int) : List AV := [I n]
def txtA (s : ByteArray) : List AV := [S s]
def pairA (p : Nat × Nat) : List AV := [I p.1, I p.2]
attribute [go_sem] intA txtA pairA
section
variable {P : Program} {w w' : World} {M : Nat → Nat → Prop}
theorem V0.lit_inv {v u : Value} (h : V0 w M (.lit v) u) : u = v := by cases h; rfl
theorem V0.of_lits (us : List Value) : V0 w M (.tup (us.map .lit)) (.tuple us.toArray) :=
 .tup _ _ (by simp) fun i c u hc hu => by
  obtain ⟨x, hx, rfl⟩ := map_at hc
  rw [hu] at hx
  obtain rfl := Option.some.inj hx
  exact .lit u
theorem V0.sl_inv {α : Type} {F : α → List AV} {C : α → List Value} {sz : Nat} (hF : ∀ x, F x = (C x).map .lit) {l : List α} {v : Value} (h : V0 w M (.sl sz (l.map F)) v) : ∃ A cap, v = .slice A l.length cap ∧ l.length ≤ cap ∧ Sl C sz w A l := by
 generalize he : l.map F = es at h
 cases h with
 | slNil _ A cap =>
  have : l = [] := by simpa using he
  subst this
  exact ⟨A, cap, rfl, Nat.zero_le _, Sl.nil _ _ _ _⟩
 | sl _ _ cap b o u hne hb hM hcap hsz h1 hc hv =>
  subst he
  refine ⟨_, cap, by rw [List.length_map], by simpa using hcap, fun _ => ⟨b, o, rfl, fun k x hk j c hj => ?_⟩⟩
  have hkl : k < l.length := (List.getElem?_eq_some_iff.1 hk).1
  have hx : (l.map F)[k]? = some (F x) := by simp [hk]
  have hjj : (F x)[j]? = some (.lit c) := by rw [hF]; simp [hj]
  have hjl : j < sz := by rw [← hsz k _ hx]; exact (List.getElem?_eq_some_iff.1 hjj).1
  rw [hc k j (by simpa using hkl) hjl]
  exact congrArg some (hv k _ j _ hx hjj).lit_inv
theorem VC_mk2 {f : FuncId} {a b r : AV} (hg : goesB P f = true) (h : ∀ w M v1 v2, V0 w M a v1 → V0 w M b v2 → Calls P f #[v1, v2] w fun e w' => ∃ v, e = .returned v ∧ Below w.heap.size w w' ∧ V0 w' M r v) : VC P f [a, b] r :=
 ⟨hg, fun w M vs _ hl hv => by
  match vs, hl with
  | [v1, v2], _ =>
  exact h w M v1 v2 (hv 0 a v1 rfl rfl) (hv 1 b v2 rfl rfl)⟩
end
end Go.Proofs.YtoibondihdhnoaaGreatDoor
namespace Go.Proofs.YtoibondihdhnoaaGreatDoor
open Go.RowKit
def inR (n lo hi : Int) : Bool := decide (lo ≤ n) && decide (n ≤ hi)
def unl (c : Bool) (e : Int) : Int := if c then 0 else e
def fst : List Int → Int
 | [] => 0
 | x :: r => if x ≠ 0 then x else fst r
theorem inR_iff {n lo hi : Int} : inR n lo hi = true ↔ lo ≤ n ∧ n ≤ hi := by simp [inR]
def okChar (i : Nat) (n : Int) : Bool :=
 (decide (97 ≤ n) && decide (n ≤ 122)) || (decide (65 ≤ n) && decide (n ≤ 90)) || (decide (i ≠ 0) && (decide (n = 45) || (decide (48 ≤ n) && decide (n ≤ 57))))
def okTo (s : ByteArray) (n : Nat) : Bool := (List.range n).all fun i => okChar i (byteAt s i).toNat
theorem okTo_succ (s : ByteArray) (n : Nat) : okTo s (n + 1) = (okTo s n && okChar n (byteAt s n).toNat) := by
 simp [okTo, List.range_succ]
theorem okTo_no (s : ByteArray) {n m : Nat} (h : n < m) (ho : okChar n (byteAt s n).toNat = false) : okTo s m = false := by
 unfold okTo
 rw [List.all_eq_false]
 exact ⟨n, by simpa using h, by simp [ho]⟩
def isName (s : ByteArray) : Bool := decide (1 ≤ s.size) && decide (s.size ≤ 12) && okTo s s.size
def firstErr (E : Nat → Int) : Nat → Nat → Nat × Int
 | _, 0 => (0, 0)
 | k, n + 1 => if E k ≠ 0 then (k, E k) else firstErr E (k + 1) n
def sameS (a b : ByteArray) : Bool := a.toList == b.toList
theorem sameS_iff {a b : ByteArray} : sameS a b = true ↔ a = b := by
 unfold sameS
 rw [beq_iff_eq, toList_data, toList_data]
 constructor
 ·intro h
  cases a
  cases b
  congr
  exact Array.toList_inj.1 h
 ·exact fun h => by rw [h]
end Go.Proofs.YtoibondihdhnoaaGreatDoor
namespace Go.Proofs.YtoibondihdhnoaaGreatDoor
open Go.RowKit
set_option maxRecDepth 100000
theorem p_within (n lo hi : Int) : VC Tryz.prog 90 [I n, I lo, I hi] (B (inR n lo hi)) := by
 refine VC_of Tryz.func90 rfl (by kernel_rfl) (by kernel_rfl) rfl fun M0 w0 => ?_
 simp only [Tryz.ntmps90, Tryz.results90, enumA]
 repeat' (first | (with_reducible first | refine vseq ?_ | refine vthenN ?_ | refine vret ?_ | refine vrun_nil ?_ | refine vregion [] ?_) | ((with_reducible refine vrun_cons fun KK hKK => ?_); go_simp; refine hKK _ ?_; clear hKK KK) | ((apply vrun_consG0 rfl); (focus (go_simp <;> exact rfl)); (focus (go_simp; done)); (focus (intro hb0; replace hb0 := hb0.out; go_simp <;> (exact rfl))); intro KK hKK; go_simp; refine hKK _ ?_; clear hKK KK))
 all_goals (first | (go_simp; done) | (go_simp; first | (simp [inR, *]; done) | (simp [inR, *]; omega) | (simp [inR, ] at *; omega) | (rfl)))
theorem b_within (n lo hi : Int) : VC Tryz.prog 49 [I n, I lo, I hi] (B (inR n lo hi)) := by
 refine VC_of Tryz.func49 rfl (by kernel_rfl) (by kernel_rfl) rfl fun M0 w0 => ?_
 simp only [Tryz.ntmps49, Tryz.results49, enumA]
 repeat' (first | (with_reducible first | refine vseq ?_ | refine vthenN ?_ | refine vret ?_ | refine vrun_nil ?_ | refine vregion [] ?_) | ((with_reducible refine vrun_cons fun KK hKK => ?_); go_simp; refine hKK _ ?_; clear hKK KK) | ((apply vrun_consG0 rfl); (focus (go_simp <;> exact rfl)); (focus (go_simp; done)); (focus (intro hb0; replace hb0 := hb0.out; go_simp <;> (exact rfl))); intro KK hKK; go_simp; refine hKK _ ?_; clear hKK KK))
 all_goals (first | (go_simp; done) | (go_simp; first | (simp [inR, *]; done) | (simp [inR, *]; omega) | (simp [inR, ] at *; omega) | (rfl)))
theorem p_unless (c : Bool) (e : Int) : VC Tryz.prog 89 [B c, I e] (I (unl c e)) := by
 refine VC_of Tryz.func89 rfl (by kernel_rfl) (by kernel_rfl) rfl fun M0 w0 => ?_
 simp only [Tryz.ntmps89, Tryz.results89, enumA]
 repeat' (first | (with_reducible first | refine vseq ?_ | refine vthenN ?_ | refine vthenR ?_ | refine vret ?_ | refine vskip ?_ | refine vrun_nil ?_ | refine vregion [] ?_) | ((with_reducible refine vrun_cons fun KK hKK => ?_); go_simp; refine hKK _ ?_; clear hKK KK) | ((with_reducible refine vcondS ?_ (fun ht => ?_) (fun ht => ?_)); (focus (go_simp; done)); (all_goals (simp [go_sem] at ht; replace ht := ht.out))))
 all_goals (first | (go_simp; done) | (go_simp; first | (simp [unl, *]; done) | (simp [unl, *]; omega) | (simp [unl, ] at *; omega) | (rfl)))
theorem p_first (l : List Int) (hl : l.length ≤ 1000) : VC Tryz.prog 88 [.sl 1 (l.map intA)] (I (fst l)) := by
 obtain ⟨R, hR⟩ : ∃ R, fst l = R := ⟨_, rfl⟩
 rw [hR]
 have HR := Lib.hid hR
 clear hR
 refine VC_of Tryz.func88 rfl (by kernel_rfl) (by kernel_rfl) rfl fun M0 w0 => ?_
 simp only [Tryz.ntmps88, Tryz.results88, enumA]
 repeat (first | (with_reducible first | refine vseq ?_ | refine vthenN ?_ | refine vblock ?_ | refine vrun_nil ?_ | refine vregion [] ?_) | ((with_reducible refine vrun_cons fun KK hKK => ?_); go_simp; refine hKK _ ?_; clear hKK KK))
 refine vloop (α := Nat) (fun k => ⟨[(7, I k), (6, I l.length), (5, .sl 1 (l.map intA))], []⟩) (fun k => k ≤ l.length ∧ Hid (fst (l.drop k) = R)) (fun k => l.length - k) 0 ⟨by omega, by simpa using HR⟩ (by go_simp) ?_
 rintro k ⟨hk, hf⟩ K hR
 by_cases hlt : k < l.length
 ·have hw := wrap_eq (x := (k : Int) + 1) (by omega) (by omega)
  have e := hf.out
  rw [List.drop_eq_getElem_cons hlt, fst] at e
  obtain ⟨x, hx⟩ : ∃ x, l[k] = x := ⟨_, rfl⟩
  rw [hx] at e
  have HE := Lib.hid e
  clear e
  by_cases c : x = 0
  ·subst c
   repeat (first | (with_reducible first | refine vseq ?_ | refine vthenN ?_ | refine vskip ?_ | refine vblock ?_ | refine vblockN ?_ | refine vrun_nil ?_ | refine vregion [] ?_) | ((with_reducible refine vcondT ?_ ?_); (focus (go_simp; done))) | ((with_reducible refine vcondF ?_ ?_); (focus (go_simp; done))) | ((with_reducible refine vrun_cons fun KK hKK => ?_); go_simp; refine hKK _ ?_; clear hKK KK))
   refine hR _ (k + 1) ⟨hlt, Lib.hid (by simpa using HE.out)⟩ (by omega) ?_
   go_simp
  ·repeat (first | (with_reducible first | refine vseq ?_ | refine vthenN ?_ | refine vthenR ?_ | refine vret ?_ | refine vskip ?_ | refine vblock ?_ | refine vblockR ?_ | refine vrun_nil ?_ | refine vregion [] ?_) | ((with_reducible refine vcondT ?_ ?_); (focus (go_simp; done))) | ((with_reducible refine vrun_cons fun KK hKK => ?_); go_simp; refine hKK _ ?_; clear hKK KK))
   have e := HE.out
   rw [if_pos c] at e
   subst e
   go_simp
 ·repeat (first | (with_reducible first | refine vseq ?_ | refine vthenN ?_ | refine vthenE ?_ | refine vret ?_ | refine vexit ?_ | refine vblockH ?_ | refine vrun_nil ?_ | refine vregion [] ?_) | ((with_reducible refine vcondF ?_ ?_); (focus (go_simp; done))) | ((with_reducible refine vrun_cons fun KK hKK => ?_); go_simp; refine hKK _ ?_; clear hKK KK))
  have e := hf.out
  rw [List.drop_eq_nil_of_le (by omega)] at e
  rw [show R = 0 from e.symm]
  go_simp
theorem p_isName (s : ByteArray) (hs : s.size ≤ 1000) : VC Tryz.prog 91 [S s] (B (isName s)) := by
 obtain ⟨R, hR⟩ : ∃ R, isName s = R := ⟨_, rfl⟩
 rw [hR]
 have HR := Lib.hid hR
 clear hR
 refine VC_of Tryz.func91 rfl (by kernel_rfl) (by kernel_rfl) rfl fun M0 w0 => ?_
 simp only [Tryz.ntmps91, Tryz.results91, enumA]
 repeat (first | (with_reducible first | refine vseq ?_ | refine vthenN ?_ | refine vblock ?_ | refine vrun_nil ?_ | refine vregion [] ?_) | ((with_reducible refine vrun_cons fun KK hKK => ?_); go_simp; refine hKK _ ?_; clear hKK KK))
 refine vloop (α := Nat) (fun k => ⟨[(9, I k), (8, I s.size), (7, .sl 1 ((List.range s.size).map fun i => [.lit (.int .u8 (byteAt s i).toNat)])), (0, S s)], []⟩) (fun k => k ≤ s.size ∧ Hid (okTo s k = true)) (fun k => s.size - k) 0 ⟨by omega, Lib.hid rfl⟩ (by go_simp) ?_
 rintro k ⟨hk, hf⟩ K hR
 by_cases hlt : k < s.size
 ·have hw := wrap_eq (x := (k : Int) + 1) (by omega) (by omega)
  obtain ⟨x, hx⟩ : ∃ x : Int, ((byteAt s k).toNat : Int) = x := ⟨_, rfl⟩
  have HX := Lib.hid (okTo_succ s k)
  have hno : Hid (okChar k x = false → R = false) := Lib.hid fun h => by
   rw [← HR.out]
   unfold isName
   rw [okTo_no s hlt (by rw [hx]; exact h)]
   simp
  have hch : ((!decide (97 ≤ x) || !decide (x ≤ 122)) && (!decide (65 ≤ x) || !decide (x ≤ 90)) && (decide (k = 0) || !decide (x = 45) && (decide (x < 48) || decide (57 < x)))) = !okChar k x := by
   rw [Bool.eq_iff_iff]
   simp [okChar]
  have HC := Lib.hid hch
  have hok : Hid (okChar k x = true → okTo s (k + 1) = true) := Lib.hid fun h => by rw [HX.out, hf.out, hx, h]; rfl
  clear hch
  repeat' (first | (with_reducible first | refine vseq ?_ | refine vthenN ?_ | refine vthenR ?_ | refine vret ?_ | refine vskip ?_ | refine vblock ?_ | refine vblockN ?_ | refine vblockR ?_ | refine vrun_nil ?_ | refine vregion [] ?_) | ((with_reducible refine vcondT ?_ ?_); (focus (go_simp; done))) | ((with_reducible refine vrun_cons fun KK hKK => ?_); go_simp; refine hKK _ ?_; clear hKK KK) | ((with_reducible refine vcondS ?_ (fun ht => ?_) (fun ht => ?_)); (focus (go_simp; done)); (all_goals (simp [go_sem] at ht; replace ht := ht.out))) | ((apply vrun_consG0 rfl); (focus (go_simp <;> exact rfl)); (focus (go_simp; done)); (focus (intro hb0; replace hb0 := hb0.out; go_simp <;> (exact rfl))); intro KK hKK; go_simp; refine hKK _ ?_; clear hKK KK) | ((apply vrun_consG1 rfl); (focus (go_simp <;> exact rfl)); (focus (go_simp; done)); (focus (intro hb0 hb1; replace hb0 := hb0.out; replace hb1 := hb1.out; go_simp <;> (exact rfl))); intro KK hKK; go_simp; refine hKK _ ?_; clear hKK KK) | ((apply vrun_consG2 rfl); (focus (go_simp <;> exact rfl)); (focus (go_simp; done)); (focus (intro hb0 hb1 hb2; replace hb0 := hb0.out; replace hb1 := hb1.out; replace hb2 := hb2.out; go_simp <;> (exact rfl))); intro KK hKK; go_simp; refine hKK _ ?_; clear hKK KK) | ((apply vrun_consG3 rfl); (focus (go_simp <;> exact rfl)); (focus (go_simp; done)); (focus (intro hb0 hb1 hb2 hb3; replace hb0 := hb0.out; replace hb1 := hb1.out; replace hb2 := hb2.out; replace hb3 := hb3.out; go_simp <;> (exact rfl))); intro KK hKK; go_simp; refine hKK _ ?_; clear hKK KK))
  ·rw [HC.out] at ht
   have e := hno.out (by simpa using ht)
   subst e
   go_simp
  ·rw [HC.out] at ht
   refine hR _ (k + 1) ⟨hlt, Lib.hid (hok.out (by simpa using ht))⟩ (by omega) ?_
   go_simp
 ·have hkk : k = s.size := by omega
  subst hkk
  have e : isName s = (decide (1 ≤ s.size) && decide (s.size ≤ 12)) := by unfold isName; rw [hf.out]; simp
  rw [HR.out] at e
  have he := Lib.hid e
  clear e
  repeat' (first | (with_reducible first | refine vseq ?_ | refine vthenN ?_ | refine vthenE ?_ | refine vret ?_ | refine vexit ?_ | refine vblockH ?_ | refine vrun_nil ?_ | refine vregion [] ?_) | ((with_reducible refine vcondF ?_ ?_); (focus (go_simp; done))) | ((with_reducible refine vrun_cons fun KK hKK => ?_); go_simp; refine hKK _ ?_; clear hKK KK) | ((apply vrun_consG0 rfl); (focus (go_simp <;> exact rfl)); (focus (go_simp; done)); (focus (intro hb0; replace hb0 := hb0.out; go_simp <;> (exact rfl))); intro KK hKK; go_simp; refine hKK _ ?_; clear hKK KK))
  rw [he.out]
  have hz : s.size = 0 → s = ByteArray.empty := fun h => by
   cases s
   rename_i a
   have : a = #[] := Array.eq_empty_of_size_eq_zero h
   rw [this]
   rfl
  have HZ := Lib.hid hz
  clear hz
  go_simp
  by_cases h0 : s = ByteArray.empty
  ·subst h0
   rfl
  ·have h1 : ¬ s.size = 0 := fun h => h0 (HZ.out h)
   have h2 : ¬ s = { data := #[] } := h0
   have h3 : (1 : Nat) ≤ s.size := by omega
   have h4 : decide ((s.size : Int) ≤ 12) = decide (s.size ≤ 12) := by
    rw [Bool.eq_iff_iff, decide_eq_true_eq, decide_eq_true_eq]
    omega
   rw [decide_eq_false h2, decide_eq_true h3, h4]
   rfl
theorem b_isName (s : ByteArray) (hs : s.size ≤ 9223372036854775807) : VC Tryz.prog 50 [S s] (B (isName s)) := by
 obtain ⟨R, hR⟩ : ∃ R, isName s = R := ⟨_, rfl⟩
 rw [hR]
 have HR := Lib.hid hR
 clear hR
 refine VC_of Tryz.func50 rfl (by kernel_rfl) (by kernel_rfl) rfl fun M0 w0 => ?_
 simp only [Tryz.ntmps50, Tryz.results50, enumA]
 by_cases h1 : s.size < 1 ∨ 12 < s.size
 ·have e : R = false := by
   rw [← HR.out]
   unfold isName
   rcases h1 with h | h
   ·rw [decide_eq_false (by omega)]; rfl
   ·rw [show decide (s.size ≤ 12) = false from decide_eq_false (by omega)]; simp
  subst e
  have hb : (decide ((s.size : Int) < 1) || decide (12 < (s.size : Int))) = true := by simp; omega
  repeat' (first | (with_reducible first | refine vseq ?_ | refine vthenN ?_ | refine vthenR ?_ | refine vret ?_ | refine vrun_nil ?_ | refine vregion [] ?_) | ((with_reducible refine vcondT ?_ ?_); (focus (go_simp; done))) | ((with_reducible refine vrun_cons fun KK hKK => ?_); go_simp; refine hKK _ ?_; clear hKK KK) | ((apply vrun_consG0 rfl); (focus (go_simp <;> exact rfl)); (focus (go_simp; done)); (focus (intro hb0; replace hb0 := hb0.out; go_simp <;> (exact rfl))); intro KK hKK; go_simp; refine hKK _ ?_; clear hKK KK))
  go_simp
 ·have hb : (decide ((s.size : Int) < 1) || decide (12 < (s.size : Int))) = false := by simp; omega
  have hl1 : s.size ≤ 12 := by omega
  have e : isName s = okTo s s.size := by
   unfold isName
   rw [decide_eq_true (by omega), decide_eq_true hl1]
   rfl
  rw [HR.out] at e
  have HE := Lib.hid e
  clear e
  repeat' (first | (with_reducible first | refine vseq ?_ | refine vthenN ?_ | refine vskip ?_ | refine vblock ?_ | refine vrun_nil ?_ | refine vregion [] ?_) | ((with_reducible refine vcondF ?_ ?_); (focus (go_simp; done))) | ((with_reducible refine vrun_cons fun KK hKK => ?_); go_simp; refine hKK _ ?_; clear hKK KK) | ((apply vrun_consG0 rfl); (focus (go_simp <;> exact rfl)); (focus (go_simp; done)); (focus (intro hb0; replace hb0 := hb0.out; go_simp <;> (exact rfl))); intro KK hKK; go_simp; refine hKK _ ?_; clear hKK KK))
  ·clear hb
   refine vloop (α := Nat) (fun k => ⟨[(3, I k), (0, S s)], []⟩) (fun k => k ≤ s.size ∧ Hid (okTo s k = true)) (fun k => s.size - k) 0 ⟨by omega, Lib.hid rfl⟩ (by go_simp) ?_
   rintro k ⟨hk, hf⟩ K hR
   by_cases hlt : k < s.size
   ·have hlt' : (k : Int) < s.size := by omega
    have hw := wrap_eq (x := (k : Int) + 1) (by omega) (by omega)
    obtain ⟨x, hx⟩ : ∃ x : Int, ((byteAt s k).toNat : Int) = x := ⟨_, rfl⟩
    have HX := Lib.hid (okTo_succ s k)
    have hno : Hid (okChar k x = false → R = false) := Lib.hid fun h => by
     rw [HE.out]
     exact okTo_no s hlt (by rw [hx]; exact h)
    have hch : ((!decide (97 ≤ x) || !decide (x ≤ 122)) && (!decide (65 ≤ x) || !decide (x ≤ 90)) && (decide (k = 0) || !decide (x = 45) && (decide (x < 48) || decide (57 < x)))) = !okChar k x := by
     rw [Bool.eq_iff_iff]
     simp [okChar]
    have HC := Lib.hid hch
    have hok : Hid (okChar k x = true → okTo s (k + 1) = true) := Lib.hid fun h => by rw [HX.out, hf.out, hx, h]; rfl
    clear hch
    repeat' (first | (with_reducible first | refine vseq ?_ | refine vthenN ?_ | refine vthenR ?_ | refine vret ?_ | refine vskip ?_ | refine vblock ?_ | refine vblockN ?_ | refine vblockR ?_ | refine vrun_nil ?_ | refine vregion [] ?_) | ((with_reducible refine vcondT ?_ ?_); (focus (go_simp; done))) | ((with_reducible refine vrun_cons fun KK hKK => ?_); go_simp; refine hKK _ ?_; clear hKK KK) | ((with_reducible refine vcondS ?_ (fun ht => ?_) (fun ht => ?_)); (focus (go_simp; done)); (all_goals (simp [go_sem] at ht; replace ht := ht.out))) | ((apply vrun_consG0 rfl); (focus (go_simp <;> exact rfl)); (focus (go_simp; done)); (focus (intro hb0; replace hb0 := hb0.out; go_simp <;> (exact rfl))); intro KK hKK; go_simp; refine hKK _ ?_; clear hKK KK) | ((apply vrun_consG1 rfl); (focus (go_simp <;> exact rfl)); (focus (go_simp; done)); (focus (intro hb0 hb1; replace hb0 := hb0.out; replace hb1 := hb1.out; go_simp <;> (exact rfl))); intro KK hKK; go_simp; refine hKK _ ?_; clear hKK KK) | ((apply vrun_consG2 rfl); (focus (go_simp <;> exact rfl)); (focus (go_simp; done)); (focus (intro hb0 hb1 hb2; replace hb0 := hb0.out; replace hb1 := hb1.out; replace hb2 := hb2.out; go_simp <;> (exact rfl))); intro KK hKK; go_simp; refine hKK _ ?_; clear hKK KK) | ((apply vrun_consG3 rfl); (focus (go_simp <;> exact rfl)); (focus (go_simp; done)); (focus (intro hb0 hb1 hb2 hb3; replace hb0 := hb0.out; replace hb1 := hb1.out; replace hb2 := hb2.out; replace hb3 := hb3.out; go_simp <;> (exact rfl))); intro KK hKK; go_simp; refine hKK _ ?_; clear hKK KK))
    ·rw [HC.out] at ht
     have e := hno.out (by simpa using ht)
     subst e
     go_simp
    ·rw [HC.out] at ht
     refine hR _ (k + 1) ⟨hlt, Lib.hid (hok.out (by simpa using ht))⟩ (by omega) ?_
     go_simp
   ·have hkk : k = s.size := by omega
    subst hkk
    repeat' (first | (with_reducible first | refine vseq ?_ | refine vthenN ?_ | refine vthenE ?_ | refine vret ?_ | refine vexit ?_ | refine vblockH ?_ | refine vrun_nil ?_ | refine vregion [] ?_) | ((with_reducible refine vcondF ?_ ?_); (focus (go_simp; done))) | ((with_reducible refine vrun_cons fun KK hKK => ?_); go_simp; refine hKK _ ?_; clear hKK KK))
    rw [HE.out, hf.out]
    go_simp
end Go.Proofs.YtoibondihdhnoaaGreatDoor
