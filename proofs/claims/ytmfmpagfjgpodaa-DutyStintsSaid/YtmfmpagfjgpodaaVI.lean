/- States of plain values, and one operation after the other: of every program; no condition. -/
import Derived.Test.YtmfmpagfjgpodaaVH
namespace Go.Proofs.Ytmfmpagfjgpodaa
open Go.RowKit

/-- The temporaries, and what the call's own variables and rows hold. -/
structure VS where
  s : List (Nat × AV)
  h : Hp
def lkp : List (Nat × AV) → Nat → AV
  | [], _ => .any
  | (d, v) :: r, i => if d = i then v else lkp r i
def ev (st : VS) : Operand → AV
  | .tmp t => lkp st.s t
  | .const v => .lit v
  | .global g => .lit (.pointer (some ⟨g, 0, none⟩))
  | .func f => .lit (.func (.func f) #[] #[])
def VS.put (st : VS) (d : Option Tmp) (v : AV) : VS := match d with | some d => ⟨(d, v) :: st.s, st.h⟩ | none => st
structure Rel (M0 : Nat → Prop) (w0 : World) (N : Nat) (p : Nat → Nat) (st : VS) (a : Act) (w : World) : Prop where
  defers : a.defers = []
  size : a.tmps.size = N
  below : Below w0.heap.size w0 w
  m0 : ∀ b, M0 b → b < w0.heap.size
  slots : ∀ i, V1 w (Mof M0 st.h p) st.h p (lkp st.s i) (a.tmps.getD i undef)
  objs : ∀ id ob, st.h[id]? = some (some ob) → ObOK w0.heap.size w (Mof M0 st.h p) st.h p id ob
  inj : ∀ id id' ob ob', st.h[id]? = some (some ob) → st.h[id']? = some (some ob') → live ob = true → live ob' = true → p id = p id' → id = id'

section
variable {P : Program} {M0 : Nat → Prop} {w0 : World} {N : Nat} {p : Nat → Nat} {st : VS} {a : Act} {w : World}
theorem ObOK.lt {w0 : Nat} {M : Nat → Prop} {h : Hp} {id : Nat} {ob : Ob} (ho : ObOK w0 w M h p id ob) (hl : live ob = true) : p id < w.heap.size := by
  cases ob with
  | box cs => obtain ⟨_, cur, e, hg, _⟩ := ho; exact (Array.getElem?_eq_some_iff.1 hg).1
  | arr e sz nl es =>
    obtain ⟨_, _, hr⟩ := ho
    cases nl
    · obtain ⟨_, cur, hg, _⟩ := hr; exact (Array.getElem?_eq_some_iff.1 hg).1
    · cases hl
theorem ObOK.ge {w0 : Nat} {M : Nat → Prop} {h : Hp} {id : Nat} {ob : Ob} (ho : ObOK w0 w M h p id ob) (hl : live ob = true) : w0 ≤ p id := by
  cases ob with
  | box cs => exact ho.1
  | arr e sz nl es =>
    obtain ⟨_, _, hr⟩ := ho
    cases nl
    · exact hr.1
    · cases hl
theorem Rel.lt (R : Rel M0 w0 N p st a w) : ∀ b, Mof M0 st.h p b → b < w.heap.size := by
  intro b hb
  rcases hb with hb | ⟨id, ob, hi, hl, rfl⟩
  · exact Nat.lt_of_lt_of_le (R.m0 b hb) R.below.size
  · exact (R.objs id ob hi).lt hl
theorem ObOK.later {w0 : Nat} {w' : World} {M : Nat → Prop} {h : Hp} {id : Nat} {ob : Ob} (hb : Below w.heap.size w w') (ho : ObOK w0 w M h p id ob) : ObOK w0 w' M h p id ob := by
  cases ob with
  | box cs =>
    obtain ⟨h1, cur, e, hg, h2, h3, h4⟩ := ho
    exact ⟨h1, cur, e, (hb.block _ (Array.getElem?_eq_some_iff.1 hg).1).trans hg, h2, h3, fun j c hj => let ⟨u, hu, hv⟩ := h4 j c hj; ⟨u, hu, hv.later hb⟩⟩
  | arr e sz nl es =>
    obtain ⟨h1, h2, hr⟩ := ho
    refine ⟨h1, h2, ?_⟩
    split at hr
    · rename_i hn
      rw [if_pos hn]
      exact hr
    · rename_i hn
      rw [if_neg hn]
      obtain ⟨h3, cur, hg, h4, h5⟩ := hr
      exact ⟨h3, cur, (hb.block _ (Array.getElem?_eq_some_iff.1 hg).1).trans hg, h4, fun k x j c hk hj => let ⟨u, hu, hv⟩ := h5 k x j c hk hj; ⟨u, hu, hv.later hb⟩⟩
theorem getD_put (a : Act) (d : Nat) (v : Value) (i : Nat) (hd : d < a.tmps.size) : (a.put (some d) v).tmps.getD i undef = if d = i then v else a.tmps.getD i undef := by
  simp only [Act.put, Array.getD_eq_getD_getElem?, Array.getElem?_setIfInBounds]
  by_cases h : d = i
  · subst h
    simp [hd]
  · simp [h]
theorem Rel.later {w' : World} (R : Rel M0 w0 N p st a w) (hb : Below w.heap.size w w') : Rel M0 w0 N p st a w' :=
  ⟨R.defers, R.size, below_step R.below hb, R.m0, fun i => (R.slots i).later hb, fun id ob hi => (R.objs id ob hi).later hb, R.inj⟩
theorem Rel.putS (R : Rel M0 w0 N p st a w) {d : Nat} {r : AV} {v : Value} (hd : d < N) (hv : V1 w (Mof M0 st.h p) st.h p r v) : Rel M0 w0 N p ⟨(d, r) :: st.s, st.h⟩ (a.put (some d) v) w := by
  refine ⟨R.defers, ?_, R.below, R.m0, fun i => ?_, R.objs, R.inj⟩
  · simp [Act.put, R.size]
  · rw [getD_put a d v i (by rw [R.size]; exact hd)]
    simp only [lkp]
    split
    · exact hv
    · exact R.slots i
theorem Rel.put (R : Rel M0 w0 N p st a w) {d : Option Tmp} {r : AV} {v : Value} (hd : ∀ t, d = some t → t < N) (hv : V1 w (Mof M0 st.h p) st.h p r v) : Rel M0 w0 N p (st.put d r) (a.put d v) w := by
  cases d with
  | none => exact R
  | some d => exact R.putS (hd d rfl) hv
theorem Rel.eval (R : Rel M0 w0 N p st a w) (x : Operand) : V1 w (Mof M0 st.h p) st.h p (ev st x) (a.eval x) := by
  cases x with
  | tmp t => exact R.slots t
  | const v => exact .base _ _ (.lit v)
  | global g => exact .base _ _ (.lit _)
  | func f => exact .base _ _ (.lit _)

/-! ### An operation of the head -/
def Gives (P : Program) (h : Hp) (E : Operand → AV) (op : Op) (r : AV) : Prop :=
  match pureOp P h E op with
  | some r' => r' = r
  | none => match allocOp P E op with
    | some r' => r' = r
    | none => match op with
      | .call c => CallOK P h E c r
      | _ => False
theorem call_enter {M : Nat → Prop} {h : Hp} {k : FuncId} {args : List AV} {E : Operand → AV} {dst : Option Tmp} {callee : Callee} {cargs : Array Operand} {cts : Array TypeId} {ty : TypeId} {pos : String} {after : Array Edge} {guard : Option (Nat × Bool)}
    (hE : ∀ x ∈ (Op.call ⟨callee, cargs, cts⟩).operands, V1 w M h p (E x) (a.eval x)) (hcal : calleeA E ⟨callee, cargs, cts⟩ = some (k, args)) (hgo : goesB P k = true) :
    ∃ vs : List Value, (execOp a.eval ⟨dst, .call ⟨callee, cargs, cts⟩, ty, pos, after, guard⟩).run P w = .ok (.enter k vs.toArray) w ∧ vs.length = args.length ∧ ∀ (i : Nat) (x : AV) (v : Value), args[i]? = some x → vs[i]? = some v → V1 w M h p x v := by
  have hargs : ∀ x ∈ cargs.toList, V1 w M h p (E x) (a.eval x) := fun x hx => hE x (by simp only [Op.operands, Call.operands]; exact Array.mem_append_right _ (by simpa using hx))
  have hmap : ∀ (i : Nat) (x : AV) (v : Value), (cargs.toList.map E)[i]? = some x → (cargs.toList.map a.eval)[i]? = some v → V1 w M h p x v := by
    intro i x v h1 h2
    obtain ⟨y, hy, rfl⟩ := map_at h1
    obtain ⟨z, hz, rfl⟩ := map_at h2
    rw [hy] at hz
    obtain rfl := Option.some.inj hz
    exact hargs y (List.mem_of_getElem? hy)
  unfold calleeA at hcal
  split at hcal
  · rename_i f hf
    simp only at hf hcal
    subst hf
    have hfv := hE f (by simp [Op.operands, Call.operands])
    split at hcal
    · rename_i k' x y he
      split at hcal
      · rename_i hem
        simp only [Option.some.injEq, Prod.mk.injEq] at hcal
        obtain ⟨rfl, rfl⟩ := hcal
        simp only [Bool.and_eq_true, Array.isEmpty_iff] at hem
        obtain ⟨rfl, rfl⟩ := hem
        rw [he] at hfv
        refine ⟨cargs.toList.map a.eval, ?_, by simp, hmap⟩
        have e1 : (cargs.toList.map a.eval).toArray = cargs.map a.eval := by apply Array.ext'; simp
        rw [e1]
        simp only [execOp, resolve, hfv.lit_inv, Deferred.ofValue, Sem.run_bind, Sem.run_pure, Result.andThen_ok, invoke, Array.append_empty, Array.empty_append]
        exact run_goes hgo _ _
      · cases hcal
    · rename_i k' x y he
      simp only [Option.some.injEq, Prod.mk.injEq] at hcal
      obtain ⟨rfl, rfl⟩ := hcal
      rw [he] at hfv
      have hfn : ∃ us vs : List Value, a.eval f = .func (.func k') us.toArray vs.toArray ∧ us.length = x.length ∧ vs.length = y.length ∧ (∀ (i : Nat) (c : AV) (u : Value), x[i]? = some c → us[i]? = some u → V1 w M h p c u) ∧ ∀ (i : Nat) (c : AV) (u : Value), y[i]? = some c → vs[i]? = some u → V1 w M h p c u := by
        generalize a.eval f = fv at hfv
        cases hfv with
        | base _ _ h0 =>
          cases h0 with
          | fn _ _ _ us vs hl hl' hh hh' => exact ⟨us, vs, rfl, hl, hl', fun i c u h1 h2 => .base _ _ (hh i c u h1 h2), fun i c u h1 h2 => .base _ _ (hh' i c u h1 h2)⟩
        | fn _ _ _ us vs hl hl' hh hh' => exact ⟨us, vs, rfl, hl, hl', hh, hh'⟩
      obtain ⟨us, vs, hq, hl, hl', hh, hh'⟩ := hfn
      refine ⟨us ++ cargs.toList.map a.eval ++ vs, ?_, by simp [hl, hl'], fun i c u h1 h2 => ?_⟩
      · have e1 : (us ++ cargs.toList.map a.eval ++ vs).toArray = us.toArray ++ cargs.map a.eval ++ vs.toArray := by apply Array.ext'; simp
        rw [e1]
        simp only [execOp, resolve, hq, Deferred.ofValue, Sem.run_bind, Sem.run_pure, Result.andThen_ok, invoke]
        exact run_goes hgo _ _
      · rw [List.append_assoc] at h1 h2
        rcases Nat.lt_or_ge i x.length with hi | hi
        · rw [List.getElem?_append_left hi] at h1
          rw [List.getElem?_append_left (by omega)] at h2
          exact hh i c u h1 h2
        · rw [List.getElem?_append_right hi] at h1
          rw [List.getElem?_append_right (by omega), hl] at h2
          rcases Nat.lt_or_ge (i - x.length) cargs.size with hj | hj
          · rw [List.getElem?_append_left (by simpa using hj)] at h1 h2
            exact hmap _ c u h1 h2
          · rw [List.getElem?_append_right (by simpa using hj)] at h1 h2
            simp only [List.length_map, Array.length_toList] at h1 h2
            exact hh' _ c u h1 h2
    · cases hcal
  · cases hcal
theorem gives_ok {M M0 : Nat → Prop} {h : Hp} {w0 : Nat} (hO : ∀ id ob, h[id]? = some (some ob) → ObOK w0 w M h p id ob) (hM : ∀ b, M b → b < w.heap.size) (h0 : ∀ b, M0 b → b < w0) (hw0 : w0 ≤ w.heap.size) (hs : ∀ b, M0 b → M b)
    {o : Oper} {E : Operand → AV} {r : AV} (hE : ∀ x ∈ o.op.operands, V1 w M h p (E x) (a.eval x)) (hg : Gives P h E o.op r) : gives P o a w fun v w' => V1 w' M h p r v ∧ Below w.heap.size w w' := by
  unfold gives
  unfold Gives at hg
  split at hg
  · rename_i r' hr
    subst hg
    obtain ⟨u, hu, hv⟩ := pureOp_ok (P := P) hO hE hr
    rw [hu]
    exact ⟨hv, Below.refl _ _⟩
  · split at hg
    · rename_i r' hr
      subst hg
      obtain ⟨u, w', hu, hb, hv⟩ := allocOp_ok (P := P) hM hE hr
      rw [hu]
      exact ⟨.base _ _ hv, hb⟩
    · split at hg
      · rename_i c hc
        unfold CallOK at hg
        split at hg
        · exact hg.elim
        · rename_i k args hcal
          obtain ⟨⟨hgo, hcalls⟩, hfl⟩ := hg
          obtain ⟨dst, op, ty, pos, after, guard⟩ := o
          simp only at hc hE
          subst hc
          obtain ⟨callee, cargs, cts⟩ := c
          have key := call_enter (P := P) (dst := dst) (ty := ty) (pos := pos) (after := after) (guard := guard) hE hcal hgo
          obtain ⟨vs, hrun, hlen, hvs⟩ := key
          rw [hrun]
          simp only [givesUpon]
          by_cases hp : args.all (pureA 5) = true
          · have hc := hcalls w M vs hM (by simpa using hlen) (fun i x v hx hv => by
              obtain ⟨y, hy, rfl⟩ := map_at hx
              have hpy := List.all_eq_true.1 hp y (List.mem_of_getElem? hy)
              unfold prepA
              rw [if_pos hpy]
              exact (hvs i y v hy hv).pure 5 hpy)
            exact hc.mono fun e w' ⟨v, he, hb, hv⟩ => ⟨v, he, .base _ _ hv, hb⟩
          · have hf : flatA 3 r = true := hfl.resolve_left hp
            have hc := hcalls w M0 vs (fun b hb => Nat.lt_of_lt_of_le (h0 b hb) hw0) (by simpa using hlen) (fun i x v hx hv => by
              obtain ⟨y, hy, rfl⟩ := map_at hx
              unfold prepA
              split
              · rename_i hpy
                exact ((hvs i y v hy hv).pure 5 hpy).keep (Keeps.refl _ _) fun b _ hn hm => hn (hs b hm)
              · exact thaw_ok hO h0 hs 5 y v (hvs i y v hy hv))
            exact hc.mono fun e w' ⟨v, he, hb, hv⟩ => ⟨v, he, .base _ _ (hv.flat 3 hf), hb⟩
      · exact hg.elim
theorem Rel.gives (R : Rel M0 w0 N p st a w) {o : Oper} {r : AV} (hg : Gives P st.h (ev st) o.op r) : gives P o a w fun v w' => V1 w' (Mof M0 st.h p) st.h p r v ∧ Below w.heap.size w w' :=
  gives_ok R.objs R.lt R.m0 R.below.size (fun _ hb => .inl hb) (fun x _ => R.eval x) hg
end
end Go.Proofs.Ytmfmpagfjgpodaa
