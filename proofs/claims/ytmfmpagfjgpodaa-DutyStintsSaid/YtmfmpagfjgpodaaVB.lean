/- What an operation gives, on plain values: of every program; no condition. -/
import Derived.Test.YtmfmpagfjgpodaaVA
namespace Go.Proofs.Ytmfmpagfjgpodaa
open Go.RowKit

/-! ### What is asked of a type -/
def dkind : TypeDesc → Nat
  | .slice _ => 1 | .array _ _ => 2 | .struct _ => 3 | .string => 4 | .int _ => 5 | .bool => 6 | .pointer _ => 7 | .func .. => 8 | .interface _ => 9 | .map .. => 10 | _ => 0
def delem : TypeDesc → Nat
  | .slice e => e | .array _ e => e | .pointer e => e | _ => 0
def dlen : TypeDesc → Nat
  | .array n _ => n | _ => 0
def dint : TypeDesc → IntKind
  | .int k => k | _ => .i64
structure TI where
  kind : Nat
  size : Nat
  bytes : Nat
  elem : Nat
  esz : Nat
  len : Nat
  ik : IntKind
  flds : List (Nat × Nat × Bool)
  zero : List Value
def tsize (P : Program) (t : TypeId) : Nat := if (P.underlying t).isSome then ((P.info? t).map (·.size)).getD 0 else 0
def tagg (P : Program) (t : TypeId) : Bool := match P.underlying t with | some (.struct _) | some (.array _ _) => true | _ => false
def dflds (P : Program) : TypeDesc → List (Nat × Nat × Bool)
  | .struct fs => fs.toList.map fun f => (f.offset, tsize P f.type, tagg P f.type)
  | _ => []
def tinfo (P : Program) (t : TypeId) : Option TI :=
  match P.underlying t with
  | none => none
  | some d =>
    match P.info? t with
    | none => none
    | some i =>
      match i.zero with
      | none => none
      | some z => if z.cells.toList.all (·.oneCell') then some { kind := dkind d, size := i.size, bytes := i.bytes, elem := delem d, esz := tsize P (delem d), len := dlen d, ik := dint d, flds := dflds P d, zero := z.cells.toList } else none
theorem tinfo_spec {P : Program} {t : TypeId} {ti : TI} (h : tinfo P t = some ti) : ∃ d i z, P.underlying t = some d ∧ P.info? t = some i ∧ i.zero = some z ∧ z.cells.toList.all (·.oneCell') = true ∧
    ti = { kind := dkind d, size := i.size, bytes := i.bytes, elem := delem d, esz := tsize P (delem d), len := dlen d, ik := dint d, flds := dflds P d, zero := z.cells.toList } := by
  unfold tinfo at h
  split at h
  · cases h
  · rename_i d hd
    split at h
    · cases h
    · rename_i i hi
      split at h
      · cases h
      · rename_i z hz
        split at h
        · rename_i h1
          exact ⟨d, i, z, hd, hi, hz, h1, (Option.some.inj h).symm⟩
        · cases h
section
variable {P : Program} {t : TypeId} {ti : TI}
theorem ti_slice (h : tinfo P t = some ti) (hk : ti.kind = 1) : P.underlying t = some (.slice ti.elem) := by
  obtain ⟨d, i, z, hd, hi, hz, h1z, rfl⟩ := tinfo_spec h
  cases d <;> simp [dkind] at hk
  exact hd
theorem ti_array (h : tinfo P t = some ti) (hk : ti.kind = 2) : P.underlying t = some (.array ti.len ti.elem) := by
  obtain ⟨d, i, z, hd, hi, hz, h1z, rfl⟩ := tinfo_spec h
  cases d <;> simp [dkind] at hk
  exact hd
theorem ti_struct (h : tinfo P t = some ti) (hk : ti.kind = 3) : ∃ fs : Array Field, P.underlying t = some (.struct fs) ∧ ti.flds = fs.toList.map fun f => (f.offset, tsize P f.type, tagg P f.type) := by
  obtain ⟨d, i, z, hd, hi, hz, h1z, rfl⟩ := tinfo_spec h
  cases d <;> simp [dkind] at hk
  exact ⟨_, hd, rfl⟩
theorem ti_string (h : tinfo P t = some ti) (hk : ti.kind = 4) : P.underlying t = some .string := by
  obtain ⟨d, i, z, hd, hi, hz, h1z, rfl⟩ := tinfo_spec h
  cases d <;> simp [dkind] at hk
  exact hd
theorem ti_int (h : tinfo P t = some ti) (hk : ti.kind = 5) : P.underlying t = some (.int ti.ik) := by
  obtain ⟨d, i, z, hd, hi, hz, h1z, rfl⟩ := tinfo_spec h
  cases d <;> simp [dkind] at hk
  exact hd
theorem ti_size (h : tinfo P t = some ti) (w : World) : (sizeOf t).run P w = .ok ti.size w := by
  obtain ⟨d, i, z, hd, hi, hz, h1z, rfl⟩ := tinfo_spec h
  simp [sizeOf, typeInfo, hi]
theorem ti_zero (h : tinfo P t = some ti) : ∃ z : Value, z.cells.toList = ti.zero ∧ ti.zero.all (·.oneCell') = true ∧ ∀ w, (zeroValue t).run P w = .ok z w := by
  obtain ⟨d, i, z, hd, hi, hz, h1z, rfl⟩ := tinfo_spec h
  exact ⟨z, rfl, h1z, fun w => by simp [zeroValue, typeInfo, hi, hz]⟩
theorem ti_agg (h : tinfo P t = some ti) (w : World) : (isAgg t).run P w = .ok (ti.kind == 2 || ti.kind == 3) w := by
  obtain ⟨d, i, z, hd, hi, hz, h1z, rfl⟩ := tinfo_spec h
  unfold isAgg
  rw [Sem.run_bind, run_underlying hd w]
  cases d <;> rfl
theorem run_size (hs : 0 < tsize P t) (w : World) : (sizeOf t).run P w = .ok (tsize P t) w := by
  unfold tsize at hs ⊢
  split at hs
  · rename_i hu
    rw [if_pos hu]
    cases hi : P.info? t with
    | none => simp [hi] at hs
    | some i => simp [sizeOf, typeInfo, hi]
  · omega
theorem tsize_some (hs : 0 < tsize P t) : (P.underlying t).isSome = true := by
  unfold tsize at hs
  split at hs
  · assumption
  · omega
theorem run_agg (hs : (P.underlying t).isSome = true) (w : World) : (isAgg t).run P w = .ok (tagg P t) w := by
  obtain ⟨d, hd⟩ := Option.isSome_iff_exists.1 hs
  unfold isAgg tagg
  rw [Sem.run_bind, run_underlying hd w, hd]
  cases d <;> rfl
end

/-! ### Loads -/
def avCells : AV → List AV
  | .agg cs => cs
  | v => [v]
def cellsAt (h : Hp) : AV → Option (List AV)
  | .vp cs => some cs
  | .ref id off => match h[id]? with | some (some (.box cs)) => some (cs.drop off) | _ => none
  | .aref id sz i off => match h[id]? with | some (some (.arr _ sz' _ es)) => if sz = sz' ∧ i < es.length then some ((es.getD i []).drop off) else none | _ => none
  | _ => none
def loadA (P : Program) (h : Hp) (t : TypeId) (a : AV) : Option AV :=
  match tinfo P t with
  | none => none
  | some ti => match cellsAt h a with
    | none => none
    | some cs => if ti.kind = 2 ∨ ti.kind = 3 then (if ti.size ≤ cs.length then some (.agg (cs.take ti.size)) else none) else cs[0]?
/-- What a world holds of the variables and rows of the call's own. -/
def ObOK (w0 : Nat) (w : World) (M : Nat → Prop) (h : Hp) (p : Nat → Nat) (id : Nat) : Ob → Prop
  | .box cs => w0 ≤ p id ∧ ∃ cur e, w.heap[p id]? = some (.cells cur e (0, 0)) ∧ cur.size = cs.length ∧ (∀ c ∈ cs, oneAV c = true) ∧ ∀ (j : Nat) (c : AV), cs[j]? = some c → ∃ u, cur[j]? = some u ∧ V1 w M h p c u
  | .arr e sz nl es => 0 < sz ∧ (∀ (k : Nat) (x : List AV), es[k]? = some x → x.length = sz ∧ ∀ c ∈ x, oneAV c = true) ∧
      if nl = true then es = [] else w0 ≤ p id ∧ ∃ cur, w.heap[p id]? = some (.cells cur e (0, 0)) ∧ es.length * sz ≤ cur.size ∧ ∀ (k : Nat) (x : List AV) (j : Nat) (c : AV), es[k]? = some x → x[j]? = some c → ∃ u, cur[k * sz + j]? = some u ∧ V0 w M c u
def live : Ob → Bool
  | .arr _ _ true _ => false
  | _ => true
/-- The blocks that may change. -/
def Mof (M0 : Nat → Prop) (h : Hp) (p : Nat → Nat) (b : Nat) : Prop := M0 b ∨ ∃ id ob, h[id]? = some (some ob) ∧ live ob = true ∧ p id = b
section
variable {P : Program} {w : World} {w0 : Nat} {M : Nat → Prop} {h : Hp} {p : Nat → Nat}
theorem cellsAt_ok (hO : ∀ id ob, h[id]? = some (some ob) → ObOK w0 w M h p id ob) {a : AV} {cs : List AV} {v : Value} (ha : V1 w M h p a v) (hc : cellsAt h a = some cs) :
    ∃ b o, v = .pointer (some ⟨b, o, none⟩) ∧ (∀ c ∈ cs, oneAV c = true) ∧ ∀ (j : Nat) (c : AV), cs[j]? = some c → ∃ u, w.cell? ⟨b, o + j, none⟩ = some u ∧ V1 w M h p c u := by
  cases ha with
  | base _ _ h0 =>
    cases h0 <;> simp only [cellsAt, Option.some.injEq, reduceCtorEq] at hc
    case vp b o u hb hM h1 hcell hv =>
      subst hc
      exact ⟨b, o, rfl, h1, fun j c hj => ⟨u j, hcell j (List.getElem?_eq_some_iff.1 hj).1, .base _ _ (hv j c hj)⟩⟩
  | ref id off hid =>
    simp only [cellsAt] at hc
    split at hc
    · rename_i cs' hid'
      obtain ⟨_, cur, e, hg, hsz, h1, hv⟩ := hO id _ hid'
      simp only [Option.some.injEq] at hc
      subst hc
      refine ⟨_, _, rfl, fun c hc => h1 c (List.mem_of_mem_drop hc), fun j c hj => ?_⟩
      rw [List.getElem?_drop] at hj
      obtain ⟨u, hu, hv'⟩ := hv _ c hj
      exact ⟨u, by rw [cell_of_row w (p id) _ cur e (0, 0) hg]; exact hu, hv'⟩
    · cases hc
  | aref id sz i off hid =>
    simp only [cellsAt] at hc
    split at hc
    · rename_i e sz' nl es hid'
      split at hc
      · rename_i hcond
        obtain ⟨rfl, hi⟩ := hcond
        obtain ⟨hsz, h1, hrest⟩ := hO id _ hid'
        have hnl : nl ≠ true := fun hn => by rw [if_pos hn] at hrest; subst hrest; simp at hi
        rw [if_neg hnl] at hrest
        obtain ⟨_, cur, hg, _, hv⟩ := hrest
        simp only [Option.some.injEq] at hc
        subst hc
        have hx : es[i]? = some (es.getD i []) := by simp [List.getD, hi]
        refine ⟨_, _, rfl, fun c hc => (h1 i _ hx).2 c (List.mem_of_mem_drop hc), fun j c hj => ?_⟩
        rw [List.getElem?_drop] at hj
        obtain ⟨u, hu, hv'⟩ := hv i _ _ c hx hj
        exact ⟨u, by rw [cell_of_row w (p id) _ cur e (0, 0) hg, Nat.add_assoc]; exact hu, .base _ _ hv'⟩
      · cases hc
    · cases hc
  | _ => simp [cellsAt] at hc

theorem choose_list {Q : AV → Value → Prop} {R : Nat → Value → Prop} : ∀ (cs : List AV) (k : Nat), (∀ (j : Nat) (c : AV), cs[j]? = some c → ∃ u, R (k + j) u ∧ Q c u) → ∃ us : List Value, us.length = cs.length ∧ (∀ j u, us[j]? = some u → R (k + j) u) ∧ ∀ (j : Nat) (c : AV) (u : Value), cs[j]? = some c → us[j]? = some u → Q c u
  | [], _, _ => ⟨[], rfl, by simp, by simp⟩
  | c :: cs, k, h => by
    obtain ⟨u, hu, hq⟩ := h 0 c rfl
    obtain ⟨us, hl, h1, h2⟩ := choose_list cs (k + 1) fun j c hj => by
      obtain ⟨u, hu, hq⟩ := h (j + 1) c (by simpa using hj)
      exact ⟨u, by rwa [show k + 1 + j = k + (j + 1) by omega], hq⟩
    refine ⟨u :: us, by simp [hl], fun j v hj => ?_, fun j c' v hc hv => ?_⟩
    · cases j with
      | zero => simp at hj; subst hj; exact hu
      | succ j => rw [show k + (j + 1) = k + 1 + j by omega]; exact h1 j v (by simpa using hj)
    · cases j with
      | zero => simp at hc hv; subst hc; subst hv; exact hq
      | succ j => exact h2 j c' v (by simpa using hc) (by simpa using hv)

theorem load_ok (hO : ∀ id ob, h[id]? = some (some ob) → ObOK w0 w M h p id ob) {t : TypeId} {a r : AV} {v : Value} (ha : V1 w M h p a v) (hr : loadA P h t a = some r) :
    ∃ u, (Instr.loadAt t v).run P w = .ok u w ∧ V1 w M h p r u := by
  unfold loadA at hr
  split at hr
  · cases hr
  · rename_i ti hti
    split at hr
    · cases hr
    · rename_i cs hcs
      obtain ⟨b, o, rfl, h1, hc⟩ := cellsAt_ok hO ha hcs
      obtain ⟨us, hl, hu, hv⟩ := choose_list (R := fun j u => w.cell? ⟨b, o + j, none⟩ = some u) cs 0 (by simpa using hc)
      simp only [Nat.zero_add] at hu
      simp only [Instr.loadAt, Instr.sureAddr, Sem.run_bind, Sem.run_pure, Result.andThen_ok]
      split at hr
      · rename_i hk
        split at hr
        · rename_i hsz
          simp only [Option.some.injEq] at hr
          subst hr
          obtain ⟨d, i, z, hd, hi, hz, h1z, rfl⟩ := tinfo_spec hti
          have hlen : (us.take i.size).length = i.size := by simp only [List.length_take]; simp only at hsz; omega
          refine ⟨_, run_loadVar_mid w b o t (us.take i.size) d (fun j u hj => hu j u ?_) hd ?_ ?_, .agg _ _ (by simp only [List.length_take]; omega) (fun c hc => h1 c (List.mem_of_mem_take hc)) fun j c u hj hj' => ?_⟩
          · rw [List.getElem?_take] at hj
            split at hj
            · exact hj
            · cases hj
          · cases d <;> simp_all [dkind]
          · rw [hi, hlen]; rfl
          · rw [List.getElem?_take] at hj hj'
            split at hj
            · rename_i hjl
              rw [if_pos hjl] at hj'
              exact hv j c u hj hj'
            · cases hj
        · cases hr
      · rename_i hk
        cases cs with
        | nil => simp at hr
        | cons c cs =>
          simp only [List.getElem?_cons_zero, Option.some.injEq] at hr
          subst hr
          obtain ⟨u, hu, hv⟩ := hc 0 c rfl
          refine ⟨u, ?_, hv⟩
          have hk' : (ti.kind == 2 || ti.kind == 3) = false := by simpa [not_or] using hk
          simp only [loadVar, Sem.run_bind, ti_agg hti, hk', Result.andThen_ok, Bool.false_eq_true, if_false, run_load]
          rw [Nat.add_zero] at hu
          rw [hu]
end
end Go.Proofs.Ytmfmpagfjgpodaa
