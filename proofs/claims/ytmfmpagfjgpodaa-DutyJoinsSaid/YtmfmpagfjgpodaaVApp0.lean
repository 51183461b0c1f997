/- Nothing appended to nil: of every program; no condition. -/
import Derived.Test.YtmfmpagfjgpodaaVWrite
import Derived.Laws.Append
namespace Go.Proofs.Ytmfmpagfjgpodaa
open Go.RowKit
section
variable {P : Program} {M0 : Nat → Prop} {w0 : World} {N : Nat} {p : Nat → Nat} {st : VS} {a : Act} {w : World} {Q : Exit → VS → Prop}
theorem V0.sl_nil {sz : Nat} {v : Value} {M : Nat → Prop} (h : V0 w M (.sl sz []) v) : ∃ A c, v = .slice A 0 c := by
  cases h with
  | slNil _ A cap => exact ⟨A, cap, rfl⟩
  | sl _ _ cap b o u hne hb hM hcap hsz h1 hc hv => exact absurd rfl hne
theorem append_none {t ty e : TypeId} {i : TypeInfo} (ht : P.underlying t = some (.slice e)) (hi : P.info? e = some i) (A : Option Addr) (c : Nat) (w : World) :
    (Builtin.append_ #[t, t] ty #[.slice none 0 0, .slice A 0 c]).run P w = .ok (.slice none 0 0) w := by
  cases A with
  | none => simp [Builtin.append_, run_underlying ht, sizeOf, typeInfo, hi, Builtin.lenOf, Builtin.firstCells]
  | some b =>
    have h := Go.run_firstCells_some (P := P) w i.size 0 b 0 c [] (by simp) (fun j v hj => by simp at hj)
    simp [Builtin.append_, run_underlying ht, sizeOf, typeInfo, hi, Builtin.lenOf, h]
/-- A region in which nothing is appended to nil. -/
theorem vregionE {rid : Nat} {l l1 l2 : List Oper} {o : Oper} (n : Nat) (hl : l.take n = l1 ∧ l.drop n = o :: l2) {t e d sz : Nat} {x y : Operand} {i : TypeInfo} (ho : o.op = .call ⟨.builtin .append, #[x, y], #[t, t]⟩ ∧ o.guard = none ∧ o.dst = some d) (ht : P.underlying t = some (.slice e)) (hi : P.info? e = some i)
    (h : VRun P [] l l1 st fun st1 => ev st1 x = .lit (.slice none 0 0) ∧ ev st1 y = .sl sz [] ∧ VRun P [] l l2 ⟨(d, .lit (.slice none 0 0)) :: st1.s, st1.h⟩ (Q .normal)) : VWp P M0 w0 N (.region rid l.toArray false) Q st := fun hB p a w R => by
  have hB' : l.all (dstB N) = true := by simpa [codeB] using hB
  have hsplit : l = l1 ++ o :: l2 := by rw [← hl.1, ← hl.2, List.take_append_drop]
  have hB1 : l1.all (dstB N) = true := by
    rw [hsplit, List.all_append, Bool.and_eq_true] at hB'
    exact hB'.1
  have hB2 : dstB N o = true ∧ l2.all (dstB N) = true := by
    rw [hsplit, List.all_append, Bool.and_eq_true, List.all_cons, Bool.and_eq_true] at hB'
    exact hB'.2
  refine wp_region_lit ?_
  have := VRunW_ok (P := P) (M0 := M0) (w0 := w0) (N := N) (ow := []) (ops := l) (Q := fun e a' w' => ∃ st' p', Rel M0 w0 N p' st' a' w' ∧ Q e st') (l2 := o :: l2) hB' (fun p st a w R h => by
    obtain ⟨hx, hy, hr⟩ := h
    obtain ⟨dst, op, ty, pos, after, guard⟩ := o
    obtain ⟨h1, h2, h3⟩ := ho
    simp only at h1 h2 h3
    subst h1 h2 h3
    refine wpList_step fun KK hKK => ?_
    simp only [Region.wanted, if_true]
    have hxv := R.eval x
    rw [hx] at hxv
    have hyv := R.eval y
    rw [hy] at hyv
    obtain ⟨A, c, hyq⟩ := V0.sl_nil hyv.sl_inv
    have hrun := append_none (P := P) (ty := ty) ht hi A c w
    unfold Oper.wp
    simp only [execOp, resolve, invoke, builtin, Sem.run_bind, Sem.run_pure, Result.andThen_ok, List.map_toArray, List.map_cons, List.map_nil, hxv.lit_inv, hyq, hrun, Oper.upon]
    exact hKK _ _ (VRun_ok (ow := []) hB' (fun p st a w R h => ⟨st, p, R, h⟩) l2 p _ _ w hB2.2 (R.putS (dstB_lt hB2.1 d rfl) (.base _ _ (.lit _))) hr)) l1 p st a w hB1 R h
  rw [hsplit] at this ⊢
  exact this
end
end Go.Proofs.Ytmfmpagfjgpodaa
