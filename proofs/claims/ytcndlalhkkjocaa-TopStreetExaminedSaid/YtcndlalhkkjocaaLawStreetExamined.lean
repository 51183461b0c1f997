/- The law TopStreetExamined returns true whatever its input is, and its input reads as it did; no condition. -/
import Derived.Test.YtcndlalhkkjocaaFYStreetExamined17
import Derived.Test.YtcndlalhkkjocaaFYStreetExamined24
import Derived.Test.YtcndlalhkkjocaaChecked
import Derived.Test.YtcndlalhkkjocaaRows
import Derived.ProofKit
import Derived.LaidMore
import Derived.OpenShut
import Derived.Stop.Joined
import Derived.SevenTiedAt
namespace Go.Proofs.Ytcndlalhkkjocaa
open Go.ChangeShapes Go.WideShapes Go.ChangeAt Go.RowKit Go.Deep
open Go.ChangeMaps (open_string shut_string)
set_option maxRecDepth 100000
theorem lifted4 (os : Os) (started : os.Started) (H : Type) (enc : TypeId × Value → H) :
    ReturnsInHanded {} Try.checked os 4 .any (Rows.topStreetExaminedSpec.pre6 enc Try.prog Try.f4 Rows.topStreetExaminedRow.domain false) (Rows.topStreetExaminedSpec.post enc Try.prog Try.f4 false true false false) := by
  refine returnsInHanded_of_change (C := Try.checked) own started (by kernel_rfl) Try.func4
    (ChangeSpec.witness6 (enc := enc) (C := Try.checked) false ⟨#[], #[.agg #[.slice none 0 0, .slice none 0 0], .agg #[.slice none 0 0, .int .i64 0], .int .i64 0], []⟩ 8 (by kernel_rfl) (by kernel_rfl) (by kernel_rfl) (by kernel_rfl)) ?_
  intro W base args ds gs before hval0 hW hcnd _
  have hval : ∀ (j : Nat) t v, Try.f4.params[j]? = some t → args[j]? = some v → Value.okWide Try.prog W .any base t v := hval0
  have hW' := hW
  obtain ⟨p, q, hA0, hV, rfl, hfz, hnd⟩ := hW
  have hA : DataW.TrodAll enc Try.prog W 0 (fun _ => true) true Try.f4.params.toList args.toList ds p := hA0
  rw [Try.params4] at hA hval
  obtain ⟨v0, vs0, d0, ds0, p0, q0, hargs, rfl, rfl, h0, r0⟩ := trodAll_cons hA
  obtain ⟨v1, vs1, d1, ds1, p1, q1, rfl, rfl, rfl, h1, r1⟩ := trodAll_cons r0
  obtain ⟨v2, vs2, d2, ds2, p2, q2, rfl, rfl, rfl, h2, r2⟩ := trodAll_cons r1
  obtain ⟨rfl, rfl, rfl⟩ := trodAll_nil r2
  obtain rfl : args = #[v0, v1, v2] := by cases args; simp_all
  obtain ⟨rfl, rfl⟩ := trodVars_none hV
  have lt0 : ∀ x ∈ p0, x.block < W.heap.size := by obtain ⟨m, hm⟩ := h0; exact DataW.trod_lt m _ _ _ hm
  have lt1 : ∀ x ∈ p1, x.block < W.heap.size := by obtain ⟨m, hm⟩ := h1; exact DataW.trod_lt m _ _ _ hm
  have lt2 : ∀ x ∈ p2, x.block < W.heap.size := by obtain ⟨m, hm⟩ := h2; exact DataW.trod_lt m _ _ _ hm
  obtain ⟨a0, g0, w0⟩ := argNet (hval 0 25 v0 rfl rfl) h0
  obtain ⟨a1, g1, w1⟩ := argExam (hval 1 48 v1 rfl rfl) h1
  obtain ⟨a2, g2, w2⟩ := argInt (hval 2 3 v2 rfl rfl) h2
  clear hA0 hval0
  refine (((l_Examined a0 a1.1 a1.2 a2 (lim g0.1) (lim g0.2) (lim g1)).2 W (fun _ _ => False) [v0, v1, v2] (mok_none rfl rfl trivial) rfl fun i a v ha hv => ?_)).mono fun e W' ⟨v, he, bel, hr⟩ => ?_
  · rcases i with _ | i
    · simp only [List.getElem?_cons_zero, Option.some.injEq] at ha hv; subst ha; subst hv; exact w0
    simp only [List.getElem?_cons_succ] at ha hv
    rcases i with _ | i
    · simp only [List.getElem?_cons_zero, Option.some.injEq] at ha hv; subst ha; subst hv; exact w1
    simp only [List.getElem?_cons_succ] at ha hv
    rcases i with _ | i
    · simp only [List.getElem?_cons_zero, Option.some.injEq] at ha hv; subst ha; subst hv; exact w2
    · simp only [List.getElem?_cons_succ, List.getElem?_nil] at ha; cases ha
  · have hv := V0.lit_inv hr
    subst hv
    subst he
    exact ⟨_, rfl, _, _, _, [], _, [], hW', trodAll_mk1 (shut_bool Try.underlying4 _), (trodAll_cons_mk (Below.trod laidOut (by kernel_rfl) (of_decide_eq_true (by kernel_rfl)) h0 bel lt0) (trodAll_cons_mk (Below.trod laidOut (by kernel_rfl) (of_decide_eq_true (by kernel_rfl)) h1 bel lt1) (trodAll_cons_mk (Below.trod laidOut (by kernel_rfl) (of_decide_eq_true (by kernel_rfl)) h2 bel lt2) trodAll_mk0))), rfl, bel.frame _, fun h => by cases h⟩

theorem over4 : Rows.topStreetExaminedRow.holds Try.pinned (OpenSpec.ofChange Rows.topStreetExaminedSpec) :=
  OpenClaim.holds_of_wide 4 Try.f4 rfl rfl rfl rfl rfl rfl rfl ⟨rfl, rfl, rfl, rfl, rfl⟩ rfl rfl rfl rfl rfl (by kernel_rfl) Try.func4 (by kernel_rfl)
    (of_decide_eq_true (by kernel_rfl)) (by unfold Func.isWrapper; first | (rw [if_pos (by decide +kernel)]; kernel_rfl) | (rw [if_neg (by decide +kernel)]; exact ⟨rfl, rfl⟩))
    (fun os started H enc _ => lifted4 os started H enc)

theorem topStreetExamined_holds : Rows.TopStreetExaminedSaid := over4
end Go.Proofs.Ytcndlalhkkjocaa
