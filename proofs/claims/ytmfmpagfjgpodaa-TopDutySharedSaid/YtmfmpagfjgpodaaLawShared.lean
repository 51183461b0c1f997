/- The law TopDutyShared returns true whatever its input is, and its input reads as it did; no condition. -/
import Derived.Test.YtmfmpagfjgpodaaMS21
import Derived.Test.YtmfmpagfjgpodaaMS36
namespace Go.Proofs.Ytmfmpagfjgpodaa
open Go.ChangeShapes Go.WideShapes Go.ChangeAt Go.RowKit Go.Deep
open Go.ChangeMaps (open_string shut_string)
set_option maxRecDepth 100000
theorem lim {n : Nat} (h : n ≤ maxLen) : n ≤ 9223372036854775807 := by simp only [maxLen] at h; omega
theorem lifted16 (os : Os) (started : os.Started) (H : Type) (enc : TypeId × Value → H) :
    ReturnsInHanded {} Try.checked os 16 .any (Rows.topDutySharedSpec.pre6 enc Try.prog Try.f16 Rows.topDutySharedRow.domain false) (Rows.topDutySharedSpec.post enc Try.prog Try.f16 false true false false) := by
  refine returnsInHanded_of_change (C := Try.checked) own started (by kernel_rfl) Try.func16
    (ChangeSpec.witness6 (enc := enc) (C := Try.checked) false ⟨#[], #[.slice none 0 0, .slice none 0 0], []⟩ 8 (by kernel_rfl) (by kernel_rfl) (by kernel_rfl) (by kernel_rfl)) ?_
  intro W base args ds gs before hval0 hW hcnd _
  have hval : ∀ (j : Nat) t v, Try.f16.params[j]? = some t → args[j]? = some v → Value.okWide Try.prog W .any base t v := hval0
  have hW' := hW
  obtain ⟨p, q, hA0, hV, rfl, hfz, hnd⟩ := hW
  have hA : DataW.TrodAll enc Try.prog W 0 (fun _ => true) true Try.f16.params.toList args.toList ds p := hA0
  rw [Try.params16] at hA hval
  obtain ⟨v0, vs0, d0, ds0, p0, q0, hargs, rfl, rfl, h0, r0⟩ := trodAll_cons hA
  obtain ⟨v1, vs1, d1, ds1, p1, q1, rfl, rfl, rfl, h1, r1⟩ := trodAll_cons r0
  obtain ⟨rfl, rfl, rfl⟩ := trodAll_nil r1
  obtain rfl : args = #[v0, v1] := by cases args; simp_all
  obtain ⟨rfl, rfl⟩ := trodVars_none hV
  have lt0 : ∀ x ∈ p0, x.block < W.heap.size := by obtain ⟨m, hm⟩ := h0; exact DataW.trod_lt m _ _ _ hm
  have lt1 : ∀ x ∈ p1, x.block < W.heap.size := by obtain ⟨m, hm⟩ := h1; exact DataW.trod_lt m _ _ _ hm
  obtain ⟨a0, g0, w0⟩ := argRecs (hval 0 22 v0 rfl rfl) h0
  obtain ⟨a1, g1, w1⟩ := argU8s (hval 1 122 v1 rfl rfl) h1
  clear hA0 hval0
  refine (((v16 a0 a1 (lim g0.1) (fun x hx => lim (g0.2 x hx)) (lim g1.1) (fun c hc => wf8 (g1.2 c hc))).2 W (fun _ => False) [v0, v1] (fun _ h => h.elim) rfl fun i a v ha hv => ?_)).mono fun e W' ⟨v, he, bel, hr⟩ => ?_
  · rcases i with _ | i
    · simp only [List.getElem?_cons_zero, Option.some.injEq] at ha hv; subst ha; subst hv; exact w0
    simp only [List.getElem?_cons_succ] at ha hv
    rcases i with _ | i
    · simp only [List.getElem?_cons_zero, Option.some.injEq] at ha hv; subst ha; subst hv; exact w1
    · simp only [List.getElem?_cons_succ, List.getElem?_nil] at ha; cases ha
  · have hv := V0.lit_inv hr
    subst hv
    subst he
    exact ⟨_, rfl, _, _, _, [], _, [], hW', trodAll_mk1 (shut_bool Try.underlying4 _), (trodAll_cons_mk (Below.trod laidOut (by kernel_rfl) (of_decide_eq_true (by kernel_rfl)) h0 bel lt0) (trodAll_cons_mk (Below.trod laidOut (by kernel_rfl) (of_decide_eq_true (by kernel_rfl)) h1 bel lt1) trodAll_mk0)), rfl, bel.frame _, fun h => by cases h⟩

theorem over16 : Rows.topDutySharedRow.holds Try.pinned (OpenSpec.ofChange Rows.topDutySharedSpec) :=
  OpenClaim.holds_of_wide 16 Try.f16 rfl rfl rfl rfl rfl rfl rfl ⟨rfl, rfl, rfl, rfl, rfl⟩ rfl rfl rfl rfl rfl (by kernel_rfl) Try.func16 (by kernel_rfl)
    (of_decide_eq_true (by kernel_rfl)) (by unfold Func.isWrapper; first | (rw [if_pos (by decide +kernel)]; kernel_rfl) | (rw [if_neg (by decide +kernel)]; exact ⟨rfl, rfl⟩))
    (fun os started H enc _ => lifted16 os started H enc)

theorem topDutyShared_holds : Rows.TopDutySharedSaid := over16
end Go.Proofs.Ytmfmpagfjgpodaa
