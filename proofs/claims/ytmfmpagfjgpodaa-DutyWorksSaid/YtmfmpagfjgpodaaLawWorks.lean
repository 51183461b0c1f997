/- The law DutyWorks returns true whatever its input is, and its input reads as it did; no condition. -/
import Derived.Test.YtmfmpagfjgpodaaOpen
import Derived.Test.YtmfmpagfjgpodaaWS
namespace Go.Proofs.Ytmfmpagfjgpodaa
open Go.ChangeShapes Go.WideShapes Go.ChangeAt Go.RowKit Go.Deep
open Go.ChangeMaps (open_string shut_string)

theorem own : ownKnob Try.prog.godebug = none := by kernel_rfl
theorem laidOut : laidOutB Try.prog = true := by kernel_rfl

set_option maxRecDepth 100000 in
theorem lifted3 (os : Os) (started : os.Started) (H : Type) (enc : TypeId × Value → H) :
    ReturnsInHanded {} Try.checked os 3 .any (Rows.dutyWorksSpec.pre6 enc Try.prog Try.f3 Rows.dutyWorksRow.domain false) (Rows.dutyWorksSpec.post enc Try.prog Try.f3 false true false false) := by
  refine returnsInHanded_of_change (C := Try.checked) own started (by kernel_rfl) Try.func3
    (ChangeSpec.witness6 (enc := enc) (C := Try.checked) false ⟨#[], #[.slice none 0 0, .agg #[.int .i64 0, .int .i64 0, .int .i64 0]], []⟩ 8 (by kernel_rfl) (by kernel_rfl) (by kernel_rfl) (by kernel_rfl)) ?_
  intro W base args ds gs before hval0 hW hcnd _
  have hval : ∀ (j : Nat) t v, Try.f3.params[j]? = some t → args[j]? = some v → Value.okWide Try.prog W .any base t v := hval0
  have hW' := hW
  obtain ⟨p, q, hA0, hV, rfl, hfz, hnd⟩ := hW
  have hA : DataW.TrodAll enc Try.prog W 0 (fun _ => true) true Try.f3.params.toList args.toList ds p := hA0
  rw [Try.params3] at hA hval
  obtain ⟨v0, vs0, d0, ds0, p0, q0, hargs, rfl, rfl, h0, r0⟩ := trodAll_cons hA
  obtain ⟨v1, vs1, d1, ds1, p1, q1, rfl, rfl, rfl, h1, r1⟩ := trodAll_cons r0
  obtain ⟨rfl, rfl, rfl⟩ := trodAll_nil r1
  obtain rfl : args = #[v0, v1] := by cases args; simp_all
  obtain ⟨rfl, rfl⟩ := trodVars_none hV
  obtain ⟨a0, len0, cap0, rfl⟩ := okWide_slice Try.underlying22 (hval 0 22 v0 rfl rfl)
  have k0 := h0
  have k1 := h1
  have lt0 : ∀ x ∈ p0, x.block < W.heap.size := by obtain ⟨m, hm⟩ := k0; exact DataW.trod_lt m _ _ _ hm
  have lt1 : ∀ x ∈ p1, x.block < W.heap.size := by obtain ⟨m, hm⟩ := k1; exact DataW.trod_lt m _ _ _ hm
  obtain ⟨l, hlen, hcap, hmax, hS, hd⟩ : ∃ l : List Rec, len0 = l.length ∧ len0 ≤ cap0 ∧ cap0 ≤ maxLen ∧ Sl Rec.cells 3 W a0 l ∧ ∀ r ∈ l, r.driver.size ≤ maxLen := by
    obtain ⟨fuel, hf⟩ := h0
    exact open_recs hf
  obtain ⟨a, b, c, rfl⟩ : ∃ a b c : Int, v1 = .agg #[.int .i64 a, .int .i64 b, .int .i64 c] := by
    have hw := hval 1 23 v1 rfl rfl
    simp only [Value.okWide, Try.underlying23] at hw
    obtain ⟨cs, rfl, _⟩ := hw
    obtain ⟨fuel, hf⟩ := h1
    obtain ⟨a, b, c, hcs⟩ := open_three hf
    refine ⟨a, b, c, ?_⟩
    rw [Value.cells] at hcs
    cases cs
    simp_all
  clear hA0 hval0
  simp only [maxLen] at hmax hd
  refine (c3 l a0 len0 cap0 a b c W hlen (by omega) (fun x hx => by have := hd x hx; omega) hS).mono fun e W' ⟨he, bel⟩ => ?_
  subst he
  exact ⟨_, rfl, _, _, _, [], _, [], hW', trodAll_mk1 (shut_bool Try.underlying4 _), (trodAll_cons_mk (Below.trod laidOut (by kernel_rfl) (of_decide_eq_true (by kernel_rfl)) k0 bel lt0) (trodAll_cons_mk (Below.trod laidOut (by kernel_rfl) (of_decide_eq_true (by kernel_rfl)) k1 bel lt1) trodAll_mk0)), rfl, bel.frame _, fun h => by cases h⟩

theorem over3 : Rows.dutyWorksRow.holds Try.pinned (OpenSpec.ofChange Rows.dutyWorksSpec) :=
  OpenClaim.holds_of_wide 3 Try.f3 rfl rfl rfl rfl rfl rfl rfl ⟨rfl, rfl, rfl, rfl, rfl⟩ rfl rfl rfl rfl rfl (by kernel_rfl) Try.func3 (by kernel_rfl)
    (of_decide_eq_true (by kernel_rfl)) (by unfold Func.isWrapper; first | (rw [if_pos (by decide +kernel)]; kernel_rfl) | (rw [if_neg (by decide +kernel)]; exact ⟨rfl, rfl⟩))
    (fun os started H enc _ => lifted3 os started H enc)

theorem dutyWorks_holds : Rows.DutyWorksSaid := over3
end Go.Proofs.Ytmfmpagfjgpodaa
