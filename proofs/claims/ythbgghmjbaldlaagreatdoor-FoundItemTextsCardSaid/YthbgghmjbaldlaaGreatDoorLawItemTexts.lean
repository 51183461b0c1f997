/- The law FoundItemTexts returns true whatever its input is, and its input reads as it did; the tied card. -/
import Derived.Test.YthbgghmjbaldlaaGreatDoorFU8
import Derived.Test.YthbgghmjbaldlaaGreatDoorFU27
import Derived.Test.YthbgghmjbaldlaaGreatDoorFU11
import Derived.Test.YthbgghmjbaldlaaGreatDoorFU10
import Derived.Test.YthbgghmjbaldlaaGreatDoorTie
import Derived.Test.YthbgghmjbaldlaaGreatDoorCards
import Derived.ProofKit
import Derived.LaidMore
import Derived.OpenShut
import Derived.Stop.Joined
import Derived.SevenTiedAt
namespace Go.Proofs.YthbgghmjbaldlaaGreatDoor
open Go.ChangeShapes Go.WideShapes Go.ChangeAt Go.RowKit Go.Deep
set_option maxRecDepth 100000
theorem door_met7 (os : Os) (args : Array Value) : laidMetH Tryz.prog Rows.foundItemTextsRow.laid ((World.laidAll Tryz.prog os Rows.foundItemTextsRow.laid).forCall (fun _ _ => 0) ⟨#[], args, []⟩).memory :=
  laidMetH_of_plain (by kernel_rfl) (laidMet_laidAll args (by kernel_rfl) (by kernel_rfl))
theorem lifted7 (os : Os) (started : os.Started) (H : Type) (enc : TypeId × Value → H) :
    ReturnsInHanded {} Tryz.checked os 7 .any (fun w args => (Rows.foundItemTextsSpec.pre enc Tryz.prog Tryz.f7 [] false w args ∧ laidMetH Tryz.prog Rows.foundItemTextsRow.laid w) ∧ sizedMet enc Tryz.prog Tryz.f7 (OpenSpec.ofChange Rows.foundItemTextsSpec) false w args)
      (Rows.foundItemTextsSpec.post enc Tryz.prog Tryz.f7 false true false false) := by
  refine returnsInHanded_both (C := Tryz.checked) (X := fun w _ => laidMetH Tryz.prog Rows.foundItemTextsRow.laid w) (fun _ _ _ hh h => h.of_heap hh) own started (by kernel_rfl) Tryz.func7
    (ChangeSpec.witness_shaped (enc := enc) (C := Tryz.checked) (os := os) (X := fun w _ => laidMetH Tryz.prog Rows.foundItemTextsRow.laid w) false (World.laidAll Tryz.prog os Rows.foundItemTextsRow.laid) #[.agg #[.string ⟨#[]⟩, .int .i64 0, .string ⟨#[]⟩, .slice none 0 0], .string ⟨#[]⟩] 8 (World.laidAll_os _ _ _) (World.shaped_of_ZipB (by kernel_rfl) (by kernel_rfl)) (by kernel_rfl) (by kernel_rfl) (by kernel_rfl) (door_met7 os _)) ?_
  intro W base args ds gs before hval0 hW _ hsh hL _
  have hval : ∀ (j : Nat) t v, Tryz.f7.params[j]? = some t → args[j]? = some v → Value.okWide Tryz.prog W .any base t v := hval0
  have hW' := hW
  obtain ⟨p, q, hA0, hV, rfl, hfz, hnd⟩ := hW
  have hA : DataW.TrodAll enc Tryz.prog W 0 (fun _ => true) true Tryz.f7.params.toList args.toList ds p := hA0
  rw [Tryz.params7] at hA hval
  obtain ⟨v0, vs0, d0, ds0, p0, q0, hargs, rfl, rfl, h0, r0⟩ := trodAll_cons hA
  obtain ⟨v1, vs1, d1, ds1, p1, q1, rfl, rfl, rfl, h1, r1⟩ := trodAll_cons r0
  obtain ⟨rfl, rfl, rfl⟩ := trodAll_nil r1
  obtain rfl : args = #[v0, v1] := by cases args; simp_all
  obtain ⟨rfl, rfl⟩ := trodVars_none hV
  have lt0 : ∀ x ∈ p0, x.block < W.heap.size := by obtain ⟨m, hm⟩ := h0; exact DataW.trod_lt m _ _ _ hm
  have lt1 : ∀ x ∈ p1, x.block < W.heap.size := by obtain ⟨m, hm⟩ := h1; exact DataW.trod_lt m _ _ _ hm
  obtain ⟨a0, g0, w0⟩ := argItem6 (hval 0 65 v0 rfl rfl) h0
  obtain ⟨a1, g1, w1⟩ := argStr (hval 1 9 v1 rfl rfl) h1
  clear hA0 hval0
  refine (((l_ItemTexts a0 a1 g0.1 (lim g1) g0.2).2 W (fun _ => False) [v0, v1] (mok_laid hL hsh) rfl fun i a v ha hv => ?_)).mono fun e W' ⟨v, he, bel, hr⟩ => ?_
  · rcases i with _ | i
    · simp only [List.getElem?_cons_zero, Option.some.injEq] at ha hv; subst ha; subst hv; exact w0
    simp only [List.getElem?_cons_succ] at ha hv
    rcases i with _ | i
    · simp only [List.getElem?_cons_zero, Option.some.injEq] at ha hv; subst ha; subst hv; exact w1
    · simp only [List.getElem?_cons_succ, List.getElem?_nil] at ha; cases ha
  · have hv := V0.lit_inv hr
    subst hv
    subst he
    exact ⟨_, rfl, _, _, _, [], _, [], hW', trodAll_mk1 (shut_bool Tryz.underlying4 _), trodAll_cons_mk (Below.trod laidOut (by kernel_rfl) (of_decide_eq_true (by kernel_rfl)) h0 bel lt0) (trodAll_cons_mk (Below.trod laidOut (by kernel_rfl) (of_decide_eq_true (by kernel_rfl)) h1 bel lt1) trodAll_mk0), rfl, bel.frame _, fun h => by cases h⟩
theorem over7 : Rows.FoundItemTextsSaid :=
  OpenClaim.holds_of_wide 7 Tryz.f7 rfl rfl rfl rfl rfl rfl rfl ⟨rfl, rfl, rfl, rfl, rfl⟩ rfl rfl rfl rfl rfl (by kernel_rfl) Tryz.func7 (by kernel_rfl)
    (of_decide_eq_true (by kernel_rfl)) (by unfold Func.isWrapper; first | (rw [if_pos (by decide +kernel)]; kernel_rfl) | (rw [if_neg (by decide +kernel)]; exact ⟨rfl, rfl⟩))
    (fun os started H enc _ => lifted7 os started H enc)
theorem foundItemTextsCard_holds : Rows.FoundItemTextsCardSaid :=
  Claim7.holds_tied_plain_at .later [] [.data, .data, .data, .data, .sentinel, .sentinel, .pinned] true (true, "bc12a0f2ef40e4c3e41d47bdbfcbd85c3e4f45f43795a5a3e4a1872e5b8e9b08") true
    over7 (fun _ h => by cases h) (by kernel_rfl) (fun _ h => by cases h) foundItemTexts_row_tie rfl ⟨rfl, rfl⟩ (by kernel_rfl) rfl
    (fun f fn hf hfn => by
      obtain rfl : f = 7 := Option.some.inj ((show Tryz.prog.funcNamed "fiacre/fiacrelaw09.FoundItemTexts" = some 7 by kernel_rfl).symm.trans hf) |>.symm
      obtain rfl : fn = Tryz.f7 := (Option.some.inj (Tryz.func7.symm.trans hfn)).symm
      exact ⟨by kernel_rfl, fun j t ht => by
        rw [Tryz.params7] at ht
        have hm : t ∈ [65, 9] := by simpa using Array.mem_of_getElem? ht
        have hall : ([65, 9].all fun u => !Tryz.prog.wantsStandIn u) = true := by kernel_rfl
        exact (show Tryz.prog.wantsStandIn t = false by simpa using List.all_eq_true.1 hall t hm)⟩)
    (by kernel_rfl)
end Go.Proofs.YthbgghmjbaldlaaGreatDoor
