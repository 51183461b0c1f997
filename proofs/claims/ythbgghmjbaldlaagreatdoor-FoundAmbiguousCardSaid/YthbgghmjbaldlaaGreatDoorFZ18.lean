/- Texts in one: The law of claims with several candidates: true whatever the input is. -/
import Derived.Test.YthbgghmjbaldlaaGreatDoorFZ13
import Derived.Test.YthbgghmjbaldlaaGreatDoorFZ17
/-! SZ1: The law of claims with several candidates: true whatever the input is. -/
namespace Go.Proofs.YthbgghmjbaldlaaGreatDoor
open Go.RowKit
set_option maxRecDepth 100000
set_option maxHeartbeats 1000000
theorem l_Ambiguous (l c : List Item) (hl : l.length ≤ 9223372036854775807) (hc : c.length ≤ 9223372036854775807) (hL : ∀ x ∈ l, BigI x) (hC : ∀ x ∈ c, BigI x) : VC Tryz.prog 3 [itemsA l, itemsA c] (B true) := by
  have ha := l_awake
  have h0 := l_Few l c hl hc hL hC
  cases hs : fewL l c
  · rw [hs] at h0
    clear hs
    refine VC_of Tryz.func3 rfl (by kernel_rfl) (by kernel_rfl) rfl fun M0 w0 => ?_
    simp only [Tryz.ntmps3, Tryz.results3, enumA]
    repeat' (first | (with_reducible first | refine vseq ?_ | refine vthenN ?_ | refine vthenE ?_ | refine vthenR ?_ | refine vret ?_ | refine vskip ?_ | refine vexit ?_ | refine vblock ?_ | refine vblockN ?_ | refine vblockR ?_ | refine vblockH ?_ | refine vrun_nil ?_ | refine vblockE rfl ?_ | refine vregion [] ?_ | refine vhrun_nil ?_) | ((with_reducible refine vcondT ?_ ?_); (focus (go_simp; done))) | ((with_reducible refine vcondF ?_ ?_); (focus (go_simp; done))) | ((with_reducible first | refine vrun_cons fun KK hKK => ?_ | refine vhrun_cons fun KK hKK => ?_); go_simp; (first | (with_reducible refine ⟨_, ha, ?_⟩) | (with_reducible refine ⟨_, h0, ?_⟩) | skip); refine hKK _ ?_; clear hKK KK) | ((with_reducible refine vcondS ?_ (fun ht => ?_) (fun ht => ?_)); (focus (go_simp; done)); (all_goals (simp [go_sem] at ht; replace ht := ht.out))) | ((apply vrun_consG0 rfl); (focus (go_simp <;> exact rfl)); (focus (go_simp; done)); (focus (intro hb0; replace hb0 := hb0.out; go_simp <;> (first | exact rfl | exact ha | exact h0 | exact ⟨ha, rfl⟩ | exact ⟨h0, rfl⟩))); intro KK hKK; go_simp; refine hKK _ ?_; clear hKK KK))
    go_simp
  · rw [hs] at h0
    obtain ⟨⟨s1, s2⟩, s3, s4⟩ := few_small hs
    have i1 := VC_of_own (o_CopyItems l (by omega) fun x hx => by have := (s1.each x hx).few; omega)
    have i2 := VC_of_own (o_CopyClaims c (by omega) fun x hx => by have := (s3.each x hx).few; omega)
    have e1 := r_BothErr l c s1 s3
    by_cases hb : bothE l c = 0
    · have k0 := p_Ambiguous0 l c s1 s3 hb
      have z1 : itemsErr l = 0 := fst_zero hb _ (by simp)
      have z2 : itemsErr c = 0 := fst_zero hb _ (by simp)
      have k1 := r_Ambiguous l c (both_of s1 s3 z1 z2)
      have k2 := b_IntsSame2 (ambL l c) (by have := numF_len (ambP l c) c.length; unfold ambL; omega)
      rw [hb] at e1
      clear hs hb z1 z2 s1 s3
      generalize ambL l c = L at *
      refine VC_of Tryz.func3 rfl (by kernel_rfl) (by kernel_rfl) rfl fun M0 w0 => ?_
      simp only [Tryz.ntmps3, Tryz.results3, enumA]
      repeat' (first | (with_reducible first | refine vseq ?_ | refine vthenN ?_ | refine vthenE ?_ | refine vthenR ?_ | refine vret ?_ | refine vskip ?_ | refine vexit ?_ | refine vblock ?_ | refine vblockN ?_ | refine vblockR ?_ | refine vblockH ?_ | refine vrun_nil ?_ | refine vblockE rfl ?_ | refine vregion [] ?_ | refine vhrun_nil ?_) | ((with_reducible refine vcondT ?_ ?_); (focus (go_simp; done))) | ((with_reducible refine vcondF ?_ ?_); (focus (go_simp; done))) | ((with_reducible first | refine vrun_cons fun KK hKK => ?_ | refine vhrun_cons fun KK hKK => ?_); go_simp; (first | (with_reducible refine ⟨_, ha, ?_⟩) | (with_reducible refine ⟨_, h0, ?_⟩) | (with_reducible refine ⟨_, i1, ?_⟩) | (with_reducible refine ⟨_, i2, ?_⟩) | (with_reducible refine ⟨_, k0, ?_⟩) | (with_reducible refine ⟨_, e1, ?_⟩) | (with_reducible refine ⟨_, k1, ?_⟩) | (with_reducible refine ⟨_, k2, ?_⟩) | skip); refine hKK _ ?_; clear hKK KK) | ((with_reducible refine vcondS ?_ (fun ht => ?_) (fun ht => ?_)); (focus (go_simp; done)); (all_goals (simp [go_sem] at ht; replace ht := ht.out))) | ((apply vrun_consG0 rfl); (focus (go_simp <;> exact rfl)); (focus (go_simp; done)); (focus (intro hb0; replace hb0 := hb0.out; go_simp <;> (first | exact rfl | exact ha | exact h0 | exact i1 | exact i2 | exact k0 | exact e1 | exact k1 | exact k2 | exact ⟨ha, rfl⟩ | exact ⟨h0, rfl⟩ | exact ⟨i1, rfl⟩ | exact ⟨i2, rfl⟩ | exact ⟨k0, rfl⟩ | exact ⟨e1, rfl⟩ | exact ⟨k1, rfl⟩ | exact ⟨k2, rfl⟩))); intro KK hKK; go_simp; refine hKK _ ?_; clear hKK KK))
      go_simp
    · have k0 := p_AmbiguousE l c s1 s3 hb
      clear hs s1 s3
      generalize bothE l c = E at *
      refine VC_of Tryz.func3 rfl (by kernel_rfl) (by kernel_rfl) rfl fun M0 w0 => ?_
      simp only [Tryz.ntmps3, Tryz.results3, enumA]
      repeat' (first | (with_reducible first | refine vseq ?_ | refine vthenN ?_ | refine vthenE ?_ | refine vthenR ?_ | refine vret ?_ | refine vskip ?_ | refine vexit ?_ | refine vblock ?_ | refine vblockN ?_ | refine vblockR ?_ | refine vblockH ?_ | refine vrun_nil ?_ | refine vblockE rfl ?_ | refine vregion [] ?_ | refine vhrun_nil ?_) | ((with_reducible refine vcondT ?_ ?_); (focus (go_simp; done))) | ((with_reducible refine vcondF ?_ ?_); (focus (go_simp; done))) | ((with_reducible first | refine vrun_cons fun KK hKK => ?_ | refine vhrun_cons fun KK hKK => ?_); go_simp; (first | (with_reducible refine ⟨_, ha, ?_⟩) | (with_reducible refine ⟨_, h0, ?_⟩) | (with_reducible refine ⟨_, i1, ?_⟩) | (with_reducible refine ⟨_, i2, ?_⟩) | (with_reducible refine ⟨_, k0, ?_⟩) | (with_reducible refine ⟨_, e1, ?_⟩) | skip); refine hKK _ ?_; clear hKK KK) | ((with_reducible refine vcondS ?_ (fun ht => ?_) (fun ht => ?_)); (focus (go_simp; done)); (all_goals (simp [go_sem] at ht; replace ht := ht.out))) | ((apply vrun_consG0 rfl); (focus (go_simp <;> exact rfl)); (focus (go_simp; done)); (focus (intro hb0; replace hb0 := hb0.out; go_simp <;> (first | exact rfl | exact ha | exact h0 | exact i1 | exact i2 | exact k0 | exact e1 | exact ⟨ha, rfl⟩ | exact ⟨h0, rfl⟩ | exact ⟨i1, rfl⟩ | exact ⟨i2, rfl⟩ | exact ⟨k0, rfl⟩ | exact ⟨e1, rfl⟩))); intro KK hKK; go_simp; refine hKK _ ?_; clear hKK KK))
      go_simp
end Go.Proofs.YthbgghmjbaldlaaGreatDoor
