/- Texts in one: The law of pairs and covers: true whatever the input is. -/
import Derived.Test.YthbgghmjbaldlaaGreatDoorFZ14
import Derived.Test.YthbgghmjbaldlaaGreatDoorFZ18
/-! SZ2: The law of pairs and covers: true whatever the input is. -/
namespace Go.Proofs.YthbgghmjbaldlaaGreatDoor
open Go.RowKit
set_option maxRecDepth 100000
set_option maxHeartbeats 1000000
theorem l_Proofs (l c : List Item) (ps : List (Int × Int)) (xi xc : List Int) (hl : l.length ≤ 9223372036854775807) (hc : c.length ≤ 9223372036854775807) (hL : ∀ x ∈ l, BigI x) (hC : ∀ x ∈ c, BigI x)
    (hp : ps.length ≤ 9223372036854775807) (hi : xi.length ≤ 9223372036854775807) (hj : xc.length ≤ 9223372036854775807) : VC Tryz.prog 4 [itemsA l, itemsA c, proofA ps xi xc] (B true) := by
  have ha := l_awake
  have h0 := l_Few l c hl hc hL hC
  have h1 := l_great ps xi xc hp hi hj
  cases hs : fewL l c
  · rw [hs] at h0
    clear hs
    refine VC_of Tryz.func4 rfl (by kernel_rfl) (by kernel_rfl) rfl fun M0 w0 => ?_
    simp only [Tryz.ntmps4, Tryz.results4, enumA]
    repeat' (first | (with_reducible first | refine vseq ?_ | refine vthenN ?_ | refine vthenE ?_ | refine vthenR ?_ | refine vret ?_ | refine vskip ?_ | refine vexit ?_ | refine vblock ?_ | refine vblockN ?_ | refine vblockR ?_ | refine vblockH ?_ | refine vrun_nil ?_ | refine vblockE rfl ?_ | refine vregion [] ?_ | refine vhrun_nil ?_) | ((with_reducible refine vcondT ?_ ?_); (focus (go_simp; done))) | ((with_reducible refine vcondF ?_ ?_); (focus (go_simp; done))) | ((with_reducible first | refine vrun_cons fun KK hKK => ?_ | refine vhrun_cons fun KK hKK => ?_); go_simp; (first | (with_reducible refine ⟨_, ha, ?_⟩) | (with_reducible refine ⟨_, h0, ?_⟩) | skip); refine hKK _ ?_; clear hKK KK) | ((refine vdrawL 13 13 [] rfl (by kernel_rfl) (by kernel_rfl) ?_); simp only [List.append, List.take, List.drop]) | ((with_reducible refine vcondS ?_ (fun ht => ?_) (fun ht => ?_)); (focus (go_simp; done)); (all_goals (simp [go_sem] at ht; replace ht := ht.out))) | ((apply vrun_consG0 rfl); (focus (go_simp <;> exact rfl)); (focus (go_simp; done)); (focus (intro hb0; replace hb0 := hb0.out; go_simp <;> (first | exact rfl | exact ha | exact h0 | exact ⟨ha, rfl⟩ | exact ⟨h0, rfl⟩))); intro KK hKK; go_simp; refine hKK _ ?_; clear hKK KK) | ((apply vhrun_consG0 rfl); (focus (go_simp <;> exact rfl)); (focus (intro hb0; replace hb0 := hb0.out; go_simp <;> (first | exact rfl | exact ha | exact h0 | exact ⟨ha, rfl⟩ | exact ⟨h0, rfl⟩))); intro KK hKK; go_simp; refine hKK _ ?_; clear hKK KK))
    go_simp
  · rw [hs] at h0
    obtain ⟨⟨s1, s2⟩, s3, s4⟩ := few_small hs
    cases hg : greatP ps xi xc
    · rw [hg] at h1
      simp only [greatP, Bool.or_eq_false_iff, decide_eq_false_iff_not] at hg
      have i1 := VC_of_own (o_CopyItems l (by omega) fun x hx => by have := (s1.each x hx).few; omega)
      have i2 := VC_of_own (o_CopyClaims c (by omega) fun x hx => by have := (s3.each x hx).few; omega)
      have i3 := VC_of_own (o_CopyPairs ps (by omega))
      have i4 := v_CopyCover xi xc (by omega) (by omega)
      have p1 := p_CheckPairs l c ps s1 s3 (by omega)
      have p2 := p_CheckCover l c xi xc s1 s3 (by omega) (by omega)
      have r1 := r_CheckPairs l c ps s1 s3 (by omega)
      have r2 := r_CheckCover l c xi xc s1 s3 (by omega) (by omega)
      clear hs hg s1 s3
      generalize pairsN l c ps = n at *
      generalize coverN l c xi xc = m at *
      generalize pairsE l c ps = e at *
      generalize coverE l c xi xc = f at *
      refine VC_of Tryz.func4 rfl (by kernel_rfl) (by kernel_rfl) rfl fun M0 w0 => ?_
      simp only [Tryz.ntmps4, Tryz.results4, enumA]
      repeat' (first | (with_reducible first | refine vseq ?_ | refine vthenN ?_ | refine vthenE ?_ | refine vthenR ?_ | refine vret ?_ | refine vskip ?_ | refine vexit ?_ | refine vblock ?_ | refine vblockN ?_ | refine vblockR ?_ | refine vblockH ?_ | refine vrun_nil ?_ | refine vblockE rfl ?_ | refine vregion [] ?_ | refine vhrun_nil ?_) | ((with_reducible refine vcondT ?_ ?_); (focus (go_simp; done))) | ((with_reducible refine vcondF ?_ ?_); (focus (go_simp; done))) | ((with_reducible first | refine vrun_cons fun KK hKK => ?_ | refine vhrun_cons fun KK hKK => ?_); go_simp; (first | (with_reducible refine ⟨_, ha, ?_⟩) | (with_reducible refine ⟨_, h0, ?_⟩) | (with_reducible refine ⟨_, h1, ?_⟩) | (with_reducible refine ⟨_, i1, ?_⟩) | (with_reducible refine ⟨_, i2, ?_⟩) | (with_reducible refine ⟨_, i3, ?_⟩) | (with_reducible refine ⟨_, p1, ?_⟩) | (with_reducible refine ⟨_, i4, ?_⟩) | (with_reducible refine ⟨_, p2, ?_⟩) | (with_reducible refine ⟨_, r1, ?_⟩) | (with_reducible refine ⟨_, r2, ?_⟩) | skip); refine hKK _ ?_; clear hKK KK) | ((refine vdrawL 13 13 [] rfl (by kernel_rfl) (by kernel_rfl) ?_); simp only [List.take, List.drop]) | ((with_reducible refine vcondS ?_ (fun ht => ?_) (fun ht => ?_)); (focus (go_simp; done)); (all_goals (simp [go_sem] at ht; replace ht := ht.out))) | ((apply vrun_consG0 rfl); (focus (go_simp <;> exact rfl)); (focus (go_simp; done)); (focus (intro hb0; replace hb0 := hb0.out; go_simp <;> (first | exact rfl | exact ha | exact h0 | exact h1 | exact i1 | exact i2 | exact i3 | exact p1 | exact i4 | exact p2 | exact r1 | exact r2 | exact ⟨ha, rfl⟩ | exact ⟨h0, rfl⟩ | exact ⟨h1, rfl⟩ | exact ⟨i1, rfl⟩ | exact ⟨i2, rfl⟩ | exact ⟨i3, rfl⟩ | exact ⟨p1, rfl⟩ | exact ⟨i4, rfl⟩ | exact ⟨p2, rfl⟩ | exact ⟨r1, rfl⟩ | exact ⟨r2, rfl⟩))); intro KK hKK; go_simp; refine hKK _ ?_; clear hKK KK) | ((apply vhrun_consG0 rfl); (focus (go_simp <;> exact rfl)); (focus (intro hb0; replace hb0 := hb0.out; go_simp <;> (first | exact rfl | exact ha | exact h0 | exact h1 | exact i1 | exact i2 | exact i3 | exact p1 | exact i4 | exact p2 | exact r1 | exact r2 | exact ⟨ha, rfl⟩ | exact ⟨h0, rfl⟩ | exact ⟨h1, rfl⟩ | exact ⟨i1, rfl⟩ | exact ⟨i2, rfl⟩ | exact ⟨i3, rfl⟩ | exact ⟨p1, rfl⟩ | exact ⟨i4, rfl⟩ | exact ⟨p2, rfl⟩ | exact ⟨r1, rfl⟩ | exact ⟨r2, rfl⟩))); intro KK hKK; go_simp; refine hKK _ ?_; clear hKK KK))
      go_simp
    · rw [hg] at h1
      clear hs hg s1 s3
      refine VC_of Tryz.func4 rfl (by kernel_rfl) (by kernel_rfl) rfl fun M0 w0 => ?_
      simp only [Tryz.ntmps4, Tryz.results4, enumA]
      repeat' (first | (with_reducible first | refine vseq ?_ | refine vthenN ?_ | refine vthenE ?_ | refine vthenR ?_ | refine vret ?_ | refine vskip ?_ | refine vexit ?_ | refine vblock ?_ | refine vblockN ?_ | refine vblockR ?_ | refine vblockH ?_ | refine vrun_nil ?_ | refine vblockE rfl ?_ | refine vregion [] ?_ | refine vhrun_nil ?_) | ((with_reducible refine vcondT ?_ ?_); (focus (go_simp; done))) | ((with_reducible refine vcondF ?_ ?_); (focus (go_simp; done))) | ((with_reducible first | refine vrun_cons fun KK hKK => ?_ | refine vhrun_cons fun KK hKK => ?_); go_simp; (first | (with_reducible refine ⟨_, ha, ?_⟩) | (with_reducible refine ⟨_, h0, ?_⟩) | (with_reducible refine ⟨_, h1, ?_⟩) | skip); refine hKK _ ?_; clear hKK KK) | ((refine vdrawL 13 13 [] rfl (by kernel_rfl) (by kernel_rfl) ?_); simp only [List.append, List.take, List.drop]) | ((with_reducible refine vcondS ?_ (fun ht => ?_) (fun ht => ?_)); (focus (go_simp; done)); (all_goals (simp [go_sem] at ht; replace ht := ht.out))) | ((apply vrun_consG0 rfl); (focus (go_simp <;> exact rfl)); (focus (go_simp; done)); (focus (intro hb0; replace hb0 := hb0.out; go_simp <;> (first | exact rfl | exact ha | exact h0 | exact h1 | exact ⟨ha, rfl⟩ | exact ⟨h0, rfl⟩ | exact ⟨h1, rfl⟩))); intro KK hKK; go_simp; refine hKK _ ?_; clear hKK KK) | ((apply vhrun_consG0 rfl); (focus (go_simp <;> exact rfl)); (focus (intro hb0; replace hb0 := hb0.out; go_simp <;> (first | exact rfl | exact ha | exact h0 | exact h1 | exact ⟨ha, rfl⟩ | exact ⟨h0, rfl⟩ | exact ⟨h1, rfl⟩))); intro KK hKK; go_simp; refine hKK _ ?_; clear hKK KK))
      go_simp
end Go.Proofs.YthbgghmjbaldlaaGreatDoor
