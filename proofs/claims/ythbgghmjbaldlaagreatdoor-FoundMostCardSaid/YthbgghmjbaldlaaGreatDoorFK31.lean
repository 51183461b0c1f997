/- Texts in one: The law of as many pairs as can be: true whatever the input is. -/
import Derived.Test.YthbgghmjbaldlaaGreatDoorFK28
import Derived.Test.YthbgghmjbaldlaaGreatDoorFK30
import Derived.Test.YthbgghmjbaldlaaGreatDoorFK26
import Derived.Test.YthbgghmjbaldlaaGreatDoorFK23
/-! SK3: The law of as many pairs as can be: true whatever the input is. -/
namespace Go.Proofs.YthbgghmjbaldlaaGreatDoor
open Go.RowKit
set_option maxRecDepth 100000
set_option maxHeartbeats 1000000
theorem few_five {l c : List Item} (h : fewL l c = true) (h1 : l.length ≤ 12) (h2 : c.length ≤ 12) : l.length ≤ 5 ∧ c.length ≤ 5 := by
  simp only [fewL, Bool.and_eq_true] at h
  obtain ⟨⟨⟨a, b⟩, _⟩, _⟩ := h
  have a1 := (fewN_true a).1
  have b1 := (fewN_true b).1
  simp only [Bool.and_eq_false_iff, decide_eq_false_iff_not] at a1 b1
  omega
theorem l_Most (l c : List Item) (hl : l.length ≤ 9223372036854775807) (hc : c.length ≤ 9223372036854775807) (hL : ∀ x ∈ l, BigI x) (hC : ∀ x ∈ c, BigI x) : VC Tryz.prog 5 [itemsA l, itemsA c] (B true) := by
  have ha := l_awake
  have h0 := l_Few l c hl hc hL hC
  cases hs : fewL l c
  · rw [hs] at h0
    clear hs
    refine VC_of Tryz.func5 rfl (by kernel_rfl) (by kernel_rfl) rfl fun M0 w0 => ?_
    simp only [Tryz.ntmps5, Tryz.results5, enumA]
    repeat' (first | (with_reducible first | refine vseq ?_ | refine vthenN ?_ | refine vthenE ?_ | refine vthenR ?_ | refine vret ?_ | refine vskip ?_ | refine vexit ?_ | refine vblock ?_ | refine vblockN ?_ | refine vblockR ?_ | refine vblockH ?_ | refine vrun_nil ?_ | refine vblockE rfl ?_ | refine vregion [] ?_ | refine vhrun_nil ?_) | ((with_reducible refine vcondT ?_ ?_); (focus (go_simp; done))) | ((with_reducible refine vcondF ?_ ?_); (focus (go_simp; done))) | ((with_reducible first | refine vrun_cons fun KK hKK => ?_ | refine vhrun_cons fun KK hKK => ?_); go_simp; (first | (with_reducible refine ⟨_, ha, ?_⟩) | (with_reducible refine ⟨_, h0, ?_⟩) | skip); refine hKK _ ?_; clear hKK KK) | ((with_reducible refine vcondS ?_ (fun ht => ?_) (fun ht => ?_)); (focus (go_simp; done)); (all_goals (simp [go_sem] at ht; replace ht := ht.out))) | ((apply vrun_consG0 rfl); (focus (go_simp <;> exact rfl)); (focus (go_simp; done)); (focus (intro hb0; replace hb0 := hb0.out; go_simp <;> (first | exact rfl | exact ha | exact h0 | exact ⟨ha, rfl⟩ | exact ⟨h0, rfl⟩))); intro KK hKK; go_simp; refine hKK _ ?_; clear hKK KK))
    go_simp
  · rw [hs] at h0
    obtain ⟨⟨s1, s2⟩, s3, s4⟩ := few_small hs
    have i1 := VC_of_own (o_CopyItems l (by omega) fun x hx => by have := (s1.each x hx).few; omega)
    have i2 := VC_of_own (o_CopyClaims c (by omega) fun x hx => by have := (s3.each x hx).few; omega)
    have e1 := r_BothErr l c s1 s3
    by_cases hb : bothE l c = 0
    · have z1 : itemsErr l = 0 := fst_zero hb _ (by simp)
      have z2 : itemsErr c = 0 := fst_zero hb _ (by simp)
      obtain ⟨f1, f2⟩ := few_five hs (items_zero z1).1 (items_zero z2).1
      have k0 := p_Most0 l c s1 s3 z1 z2 f1 f2
      have BB := both_of s1 s3 z1 z2
      obtain ⟨m1, m2, m3, m4, m5⟩ := most_law z1 z2 f2
      have hP := pairF_len (mostS l c).items l.length
      have hP : (mostP l c).length ≤ l.length := hP
      have hI : (mostI l c).length ≤ l.length := numF_len _ _
      have hK : (mostC l c).length ≤ c.length := numF_len _ _
      have g0 := l_great (mostP l c) (mostI l c) (mostC l c) (by omega) (by omega) (by omega)
      have hg : greatP (mostP l c) (mostI l c) (mostC l c) = false := by
        simp only [greatP, Bool.or_eq_false_iff, decide_eq_false_iff_not]
        omega
      rw [hg] at g0
      have r1 := r_CheckPairs l c (mostP l c) s1 s3 (by omega)
      have r2 := r_CheckCover l c (mostI l c) (mostC l c) s1 s3 (by omega) (by omega)
      have r3 := r_Most l c BB f2
      rw [m1, m3] at r1
      rw [m2, m4] at r2
      rw [hb] at e1
      clear hs hb z1 z2 s1 s3 m1 m2 m3 m4 m5 hg BB
      generalize mostP l c = X at *
      generalize mostI l c = Y at *
      generalize mostC l c = Z at *
      generalize mostR l c = R at *
      refine VC_of Tryz.func5 rfl (by kernel_rfl) (by kernel_rfl) rfl fun M0 w0 => ?_
      simp only [Tryz.ntmps5, Tryz.results5, enumA]
      repeat' (first | (with_reducible first | refine vseq ?_ | refine vthenN ?_ | refine vthenE ?_ | refine vthenR ?_ | refine vret ?_ | refine vskip ?_ | refine vexit ?_ | refine vblock ?_ | refine vblockN ?_ | refine vblockR ?_ | refine vblockH ?_ | refine vrun_nil ?_ | refine vblockE rfl ?_ | refine vregion [] ?_ | refine vhrun_nil ?_) | ((with_reducible refine vcondT ?_ ?_); (focus (go_simp; done))) | ((with_reducible refine vcondF ?_ ?_); (focus (go_simp; done))) | ((with_reducible first | refine vrun_cons fun KK hKK => ?_ | refine vhrun_cons fun KK hKK => ?_); go_simp; (first | (with_reducible refine ⟨_, ha, ?_⟩) | (with_reducible refine ⟨_, h0, ?_⟩) | (with_reducible refine ⟨_, i1, ?_⟩) | (with_reducible refine ⟨_, i2, ?_⟩) | (with_reducible refine ⟨_, k0, ?_⟩) | (with_reducible refine ⟨_, e1, ?_⟩) | (with_reducible refine ⟨_, g0, ?_⟩) | (with_reducible refine ⟨_, r1, ?_⟩) | (with_reducible refine ⟨_, r2, ?_⟩) | (with_reducible refine ⟨_, r3, ?_⟩) | skip); refine hKK _ ?_; clear hKK KK) | ((with_reducible refine vcondS ?_ (fun ht => ?_) (fun ht => ?_)); (focus (go_simp; done)); (all_goals (simp [go_sem] at ht; replace ht := ht.out))) | ((apply vrun_consG0 rfl); (focus (go_simp <;> exact rfl)); (focus (go_simp; done)); (focus (intro hb0; replace hb0 := hb0.out; go_simp <;> (first | exact rfl | exact ha | exact h0 | exact i1 | exact i2 | exact k0 | exact e1 | exact g0 | exact r1 | exact r2 | exact r3 | exact ⟨ha, rfl⟩ | exact ⟨h0, rfl⟩ | exact ⟨i1, rfl⟩ | exact ⟨i2, rfl⟩ | exact ⟨k0, rfl⟩ | exact ⟨e1, rfl⟩ | exact ⟨g0, rfl⟩ | exact ⟨r1, rfl⟩ | exact ⟨r2, rfl⟩ | exact ⟨r3, rfl⟩))); intro KK hKK; go_simp; refine hKK _ ?_; clear hKK KK))
      go_simp
    · have k0 := p_MostE l c s1 s3 (bothE l c) rfl hb
      clear hs s1 s3
      generalize bothE l c = E at *
      have wz := wrap_eq (x := 0) (by omega) (by omega)
      refine VC_of Tryz.func5 rfl (by kernel_rfl) (by kernel_rfl) rfl fun M0 w0 => ?_
      simp only [Tryz.ntmps5, Tryz.results5, enumA]
      repeat' (first | (with_reducible first | refine vseq ?_ | refine vthenN ?_ | refine vthenE ?_ | refine vthenR ?_ | refine vret ?_ | refine vskip ?_ | refine vexit ?_ | refine vblock ?_ | refine vblockN ?_ | refine vblockR ?_ | refine vblockH ?_ | refine vrun_nil ?_ | refine vblockE rfl ?_ | refine vregion [] ?_ | refine vhrun_nil ?_) | ((with_reducible refine vcondT ?_ ?_); (focus (go_simp; done))) | ((with_reducible refine vcondF ?_ ?_); (focus (go_simp; done))) | ((with_reducible first | refine vrun_cons fun KK hKK => ?_ | refine vhrun_cons fun KK hKK => ?_); go_simp; (first | (with_reducible refine ⟨_, ha, ?_⟩) | (with_reducible refine ⟨_, h0, ?_⟩) | (with_reducible refine ⟨_, i1, ?_⟩) | (with_reducible refine ⟨_, i2, ?_⟩) | (with_reducible refine ⟨_, k0, ?_⟩) | (with_reducible refine ⟨_, e1, ?_⟩) | skip); refine hKK _ ?_; clear hKK KK) | ((with_reducible refine vcondS ?_ (fun ht => ?_) (fun ht => ?_)); (focus (go_simp; done)); (all_goals (simp [go_sem] at ht; replace ht := ht.out))) | ((apply vrun_consG0 rfl); (focus (go_simp <;> exact rfl)); (focus (go_simp; done)); (focus (intro hb0; replace hb0 := hb0.out; go_simp <;> (first | exact rfl | exact ha | exact h0 | exact i1 | exact i2 | exact k0 | exact e1 | exact ⟨ha, rfl⟩ | exact ⟨h0, rfl⟩ | exact ⟨i1, rfl⟩ | exact ⟨i2, rfl⟩ | exact ⟨k0, rfl⟩ | exact ⟨e1, rfl⟩))); intro KK hKK; go_simp; refine hKK _ ?_; clear hKK KK))
      go_simp
end Go.Proofs.YthbgghmjbaldlaaGreatDoor
