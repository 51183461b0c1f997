/- Texts in one: Events that the program reads; texts of at most 1000 bytes. -/
import Derived.Test.YthbgghmjbaldlaaGreatDoorFT27
/-! ST3: Events that the program reads; texts of at most 1000 bytes. -/
namespace Go.Proofs.YthbgghmjbaldlaaGreatDoor
open Go.RowKit Go.Shelf
set_option maxRecDepth 100000
set_option maxHeartbeats 1000000
theorem p_ParseEvent (s : ByteArray) (hs : s.size ≤ 1000) : VC Tryz.prog 27 [S s] (.tup [.agg (readEv (pieces 32 s)).1.av, I (readEv (pieces 32 s)).2]) := by
  rw [← readP_eq]
  have g1 := v_Split s 32 (by omega)
  have hl := pieces_len 32 s
  have hz : ∀ p ∈ pieces 32 s, p.size ≤ 1000 := fun p hp => by have := pieces_size hp; omega
  generalize pieces 32 s = w at *
  have g2 := v_ContainsTxt w ⟨#[]⟩ (by omega)
  have he : anyP (isT w ⟨#[]⟩) 0 w.length = hasEmpty w := rfl
  rw [he] at g2
  unfold readP
  by_cases h5 : w.length = 5
  · cases hE : hasEmpty w
    · rw [if_neg (by simp [h5])]
      rw [hE] at g2
      obtain ⟨a, b, c, d, e, rfl⟩ : ∃ a b c d e, w = [a, b, c, d, e] := by
        match w, h5 with
        | [a, b, c, d, e], _ => exact ⟨a, b, c, d, e, rfl⟩
      simp only [tat, List.getD_cons_zero, List.getD_cons_succ]
      have g3 := p_number b (by have := hz b (by simp); omega)
      have g4 := v_IndexTxt kindsL c (by decide)
      have n1 := p_isName a (hz a (by simp))
      have n2 := p_isName d (hz d (by simp))
      have n3 := p_isName e (hz e (by simp))
      have hk := kind_ix c
      rw [show kindsL.length = 5 from rfl, hk] at g4
      clear hz he hE h5 hl hk
      generalize progN b.data.toList = n at *
      generalize progOK b.data.toList = ok at *
      generalize kindTo c 5 = K at *
      generalize isName a = A1 at *
      generalize isName d = A2 at *
      generalize isName e = A3 at *
      obtain ⟨R, hR⟩ : ∃ R, fst [unl (ok && decide (0 ≤ K)) 7, unl (A1 && A2 && A3) 4, unl (isDate n) 2] = R := ⟨_, rfl⟩
      rw [hR]
      have HR := Lib.hid hR
      clear hR
      refine VC_of Tryz.func27 rfl (by kernel_rfl) (by kernel_rfl) rfl fun M0 w0 => ?_
      simp only [Tryz.ntmps27, Tryz.results27, enumA]
      by_cases h0 : R = 0
      · rw [if_neg (by simpa using h0)]
        subst h0
        have hR2 := HR.out
        clear HR
        repeat' (first | (with_reducible first | refine vseq ?_ | refine vthenN ?_ | refine vthenE ?_ | refine vthenR ?_ | refine vret ?_ | refine vskip ?_ | refine vexit ?_ | refine vblock ?_ | refine vblockN ?_ | refine vblockR ?_ | refine vblockH ?_ | refine vrun_nil ?_ | refine vblockE rfl ?_ | refine vregion [] ?_ | refine vhrun_nil ?_) | ((with_reducible refine vcondT ?_ ?_); (focus (go_simp; done))) | ((with_reducible refine vcondF ?_ ?_); (focus (go_simp; done))) | ((with_reducible first | refine vrun_cons fun KK hKK => ?_ | refine vhrun_cons fun KK hKK => ?_); go_simp; (first | (with_reducible refine ⟨_, g1, ?_⟩) | (refine ⟨_, g2, ?_⟩) | (with_reducible refine ⟨_, g3, ?_⟩) | (refine ⟨_, g4, ?_⟩) | (with_reducible refine ⟨_, n1, ?_⟩) | (with_reducible refine ⟨_, n2, ?_⟩) | (with_reducible refine ⟨_, n3, ?_⟩) | (with_reducible refine ⟨_, p_unless _ _, ?_⟩) | (with_reducible refine ⟨_, p_isDate _, ?_⟩) | (refine ⟨_, p_firstA _ rfl rfl, ?_⟩) | skip); refine hKK _ ?_; clear hKK KK) | ((refine vdrawL 6 6 [] rfl (by kernel_rfl) (by kernel_rfl) ?_); simp only [List.take, List.drop]) | ((refine vdrawL 14 12 [] rfl (by kernel_rfl) (by kernel_rfl) ?_); simp only [List.take, List.drop]) | ((refine vdrawL 29 29 [] rfl (by kernel_rfl) (by kernel_rfl) ?_); simp only [List.take, List.drop]) | ((with_reducible refine vcondS ?_ (fun ht => ?_) (fun ht => ?_)); (focus (go_simp; done)); (all_goals (simp [go_sem] at ht; replace ht := ht.out))) | ((apply vrun_consG0 rfl); (focus (go_simp <;> exact rfl)); (focus (go_simp; done)); (focus (intro hb0; replace hb0 := hb0.out; go_simp <;> (first | exact rfl | exact g1 | exact g2 | exact g3 | exact g4 | exact n1 | exact n2 | exact n3 | exact p_unless _ _ | exact p_isDate _ | exact p_firstA _ rfl rfl | exact ⟨g1, rfl⟩ | exact ⟨g2, rfl⟩ | exact ⟨g3, rfl⟩ | exact ⟨g4, rfl⟩ | exact ⟨n1, rfl⟩ | exact ⟨n2, rfl⟩ | exact ⟨n3, rfl⟩ | exact ⟨p_unless _ _, rfl⟩ | exact ⟨p_isDate _, rfl⟩ | exact ⟨p_firstA _ rfl rfl, rfl⟩))); intro KK hKK; go_simp; refine hKK _ ?_; clear hKK KK) | ((apply vhrun_consG0 rfl); (focus (go_simp <;> exact rfl)); (focus (intro hb0; replace hb0 := hb0.out; go_simp <;> (first | exact rfl | exact g1 | exact g2 | exact g3 | exact g4 | exact n1 | exact n2 | exact n3 | exact p_unless _ _ | exact p_isDate _ | exact p_firstA _ rfl rfl | exact ⟨g1, rfl⟩ | exact ⟨g2, rfl⟩ | exact ⟨g3, rfl⟩ | exact ⟨g4, rfl⟩ | exact ⟨n1, rfl⟩ | exact ⟨n2, rfl⟩ | exact ⟨n3, rfl⟩ | exact ⟨p_unless _ _, rfl⟩ | exact ⟨p_isDate _, rfl⟩ | exact ⟨p_firstA _ rfl rfl, rfl⟩))); intro KK hKK; go_simp; refine hKK _ ?_; clear hKK KK))
        go_simp
      · rw [if_pos h0]
        have hR2 := HR.out
        clear HR
        repeat' (first | (with_reducible first | refine vseq ?_ | refine vthenN ?_ | refine vthenE ?_ | refine vthenR ?_ | refine vret ?_ | refine vskip ?_ | refine vexit ?_ | refine vblock ?_ | refine vblockN ?_ | refine vblockR ?_ | refine vblockH ?_ | refine vrun_nil ?_ | refine vblockE rfl ?_ | refine vregion [] ?_ | refine vhrun_nil ?_) | ((with_reducible refine vcondT ?_ ?_); (focus (go_simp; done))) | ((with_reducible refine vcondF ?_ ?_); (focus (go_simp; done))) | ((with_reducible first | refine vrun_cons fun KK hKK => ?_ | refine vhrun_cons fun KK hKK => ?_); go_simp; (first | (with_reducible refine ⟨_, g1, ?_⟩) | (refine ⟨_, g2, ?_⟩) | (with_reducible refine ⟨_, g3, ?_⟩) | (refine ⟨_, g4, ?_⟩) | (with_reducible refine ⟨_, n1, ?_⟩) | (with_reducible refine ⟨_, n2, ?_⟩) | (with_reducible refine ⟨_, n3, ?_⟩) | (with_reducible refine ⟨_, p_unless _ _, ?_⟩) | (with_reducible refine ⟨_, p_isDate _, ?_⟩) | (refine ⟨_, p_firstA _ rfl rfl, ?_⟩) | skip); refine hKK _ ?_; clear hKK KK) | ((refine vdrawL 6 6 [] rfl (by kernel_rfl) (by kernel_rfl) ?_); simp only [List.take, List.drop]) | ((refine vdrawL 14 12 [] rfl (by kernel_rfl) (by kernel_rfl) ?_); simp only [List.append, List.take, List.drop]) | ((refine vdrawL 29 29 [] rfl (by kernel_rfl) (by kernel_rfl) ?_); simp only [List.take, List.drop]) | ((with_reducible refine vcondS ?_ (fun ht => ?_) (fun ht => ?_)); (focus (go_simp; done)); (all_goals (simp [go_sem] at ht; replace ht := ht.out))) | ((apply vrun_consG0 rfl); (focus (go_simp <;> exact rfl)); (focus (go_simp; done)); (focus (intro hb0; replace hb0 := hb0.out; go_simp <;> (first | exact rfl | exact g1 | exact g2 | exact g3 | exact g4 | exact n1 | exact n2 | exact n3 | exact p_unless _ _ | exact p_isDate _ | exact p_firstA _ rfl rfl | exact ⟨g1, rfl⟩ | exact ⟨g2, rfl⟩ | exact ⟨g3, rfl⟩ | exact ⟨g4, rfl⟩ | exact ⟨n1, rfl⟩ | exact ⟨n2, rfl⟩ | exact ⟨n3, rfl⟩ | exact ⟨p_unless _ _, rfl⟩ | exact ⟨p_isDate _, rfl⟩ | exact ⟨p_firstA _ rfl rfl, rfl⟩))); intro KK hKK; go_simp; refine hKK _ ?_; clear hKK KK) | ((apply vhrun_consG0 rfl); (focus (go_simp <;> exact rfl)); (focus (intro hb0; replace hb0 := hb0.out; go_simp <;> (first | exact rfl | exact g1 | exact g2 | exact g3 | exact g4 | exact n1 | exact n2 | exact n3 | exact p_unless _ _ | exact p_isDate _ | exact p_firstA _ rfl rfl | exact ⟨g1, rfl⟩ | exact ⟨g2, rfl⟩ | exact ⟨g3, rfl⟩ | exact ⟨g4, rfl⟩ | exact ⟨n1, rfl⟩ | exact ⟨n2, rfl⟩ | exact ⟨n3, rfl⟩ | exact ⟨p_unless _ _, rfl⟩ | exact ⟨p_isDate _, rfl⟩ | exact ⟨p_firstA _ rfl rfl, rfl⟩))); intro KK hKK; go_simp; refine hKK _ ?_; clear hKK KK))
        go_simp
    · rw [if_pos (.inr rfl)]
      rw [hE] at g2
      clear hz he hE
      refine VC_of Tryz.func27 rfl (by kernel_rfl) (by kernel_rfl) rfl fun M0 w0 => ?_
      simp only [Tryz.ntmps27, Tryz.results27, enumA]
      repeat' (first | (with_reducible first | refine vseq ?_ | refine vthenN ?_ | refine vthenE ?_ | refine vthenR ?_ | refine vret ?_ | refine vskip ?_ | refine vexit ?_ | refine vblock ?_ | refine vblockN ?_ | refine vblockR ?_ | refine vblockH ?_ | refine vrun_nil ?_ | refine vblockE rfl ?_ | refine vregion [] ?_ | refine vhrun_nil ?_) | ((with_reducible refine vcondT ?_ ?_); (focus (go_simp; done))) | ((with_reducible refine vcondF ?_ ?_); (focus (go_simp; done))) | ((with_reducible first | refine vrun_cons fun KK hKK => ?_ | refine vhrun_cons fun KK hKK => ?_); go_simp; (first | (with_reducible refine ⟨_, g1, ?_⟩) | (refine ⟨_, g2, ?_⟩) | skip); refine hKK _ ?_; clear hKK KK) | ((refine vdrawL 6 6 [] rfl (by kernel_rfl) (by kernel_rfl) ?_); simp only [List.append, List.take, List.drop]) | ((refine vdrawL 14 12 [] rfl (by kernel_rfl) (by kernel_rfl) ?_); simp only [List.append, List.take, List.drop]) | ((refine vdrawL 29 29 [] rfl (by kernel_rfl) (by kernel_rfl) ?_); simp only [List.append, List.take, List.drop]) | ((with_reducible refine vcondS ?_ (fun ht => ?_) (fun ht => ?_)); (focus (go_simp; done)); (all_goals (simp [go_sem] at ht; replace ht := ht.out))) | ((apply vrun_consG0 rfl); (focus (go_simp <;> exact rfl)); (focus (go_simp; done)); (focus (intro hb0; replace hb0 := hb0.out; go_simp <;> (first | exact rfl | exact g1 | exact g2 | exact ⟨g1, rfl⟩ | exact ⟨g2, rfl⟩))); intro KK hKK; go_simp; refine hKK _ ?_; clear hKK KK) | ((apply vhrun_consG0 rfl); (focus (go_simp <;> exact rfl)); (focus (intro hb0; replace hb0 := hb0.out; go_simp <;> (first | exact rfl | exact g1 | exact g2 | exact ⟨g1, rfl⟩ | exact ⟨g2, rfl⟩))); intro KK hKK; go_simp; refine hKK _ ?_; clear hKK KK))
      go_simp
  · rw [if_pos (.inl h5)]
    have h5i : ¬ (w.length : Int) = 5 := by omega
    clear hz he
    refine VC_of Tryz.func27 rfl (by kernel_rfl) (by kernel_rfl) rfl fun M0 w0 => ?_
    simp only [Tryz.ntmps27, Tryz.results27, enumA]
    repeat' (first | (with_reducible first | refine vseq ?_ | refine vthenN ?_ | refine vthenE ?_ | refine vthenR ?_ | refine vret ?_ | refine vskip ?_ | refine vexit ?_ | refine vblock ?_ | refine vblockN ?_ | refine vblockR ?_ | refine vblockH ?_ | refine vrun_nil ?_ | refine vblockE rfl ?_ | refine vregion [] ?_ | refine vhrun_nil ?_) | ((with_reducible refine vcondT ?_ ?_); (focus (go_simp; done))) | ((with_reducible refine vcondF ?_ ?_); (focus (go_simp; done))) | ((with_reducible first | refine vrun_cons fun KK hKK => ?_ | refine vhrun_cons fun KK hKK => ?_); go_simp; (first | (with_reducible refine ⟨_, g1, ?_⟩) | skip); refine hKK _ ?_; clear hKK KK) | ((refine vdrawL 6 6 [] rfl (by kernel_rfl) (by kernel_rfl) ?_); simp only [List.append, List.take, List.drop]) | ((refine vdrawL 14 12 [] rfl (by kernel_rfl) (by kernel_rfl) ?_); simp only [List.append, List.take, List.drop]) | ((refine vdrawL 29 29 [] rfl (by kernel_rfl) (by kernel_rfl) ?_); simp only [List.append, List.take, List.drop]) | ((with_reducible refine vcondS ?_ (fun ht => ?_) (fun ht => ?_)); (focus (go_simp; done)); (all_goals (simp [go_sem] at ht; replace ht := ht.out))) | ((apply vrun_consG0 rfl); (focus (go_simp <;> exact rfl)); (focus (go_simp; done)); (focus (intro hb0; replace hb0 := hb0.out; go_simp <;> (first | exact rfl | exact g1 | exact ⟨g1, rfl⟩))); intro KK hKK; go_simp; refine hKK _ ?_; clear hKK KK) | ((apply vhrun_consG0 rfl); (focus (go_simp <;> exact rfl)); (focus (intro hb0; replace hb0 := hb0.out; go_simp <;> (first | exact rfl | exact g1 | exact ⟨g1, rfl⟩))); intro KK hKK; go_simp; refine hKK _ ?_; clear hKK KK))
    go_simp
end Go.Proofs.YthbgghmjbaldlaaGreatDoor
