/- Texts in one: Walks on plain values: lists of claims, as the reference has them; texts of at most 1000 bytes. -/
import Derived.Test.YthbgghmjbaldlaaFO19
/-! QMc: Walks on plain values: lists of claims, as the reference has them; texts of at most 1000 bytes. -/
namespace Go.Proofs.Ythbgghmjbaldlaa
open Go.RowKit
set_option maxRecDepth 100000
set_option maxHeartbeats 1000000
theorem r_ClaimsErr (l : List Item) (h : SmallX l) : VC Try.prog 22 [itemsA l] (I (itemsErr l)) := by
  obtain ⟨R, hR⟩ : ∃ R, itemsErr l = R := ⟨_, rfl⟩
  rw [hR]
  rw [itemsErr_eq] at hR
  have HR := Lib.hid hR
  have H := Lib.hid h
  have hfew := h.few
  clear hR h
  refine VC_of Try.func22 rfl (by kernel_rfl) (by kernel_rfl) rfl fun M0 w0 => ?_
  simp only [Try.ntmps22, Try.results22, enumA]
  by_cases h12 : (12 : Int) < l.length
  · have e := HR.out
    rw [if_pos h12] at e
    subst e
    repeat' (first | (with_reducible first | refine vseq ?_ | refine vthenN ?_ | refine vthenE ?_ | refine vthenR ?_ | refine vret ?_ | refine vskip ?_ | refine vexit ?_ | refine vblock ?_ | refine vblockN ?_ | refine vblockR ?_ | refine vblockH ?_ | refine vrun_nil ?_ | refine vblockE rfl ?_ | refine vregion [] ?_ | refine vhrun_nil ?_) | ((with_reducible refine vcondT ?_ ?_); (focus (go_simp; done))) | ((with_reducible refine vcondF ?_ ?_); (focus (go_simp; done))) | ((with_reducible first | refine vrun_cons fun KK hKK => ?_ | refine vhrun_cons fun KK hKK => ?_); go_simp; refine hKK _ ?_; clear hKK KK) | ((with_reducible refine vcondS ?_ (fun ht => ?_) (fun ht => ?_)); (focus (go_simp; done)); (all_goals (simp [go_sem] at ht; replace ht := ht.out))))
    go_simp
  · repeat' (first | (with_reducible first | refine vseq ?_ | refine vthenN ?_ | refine vthenE ?_ | refine vthenR ?_ | refine vret ?_ | refine vskip ?_ | refine vexit ?_ | refine vblock ?_ | refine vblockN ?_ | refine vblockR ?_ | refine vblockH ?_ | refine vrun_nil ?_ | refine vblockE rfl ?_ | refine vregion [3] ?_ | refine vhrun_nil ?_) | ((with_reducible refine vcondT ?_ ?_); (focus (go_simp; done))) | ((with_reducible refine vcondF ?_ ?_); (focus (go_simp; done))) | ((with_reducible first | refine vrun_cons fun KK hKK => ?_ | refine vhrun_cons fun KK hKK => ?_); go_simp; refine hKK _ ?_; clear hKK KK) | ((with_reducible refine vcondS ?_ (fun ht => ?_) (fun ht => ?_)); (focus (go_simp; done)); (all_goals (simp [go_sem] at ht; replace ht := ht.out))))
    apply vfor [0] (fun k => [(4, I k), (3, .osl 0)]) (fun k => ([some (.arr 9 1 (decide (namesTo l k = [])) ((namesTo l k).map txtA))] : Hp)) (bad (listE l)) (l.length)
    · go_simp <;> exact rfl
    · go_simp
    · intro k hk HB HP K hK
      obtain ⟨w1, w2, w3, w4, w5, w6⟩ := ixs (m := k) (by omega)
      have hkl : k ≤ l.length := by omega
      have hnl := namesTo_len hkl
      have g1 := b_HasText (namesTo l k) l[k].name (by omega)
      rw [names_any hkl] at g1
      have g2 := r_CheckClaim l[k] (H.out.each _ (List.getElem_mem hk))
      have e := bad_no HP.out
      rw [listE_at hk] at e
      have e1 := fst_zero e (thingErr l[k]) (by simp)
      have e2 := unl_zero (fst_zero e (unl (!anyP (sameN l l[k]) 0 k) 5) (by simp)) (by decide)
      rw [Bool.not_eq_true'] at e2
      rw [e1] at g2
      rw [e2] at g1
      have hs := namesTo_succ hk
      have hb : (namesTo l k).length + 1 ≤ 1000000000 := by omega
      have HS := Lib.hid hs
      clear hs hnl e e1 e2
      repeat' (first | (with_reducible first | refine vseq ?_ | refine vthenN ?_ | refine vthenE ?_ | refine vthenR ?_ | refine vret ?_ | refine vskip ?_ | refine vexit ?_ | refine vblock ?_ | refine vblockN ?_ | refine vblockR ?_ | refine vblockH ?_ | refine vrun_nil ?_ | refine vblockE rfl ?_ | refine vregion [] ?_ | refine vhrun_nil ?_) | ((with_reducible refine vcondT ?_ ?_); (focus (go_simp; done))) | ((with_reducible refine vcondF ?_ ?_); (focus (go_simp; done))) | ((with_reducible first | refine vrun_cons fun KK hKK => ?_ | refine vhrun_cons fun KK hKK => ?_); go_simp; (first | (with_reducible refine ⟨_, g2, ?_⟩) | (refine ⟨_, ⟨g1, rfl⟩, ?_⟩) | skip); refine hKK _ ?_; clear hKK KK) | ((with_reducible refine vcondS ?_ (fun ht => ?_) (fun ht => ?_)); (focus (go_simp; done)); (all_goals (simp [go_sem] at ht; replace ht := ht.out))))
      refine hK _ ?_
      rw [HS.out]
      go_simp
    · intro k hk HB HP K
      have hkl : k ≤ l.length := by omega
      have hnl := namesTo_len hkl
      have g1 := b_HasText (namesTo l k) l[k].name (by omega)
      rw [names_any hkl] at g1
      have g2 := r_CheckClaim l[k] (H.out.each _ (List.getElem_mem hk))
      have e := HR.out
      rw [if_neg h12, firstErr_hit hk HB.out HP.out] at e
      have hne := bad_yes HP.out
      simp only at e
      rw [e] at hne
      rw [listE_at hk] at e
      clear hnl
      generalize thingErr l[k] = T at *
      by_cases hT : T = 0
      · subst hT
        cases ha : anyP (sameN l l[k]) 0 k
        · rw [ha] at e
          exact absurd e.symm hne
        · rw [ha] at e g1
          have e5 : R = 5 := e.symm
          subst e5
          clear e
          repeat' (first | (with_reducible first | refine vseq ?_ | refine vthenN ?_ | refine vthenE ?_ | refine vthenR ?_ | refine vret ?_ | refine vskip ?_ | refine vexit ?_ | refine vblock ?_ | refine vblockN ?_ | refine vblockR ?_ | refine vblockH ?_ | refine vrun_nil ?_ | refine vblockE rfl ?_ | refine vregion [] ?_ | refine vhrun_nil ?_) | ((with_reducible refine vcondT ?_ ?_); (focus (go_simp; done))) | ((with_reducible refine vcondF ?_ ?_); (focus (go_simp; done))) | ((with_reducible first | refine vrun_cons fun KK hKK => ?_ | refine vhrun_cons fun KK hKK => ?_); go_simp; (first | (with_reducible refine ⟨_, g2, ?_⟩) | (refine ⟨_, ⟨g1, rfl⟩, ?_⟩) | skip); refine hKK _ ?_; clear hKK KK) | ((with_reducible refine vcondS ?_ (fun ht => ?_) (fun ht => ?_)); (focus (go_simp; done)); (all_goals (simp [go_sem] at ht; replace ht := ht.out))))
          go_simp
      · have e5 : R = T := by rw [← e]; simp [fst, hT]
        subst e5
        clear e
        repeat' (first | (with_reducible first | refine vseq ?_ | refine vthenN ?_ | refine vthenE ?_ | refine vthenR ?_ | refine vret ?_ | refine vskip ?_ | refine vexit ?_ | refine vblock ?_ | refine vblockN ?_ | refine vblockR ?_ | refine vblockH ?_ | refine vrun_nil ?_ | refine vblockE rfl ?_ | refine vregion [] ?_ | refine vhrun_nil ?_) | ((with_reducible refine vcondT ?_ ?_); (focus (go_simp; done))) | ((with_reducible refine vcondF ?_ ?_); (focus (go_simp; done))) | ((with_reducible first | refine vrun_cons fun KK hKK => ?_ | refine vhrun_cons fun KK hKK => ?_); go_simp; (first | (with_reducible refine ⟨_, g2, ?_⟩) | skip); refine hKK _ ?_; clear hKK KK) | ((with_reducible refine vcondS ?_ (fun ht => ?_) (fun ht => ?_)); (focus (go_simp; done)); (all_goals (simp [go_sem] at ht; replace ht := ht.out))))
        go_simp
    · intro HB K
      have e := HR.out
      rw [if_neg h12, firstErr_out HB.out] at e
      subst e
      repeat (first | (with_reducible first | refine vseq ?_ | refine vthenN ?_ | refine vthenE ?_ | refine vthenR ?_ | refine vret ?_ | refine vskip ?_ | refine vexit ?_ | refine vblock ?_ | refine vblockN ?_ | refine vblockR ?_ | refine vblockH ?_ | refine vrun_nil ?_ | refine vblockE rfl ?_ | refine vregion [] ?_ | refine vhrun_nil ?_) | ((with_reducible refine vcondT ?_ ?_); (focus (go_simp; done))) | ((with_reducible refine vcondF ?_ ?_); (focus (go_simp; done))) | ((with_reducible first | refine vrun_cons fun KK hKK => ?_ | refine vhrun_cons fun KK hKK => ?_); go_simp; refine hKK _ ?_; clear hKK KK))
      go_simp
end Go.Proofs.Ythbgghmjbaldlaa
