/- Texts in one: Walks on plain values: marks, items, claims; texts of at most 1000 bytes. -/
import Derived.Test.YthbgghmjbaldlaaGreatDoorFK6
/-! QB: Walks on plain values: marks, items, claims; texts of at most 1000 bytes. -/
namespace Go.Proofs.YthbgghmjbaldlaaGreatDoor
open Go.RowKit
set_option maxRecDepth 100000
theorem markE_at {l : List Mark} {k : Nat} (hk : k < l.length) : markE l k = fst [unl (isName l[k].key && isName l[k].value) 4, unl (decide (k = 0) || gtB l[k].key (bef l k)) 9] := by
  unfold markE bef
  rw [mat_get hk]
  by_cases h0 : k = 0
  · simp [h0]
  · rw [if_neg h0]
theorem bef_next {l : List Mark} {k : Nat} (hk : k < l.length) : bef l (k + 1) = l[k].key := by
  unfold bef
  rw [if_neg (by omega), Nat.add_sub_cancel, mat_get hk]
theorem p_CheckMarks (l : List Mark) (hl : l.length ≤ 1000000) (hd : SmallM l) : VC Tryz.prog 170 [marksA l] (.tup [I (checkMarks l).1, I (checkMarks l).2]) := by
  obtain ⟨R, hR⟩ : ∃ R, checkMarks l = R := ⟨_, rfl⟩
  rw [hR]
  obtain ⟨Rk, Re⟩ := R
  unfold checkMarks checkL at hR
  have HR := Lib.hid hR
  have HD := Lib.hid hd
  clear hR hd
  refine VC_of Tryz.func170 rfl (by kernel_rfl) (by kernel_rfl) rfl fun M0 w0 => ?_
  simp only [Tryz.ntmps170, Tryz.results170, enumA]
  by_cases h8 : (8 : Int) < l.length
  · repeat (first | (with_reducible first | refine vseq ?_ | refine vthenN ?_ | refine vthenE ?_ | refine vthenR ?_ | refine vret ?_ | refine vskip ?_ | refine vexit ?_ | refine vblock ?_ | refine vblockN ?_ | refine vblockR ?_ | refine vblockH ?_ | refine vrun_nil ?_ | refine vblockE rfl ?_ | refine vregion [] ?_ | refine vhrun_nil ?_) | ((with_reducible refine vcondT ?_ ?_); (focus (go_simp; done))) | ((with_reducible refine vcondF ?_ ?_); (focus (go_simp; done))) | ((with_reducible first | refine vrun_cons fun KK hKK => ?_ | refine vhrun_cons fun KK hKK => ?_); go_simp; refine hKK _ ?_; clear hKK KK))
    have e := HR.out
    rw [if_pos (by omega)] at e
    injection e with e1 e2
    subst e1 e2
    go_simp
  · repeat (first | (with_reducible first | refine vseq ?_ | refine vthenN ?_ | refine vthenE ?_ | refine vthenR ?_ | refine vret ?_ | refine vskip ?_ | refine vexit ?_ | refine vblock ?_ | refine vblockN ?_ | refine vblockR ?_ | refine vblockH ?_ | refine vrun_nil ?_ | refine vblockE rfl ?_ | refine vregion [] ?_ | refine vhrun_nil ?_) | ((with_reducible refine vcondT ?_ ?_); (focus (go_simp; done))) | ((with_reducible refine vcondF ?_ ?_); (focus (go_simp; done))) | ((with_reducible first | refine vrun_cons fun KK hKK => ?_ | refine vhrun_cons fun KK hKK => ?_); go_simp; refine hKK _ ?_; clear hKK KK))
    apply vfor [11, 12] (fun k => [(13, I k), (4, S (bef l k))]) (fun _ => []) (bad (markE l)) l.length
    · go_simp <;> exact rfl
    · go_simp
      rfl
    · intro k hk HB HP K hK
      have hw := wrap_eq (x := (k : Int) + 1) (by omega) (by omega)
      have hs := HD.out.at_ hk
      have g1 := p_isName l[k].key hs.1
      have g2 := p_isName l[k].value hs.2
      have g3 := p_first [unl (isName l[k].key && isName l[k].value) 4, unl (decide (k = 0) || gtB l[k].key (bef l k)) 9] (by simp)
      rw [← markE_at hk, bad_no HP.out] at g3
      unfold gtB at g3
      have HN := Lib.hid (bef_next hk)
      have G3 := Lib.hid g3
      clear g3 hs
      repeat' (first | (with_reducible first | refine vseq ?_ | refine vthenN ?_ | refine vthenE ?_ | refine vthenR ?_ | refine vret ?_ | refine vskip ?_ | refine vexit ?_ | refine vblock ?_ | refine vblockN ?_ | refine vblockR ?_ | refine vblockH ?_ | refine vrun_nil ?_ | refine vblockE rfl ?_ | refine vregion [] ?_ | refine vhrun_nil ?_) | ((with_reducible refine vcondT ?_ ?_); (focus (go_simp; done))) | ((with_reducible refine vcondF ?_ ?_); (focus (go_simp; done))) | ((with_reducible first | refine vrun_cons fun KK hKK => ?_ | refine vhrun_cons fun KK hKK => ?_); go_simp; (first | (with_reducible refine ⟨_, g1, ?_⟩) | (with_reducible refine ⟨_, g2, ?_⟩) | (with_reducible refine ⟨_, p_unless _ _, ?_⟩) | (refine ⟨_, G3.out, ?_⟩) | skip); refine hKK _ ?_; clear hKK KK) | ((with_reducible refine vcondS ?_ (fun ht => ?_) (fun ht => ?_)); (focus (go_simp; done)); (all_goals (simp [go_sem] at ht; replace ht := ht.out))) | ((apply vrun_consG0 rfl); (focus (go_simp <;> exact rfl)); (focus (go_simp; done)); (focus (intro hb0; replace hb0 := hb0.out; go_simp <;> (first | exact rfl | exact g1 | exact g2 | exact p_unless _ _ | exact G3.out | exact ⟨g1, rfl⟩ | exact ⟨g2, rfl⟩ | exact ⟨p_unless _ _, rfl⟩ | exact ⟨G3.out, rfl⟩))); intro KK hKK; go_simp; refine hKK _ ?_; clear hKK KK))
      refine hK _ ?_
      rw [HN.out]
      go_simp
    · intro k hk HB HP K
      have hs := HD.out.at_ hk
      have g1 := p_isName l[k].key hs.1
      have g2 := p_isName l[k].value hs.2
      have g3 := p_first [unl (isName l[k].key && isName l[k].value) 4, unl (decide (k = 0) || gtB l[k].key (bef l k)) 9] (by simp)
      have e := HR.out
      rw [if_neg (by omega), firstErr_hit hk HB.out HP.out] at e
      injection e with e1 e2
      rw [← markE_at hk, e2] at g3
      have he := bad_yes HP.out
      rw [e2] at he
      unfold gtB at g3
      have G3 := Lib.hid g3
      subst e1
      clear g3 hs e2
      repeat' (first | (with_reducible first | refine vseq ?_ | refine vthenN ?_ | refine vthenE ?_ | refine vthenR ?_ | refine vret ?_ | refine vskip ?_ | refine vexit ?_ | refine vblock ?_ | refine vblockN ?_ | refine vblockR ?_ | refine vblockH ?_ | refine vrun_nil ?_ | refine vblockE rfl ?_ | refine vregion [] ?_ | refine vhrun_nil ?_) | ((with_reducible refine vcondT ?_ ?_); (focus (go_simp; done))) | ((with_reducible refine vcondF ?_ ?_); (focus (go_simp; done))) | ((with_reducible first | refine vrun_cons fun KK hKK => ?_ | refine vhrun_cons fun KK hKK => ?_); go_simp; (first | (with_reducible refine ⟨_, g1, ?_⟩) | (with_reducible refine ⟨_, g2, ?_⟩) | (with_reducible refine ⟨_, p_unless _ _, ?_⟩) | (refine ⟨_, G3.out, ?_⟩) | skip); refine hKK _ ?_; clear hKK KK) | ((with_reducible refine vcondS ?_ (fun ht => ?_) (fun ht => ?_)); (focus (go_simp; done)); (all_goals (simp [go_sem] at ht; replace ht := ht.out))) | ((apply vrun_consG0 rfl); (focus (go_simp <;> exact rfl)); (focus (go_simp; done)); (focus (intro hb0; replace hb0 := hb0.out; go_simp <;> (first | exact rfl | exact g1 | exact g2 | exact p_unless _ _ | exact G3.out | exact ⟨g1, rfl⟩ | exact ⟨g2, rfl⟩ | exact ⟨p_unless _ _, rfl⟩ | exact ⟨G3.out, rfl⟩))); intro KK hKK; go_simp; refine hKK _ ?_; clear hKK KK))
      go_simp
    · intro HB K
      have e := HR.out
      rw [if_neg (by omega), firstErr_out HB.out] at e
      injection e with e1 e2
      subst e1 e2
      repeat (first | (with_reducible first | refine vseq ?_ | refine vthenN ?_ | refine vthenE ?_ | refine vthenR ?_ | refine vret ?_ | refine vskip ?_ | refine vexit ?_ | refine vblock ?_ | refine vblockN ?_ | refine vblockR ?_ | refine vblockH ?_ | refine vrun_nil ?_ | refine vblockE rfl ?_ | refine vregion [] ?_ | refine vhrun_nil ?_) | ((with_reducible refine vcondT ?_ ?_); (focus (go_simp; done))) | ((with_reducible refine vcondF ?_ ?_); (focus (go_simp; done))) | ((with_reducible first | refine vrun_cons fun KK hKK => ?_ | refine vhrun_cons fun KK hKK => ?_); go_simp; refine hKK _ ?_; clear hKK KK))
      go_simp
theorem r_CheckMarks (l : List Mark) (hl : l.length ≤ 1000000) (hd : SmallM l) : VC Tryz.prog 151 [marksA l] (.tup [I (checkMarks l).1, I (checkMarks l).2]) := by
  obtain ⟨R, hR⟩ : ∃ R, checkMarks l = R := ⟨_, rfl⟩
  rw [hR]
  obtain ⟨Rk, Re⟩ := R
  unfold checkMarks checkL at hR
  have HR := Lib.hid hR
  have HD := Lib.hid hd
  clear hR hd
  refine VC_of Tryz.func151 rfl (by kernel_rfl) (by kernel_rfl) rfl fun M0 w0 => ?_
  simp only [Tryz.ntmps151, Tryz.results151, enumA]
  by_cases h8 : (8 : Int) < l.length
  · repeat (first | (with_reducible first | refine vseq ?_ | refine vthenN ?_ | refine vthenE ?_ | refine vthenR ?_ | refine vret ?_ | refine vskip ?_ | refine vexit ?_ | refine vblock ?_ | refine vblockN ?_ | refine vblockR ?_ | refine vblockH ?_ | refine vrun_nil ?_ | refine vblockE rfl ?_ | refine vregion [] ?_ | refine vhrun_nil ?_) | ((with_reducible refine vcondT ?_ ?_); (focus (go_simp; done))) | ((with_reducible refine vcondF ?_ ?_); (focus (go_simp; done))) | ((with_reducible first | refine vrun_cons fun KK hKK => ?_ | refine vhrun_cons fun KK hKK => ?_); go_simp; refine hKK _ ?_; clear hKK KK) | ((refine vdrawL 16 16 [] rfl (by kernel_rfl) (by kernel_rfl) ?_); simp only [List.append, List.take, List.drop]))
    have e := HR.out
    rw [if_pos (by omega)] at e
    injection e with e1 e2
    subst e1 e2
    go_simp
  · repeat (first | (with_reducible first | refine vseq ?_ | refine vthenN ?_ | refine vthenE ?_ | refine vthenR ?_ | refine vret ?_ | refine vskip ?_ | refine vexit ?_ | refine vblock ?_ | refine vblockN ?_ | refine vblockR ?_ | refine vblockH ?_ | refine vrun_nil ?_ | refine vblockE rfl ?_ | refine vregion [] ?_ | refine vhrun_nil ?_) | ((with_reducible refine vcondT ?_ ?_); (focus (go_simp; done))) | ((with_reducible refine vcondF ?_ ?_); (focus (go_simp; done))) | ((with_reducible first | refine vrun_cons fun KK hKK => ?_ | refine vhrun_cons fun KK hKK => ?_); go_simp; refine hKK _ ?_; clear hKK KK) | ((refine vdrawL 16 16 [] rfl (by kernel_rfl) (by kernel_rfl) ?_); simp only [List.append, List.take, List.drop]))
    apply vfor [0] (fun k => [(4, I k)]) (fun _ => []) (bad (markE l)) l.length
    · go_simp <;> exact rfl
    · go_simp
    · intro k hk HB HP K hK
      have hw := wrap_eq (x := (k : Int) + 1) (by omega) (by omega)
      have hs := HD.out.at_ hk
      have g1 := b_isName l[k].key (by omega)
      have g2 := b_isName l[k].value (by omega)
      have hE := bad_no HP.out
      unfold markE at hE
      rw [mat_get hk] at hE
      cases n1 : isName l[k].key
      · rw [n1] at hE
        simp [fst, unl] at hE
      · cases n2 : isName l[k].value
        · rw [n1, n2] at hE
          simp [fst, unl] at hE
        · rw [n1, n2] at hE
          rw [n1] at g1
          rw [n2] at g2
          rcases k with _ | m
          · clear hE HD HR hs
            repeat' (first | (with_reducible first | refine vseq ?_ | refine vthenN ?_ | refine vthenE ?_ | refine vthenR ?_ | refine vret ?_ | refine vskip ?_ | refine vexit ?_ | refine vblock ?_ | refine vblockN ?_ | refine vblockR ?_ | refine vblockH ?_ | refine vrun_nil ?_ | refine vblockE rfl ?_ | refine vregion [] ?_ | refine vhrun_nil ?_) | ((with_reducible refine vcondT ?_ ?_); (focus (go_simp; done))) | ((with_reducible refine vcondF ?_ ?_); (focus (go_simp; done))) | ((with_reducible first | refine vrun_cons fun KK hKK => ?_ | refine vhrun_cons fun KK hKK => ?_); go_simp; (first | (with_reducible refine ⟨_, g1, ?_⟩) | (with_reducible refine ⟨_, g2, ?_⟩) | skip); refine hKK _ ?_; clear hKK KK) | ((refine vdrawL 16 16 [] rfl (by kernel_rfl) (by kernel_rfl) ?_); simp only [List.take, List.drop]) | ((with_reducible refine vcondS ?_ (fun ht => ?_) (fun ht => ?_)); (focus (go_simp; done)); (all_goals (simp [go_sem] at ht; replace ht := ht.out))) | ((apply vrun_consG0 rfl); (focus (go_simp <;> exact rfl)); (focus (go_simp; done)); (focus (intro hb0; replace hb0 := hb0.out; go_simp <;> (first | exact rfl | exact g1 | exact g2 | exact ⟨g1, rfl⟩ | exact ⟨g2, rfl⟩))); intro KK hKK; go_simp; refine hKK _ ?_; clear hKK KK) | ((apply vhrun_consG0 rfl); (focus (go_simp <;> exact rfl)); (focus (intro hb0; replace hb0 := hb0.out; go_simp <;> (first | exact rfl | exact g1 | exact g2 | exact ⟨g1, rfl⟩ | exact ⟨g2, rfl⟩))); intro KK hKK; go_simp; refine hKK _ ?_; clear hKK KK))
            refine hK _ ?_
            go_simp
          · have hm : m < l.length := by omega
            rw [Nat.add_sub_cancel, mat_get hm] at hE
            have hgt : (Op.bytesLess l[m + 1].key.toList l[m].key.toList || decide (l[m + 1].key = l[m].key)) = false := by
              cases hc : (Op.bytesLess l[m + 1].key.toList l[m].key.toList || decide (l[m + 1].key = l[m].key))
              · rfl
              · rw [Bool.or_eq_true] at hc
                rcases hc with hc | hc <;> simp [fst, unl, gtB, hc] at hE
            obtain ⟨w1, w2, w3, w4, w5, w6⟩ := ixs (m := m) (by omega)
            have hki : (m : Int) + 1 < l.length := by omega
            clear hE HD HR hs
            repeat' (first | (with_reducible first | refine vseq ?_ | refine vthenN ?_ | refine vthenE ?_ | refine vthenR ?_ | refine vret ?_ | refine vskip ?_ | refine vexit ?_ | refine vblock ?_ | refine vblockN ?_ | refine vblockR ?_ | refine vblockH ?_ | refine vrun_nil ?_ | refine vblockE rfl ?_ | refine vregion [] ?_ | refine vhrun_nil ?_) | ((with_reducible refine vcondT ?_ ?_); (focus (go_simp; done))) | ((with_reducible refine vcondF ?_ ?_); (focus (go_simp; done))) | ((with_reducible first | refine vrun_cons fun KK hKK => ?_ | refine vhrun_cons fun KK hKK => ?_); go_simp; (first | (with_reducible refine ⟨_, g1, ?_⟩) | (with_reducible refine ⟨_, g2, ?_⟩) | skip); refine hKK _ ?_; clear hKK KK) | ((refine vdrawL 16 16 [] rfl (by kernel_rfl) (by kernel_rfl) ?_); simp only [List.take, List.drop]) | ((with_reducible refine vcondS ?_ (fun ht => ?_) (fun ht => ?_)); (focus (go_simp; done)); (all_goals (simp [go_sem] at ht; replace ht := ht.out))) | ((apply vrun_consG0 rfl); (focus (go_simp <;> exact rfl)); (focus (go_simp; done)); (focus (intro hb0; replace hb0 := hb0.out; go_simp <;> (first | exact rfl | exact g1 | exact g2 | exact ⟨g1, rfl⟩ | exact ⟨g2, rfl⟩))); intro KK hKK; go_simp; refine hKK _ ?_; clear hKK KK) | ((apply vhrun_consG0 rfl); (focus (go_simp <;> exact rfl)); (focus (intro hb0; replace hb0 := hb0.out; go_simp <;> (first | exact rfl | exact g1 | exact g2 | exact ⟨g1, rfl⟩ | exact ⟨g2, rfl⟩))); intro KK hKK; go_simp; refine hKK _ ?_; clear hKK KK))
            refine hK _ ?_
            go_simp
    · intro k hk HB HP K
      have hs := HD.out.at_ hk
      have g1 := b_isName l[k].key (by omega)
      have g2 := b_isName l[k].value (by omega)
      have e := HR.out
      rw [if_neg (by omega), firstErr_hit hk HB.out HP.out] at e
      injection e with e1 e2
      have hE := bad_yes HP.out
      subst e1
      unfold markE at hE e2
      rw [mat_get hk] at hE e2
      cases n1 : isName l[k].key
      · rw [n1] at e2 g1
        simp [fst, unl] at e2
        subst e2
        clear hE HD HR hs
        repeat' (first | (with_reducible first | refine vseq ?_ | refine vthenN ?_ | refine vthenE ?_ | refine vthenR ?_ | refine vret ?_ | refine vskip ?_ | refine vexit ?_ | refine vblock ?_ | refine vblockN ?_ | refine vblockR ?_ | refine vblockH ?_ | refine vrun_nil ?_ | refine vblockE rfl ?_ | refine vregion [] ?_ | refine vhrun_nil ?_) | ((with_reducible refine vcondT ?_ ?_); (focus (go_simp; done))) | ((with_reducible refine vcondF ?_ ?_); (focus (go_simp; done))) | ((with_reducible first | refine vrun_cons fun KK hKK => ?_ | refine vhrun_cons fun KK hKK => ?_); go_simp; (first | (with_reducible refine ⟨_, g1, ?_⟩) | (with_reducible refine ⟨_, g2, ?_⟩) | skip); refine hKK _ ?_; clear hKK KK) | ((refine vdrawL 16 16 [] rfl (by kernel_rfl) (by kernel_rfl) ?_); simp only [List.append, List.take, List.drop]) | ((with_reducible refine vcondS ?_ (fun ht => ?_) (fun ht => ?_)); (focus (go_simp; done)); (all_goals (simp [go_sem] at ht; replace ht := ht.out))) | ((apply vrun_consG0 rfl); (focus (go_simp <;> exact rfl)); (focus (go_simp; done)); (focus (intro hb0; replace hb0 := hb0.out; go_simp <;> (first | exact rfl | exact g1 | exact g2 | exact ⟨g1, rfl⟩ | exact ⟨g2, rfl⟩))); intro KK hKK; go_simp; refine hKK _ ?_; clear hKK KK) | ((apply vhrun_consG0 rfl); (focus (go_simp <;> exact rfl)); (focus (intro hb0; replace hb0 := hb0.out; go_simp <;> (first | exact rfl | exact g1 | exact g2 | exact ⟨g1, rfl⟩ | exact ⟨g2, rfl⟩))); intro KK hKK; go_simp; refine hKK _ ?_; clear hKK KK))
        go_simp
      · cases n2 : isName l[k].value
        · rw [n1, n2] at e2
          rw [n1] at g1
          rw [n2] at g2
          simp [fst, unl] at e2
          subst e2
          clear hE HD HR hs
          repeat' (first | (with_reducible first | refine vseq ?_ | refine vthenN ?_ | refine vthenE ?_ | refine vthenR ?_ | refine vret ?_ | refine vskip ?_ | refine vexit ?_ | refine vblock ?_ | refine vblockN ?_ | refine vblockR ?_ | refine vblockH ?_ | refine vrun_nil ?_ | refine vblockE rfl ?_ | refine vregion [] ?_ | refine vhrun_nil ?_) | ((with_reducible refine vcondT ?_ ?_); (focus (go_simp; done))) | ((with_reducible refine vcondF ?_ ?_); (focus (go_simp; done))) | ((with_reducible first | refine vrun_cons fun KK hKK => ?_ | refine vhrun_cons fun KK hKK => ?_); go_simp; (first | (with_reducible refine ⟨_, g1, ?_⟩) | (with_reducible refine ⟨_, g2, ?_⟩) | skip); refine hKK _ ?_; clear hKK KK) | ((refine vdrawL 16 16 [] rfl (by kernel_rfl) (by kernel_rfl) ?_); simp only [List.append, List.take, List.drop]) | ((with_reducible refine vcondS ?_ (fun ht => ?_) (fun ht => ?_)); (focus (go_simp; done)); (all_goals (simp [go_sem] at ht; replace ht := ht.out))) | ((apply vrun_consG0 rfl); (focus (go_simp <;> exact rfl)); (focus (go_simp; done)); (focus (intro hb0; replace hb0 := hb0.out; go_simp <;> (first | exact rfl | exact g1 | exact g2 | exact ⟨g1, rfl⟩ | exact ⟨g2, rfl⟩))); intro KK hKK; go_simp; refine hKK _ ?_; clear hKK KK) | ((apply vhrun_consG0 rfl); (focus (go_simp <;> exact rfl)); (focus (intro hb0; replace hb0 := hb0.out; go_simp <;> (first | exact rfl | exact g1 | exact g2 | exact ⟨g1, rfl⟩ | exact ⟨g2, rfl⟩))); intro KK hKK; go_simp; refine hKK _ ?_; clear hKK KK))
          go_simp
        · rw [n1, n2] at e2 hE
          rw [n1] at g1
          rw [n2] at g2
          rcases k with _ | m
          · simp [fst, unl] at hE
          · have hm : m < l.length := by omega
            rw [Nat.add_sub_cancel, mat_get hm] at hE e2
            have hgt : (Op.bytesLess l[m + 1].key.toList l[m].key.toList || decide (l[m + 1].key = l[m].key)) = true := by
              cases hc : (Op.bytesLess l[m + 1].key.toList l[m].key.toList || decide (l[m + 1].key = l[m].key))
              · rw [Bool.or_eq_false_iff] at hc
                simp [fst, unl, gtB, hc.1, hc.2] at hE
              · rfl
            have e3 : Re = 9 := by
              rw [← e2]
              have hgt := hgt
              rw [Bool.or_eq_true] at hgt
              rcases hgt with h | h <;> simp [fst, unl, gtB, h]
            subst e3
            obtain ⟨w1, w2, w3, w4, w5, w6⟩ := ixs (m := m) (by omega)
            have hki : (m : Int) + 1 < l.length := by omega
            clear hE HD HR hs e2
            repeat' (first | (with_reducible first | refine vseq ?_ | refine vthenN ?_ | refine vthenE ?_ | refine vthenR ?_ | refine vret ?_ | refine vskip ?_ | refine vexit ?_ | refine vblock ?_ | refine vblockN ?_ | refine vblockR ?_ | refine vblockH ?_ | refine vrun_nil ?_ | refine vblockE rfl ?_ | refine vregion [] ?_ | refine vhrun_nil ?_) | ((with_reducible refine vcondT ?_ ?_); (focus (go_simp; done))) | ((with_reducible refine vcondF ?_ ?_); (focus (go_simp; done))) | ((with_reducible first | refine vrun_cons fun KK hKK => ?_ | refine vhrun_cons fun KK hKK => ?_); go_simp; (first | (with_reducible refine ⟨_, g1, ?_⟩) | (with_reducible refine ⟨_, g2, ?_⟩) | skip); refine hKK _ ?_; clear hKK KK) | ((refine vdrawL 16 16 [] rfl (by kernel_rfl) (by kernel_rfl) ?_); simp only [List.take, List.drop]) | ((with_reducible refine vcondS ?_ (fun ht => ?_) (fun ht => ?_)); (focus (go_simp; done)); (all_goals (simp [go_sem] at ht; replace ht := ht.out))) | ((apply vrun_consG0 rfl); (focus (go_simp <;> exact rfl)); (focus (go_simp; done)); (focus (intro hb0; replace hb0 := hb0.out; go_simp <;> (first | exact rfl | exact g1 | exact g2 | exact ⟨g1, rfl⟩ | exact ⟨g2, rfl⟩))); intro KK hKK; go_simp; refine hKK _ ?_; clear hKK KK) | ((apply vhrun_consG0 rfl); (focus (go_simp <;> exact rfl)); (focus (intro hb0; replace hb0 := hb0.out; go_simp <;> (first | exact rfl | exact g1 | exact g2 | exact ⟨g1, rfl⟩ | exact ⟨g2, rfl⟩))); intro KK hKK; go_simp; refine hKK _ ?_; clear hKK KK))
            go_simp
    · intro HB K
      have e := HR.out
      rw [if_neg (by omega), firstErr_out HB.out] at e
      injection e with e1 e2
      subst e1 e2
      repeat (first | (with_reducible first | refine vseq ?_ | refine vthenN ?_ | refine vthenE ?_ | refine vthenR ?_ | refine vret ?_ | refine vskip ?_ | refine vexit ?_ | refine vblock ?_ | refine vblockN ?_ | refine vblockR ?_ | refine vblockH ?_ | refine vrun_nil ?_ | refine vblockE rfl ?_ | refine vregion [] ?_ | refine vhrun_nil ?_) | ((with_reducible refine vcondT ?_ ?_); (focus (go_simp; done))) | ((with_reducible refine vcondF ?_ ?_); (focus (go_simp; done))) | ((with_reducible first | refine vrun_cons fun KK hKK => ?_ | refine vhrun_cons fun KK hKK => ?_); go_simp; refine hKK _ ?_; clear hKK KK) | ((refine vdrawL 16 16 [] rfl (by kernel_rfl) (by kernel_rfl) ?_); simp only [List.append, List.take, List.drop]))
      go_simp
end Go.Proofs.YthbgghmjbaldlaaGreatDoor

/-! QC: Walks on plain values: items and claims alone; texts of at most 1000 bytes. -/
namespace Go.Proofs.YthbgghmjbaldlaaGreatDoor
open Go.RowKit
set_option maxRecDepth 100000
theorem p_both (x : Item) (h : SmallI x) : VC Tryz.prog 150 [S x.name, S x.who, I x.day, marksA x.marks] (I (thingErr x)) := by
  have h1 := p_CheckMarks x.marks (by have := h.few; omega) h.marks
  have g1 := p_isName x.name h.name
  have g2 := p_isName x.who h.who
  unfold thingErr
  clear h
  generalize checkMarks x.marks = E at *
  refine VC_of Tryz.func150 rfl (by kernel_rfl) (by kernel_rfl) rfl fun M0 w0 => ?_
  simp only [Tryz.ntmps150, Tryz.results150, enumA]
  repeat' (first | (with_reducible first | refine vseq ?_ | refine vthenN ?_ | refine vthenE ?_ | refine vthenR ?_ | refine vret ?_ | refine vskip ?_ | refine vexit ?_ | refine vblock ?_ | refine vblockN ?_ | refine vblockR ?_ | refine vblockH ?_ | refine vrun_nil ?_ | refine vblockE rfl ?_ | refine vregion [] ?_ | refine vhrun_nil ?_) | ((with_reducible refine vcondT ?_ ?_); (focus (go_simp; done))) | ((with_reducible refine vcondF ?_ ?_); (focus (go_simp; done))) | ((with_reducible first | refine vrun_cons fun KK hKK => ?_ | refine vhrun_cons fun KK hKK => ?_); go_simp; (first | (with_reducible refine ⟨_, h1, ?_⟩) | (with_reducible refine ⟨_, g1, ?_⟩) | (with_reducible refine ⟨_, g2, ?_⟩) | (with_reducible refine ⟨_, p_unless _ _, ?_⟩) | (with_reducible refine ⟨_, p_isDate _, ?_⟩) | (refine ⟨_, p_first [_, _, _] (by simp), ?_⟩) | skip); refine hKK _ ?_; clear hKK KK) | ((with_reducible refine vcondS ?_ (fun ht => ?_) (fun ht => ?_)); (focus (go_simp; done)); (all_goals (simp [go_sem] at ht; replace ht := ht.out))) | ((apply vrun_consG0 rfl); (focus (go_simp <;> exact rfl)); (focus (go_simp; done)); (focus (intro hb0; replace hb0 := hb0.out; go_simp <;> (first | exact rfl | exact h1 | exact g1 | exact g2 | exact p_unless _ _ | exact p_isDate _ | exact p_first [_, _, _] (by simp) | exact ⟨h1, rfl⟩ | exact ⟨g1, rfl⟩ | exact ⟨g2, rfl⟩ | exact ⟨p_unless _ _, rfl⟩ | exact ⟨p_isDate _, rfl⟩ | exact ⟨p_first [_, _, _] (by simp), rfl⟩))); intro KK hKK; go_simp; refine hKK _ ?_; clear hKK KK))
  go_simp
theorem r_MarksErr (l : List Mark) (hl : l.length ≤ 1000000) (hd : SmallM l) : VC Tryz.prog 128 [marksA l] (I (checkMarks l).2) := by
  have h1 := r_CheckMarks l hl hd
  clear hd
  generalize checkMarks l = E at *
  refine VC_of Tryz.func128 rfl (by kernel_rfl) (by kernel_rfl) rfl fun M0 w0 => ?_
  simp only [Tryz.ntmps128, Tryz.results128, enumA]
  repeat' (first | (with_reducible first | refine vseq ?_ | refine vthenN ?_ | refine vthenE ?_ | refine vthenR ?_ | refine vret ?_ | refine vskip ?_ | refine vexit ?_ | refine vblock ?_ | refine vblockN ?_ | refine vblockR ?_ | refine vblockH ?_ | refine vrun_nil ?_ | refine vblockE rfl ?_ | refine vregion [] ?_ | refine vhrun_nil ?_) | ((with_reducible refine vcondT ?_ ?_); (focus (go_simp; done))) | ((with_reducible refine vcondF ?_ ?_); (focus (go_simp; done))) | ((with_reducible first | refine vrun_cons fun KK hKK => ?_ | refine vhrun_cons fun KK hKK => ?_); go_simp; (first | (with_reducible refine ⟨_, h1, ?_⟩) | skip); refine hKK _ ?_; clear hKK KK) | ((with_reducible refine vcondS ?_ (fun ht => ?_) (fun ht => ?_)); (focus (go_simp; done)); (all_goals (simp [go_sem] at ht; replace ht := ht.out))))
  go_simp
theorem r_thingErr (x : Item) (h : SmallI x) : VC Tryz.prog 93 [S x.name, S x.who, I x.day, marksA x.marks] (I (thingErr x)) := by
  have h1 := r_MarksErr x.marks (by have := h.few; omega) h.marks
  have g1 := b_isName x.name (by have := h.name; omega)
  have g2 := b_isName x.who (by have := h.who; omega)
  unfold thingErr
  clear h
  generalize checkMarks x.marks = E at *
  refine VC_of Tryz.func93 rfl (by kernel_rfl) (by kernel_rfl) rfl fun M0 w0 => ?_
  simp only [Tryz.ntmps93, Tryz.results93, enumA]
  repeat' (first | (with_reducible first | refine vseq ?_ | refine vthenN ?_ | refine vthenE ?_ | refine vthenR ?_ | refine vret ?_ | refine vskip ?_ | refine vexit ?_ | refine vblock ?_ | refine vblockN ?_ | refine vblockR ?_ | refine vblockH ?_ | refine vrun_nil ?_ | refine vblockE rfl ?_ | refine vregion [] ?_ | refine vhrun_nil ?_) | ((with_reducible refine vcondT ?_ ?_); (focus (go_simp; done))) | ((with_reducible refine vcondF ?_ ?_); (focus (go_simp; done))) | ((with_reducible first | refine vrun_cons fun KK hKK => ?_ | refine vhrun_cons fun KK hKK => ?_); go_simp; (first | (with_reducible refine ⟨_, h1, ?_⟩) | (with_reducible refine ⟨_, g1, ?_⟩) | (with_reducible refine ⟨_, g2, ?_⟩) | (with_reducible refine ⟨_, b_within _ _ _, ?_⟩) | skip); refine hKK _ ?_; clear hKK KK) | ((with_reducible refine vcondS ?_ (fun ht => ?_) (fun ht => ?_)); (focus (go_simp; done)); (all_goals (simp [go_sem] at ht; replace ht := ht.out))) | ((apply vrun_consG0 rfl); (focus (go_simp <;> exact rfl)); (focus (go_simp; done)); (focus (intro hb0; replace hb0 := hb0.out; go_simp <;> (first | exact rfl | exact h1 | exact g1 | exact g2 | exact b_within _ _ _ | exact ⟨h1, rfl⟩ | exact ⟨g1, rfl⟩ | exact ⟨g2, rfl⟩ | exact ⟨b_within _ _ _, rfl⟩))); intro KK hKK; go_simp; refine hKK _ ?_; clear hKK KK))
  all_goals (go_simp; (cases hA0 : isName x.name) <;> (cases hA1 : isName x.who) <;> (cases hA2 : inR x.day 0 100000) <;> simp_all [fst, unl, isDate, ite0])
theorem p_itemErr (x : Item) (h : SmallI x) : VC Tryz.prog 127 [itemA x] (I (thingErr x)) := by
  have h1 := p_both x h
  clear h
  generalize thingErr x = E at *
  refine VC_of Tryz.func127 rfl (by kernel_rfl) (by kernel_rfl) rfl fun M0 w0 => ?_
  simp only [Tryz.ntmps127, Tryz.results127, enumA]
  repeat' (first | (with_reducible first | refine vseq ?_ | refine vthenN ?_ | refine vthenE ?_ | refine vthenR ?_ | refine vret ?_ | refine vskip ?_ | refine vexit ?_ | refine vblock ?_ | refine vblockN ?_ | refine vblockR ?_ | refine vblockH ?_ | refine vrun_nil ?_ | refine vblockE rfl ?_ | refine vregion [] ?_ | refine vhrun_nil ?_) | ((with_reducible refine vcondT ?_ ?_); (focus (go_simp; done))) | ((with_reducible refine vcondF ?_ ?_); (focus (go_simp; done))) | ((with_reducible first | refine vrun_cons fun KK hKK => ?_ | refine vhrun_cons fun KK hKK => ?_); go_simp; (first | (with_reducible refine ⟨_, h1, ?_⟩) | skip); refine hKK _ ?_; clear hKK KK) | ((with_reducible refine vcondS ?_ (fun ht => ?_) (fun ht => ?_)); (focus (go_simp; done)); (all_goals (simp [go_sem] at ht; replace ht := ht.out))))
  go_simp
theorem p_claimErr (x : Item) (h : SmallI x) : VC Tryz.prog 133 [itemA x] (I (thingErr x)) := by
  have h1 := p_both x h
  clear h
  generalize thingErr x = E at *
  refine VC_of Tryz.func133 rfl (by kernel_rfl) (by kernel_rfl) rfl fun M0 w0 => ?_
  simp only [Tryz.ntmps133, Tryz.results133, enumA]
  repeat' (first | (with_reducible first | refine vseq ?_ | refine vthenN ?_ | refine vthenE ?_ | refine vthenR ?_ | refine vret ?_ | refine vskip ?_ | refine vexit ?_ | refine vblock ?_ | refine vblockN ?_ | refine vblockR ?_ | refine vblockH ?_ | refine vrun_nil ?_ | refine vblockE rfl ?_ | refine vregion [] ?_ | refine vhrun_nil ?_) | ((with_reducible refine vcondT ?_ ?_); (focus (go_simp; done))) | ((with_reducible refine vcondF ?_ ?_); (focus (go_simp; done))) | ((with_reducible first | refine vrun_cons fun KK hKK => ?_ | refine vhrun_cons fun KK hKK => ?_); go_simp; (first | (with_reducible refine ⟨_, h1, ?_⟩) | skip); refine hKK _ ?_; clear hKK KK) | ((with_reducible refine vcondS ?_ (fun ht => ?_) (fun ht => ?_)); (focus (go_simp; done)); (all_goals (simp [go_sem] at ht; replace ht := ht.out))))
  go_simp
theorem p_CheckItem (x : Item) (h : SmallI x) : VC Tryz.prog 92 [itemA x] (I (thingErr x)) := by
  have h1 := p_itemErr x h
  clear h
  generalize thingErr x = E at *
  refine VC_of Tryz.func92 rfl (by kernel_rfl) (by kernel_rfl) rfl fun M0 w0 => ?_
  simp only [Tryz.ntmps92, Tryz.results92, enumA]
  repeat' (first | (with_reducible first | refine vseq ?_ | refine vthenN ?_ | refine vthenE ?_ | refine vthenR ?_ | refine vret ?_ | refine vskip ?_ | refine vexit ?_ | refine vblock ?_ | refine vblockN ?_ | refine vblockR ?_ | refine vblockH ?_ | refine vrun_nil ?_ | refine vblockE rfl ?_ | refine vregion [] ?_ | refine vhrun_nil ?_) | ((with_reducible refine vcondT ?_ ?_); (focus (go_simp; done))) | ((with_reducible refine vcondF ?_ ?_); (focus (go_simp; done))) | ((with_reducible first | refine vrun_cons fun KK hKK => ?_ | refine vhrun_cons fun KK hKK => ?_); go_simp; (first | (with_reducible refine ⟨_, h1, ?_⟩) | skip); refine hKK _ ?_; clear hKK KK) | ((with_reducible refine vcondS ?_ (fun ht => ?_) (fun ht => ?_)); (focus (go_simp; done)); (all_goals (simp [go_sem] at ht; replace ht := ht.out))))
  go_simp
theorem p_CheckClaim (x : Item) (h : SmallI x) : VC Tryz.prog 99 [itemA x] (I (thingErr x)) := by
  have h1 := p_claimErr x h
  clear h
  generalize thingErr x = E at *
  refine VC_of Tryz.func99 rfl (by kernel_rfl) (by kernel_rfl) rfl fun M0 w0 => ?_
  simp only [Tryz.ntmps99, Tryz.results99, enumA]
  repeat' (first | (with_reducible first | refine vseq ?_ | refine vthenN ?_ | refine vthenE ?_ | refine vthenR ?_ | refine vret ?_ | refine vskip ?_ | refine vexit ?_ | refine vblock ?_ | refine vblockN ?_ | refine vblockR ?_ | refine vblockH ?_ | refine vrun_nil ?_ | refine vblockE rfl ?_ | refine vregion [] ?_ | refine vhrun_nil ?_) | ((with_reducible refine vcondT ?_ ?_); (focus (go_simp; done))) | ((with_reducible refine vcondF ?_ ?_); (focus (go_simp; done))) | ((with_reducible first | refine vrun_cons fun KK hKK => ?_ | refine vhrun_cons fun KK hKK => ?_); go_simp; (first | (with_reducible refine ⟨_, h1, ?_⟩) | skip); refine hKK _ ?_; clear hKK KK) | ((with_reducible refine vcondS ?_ (fun ht => ?_) (fun ht => ?_)); (focus (go_simp; done)); (all_goals (simp [go_sem] at ht; replace ht := ht.out))))
  go_simp
theorem r_CheckItem (x : Item) (h : SmallI x) : VC Tryz.prog 39 [itemA x] (I (thingErr x)) := by
  have h1 := r_thingErr x h
  clear h
  generalize thingErr x = E at *
  refine VC_of Tryz.func39 rfl (by kernel_rfl) (by kernel_rfl) rfl fun M0 w0 => ?_
  simp only [Tryz.ntmps39, Tryz.results39, enumA]
  repeat' (first | (with_reducible first | refine vseq ?_ | refine vthenN ?_ | refine vthenE ?_ | refine vthenR ?_ | refine vret ?_ | refine vskip ?_ | refine vexit ?_ | refine vblock ?_ | refine vblockN ?_ | refine vblockR ?_ | refine vblockH ?_ | refine vrun_nil ?_ | refine vblockE rfl ?_ | refine vregion [] ?_ | refine vhrun_nil ?_) | ((with_reducible refine vcondT ?_ ?_); (focus (go_simp; done))) | ((with_reducible refine vcondF ?_ ?_); (focus (go_simp; done))) | ((with_reducible first | refine vrun_cons fun KK hKK => ?_ | refine vhrun_cons fun KK hKK => ?_); go_simp; (first | (with_reducible refine ⟨_, h1, ?_⟩) | skip); refine hKK _ ?_; clear hKK KK) | ((with_reducible refine vcondS ?_ (fun ht => ?_) (fun ht => ?_)); (focus (go_simp; done)); (all_goals (simp [go_sem] at ht; replace ht := ht.out))))
  go_simp
theorem r_CheckClaim (x : Item) (h : SmallI x) : VC Tryz.prog 112 [itemA x] (I (thingErr x)) := by
  have h1 := r_thingErr x h
  clear h
  generalize thingErr x = E at *
  refine VC_of Tryz.func112 rfl (by kernel_rfl) (by kernel_rfl) rfl fun M0 w0 => ?_
  simp only [Tryz.ntmps112, Tryz.results112, enumA]
  repeat' (first | (with_reducible first | refine vseq ?_ | refine vthenN ?_ | refine vthenE ?_ | refine vthenR ?_ | refine vret ?_ | refine vskip ?_ | refine vexit ?_ | refine vblock ?_ | refine vblockN ?_ | refine vblockR ?_ | refine vblockH ?_ | refine vrun_nil ?_ | refine vblockE rfl ?_ | refine vregion [] ?_ | refine vhrun_nil ?_) | ((with_reducible refine vcondT ?_ ?_); (focus (go_simp; done))) | ((with_reducible refine vcondF ?_ ?_); (focus (go_simp; done))) | ((with_reducible first | refine vrun_cons fun KK hKK => ?_ | refine vhrun_cons fun KK hKK => ?_); go_simp; (first | (with_reducible refine ⟨_, h1, ?_⟩) | skip); refine hKK _ ?_; clear hKK KK) | ((with_reducible refine vcondS ?_ (fun ht => ?_) (fun ht => ?_)); (focus (go_simp; done)); (all_goals (simp [go_sem] at ht; replace ht := ht.out))))
  go_simp
/-! ### Copies -/
theorem o_CopyMarks (l : List Mark) (hl : l.length ≤ 1000000) : VCo Tryz.prog 90 [marksA l] 134 2 false (l.map Mark.av) := by
  refine VCo_of Tryz.func90 rfl (by kernel_rfl) (by kernel_rfl) rfl Tryz.results90 (by decide) (fun k x hx => by obtain ⟨y, hy, rfl⟩ := map_at hx; exact ⟨rfl, by simp [Mark.av, oneAV, Value.oneCell']⟩) fun M0 w0 => ?_
  simp only [Tryz.ntmps90, enumA]
  have hl2 : l.length ≤ 1000000000 := by omega
  repeat (first | (with_reducible first | refine vseq ?_ | refine vthenN ?_ | refine vthenE ?_ | refine vthenR ?_ | refine vret ?_ | refine vskip ?_ | refine vexit ?_ | refine vblock ?_ | refine vblockN ?_ | refine vblockR ?_ | refine vblockH ?_ | refine vrun_nil ?_ | refine vblockE rfl ?_ | refine vregion [3] ?_ | refine vhrun_nil ?_) | ((with_reducible refine vcondT ?_ ?_); (focus (go_simp; done))) | ((with_reducible refine vcondF ?_ ?_); (focus (go_simp; done))) | ((with_reducible first | refine vrun_cons fun KK hKK => ?_ | refine vhrun_cons fun KK hKK => ?_); go_simp; refine hKK _ ?_; clear hKK KK))
  exact ⟨0, rfl, rfl⟩
theorem v_CopyItem (x : Item) (hl : x.marks.length ≤ 1000000) : VC Tryz.prog 34 [itemA x] (itemA x) := by
  have h1 := VC_of_own (o_CopyMarks x.marks hl)
  refine VC_of Tryz.func34 rfl (by kernel_rfl) (by kernel_rfl) rfl fun M0 w0 => ?_
  simp only [Tryz.ntmps34, Tryz.results34, enumA]
  repeat' (first | (with_reducible first | refine vseq ?_ | refine vthenN ?_ | refine vthenE ?_ | refine vthenR ?_ | refine vret ?_ | refine vskip ?_ | refine vexit ?_ | refine vblock ?_ | refine vblockN ?_ | refine vblockR ?_ | refine vblockH ?_ | refine vrun_nil ?_ | refine vblockE rfl ?_ | refine vregion [1] ?_ | refine vhrun_nil ?_) | ((with_reducible refine vcondT ?_ ?_); (focus (go_simp; done))) | ((with_reducible refine vcondF ?_ ?_); (focus (go_simp; done))) | ((with_reducible first | refine vrun_cons fun KK hKK => ?_ | refine vhrun_cons fun KK hKK => ?_); go_simp; (first | (with_reducible refine ⟨_, h1, ?_⟩) | skip); refine hKK _ ?_; clear hKK KK) | ((with_reducible refine vcondS ?_ (fun ht => ?_) (fun ht => ?_)); (focus (go_simp; done)); (all_goals (simp [go_sem] at ht; replace ht := ht.out))))
  go_simp
theorem v_CopyClaim (x : Item) (hl : x.marks.length ≤ 1000000) : VC Tryz.prog 57 [itemA x] (itemA x) := by
  have h1 := VC_of_own (o_CopyMarks x.marks hl)
  refine VC_of Tryz.func57 rfl (by kernel_rfl) (by kernel_rfl) rfl fun M0 w0 => ?_
  simp only [Tryz.ntmps57, Tryz.results57, enumA]
  repeat' (first | (with_reducible first | refine vseq ?_ | refine vthenN ?_ | refine vthenE ?_ | refine vthenR ?_ | refine vret ?_ | refine vskip ?_ | refine vexit ?_ | refine vblock ?_ | refine vblockN ?_ | refine vblockR ?_ | refine vblockH ?_ | refine vrun_nil ?_ | refine vblockE rfl ?_ | refine vregion [1] ?_ | refine vhrun_nil ?_) | ((with_reducible refine vcondT ?_ ?_); (focus (go_simp; done))) | ((with_reducible refine vcondF ?_ ?_); (focus (go_simp; done))) | ((with_reducible first | refine vrun_cons fun KK hKK => ?_ | refine vhrun_cons fun KK hKK => ?_); go_simp; (first | (with_reducible refine ⟨_, h1, ?_⟩) | skip); refine hKK _ ?_; clear hKK KK) | ((with_reducible refine vcondS ?_ (fun ht => ?_) (fun ht => ?_)); (focus (go_simp; done)); (all_goals (simp [go_sem] at ht; replace ht := ht.out))))
  go_simp
end Go.Proofs.YthbgghmjbaldlaaGreatDoor

/-! QD: Walks on plain values: chains of events, each by itself; texts of at most 1000 bytes. -/
namespace Go.Proofs.YthbgghmjbaldlaaGreatDoor
open Go.RowKit
set_option maxRecDepth 100000
def iat (l : List Int) (k : Nat) : Int := l.getD k 0
theorem iat_get {l : List Int} {k : Nat} (h : k < l.length) : iat l k = l[k] := by simp [iat, h]
def isI (l : List Int) (x : Int) (k : Nat) : Bool := decide (x = iat l k)
theorem v_IndexInt (l : List Int) (x : Int) (hl : l.length ≤ 1000000) : VC Tryz.prog 114 [intsA l, I x] (I (ixP (isI l x) 0 l.length)) := by
  obtain ⟨R, hR⟩ : ∃ R, ixP (isI l x) 0 l.length = R := ⟨_, rfl⟩
  rw [hR]
  have HR := Lib.hid hR
  clear hR
  refine VC_of Tryz.func114 rfl (by kernel_rfl) (by kernel_rfl) rfl fun M0 w0 => ?_
  simp only [Tryz.ntmps114, Tryz.results114, enumA]
  repeat (first | (with_reducible first | refine vseq ?_ | refine vthenN ?_ | refine vthenE ?_ | refine vthenR ?_ | refine vret ?_ | refine vskip ?_ | refine vexit ?_ | refine vblock ?_ | refine vblockN ?_ | refine vblockR ?_ | refine vblockH ?_ | refine vrun_nil ?_ | refine vblockE rfl ?_ | refine vregion [] ?_ | refine vhrun_nil ?_) | ((with_reducible refine vcondT ?_ ?_); (focus (go_simp; done))) | ((with_reducible refine vcondF ?_ ?_); (focus (go_simp; done))) | ((with_reducible first | refine vrun_cons fun KK hKK => ?_ | refine vhrun_cons fun KK hKK => ?_); go_simp; refine hKK _ ?_; clear hKK KK))
  apply vfor [0, 1, 7] (fun k => [(8, I k)]) (fun k => ([] : Hp)) (isI l x) (l.length)
  · go_simp <;> exact rfl
  · go_simp
  · intro k hk HB HP K hK
    obtain ⟨w1, w2, w3, w4, w5, w6⟩ := ixs (m := k) (by omega)
    have hp : ¬ x = l[k] := by
      have := HP.out
      simpa [isI, iat_get hk] using this
    repeat' (first | (with_reducible first | refine vseq ?_ | refine vthenN ?_ | refine vthenE ?_ | refine vthenR ?_ | refine vret ?_ | refine vskip ?_ | refine vexit ?_ | refine vblock ?_ | refine vblockN ?_ | refine vblockR ?_ | refine vblockH ?_ | refine vrun_nil ?_ | refine vblockE rfl ?_ | refine vregion [] ?_ | refine vhrun_nil ?_) | ((with_reducible refine vcondT ?_ ?_); (focus (go_simp; done))) | ((with_reducible refine vcondF ?_ ?_); (focus (go_simp; done))) | ((with_reducible first | refine vrun_cons fun KK hKK => ?_ | refine vhrun_cons fun KK hKK => ?_); go_simp; refine hKK _ ?_; clear hKK KK) | ((with_reducible refine vcondS ?_ (fun ht => ?_) (fun ht => ?_)); (focus (go_simp; done)); (all_goals (simp [go_sem] at ht; replace ht := ht.out))))
    refine hK _ ?_
    go_simp
  · intro k hk HB HP K
    have hp : x = l[k] := by
      have := HP.out
      simpa [isI, iat_get hk] using this
    have e := HR.out
    rw [ixP_hit hk HB.out HP.out] at e
    subst e
    repeat' (first | (with_reducible first | refine vseq ?_ | refine vthenN ?_ | refine vthenE ?_ | refine vthenR ?_ | refine vret ?_ | refine vskip ?_ | refine vexit ?_ | refine vblock ?_ | refine vblockN ?_ | refine vblockR ?_ | refine vblockH ?_ | refine vrun_nil ?_ | refine vblockE rfl ?_ | refine vregion [] ?_ | refine vhrun_nil ?_) | ((with_reducible refine vcondT ?_ ?_); (focus (go_simp; done))) | ((with_reducible refine vcondF ?_ ?_); (focus (go_simp; done))) | ((with_reducible first | refine vrun_cons fun KK hKK => ?_ | refine vhrun_cons fun KK hKK => ?_); go_simp; refine hKK _ ?_; clear hKK KK) | ((with_reducible refine vcondS ?_ (fun ht => ?_) (fun ht => ?_)); (focus (go_simp; done)); (all_goals (simp [go_sem] at ht; replace ht := ht.out))))
    go_simp
  · intro HB K
    have e := HR.out
    rw [ixP_out HB.out] at e
    subst e
    repeat (first | (with_reducible first | refine vseq ?_ | refine vthenN ?_ | refine vthenE ?_ | refine vthenR ?_ | refine vret ?_ | refine vskip ?_ | refine vexit ?_ | refine vblock ?_ | refine vblockN ?_ | refine vblockR ?_ | refine vblockH ?_ | refine vrun_nil ?_ | refine vblockE rfl ?_ | refine vregion [] ?_ | refine vhrun_nil ?_) | ((with_reducible refine vcondT ?_ ?_); (focus (go_simp; done))) | ((with_reducible refine vcondF ?_ ?_); (focus (go_simp; done))) | ((with_reducible first | refine vrun_cons fun KK hKK => ?_ | refine vhrun_cons fun KK hKK => ?_); go_simp; refine hKK _ ?_; clear hKK KK))
    go_simp
theorem v_ContainsInt (l : List Int) (x : Int) (hl : l.length ≤ 1000000) : VC Tryz.prog 67 [intsA l, I x] (B (anyP (isI l x) 0 l.length)) := by
  have h1 := v_IndexInt l x hl
  have h2 := ixP_any (p := isI l x) l.length 0
  generalize ixP (isI l x) 0 l.length = E at *
  generalize anyP (isI l x) 0 l.length = F at *
  refine VC_of Tryz.func67 rfl (by kernel_rfl) (by kernel_rfl) rfl fun M0 w0 => ?_
  simp only [Tryz.ntmps67, Tryz.results67, enumA]
  repeat' (first | (with_reducible first | refine vseq ?_ | refine vthenN ?_ | refine vthenE ?_ | refine vthenR ?_ | refine vret ?_ | refine vskip ?_ | refine vexit ?_ | refine vblock ?_ | refine vblockN ?_ | refine vblockR ?_ | refine vblockH ?_ | refine vrun_nil ?_ | refine vblockE rfl ?_ | refine vregion [] ?_ | refine vhrun_nil ?_) | ((with_reducible refine vcondT ?_ ?_); (focus (go_simp; done))) | ((with_reducible refine vcondF ?_ ?_); (focus (go_simp; done))) | ((with_reducible first | refine vrun_cons fun KK hKK => ?_ | refine vhrun_cons fun KK hKK => ?_); go_simp; (first | (with_reducible refine ⟨_, h1, ?_⟩) | skip); refine hKK _ ?_; clear hKK KK) | ((with_reducible refine vcondS ?_ (fun ht => ?_) (fun ht => ?_)); (focus (go_simp; done)); (all_goals (simp [go_sem] at ht; replace ht := ht.out))))
  go_simp
theorem p_holder (x : Item) (l : List Event) (hl : l.length ≤ 1000000) : VC Tryz.prog 96 [chainA x l] (S (holder x l)) := by
  unfold holder
  refine VC_of Tryz.func96 rfl (by kernel_rfl) (by kernel_rfl) rfl fun M0 w0 => ?_
  simp only [Tryz.ntmps96, Tryz.results96, enumA]
  rcases hn : l.length with _ | m
  · repeat' (first | (with_reducible first | refine vseq ?_ | refine vthenN ?_ | refine vthenE ?_ | refine vthenR ?_ | refine vret ?_ | refine vskip ?_ | refine vexit ?_ | refine vblock ?_ | refine vblockN ?_ | refine vblockR ?_ | refine vblockH ?_ | refine vrun_nil ?_ | refine vblockE rfl ?_ | refine vregion [] ?_ | refine vhrun_nil ?_) | ((with_reducible refine vcondT ?_ ?_); (focus (go_simp; done))) | ((with_reducible refine vcondF ?_ ?_); (focus (go_simp; done))) | ((with_reducible first | refine vrun_cons fun KK hKK => ?_ | refine vhrun_cons fun KK hKK => ?_); go_simp; refine hKK _ ?_; clear hKK KK) | ((with_reducible refine vcondS ?_ (fun ht => ?_) (fun ht => ?_)); (focus (go_simp; done)); (all_goals (simp [go_sem] at ht; replace ht := ht.out))))
    go_simp
  · obtain ⟨w1, w2, w3, w4, w5, w6⟩ := ixs (m := m) (by omega)
    have hne : ¬ (m : Int) + 1 = 0 := by omega
    have hm : m < l.length := by omega
    rw [if_neg (by omega), Nat.add_sub_cancel, eat_get hm]
    repeat' (first | (with_reducible first | refine vseq ?_ | refine vthenN ?_ | refine vthenE ?_ | refine vthenR ?_ | refine vret ?_ | refine vskip ?_ | refine vexit ?_ | refine vblock ?_ | refine vblockN ?_ | refine vblockR ?_ | refine vblockH ?_ | refine vrun_nil ?_ | refine vblockE rfl ?_ | refine vregion [] ?_ | refine vhrun_nil ?_) | ((with_reducible refine vcondT ?_ ?_); (focus (go_simp; done))) | ((with_reducible refine vcondF ?_ ?_); (focus (go_simp; done))) | ((with_reducible first | refine vrun_cons fun KK hKK => ?_ | refine vhrun_cons fun KK hKK => ?_); go_simp; refine hKK _ ?_; clear hKK KK) | ((with_reducible refine vcondS ?_ (fun ht => ?_) (fun ht => ?_)); (focus (go_simp; done)); (all_goals (simp [go_sem] at ht; replace ht := ht.out))))
    go_simp
theorem p_state (x : Item) (l : List Event) (hl : l.length ≤ 1000000) : VC Tryz.prog 97 [chainA x l] (I (state l)) := by
  unfold state
  refine VC_of Tryz.func97 rfl (by kernel_rfl) (by kernel_rfl) rfl fun M0 w0 => ?_
  simp only [Tryz.ntmps97, Tryz.results97, enumA]
  rcases hn : l.length with _ | m
  · repeat' (first | (with_reducible first | refine vseq ?_ | refine vthenN ?_ | refine vthenE ?_ | refine vthenR ?_ | refine vret ?_ | refine vskip ?_ | refine vexit ?_ | refine vblock ?_ | refine vblockN ?_ | refine vblockR ?_ | refine vblockH ?_ | refine vrun_nil ?_ | refine vblockE rfl ?_ | refine vregion [] ?_ | refine vhrun_nil ?_) | ((with_reducible refine vcondT ?_ ?_); (focus (go_simp; done))) | ((with_reducible refine vcondF ?_ ?_); (focus (go_simp; done))) | ((with_reducible first | refine vrun_cons fun KK hKK => ?_ | refine vhrun_cons fun KK hKK => ?_); go_simp; refine hKK _ ?_; clear hKK KK) | ((with_reducible refine vcondS ?_ (fun ht => ?_) (fun ht => ?_)); (focus (go_simp; done)); (all_goals (simp [go_sem] at ht; replace ht := ht.out))))
    go_simp
  · obtain ⟨w1, w2, w3, w4, w5, w6⟩ := ixs (m := m) (by omega)
    have hne : ¬ (m : Int) + 1 = 0 := by omega
    have hm : m < l.length := by omega
    rw [if_neg (by omega), Nat.add_sub_cancel, eat_get hm]
    repeat' (first | (with_reducible first | refine vseq ?_ | refine vthenN ?_ | refine vthenE ?_ | refine vthenR ?_ | refine vret ?_ | refine vskip ?_ | refine vexit ?_ | refine vblock ?_ | refine vblockN ?_ | refine vblockR ?_ | refine vblockH ?_ | refine vrun_nil ?_ | refine vblockE rfl ?_ | refine vregion [] ?_ | refine vhrun_nil ?_) | ((with_reducible refine vcondT ?_ ?_); (focus (go_simp; done))) | ((with_reducible refine vcondF ?_ ?_); (focus (go_simp; done))) | ((with_reducible first | refine vrun_cons fun KK hKK => ?_ | refine vhrun_cons fun KK hKK => ?_); go_simp; refine hKK _ ?_; clear hKK KK) | ((with_reducible refine vcondS ?_ (fun ht => ?_) (fun ht => ?_)); (focus (go_simp; done)); (all_goals (simp [go_sem] at ht; replace ht := ht.out))))
    all_goals (go_simp; simp_all)
theorem p_isDone (x : Item) (l : List Event) (hl : l.length ≤ 1000000) : VC Tryz.prog 132 [chainA x l] (B (isDone l)) := by
  have h1 := p_state x l hl
  have h2 := v_ContainsInt [0, 1] (state l) (by simp)
  have h3 : anyP (isI [0, 1] (state l)) 0 [(0 : Int), 1].length = !isDone l := by
    simp [anyP, isI, iat, isDone]
  rw [h3] at h2
  have H2 := Lib.hid h2
  clear h2 h3
  generalize state l = E at *
  refine VC_of Tryz.func132 rfl (by kernel_rfl) (by kernel_rfl) rfl fun M0 w0 => ?_
  simp only [Tryz.ntmps132, Tryz.results132, enumA]
  repeat' (first | (with_reducible first | refine vseq ?_ | refine vthenN ?_ | refine vthenE ?_ | refine vthenR ?_ | refine vret ?_ | refine vskip ?_ | refine vexit ?_ | refine vblock ?_ | refine vblockN ?_ | refine vblockR ?_ | refine vblockH ?_ | refine vrun_nil ?_ | refine vblockE rfl ?_ | refine vregion [] ?_ | refine vhrun_nil ?_) | ((with_reducible refine vcondT ?_ ?_); (focus (go_simp; done))) | ((with_reducible refine vcondF ?_ ?_); (focus (go_simp; done))) | ((with_reducible first | refine vrun_cons fun KK hKK => ?_ | refine vhrun_cons fun KK hKK => ?_); go_simp; (first | (with_reducible refine ⟨_, h1, ?_⟩) | (refine ⟨_, H2.out, ?_⟩) | skip); refine hKK _ ?_; clear hKK KK) | ((with_reducible refine vcondS ?_ (fun ht => ?_) (fun ht => ?_)); (focus (go_simp; done)); (all_goals (simp [go_sem] at ht; replace ht := ht.out))))
  go_simp
theorem p_right (x : Item) (l : List Event) (day : Int) (hl : l.length ≤ 1000000) : VC Tryz.prog 98 [chainA x l, I day] (I (right l day)) := by
  have h1 := p_state x l hl
  have h2 := p_isDone x l hl
  unfold right
  refine VC_of Tryz.func98 rfl (by kernel_rfl) (by kernel_rfl) rfl fun M0 w0 => ?_
  simp only [Tryz.ntmps98, Tryz.results98, enumA]
  cases hd : isDone l
  · rw [hd] at h2
    by_cases hs : state l = 0
    · rw [hs] at h1
      repeat' (first | (with_reducible first | refine vseq ?_ | refine vthenN ?_ | refine vthenE ?_ | refine vthenR ?_ | refine vret ?_ | refine vskip ?_ | refine vexit ?_ | refine vblock ?_ | refine vblockN ?_ | refine vblockR ?_ | refine vblockH ?_ | refine vrun_nil ?_ | refine vblockE rfl ?_ | refine vregion [] ?_ | refine vhrun_nil ?_) | ((with_reducible refine vcondT ?_ ?_); (focus (go_simp; done))) | ((with_reducible refine vcondF ?_ ?_); (focus (go_simp; done))) | ((with_reducible first | refine vrun_cons fun KK hKK => ?_ | refine vhrun_cons fun KK hKK => ?_); go_simp; (first | (with_reducible refine ⟨_, h1, ?_⟩) | (with_reducible refine ⟨_, h2, ?_⟩) | skip); refine hKK _ ?_; clear hKK KK) | ((with_reducible refine vcondS ?_ (fun ht => ?_) (fun ht => ?_)); (focus (go_simp; done)); (all_goals (simp [go_sem] at ht; replace ht := ht.out))))
      go_simp
    · have hl0 : 0 < l.length := by
        rcases hn : l.length with _ | m
        · exact absurd (by simp [state, hn]) hs
        · omega
      have hsi : since l day = IntKind.i64.wrap (day - l[0].day) := by unfold since; rw [eat_get hl0]
      obtain ⟨s, hs2⟩ : ∃ s, IntKind.i64.wrap (day - l[0].day) = s := ⟨_, rfl⟩
      rw [hsi, hs2]
      clear hd hsi
      generalize state l = E at *
      repeat' (first | (with_reducible first | refine vseq ?_ | refine vthenN ?_ | refine vthenE ?_ | refine vthenR ?_ | refine vret ?_ | refine vskip ?_ | refine vexit ?_ | refine vblock ?_ | refine vblockN ?_ | refine vblockR ?_ | refine vblockH ?_ | refine vrun_nil ?_ | refine vblockE rfl ?_ | refine vregion [] ?_ | refine vhrun_nil ?_) | ((with_reducible refine vcondT ?_ ?_); (focus (go_simp; done))) | ((with_reducible refine vcondF ?_ ?_); (focus (go_simp; done))) | ((with_reducible first | refine vrun_cons fun KK hKK => ?_ | refine vhrun_cons fun KK hKK => ?_); go_simp; (first | (with_reducible refine ⟨_, h1, ?_⟩) | (with_reducible refine ⟨_, h2, ?_⟩) | skip); refine hKK _ ?_; clear hKK KK) | ((with_reducible refine vcondS ?_ (fun ht => ?_) (fun ht => ?_)); (focus (go_simp; done)); (all_goals (simp [go_sem] at ht; replace ht := ht.out))))
      all_goals (go_simp; first | done | (simp_all []; done) | (simp only []; (try intros); (repeat' split) <;> (first | rfl | omega | (simp_all; done) | (simp_all; omega))) | ((try intros); (repeat' split) <;> (first | rfl | omega | (simp_all; done) | (simp_all; omega))))
  · rw [hd] at h2
    repeat' (first | (with_reducible first | refine vseq ?_ | refine vthenN ?_ | refine vthenE ?_ | refine vthenR ?_ | refine vret ?_ | refine vskip ?_ | refine vexit ?_ | refine vblock ?_ | refine vblockN ?_ | refine vblockR ?_ | refine vblockH ?_ | refine vrun_nil ?_ | refine vblockE rfl ?_ | refine vregion [] ?_ | refine vhrun_nil ?_) | ((with_reducible refine vcondT ?_ ?_); (focus (go_simp; done))) | ((with_reducible refine vcondF ?_ ?_); (focus (go_simp; done))) | ((with_reducible first | refine vrun_cons fun KK hKK => ?_ | refine vhrun_cons fun KK hKK => ?_); go_simp; (first | (with_reducible refine ⟨_, h2, ?_⟩) | skip); refine hKK _ ?_; clear hKK KK) | ((with_reducible refine vcondS ?_ (fun ht => ?_) (fun ht => ?_)); (focus (go_simp; done)); (all_goals (simp [go_sem] at ht; replace ht := ht.out))))
    go_simp
end Go.Proofs.YthbgghmjbaldlaaGreatDoor

/-! QE: Walks on plain values: chains of events, told up to a day, and one more event; texts of at most 1000 bytes. -/
namespace Go.Proofs.YthbgghmjbaldlaaGreatDoor
open Go.RowKit
set_option maxRecDepth 100000
theorem upTo_hit {l : List Event} {day : Int} {k : Nat} : ∀ (n a : Nat), a ≤ k → k < a + n → (∀ j, a ≤ j → j < k → (eat l j).day ≤ day) → ¬ (eat l k).day ≤ day → upTo l day a n = k
  | 0, a, h1, h2, _, _ => by omega
  | n + 1, a, h1, h2, hb, h => by
    rw [upTo]
    by_cases he : a = k
    · subst he
      rw [if_neg h]
    · rw [if_pos (hb a (Nat.le_refl _) (by omega))]
      exact upTo_hit n (a + 1) (by omega) (by omega) (fun j h1 h2 => hb j (by omega) h2) h
theorem upTo_out {l : List Event} {day : Int} : ∀ (n a : Nat), (∀ j, a ≤ j → j < a + n → (eat l j).day ≤ day) → upTo l day a n = a + n
  | 0, a, _ => by rw [upTo]; omega
  | n + 1, a, h => by
    rw [upTo, if_pos (h a (Nat.le_refl _) (by omega)), upTo_out n (a + 1) fun j h1 h2 => h j (by omega) (by omega)]
    omega
def late (l : List Event) (day : Int) (k : Nat) : Bool := !decide ((eat l k).day ≤ day)
theorem late_no {l : List Event} {day : Int} {k : Nat} (h : late l day k = false) : (eat l k).day ≤ day := by simpa [late] using h
theorem late_yes {l : List Event} {day : Int} {k : Nat} (h : late l day k = true) : ¬ (eat l k).day ≤ day := by simpa [late] using h
theorem p_until (x : Item) (l : List Event) (day : Int) (hl : l.length ≤ 1000000) : VC Tryz.prog 131 [chainA x l, I day] (chainA x (untilL l day)) := by
  obtain ⟨R, hR⟩ : ∃ R, untilL l day = R := ⟨_, rfl⟩
  rw [hR]
  unfold untilL at hR
  have HR := Lib.hid hR
  clear hR
  refine VC_of Tryz.func131 rfl (by kernel_rfl) (by kernel_rfl) rfl fun M0 w0 => ?_
  simp only [Tryz.ntmps131, Tryz.results131, enumA]
  repeat' (first | (with_reducible first | refine vseq ?_ | refine vthenN ?_ | refine vthenE ?_ | refine vthenR ?_ | refine vret ?_ | refine vskip ?_ | refine vexit ?_ | refine vblock ?_ | refine vblockN ?_ | refine vblockR ?_ | refine vblockH ?_ | refine vrun_nil ?_ | refine vblockE rfl ?_ | refine vregion [] ?_ | refine vhrun_nil ?_) | ((with_reducible refine vcondT ?_ ?_); (focus (go_simp; done))) | ((with_reducible refine vcondF ?_ ?_); (focus (go_simp; done))) | ((with_reducible first | refine vrun_cons fun KK hKK => ?_ | refine vhrun_cons fun KK hKK => ?_); go_simp; refine hKK _ ?_; clear hKK KK) | ((refine vdrawL 8 7 [] rfl (by kernel_rfl) (by kernel_rfl) ?_); simp only [List.append, List.take, List.drop]) | ((with_reducible refine vcondS ?_ (fun ht => ?_) (fun ht => ?_)); (focus (go_simp; done)); (all_goals (simp [go_sem] at ht; replace ht := ht.out))) | ((apply vrun_consG0 rfl); (focus (go_simp <;> exact rfl)); (focus (go_simp; done)); (focus (intro hb0; replace hb0 := hb0.out; go_simp <;> (first | exact rfl))); intro KK hKK; go_simp; refine hKK _ ?_; clear hKK KK) | ((apply vhrun_consG0 rfl); (focus (go_simp <;> exact rfl)); (focus (intro hb0; replace hb0 := hb0.out; go_simp <;> (first | exact rfl))); intro KK hKK; go_simp; refine hKK _ ?_; clear hKK KK))
  apply vfor [1, 2, 4] (fun k => [(5, I k)]) (fun k => ([some (.box [.lit (.string ⟨#[]⟩), .lit (.int .i64 0), .lit (.string ⟨#[]⟩), nil_, nil_])] : Hp)) (late l day) (l.length)
  · go_simp <;> exact rfl
  · go_simp
  · intro k hk HB HP K hK
    obtain ⟨w1, w2, w3, w4, w5, w6⟩ := ixs (m := k) (by omega)
    have hp := late_no HP.out
    rw [eat_get hk] at hp
    repeat' (first | (with_reducible first | refine vseq ?_ | refine vthenN ?_ | refine vthenE ?_ | refine vthenR ?_ | refine vret ?_ | refine vskip ?_ | refine vexit ?_ | refine vblock ?_ | refine vblockN ?_ | refine vblockR ?_ | refine vblockH ?_ | refine vrun_nil ?_ | refine vblockE rfl ?_ | refine vregion [] ?_ | refine vhrun_nil ?_) | ((with_reducible refine vcondT ?_ ?_); (focus (go_simp; done))) | ((with_reducible refine vcondF ?_ ?_); (focus (go_simp; done))) | ((with_reducible first | refine vrun_cons fun KK hKK => ?_ | refine vhrun_cons fun KK hKK => ?_); go_simp; refine hKK _ ?_; clear hKK KK) | ((refine vdrawL 8 7 [] rfl (by kernel_rfl) (by kernel_rfl) ?_); simp only [List.append, List.take, List.drop]) | ((with_reducible refine vcondS ?_ (fun ht => ?_) (fun ht => ?_)); (focus (go_simp; done)); (all_goals (simp [go_sem] at ht; replace ht := ht.out))) | ((apply vrun_consG0 rfl); (focus (go_simp <;> exact rfl)); (focus (go_simp; done)); (focus (intro hb0; replace hb0 := hb0.out; go_simp <;> (first | exact rfl))); intro KK hKK; go_simp; refine hKK _ ?_; clear hKK KK) | ((apply vhrun_consG0 rfl); (focus (go_simp <;> exact rfl)); (focus (intro hb0; replace hb0 := hb0.out; go_simp <;> (first | exact rfl))); intro KK hKK; go_simp; refine hKK _ ?_; clear hKK KK))
    refine hK _ ?_
    go_simp
  · intro k hk HB HP K
    have hp := late_yes HP.out
    have e := HR.out
    rw [upTo_hit _ 0 (Nat.zero_le _) (by omega) (fun j _ hj => late_no (HB.out j hj)) hp] at e
    subst e
    rw [eat_get hk] at hp
    have hkl : k ≤ l.length := by omega
    repeat' (first | (with_reducible first | refine vseq ?_ | refine vthenN ?_ | refine vthenE ?_ | refine vthenR ?_ | refine vret ?_ | refine vskip ?_ | refine vexit ?_ | refine vblock ?_ | refine vblockN ?_ | refine vblockR ?_ | refine vblockH ?_ | refine vrun_nil ?_ | refine vblockE rfl ?_ | refine vregion [] ?_ | refine vhrun_nil ?_) | ((with_reducible refine vcondT ?_ ?_); (focus (go_simp; done))) | ((with_reducible refine vcondF ?_ ?_); (focus (go_simp; done))) | ((with_reducible first | refine vrun_cons fun KK hKK => ?_ | refine vhrun_cons fun KK hKK => ?_); go_simp; refine hKK _ ?_; clear hKK KK) | ((with_reducible refine vcondS ?_ (fun ht => ?_) (fun ht => ?_)); (focus (go_simp; done)); (all_goals (simp [go_sem] at ht; replace ht := ht.out))) | ((apply vrun_consG0 rfl); (focus (go_simp <;> exact rfl)); (focus (go_simp; done)); (focus (intro hb0; replace hb0 := hb0.out; go_simp <;> (first | exact rfl))); intro KK hKK; go_simp; refine hKK _ ?_; clear hKK KK) | ((apply vhrun_consG0 rfl); (focus (go_simp <;> exact rfl)); (focus (intro hb0; replace hb0 := hb0.out; go_simp <;> (first | exact rfl))); intro KK hKK; go_simp; refine hKK _ ?_; clear hKK KK))
    refine vdraw 7 [] (by kernel_rfl) (by kernel_rfl) ?_
    simp only [List.take, List.drop]
    repeat' (first | (with_reducible first | refine vseq ?_ | refine vthenN ?_ | refine vthenE ?_ | refine vthenR ?_ | refine vret ?_ | refine vskip ?_ | refine vexit ?_ | refine vblock ?_ | refine vblockN ?_ | refine vblockR ?_ | refine vblockH ?_ | refine vrun_nil ?_ | refine vblockE rfl ?_ | refine vregion [] ?_ | refine vhrun_nil ?_) | ((with_reducible refine vcondT ?_ ?_); (focus (go_simp; done))) | ((with_reducible refine vcondF ?_ ?_); (focus (go_simp; done))) | ((with_reducible first | refine vrun_cons fun KK hKK => ?_ | refine vhrun_cons fun KK hKK => ?_); go_simp; refine hKK _ ?_; clear hKK KK) | ((refine vdrawL 8 7 [] rfl (by kernel_rfl) (by kernel_rfl) ?_); simp only [List.append, List.take, List.drop]) | ((with_reducible refine vcondS ?_ (fun ht => ?_) (fun ht => ?_)); (focus (go_simp; done)); (all_goals (simp [go_sem] at ht; replace ht := ht.out))) | ((apply vrun_consG0 rfl); (focus (go_simp <;> exact rfl)); (focus (go_simp; done)); (focus (intro hb0; replace hb0 := hb0.out; go_simp <;> (first | exact rfl))); intro KK hKK; go_simp; refine hKK _ ?_; clear hKK KK) | ((apply vhrun_consG0 rfl); (focus (go_simp <;> exact rfl)); (focus (intro hb0; replace hb0 := hb0.out; go_simp <;> (first | exact rfl))); intro KK hKK; go_simp; refine hKK _ ?_; clear hKK KK))
    go_simp
  · intro HB K
    have e := HR.out
    rw [upTo_out _ 0 (fun j _ hj => late_no (HB.out j (by omega))), Nat.zero_add, List.take_length] at e
    subst e
    have htk : List.take l.length (l.map Event.av) = l.map Event.av := List.take_of_length_le (by simp)
    repeat' (first | (with_reducible first | refine vseq ?_ | refine vthenN ?_ | refine vthenE ?_ | refine vthenR ?_ | refine vret ?_ | refine vskip ?_ | refine vexit ?_ | refine vblock ?_ | refine vblockN ?_ | refine vblockR ?_ | refine vblockH ?_ | refine vrun_nil ?_ | refine vblockE rfl ?_ | refine vregion [] ?_ | refine vhrun_nil ?_) | ((with_reducible refine vcondT ?_ ?_); (focus (go_simp; done))) | ((with_reducible refine vcondF ?_ ?_); (focus (go_simp; done))) | ((with_reducible first | refine vrun_cons fun KK hKK => ?_ | refine vhrun_cons fun KK hKK => ?_); go_simp; refine hKK _ ?_; clear hKK KK) | ((with_reducible refine vcondS ?_ (fun ht => ?_) (fun ht => ?_)); (focus (go_simp; done)); (all_goals (simp [go_sem] at ht; replace ht := ht.out))) | ((apply vrun_consG0 rfl); (focus (go_simp <;> exact rfl)); (focus (go_simp; done)); (focus (intro hb0; replace hb0 := hb0.out; go_simp <;> (first | exact rfl))); intro KK hKK; go_simp; refine hKK _ ?_; clear hKK KK) | ((apply vhrun_consG0 rfl); (focus (go_simp <;> exact rfl)); (focus (intro hb0; replace hb0 := hb0.out; go_simp <;> (first | exact rfl))); intro KK hKK; go_simp; refine hKK _ ?_; clear hKK KK))
    refine vdraw 7 [] (by kernel_rfl) (by kernel_rfl) ?_
    simp only [List.take, List.drop]
    repeat' (first | (with_reducible first | refine vseq ?_ | refine vthenN ?_ | refine vthenE ?_ | refine vthenR ?_ | refine vret ?_ | refine vskip ?_ | refine vexit ?_ | refine vblock ?_ | refine vblockN ?_ | refine vblockR ?_ | refine vblockH ?_ | refine vrun_nil ?_ | refine vblockE rfl ?_ | refine vregion [] ?_ | refine vhrun_nil ?_) | ((with_reducible refine vcondT ?_ ?_); (focus (go_simp; done))) | ((with_reducible refine vcondF ?_ ?_); (focus (go_simp; done))) | ((with_reducible first | refine vrun_cons fun KK hKK => ?_ | refine vhrun_cons fun KK hKK => ?_); go_simp; refine hKK _ ?_; clear hKK KK) | ((refine vdrawL 8 7 [] rfl (by kernel_rfl) (by kernel_rfl) ?_); simp only [List.append, List.take, List.drop]) | ((with_reducible refine vcondS ?_ (fun ht => ?_) (fun ht => ?_)); (focus (go_simp; done)); (all_goals (simp [go_sem] at ht; replace ht := ht.out))) | ((apply vrun_consG0 rfl); (focus (go_simp <;> exact rfl)); (focus (go_simp; done)); (focus (intro hb0; replace hb0 := hb0.out; go_simp <;> (first | exact rfl))); intro KK hKK; go_simp; refine hKK _ ?_; clear hKK KK) | ((apply vhrun_consG0 rfl); (focus (go_simp <;> exact rfl)); (focus (intro hb0; replace hb0 := hb0.out; go_simp <;> (first | exact rfl))); intro KK hKK; go_simp; refine hKK _ ?_; clear hKK KK))
    go_simp
end Go.Proofs.YthbgghmjbaldlaaGreatDoor

/-! QF: Walks on plain values: one more event, and chains; texts of at most 1000 bytes. -/
namespace Go.Proofs.YthbgghmjbaldlaaGreatDoor
open Go.RowKit
set_option maxRecDepth 100000
set_option maxHeartbeats 1000000
def intsOf : List (List AV) → List Int
  | [.lit (.int _ n)] :: r => n :: intsOf r
  | _ => []
attribute [go_sem] intsOf
/-- The first error of a row as it lies. -/
theorem p_firstA (es : List (List AV)) (h : es = (intsOf es).map intA) (hl : Nat.ble (intsOf es).length 1000 = true) : VC Tryz.prog 53 [.sl 1 es] (I (fst (intsOf es))) := by
  have := p_first (intsOf es) (Nat.le_of_ble_eq_true hl)
  rwa [← h] at this
theorem p_next (x : Item) (l : List Event) (v : Event) (hl : l.length ≤ 1000000) (hv : SmallE v) : VC Tryz.prog 154 [chainA x l, .agg v.av] (I (nextE x l v)) := by
  have h1 := p_isName v.frm hv.frm
  have h2 := p_isName v.dst hv.dst
  have h3 := p_isDone x l hl
  have h4 := p_holder x l hl
  have h5 := p_right x l v.day hl
  clear hv
  unfold nextE lastDay
  generalize isDone l = D at *
  generalize holder x l = Hd at *
  generalize right l v.day = Rt at *
  obtain ⟨R, hR⟩ : ∃ R, IsB (decide (R = (0 : Int))) true := ⟨0, rfl⟩
  clear hR R
  refine VC_of Tryz.func154 rfl (by kernel_rfl) (by kernel_rfl) rfl fun M0 w0 => ?_
  simp only [Tryz.ntmps154, Tryz.results154, enumA]
  by_cases k3 : v.kind = 3
  · have hf : findK (.int .i64 3) (updK (.int .i64 4) (.int .i64 3) (updK (.int .i64 3) (.int .i64 2) [])) = some (.int .i64 2) := rfl
    rcases hln : l.length with _ | m
    · repeat' (first | (with_reducible first | refine vseq ?_ | refine vthenN ?_ | refine vthenE ?_ | refine vthenR ?_ | refine vret ?_ | refine vskip ?_ | refine vexit ?_ | refine vblock ?_ | refine vblockN ?_ | refine vblockR ?_ | refine vblockH ?_ | refine vrun_nil ?_ | refine vblockE rfl ?_ | refine vregion [] ?_ | refine vhrun_nil ?_) | ((with_reducible refine vcondT ?_ ?_); (focus (go_simp; done))) | ((with_reducible refine vcondF ?_ ?_); (focus (go_simp; done))) | ((with_reducible first | refine vrun_cons fun KK hKK => ?_ | refine vhrun_cons fun KK hKK => ?_); go_simp; (first | (with_reducible refine ⟨_, h1, ?_⟩) | (with_reducible refine ⟨_, h2, ?_⟩) | (with_reducible refine ⟨_, h3, ?_⟩) | (with_reducible refine ⟨_, h4, ?_⟩) | (with_reducible refine ⟨_, h5, ?_⟩) | (with_reducible refine ⟨_, p_unless _ _, ?_⟩) | (with_reducible refine ⟨_, p_isDate _, ?_⟩) | (with_reducible refine ⟨_, p_within _ _ _, ?_⟩) | (refine ⟨_, p_firstA _ rfl rfl, ?_⟩) | skip); refine hKK _ ?_; clear hKK KK) | ((refine vdrawL 77 77 [] rfl (by kernel_rfl) (by kernel_rfl) ?_); simp only [List.append, List.take, List.drop]) | ((with_reducible refine vcondS ?_ (fun ht => ?_) (fun ht => ?_)); (focus (go_simp; done)); (all_goals (simp [go_sem] at ht; replace ht := ht.out))) | ((apply vrun_consG0 rfl); (focus (go_simp <;> exact rfl)); (focus (go_simp; done)); (focus (intro hb0; replace hb0 := hb0.out; go_simp <;> (first | exact rfl | exact h1 | exact h2 | exact h3 | exact h4 | exact h5 | exact p_unless _ _ | exact p_isDate _ | exact p_within _ _ _ | exact p_firstA _ rfl rfl | exact ⟨h1, rfl⟩ | exact ⟨h2, rfl⟩ | exact ⟨h3, rfl⟩ | exact ⟨h4, rfl⟩ | exact ⟨h5, rfl⟩ | exact ⟨p_unless _ _, rfl⟩ | exact ⟨p_isDate _, rfl⟩ | exact ⟨p_within _ _ _, rfl⟩ | exact ⟨p_firstA _ rfl rfl, rfl⟩))); intro KK hKK; go_simp; refine hKK _ ?_; clear hKK KK) | ((apply vhrun_consG0 rfl); (focus (go_simp <;> exact rfl)); (focus (intro hb0; replace hb0 := hb0.out; go_simp <;> (first | exact rfl | exact h1 | exact h2 | exact h3 | exact h4 | exact h5 | exact p_unless _ _ | exact p_isDate _ | exact p_within _ _ _ | exact p_firstA _ rfl rfl | exact ⟨h1, rfl⟩ | exact ⟨h2, rfl⟩ | exact ⟨h3, rfl⟩ | exact ⟨h4, rfl⟩ | exact ⟨h5, rfl⟩ | exact ⟨p_unless _ _, rfl⟩ | exact ⟨p_isDate _, rfl⟩ | exact ⟨p_within _ _ _, rfl⟩ | exact ⟨p_firstA _ rfl rfl, rfl⟩))); intro KK hKK; go_simp; refine hKK _ ?_; clear hKK KK))
      go_simp
    · obtain ⟨w1, w2, w3, w4, w5, w6⟩ := ixs (m := m) (by omega)
      have hne : ¬ (m : Int) + 1 = 0 := by omega
      have hm : m < l.length := by omega
      have hem := eat_get hm
      repeat' (first | (with_reducible first | refine vseq ?_ | refine vthenN ?_ | refine vthenE ?_ | refine vthenR ?_ | refine vret ?_ | refine vskip ?_ | refine vexit ?_ | refine vblock ?_ | refine vblockN ?_ | refine vblockR ?_ | refine vblockH ?_ | refine vrun_nil ?_ | refine vblockE rfl ?_ | refine vregion [] ?_ | refine vhrun_nil ?_) | ((with_reducible refine vcondT ?_ ?_); (focus (go_simp; done))) | ((with_reducible refine vcondF ?_ ?_); (focus (go_simp; done))) | ((with_reducible first | refine vrun_cons fun KK hKK => ?_ | refine vhrun_cons fun KK hKK => ?_); go_simp; (first | (with_reducible refine ⟨_, h1, ?_⟩) | (with_reducible refine ⟨_, h2, ?_⟩) | (with_reducible refine ⟨_, h3, ?_⟩) | (with_reducible refine ⟨_, h4, ?_⟩) | (with_reducible refine ⟨_, h5, ?_⟩) | (with_reducible refine ⟨_, p_unless _ _, ?_⟩) | (with_reducible refine ⟨_, p_isDate _, ?_⟩) | (with_reducible refine ⟨_, p_within _ _ _, ?_⟩) | (refine ⟨_, p_firstA _ rfl rfl, ?_⟩) | skip); refine hKK _ ?_; clear hKK KK) | ((refine vdrawL 77 77 [] rfl (by kernel_rfl) (by kernel_rfl) ?_); simp only [List.append, List.take, List.drop]) | ((with_reducible refine vcondS ?_ (fun ht => ?_) (fun ht => ?_)); (focus (go_simp; done)); (all_goals (simp [go_sem] at ht; replace ht := ht.out))) | ((apply vrun_consG0 rfl); (focus (go_simp <;> exact rfl)); (focus (go_simp; done)); (focus (intro hb0; replace hb0 := hb0.out; go_simp <;> (first | exact rfl | exact h1 | exact h2 | exact h3 | exact h4 | exact h5 | exact p_unless _ _ | exact p_isDate _ | exact p_within _ _ _ | exact p_firstA _ rfl rfl | exact ⟨h1, rfl⟩ | exact ⟨h2, rfl⟩ | exact ⟨h3, rfl⟩ | exact ⟨h4, rfl⟩ | exact ⟨h5, rfl⟩ | exact ⟨p_unless _ _, rfl⟩ | exact ⟨p_isDate _, rfl⟩ | exact ⟨p_within _ _ _, rfl⟩ | exact ⟨p_firstA _ rfl rfl, rfl⟩))); intro KK hKK; go_simp; refine hKK _ ?_; clear hKK KK) | ((apply vhrun_consG0 rfl); (focus (go_simp <;> exact rfl)); (focus (intro hb0; replace hb0 := hb0.out; go_simp <;> (first | exact rfl | exact h1 | exact h2 | exact h3 | exact h4 | exact h5 | exact p_unless _ _ | exact p_isDate _ | exact p_within _ _ _ | exact p_firstA _ rfl rfl | exact ⟨h1, rfl⟩ | exact ⟨h2, rfl⟩ | exact ⟨h3, rfl⟩ | exact ⟨h4, rfl⟩ | exact ⟨h5, rfl⟩ | exact ⟨p_unless _ _, rfl⟩ | exact ⟨p_isDate _, rfl⟩ | exact ⟨p_within _ _ _, rfl⟩ | exact ⟨p_firstA _ rfl rfl, rfl⟩))); intro KK hKK; go_simp; refine hKK _ ?_; clear hKK KK))
      go_simp
  · by_cases k4 : v.kind = 4
    · have hf : findK (.int .i64 4) (updK (.int .i64 4) (.int .i64 3) (updK (.int .i64 3) (.int .i64 2) [])) = some (.int .i64 3) := rfl
      rcases hln : l.length with _ | m
      · repeat' (first | (with_reducible first | refine vseq ?_ | refine vthenN ?_ | refine vthenE ?_ | refine vthenR ?_ | refine vret ?_ | refine vskip ?_ | refine vexit ?_ | refine vblock ?_ | refine vblockN ?_ | refine vblockR ?_ | refine vblockH ?_ | refine vrun_nil ?_ | refine vblockE rfl ?_ | refine vregion [] ?_ | refine vhrun_nil ?_) | ((with_reducible refine vcondT ?_ ?_); (focus (go_simp; done))) | ((with_reducible refine vcondF ?_ ?_); (focus (go_simp; done))) | ((with_reducible first | refine vrun_cons fun KK hKK => ?_ | refine vhrun_cons fun KK hKK => ?_); go_simp; (first | (with_reducible refine ⟨_, h1, ?_⟩) | (with_reducible refine ⟨_, h2, ?_⟩) | (with_reducible refine ⟨_, h3, ?_⟩) | (with_reducible refine ⟨_, h4, ?_⟩) | (with_reducible refine ⟨_, h5, ?_⟩) | (with_reducible refine ⟨_, p_unless _ _, ?_⟩) | (with_reducible refine ⟨_, p_isDate _, ?_⟩) | (with_reducible refine ⟨_, p_within _ _ _, ?_⟩) | (refine ⟨_, p_firstA _ rfl rfl, ?_⟩) | skip); refine hKK _ ?_; clear hKK KK) | ((refine vdrawL 77 77 [] rfl (by kernel_rfl) (by kernel_rfl) ?_); simp only [List.append, List.take, List.drop]) | ((with_reducible refine vcondS ?_ (fun ht => ?_) (fun ht => ?_)); (focus (go_simp; done)); (all_goals (simp [go_sem] at ht; replace ht := ht.out))) | ((apply vrun_consG0 rfl); (focus (go_simp <;> exact rfl)); (focus (go_simp; done)); (focus (intro hb0; replace hb0 := hb0.out; go_simp <;> (first | exact rfl | exact h1 | exact h2 | exact h3 | exact h4 | exact h5 | exact p_unless _ _ | exact p_isDate _ | exact p_within _ _ _ | exact p_firstA _ rfl rfl | exact ⟨h1, rfl⟩ | exact ⟨h2, rfl⟩ | exact ⟨h3, rfl⟩ | exact ⟨h4, rfl⟩ | exact ⟨h5, rfl⟩ | exact ⟨p_unless _ _, rfl⟩ | exact ⟨p_isDate _, rfl⟩ | exact ⟨p_within _ _ _, rfl⟩ | exact ⟨p_firstA _ rfl rfl, rfl⟩))); intro KK hKK; go_simp; refine hKK _ ?_; clear hKK KK) | ((apply vhrun_consG0 rfl); (focus (go_simp <;> exact rfl)); (focus (intro hb0; replace hb0 := hb0.out; go_simp <;> (first | exact rfl | exact h1 | exact h2 | exact h3 | exact h4 | exact h5 | exact p_unless _ _ | exact p_isDate _ | exact p_within _ _ _ | exact p_firstA _ rfl rfl | exact ⟨h1, rfl⟩ | exact ⟨h2, rfl⟩ | exact ⟨h3, rfl⟩ | exact ⟨h4, rfl⟩ | exact ⟨h5, rfl⟩ | exact ⟨p_unless _ _, rfl⟩ | exact ⟨p_isDate _, rfl⟩ | exact ⟨p_within _ _ _, rfl⟩ | exact ⟨p_firstA _ rfl rfl, rfl⟩))); intro KK hKK; go_simp; refine hKK _ ?_; clear hKK KK))
        go_simp
      · obtain ⟨w1, w2, w3, w4, w5, w6⟩ := ixs (m := m) (by omega)
        have hne : ¬ (m : Int) + 1 = 0 := by omega
        have hm : m < l.length := by omega
        have hem := eat_get hm
        repeat' (first | (with_reducible first | refine vseq ?_ | refine vthenN ?_ | refine vthenE ?_ | refine vthenR ?_ | refine vret ?_ | refine vskip ?_ | refine vexit ?_ | refine vblock ?_ | refine vblockN ?_ | refine vblockR ?_ | refine vblockH ?_ | refine vrun_nil ?_ | refine vblockE rfl ?_ | refine vregion [] ?_ | refine vhrun_nil ?_) | ((with_reducible refine vcondT ?_ ?_); (focus (go_simp; done))) | ((with_reducible refine vcondF ?_ ?_); (focus (go_simp; done))) | ((with_reducible first | refine vrun_cons fun KK hKK => ?_ | refine vhrun_cons fun KK hKK => ?_); go_simp; (first | (with_reducible refine ⟨_, h1, ?_⟩) | (with_reducible refine ⟨_, h2, ?_⟩) | (with_reducible refine ⟨_, h3, ?_⟩) | (with_reducible refine ⟨_, h4, ?_⟩) | (with_reducible refine ⟨_, h5, ?_⟩) | (with_reducible refine ⟨_, p_unless _ _, ?_⟩) | (with_reducible refine ⟨_, p_isDate _, ?_⟩) | (with_reducible refine ⟨_, p_within _ _ _, ?_⟩) | (refine ⟨_, p_firstA _ rfl rfl, ?_⟩) | skip); refine hKK _ ?_; clear hKK KK) | ((refine vdrawL 77 77 [] rfl (by kernel_rfl) (by kernel_rfl) ?_); simp only [List.append, List.take, List.drop]) | ((with_reducible refine vcondS ?_ (fun ht => ?_) (fun ht => ?_)); (focus (go_simp; done)); (all_goals (simp [go_sem] at ht; replace ht := ht.out))) | ((apply vrun_consG0 rfl); (focus (go_simp <;> exact rfl)); (focus (go_simp; done)); (focus (intro hb0; replace hb0 := hb0.out; go_simp <;> (first | exact rfl | exact h1 | exact h2 | exact h3 | exact h4 | exact h5 | exact p_unless _ _ | exact p_isDate _ | exact p_within _ _ _ | exact p_firstA _ rfl rfl | exact ⟨h1, rfl⟩ | exact ⟨h2, rfl⟩ | exact ⟨h3, rfl⟩ | exact ⟨h4, rfl⟩ | exact ⟨h5, rfl⟩ | exact ⟨p_unless _ _, rfl⟩ | exact ⟨p_isDate _, rfl⟩ | exact ⟨p_within _ _ _, rfl⟩ | exact ⟨p_firstA _ rfl rfl, rfl⟩))); intro KK hKK; go_simp; refine hKK _ ?_; clear hKK KK) | ((apply vhrun_consG0 rfl); (focus (go_simp <;> exact rfl)); (focus (intro hb0; replace hb0 := hb0.out; go_simp <;> (first | exact rfl | exact h1 | exact h2 | exact h3 | exact h4 | exact h5 | exact p_unless _ _ | exact p_isDate _ | exact p_within _ _ _ | exact p_firstA _ rfl rfl | exact ⟨h1, rfl⟩ | exact ⟨h2, rfl⟩ | exact ⟨h3, rfl⟩ | exact ⟨h4, rfl⟩ | exact ⟨h5, rfl⟩ | exact ⟨p_unless _ _, rfl⟩ | exact ⟨p_isDate _, rfl⟩ | exact ⟨p_within _ _ _, rfl⟩ | exact ⟨p_firstA _ rfl rfl, rfl⟩))); intro KK hKK; go_simp; refine hKK _ ?_; clear hKK KK))
        go_simp
    · have hf : findK (.int .i64 v.kind) (updK (.int .i64 4) (.int .i64 3) (updK (.int .i64 3) (.int .i64 2) [])) = none := by
        have e1 : updK (.int .i64 4) (.int .i64 3) (updK (.int .i64 3) (.int .i64 2) []) = [(.int .i64 3, .int .i64 2), (.int .i64 4, .int .i64 3)] := rfl
        rw [e1]
        simp [findK, sameKey, k3, k4]
      rcases hln : l.length with _ | m
      · repeat' (first | (with_reducible first | refine vseq ?_ | refine vthenN ?_ | refine vthenE ?_ | refine vthenR ?_ | refine vret ?_ | refine vskip ?_ | refine vexit ?_ | refine vblock ?_ | refine vblockN ?_ | refine vblockR ?_ | refine vblockH ?_ | refine vrun_nil ?_ | refine vblockE rfl ?_ | refine vregion [] ?_ | refine vhrun_nil ?_) | ((with_reducible refine vcondT ?_ ?_); (focus (go_simp; done))) | ((with_reducible refine vcondF ?_ ?_); (focus (go_simp; done))) | ((with_reducible first | refine vrun_cons fun KK hKK => ?_ | refine vhrun_cons fun KK hKK => ?_); go_simp; (first | (with_reducible refine ⟨_, h1, ?_⟩) | (with_reducible refine ⟨_, h2, ?_⟩) | (with_reducible refine ⟨_, h3, ?_⟩) | (with_reducible refine ⟨_, h4, ?_⟩) | (with_reducible refine ⟨_, h5, ?_⟩) | (with_reducible refine ⟨_, p_unless _ _, ?_⟩) | (with_reducible refine ⟨_, p_isDate _, ?_⟩) | (with_reducible refine ⟨_, p_within _ _ _, ?_⟩) | (refine ⟨_, p_firstA _ rfl rfl, ?_⟩) | skip); refine hKK _ ?_; clear hKK KK) | ((refine vdrawL 77 77 [] rfl (by kernel_rfl) (by kernel_rfl) ?_); simp only [List.append, List.take, List.drop]) | ((with_reducible refine vcondS ?_ (fun ht => ?_) (fun ht => ?_)); (focus (go_simp; done)); (all_goals (simp [go_sem] at ht; replace ht := ht.out))) | ((apply vrun_consG0 rfl); (focus (go_simp <;> exact rfl)); (focus (go_simp; done)); (focus (intro hb0; replace hb0 := hb0.out; go_simp <;> (first | exact rfl | exact h1 | exact h2 | exact h3 | exact h4 | exact h5 | exact p_unless _ _ | exact p_isDate _ | exact p_within _ _ _ | exact p_firstA _ rfl rfl | exact ⟨h1, rfl⟩ | exact ⟨h2, rfl⟩ | exact ⟨h3, rfl⟩ | exact ⟨h4, rfl⟩ | exact ⟨h5, rfl⟩ | exact ⟨p_unless _ _, rfl⟩ | exact ⟨p_isDate _, rfl⟩ | exact ⟨p_within _ _ _, rfl⟩ | exact ⟨p_firstA _ rfl rfl, rfl⟩))); intro KK hKK; go_simp; refine hKK _ ?_; clear hKK KK) | ((apply vhrun_consG0 rfl); (focus (go_simp <;> exact rfl)); (focus (intro hb0; replace hb0 := hb0.out; go_simp <;> (first | exact rfl | exact h1 | exact h2 | exact h3 | exact h4 | exact h5 | exact p_unless _ _ | exact p_isDate _ | exact p_within _ _ _ | exact p_firstA _ rfl rfl | exact ⟨h1, rfl⟩ | exact ⟨h2, rfl⟩ | exact ⟨h3, rfl⟩ | exact ⟨h4, rfl⟩ | exact ⟨h5, rfl⟩ | exact ⟨p_unless _ _, rfl⟩ | exact ⟨p_isDate _, rfl⟩ | exact ⟨p_within _ _ _, rfl⟩ | exact ⟨p_firstA _ rfl rfl, rfl⟩))); intro KK hKK; go_simp; refine hKK _ ?_; clear hKK KK))
        go_simp
      · obtain ⟨w1, w2, w3, w4, w5, w6⟩ := ixs (m := m) (by omega)
        have hne : ¬ (m : Int) + 1 = 0 := by omega
        have hm : m < l.length := by omega
        have hem := eat_get hm
        repeat' (first | (with_reducible first | refine vseq ?_ | refine vthenN ?_ | refine vthenE ?_ | refine vthenR ?_ | refine vret ?_ | refine vskip ?_ | refine vexit ?_ | refine vblock ?_ | refine vblockN ?_ | refine vblockR ?_ | refine vblockH ?_ | refine vrun_nil ?_ | refine vblockE rfl ?_ | refine vregion [] ?_ | refine vhrun_nil ?_) | ((with_reducible refine vcondT ?_ ?_); (focus (go_simp; done))) | ((with_reducible refine vcondF ?_ ?_); (focus (go_simp; done))) | ((with_reducible first | refine vrun_cons fun KK hKK => ?_ | refine vhrun_cons fun KK hKK => ?_); go_simp; (first | (with_reducible refine ⟨_, h1, ?_⟩) | (with_reducible refine ⟨_, h2, ?_⟩) | (with_reducible refine ⟨_, h3, ?_⟩) | (with_reducible refine ⟨_, h4, ?_⟩) | (with_reducible refine ⟨_, h5, ?_⟩) | (with_reducible refine ⟨_, p_unless _ _, ?_⟩) | (with_reducible refine ⟨_, p_isDate _, ?_⟩) | (with_reducible refine ⟨_, p_within _ _ _, ?_⟩) | (refine ⟨_, p_firstA _ rfl rfl, ?_⟩) | skip); refine hKK _ ?_; clear hKK KK) | ((refine vdrawL 77 77 [] rfl (by kernel_rfl) (by kernel_rfl) ?_); simp only [List.append, List.take, List.drop]) | ((with_reducible refine vcondS ?_ (fun ht => ?_) (fun ht => ?_)); (focus (go_simp; done)); (all_goals (simp [go_sem] at ht; replace ht := ht.out))) | ((apply vrun_consG0 rfl); (focus (go_simp <;> exact rfl)); (focus (go_simp; done)); (focus (intro hb0; replace hb0 := hb0.out; go_simp <;> (first | exact rfl | exact h1 | exact h2 | exact h3 | exact h4 | exact h5 | exact p_unless _ _ | exact p_isDate _ | exact p_within _ _ _ | exact p_firstA _ rfl rfl | exact ⟨h1, rfl⟩ | exact ⟨h2, rfl⟩ | exact ⟨h3, rfl⟩ | exact ⟨h4, rfl⟩ | exact ⟨h5, rfl⟩ | exact ⟨p_unless _ _, rfl⟩ | exact ⟨p_isDate _, rfl⟩ | exact ⟨p_within _ _ _, rfl⟩ | exact ⟨p_firstA _ rfl rfl, rfl⟩))); intro KK hKK; go_simp; refine hKK _ ?_; clear hKK KK) | ((apply vhrun_consG0 rfl); (focus (go_simp <;> exact rfl)); (focus (intro hb0; replace hb0 := hb0.out; go_simp <;> (first | exact rfl | exact h1 | exact h2 | exact h3 | exact h4 | exact h5 | exact p_unless _ _ | exact p_isDate _ | exact p_within _ _ _ | exact p_firstA _ rfl rfl | exact ⟨h1, rfl⟩ | exact ⟨h2, rfl⟩ | exact ⟨h3, rfl⟩ | exact ⟨h4, rfl⟩ | exact ⟨h5, rfl⟩ | exact ⟨p_unless _ _, rfl⟩ | exact ⟨p_isDate _, rfl⟩ | exact ⟨p_within _ _ _, rfl⟩ | exact ⟨p_firstA _ rfl rfl, rfl⟩))); intro KK hKK; go_simp; refine hKK _ ?_; clear hKK KK))
        go_simp
end Go.Proofs.YthbgghmjbaldlaaGreatDoor

/-! QG: Walks on plain values: one more event, as the reference has it; chains; texts of at most 1000 bytes. -/
namespace Go.Proofs.YthbgghmjbaldlaaGreatDoor
open Go.RowKit
set_option maxRecDepth 100000
set_option maxHeartbeats 1000000
end Go.Proofs.YthbgghmjbaldlaaGreatDoor

/-! QH: Walks on plain values: chains, right or not; texts of at most 1000 bytes. -/
namespace Go.Proofs.YthbgghmjbaldlaaGreatDoor
open Go.RowKit
set_option maxRecDepth 100000
set_option maxHeartbeats 1000000
@[go_sem] theorem unl_t (e : Int) : unl true e = 0 := rfl
@[go_sem] theorem unl_f (e : Int) : unl false e = e := rfl
@[go_sem] theorem fst_0 (r : List Int) : fst (0 :: r) = fst r := rfl
@[go_sem] theorem fst_nil : fst [] = 0 := rfl
@[go_sem] theorem fst_8 (r : List Int) : fst (8 :: r) = 8 := rfl
theorem fst_zero : ∀ {l : List Int}, fst l = 0 → ∀ a ∈ l, a = 0
  | [], _, a, ha => by cases ha
  | x :: r, h, a, ha => by
    rw [fst] at h
    by_cases hx : x = 0
    · rw [if_neg (by simpa using hx)] at h
      rcases List.mem_cons.1 ha with rfl | ha
      · exact hx
      · exact fst_zero h a ha
    · rw [if_pos hx] at h
      exact absurd h hx
theorem unl_zero {c : Bool} {e : Int} (h : unl c e = 0) (he : e ≠ 0) : c = true := by
  cases c
  · exact absurd h he
  · rfl
def SmallL (l : List Event) : Prop := ∀ v ∈ l, SmallE v
theorem take_len {α : Type} {l : List α} {k : Nat} (h : k ≤ l.length) : (l.take k).length = k := by simp; omega
theorem p_CheckChain (x : Item) (l : List Event) (hl : l.length ≤ 1000000) (hx : SmallI x) (hs : SmallL l) : VC Tryz.prog 130 [itemA x, eventsA l] (.tup [I (checkChain x l).1, I (checkChain x l).2]) := by
  obtain ⟨R, hR⟩ : ∃ R, checkChain x l = R := ⟨_, rfl⟩
  rw [hR]
  obtain ⟨Rk, Re⟩ := R
  unfold checkChain checkL at hR
  have HR := Lib.hid hR
  have HS := Lib.hid hs
  have h1 := p_CheckItem x hx
  generalize thingErr x = T at *
  clear hR hs hx
  refine VC_of Tryz.func130 rfl (by kernel_rfl) (by kernel_rfl) rfl fun M0 w0 => ?_
  simp only [Tryz.ntmps130, Tryz.results130, enumA]
  by_cases hT : T = 0
  · subst hT
    by_cases h30 : (30 : Int) < l.length
    · have h30' : ¬ (l.length : Int) ≤ 30 := by omega
      repeat' (first | (with_reducible first | refine vseq ?_ | refine vthenN ?_ | refine vthenE ?_ | refine vthenR ?_ | refine vret ?_ | refine vskip ?_ | refine vexit ?_ | refine vblock ?_ | refine vblockN ?_ | refine vblockR ?_ | refine vblockH ?_ | refine vrun_nil ?_ | refine vblockE rfl ?_ | refine vregion [] ?_ | refine vhrun_nil ?_) | ((with_reducible refine vcondT ?_ ?_); (focus (go_simp; done))) | ((with_reducible refine vcondF ?_ ?_); (focus (go_simp; done))) | ((with_reducible first | refine vrun_cons fun KK hKK => ?_ | refine vhrun_cons fun KK hKK => ?_); go_simp; (first | (with_reducible refine ⟨_, h1, ?_⟩) | (with_reducible refine ⟨_, p_unless _ _, ?_⟩) | (refine ⟨_, p_firstA _ rfl rfl, ?_⟩) | skip); refine hKK _ ?_; clear hKK KK) | ((refine vdrawL 9 9 [] rfl (by kernel_rfl) (by kernel_rfl) ?_); simp only [List.append, List.take, List.drop]) | ((with_reducible refine vcondS ?_ (fun ht => ?_) (fun ht => ?_)); (focus (go_simp; done)); (all_goals (simp [go_sem] at ht; replace ht := ht.out))))
      have e := HR.out
      rw [if_neg (by decide), if_pos h30] at e
      injection e with e1 e2
      subst e1 e2
      go_simp
    · have h30' : (l.length : Int) ≤ 30 := by omega
      repeat' (first | (with_reducible first | refine vseq ?_ | refine vthenN ?_ | refine vthenE ?_ | refine vthenR ?_ | refine vret ?_ | refine vskip ?_ | refine vexit ?_ | refine vblock ?_ | refine vblockN ?_ | refine vblockR ?_ | refine vblockH ?_ | refine vrun_nil ?_ | refine vblockE rfl ?_ | refine vregion [] ?_ | refine vhrun_nil ?_) | ((with_reducible refine vcondT ?_ ?_); (focus (go_simp; done))) | ((with_reducible refine vcondF ?_ ?_); (focus (go_simp; done))) | ((with_reducible first | refine vrun_cons fun KK hKK => ?_ | refine vhrun_cons fun KK hKK => ?_); go_simp; (first | (with_reducible refine ⟨_, h1, ?_⟩) | (with_reducible refine ⟨_, p_unless _ _, ?_⟩) | (refine ⟨_, p_firstA _ rfl rfl, ?_⟩) | skip); refine hKK _ ?_; clear hKK KK) | ((refine vdrawL 9 9 [] rfl (by kernel_rfl) (by kernel_rfl) ?_); simp only [List.append, List.take, List.drop]) | ((with_reducible refine vcondS ?_ (fun ht => ?_) (fun ht => ?_)); (focus (go_simp; done)); (all_goals (simp [go_sem] at ht; replace ht := ht.out))))
      apply vfor [1, 2, 21, 22] (fun k => [(23, I k)]) (fun k => ([] : Hp)) (bad (chainE x l)) (l.length)
      · go_simp <;> exact rfl
      · go_simp
      · intro k hk HB HP K hK
        obtain ⟨w1, w2, w3, w4, w5, w6⟩ := ixs (m := k) (by omega)
        have hkl : k ≤ l.length := by omega
        have g := p_next x (l.take k) l[k] (by rw [take_len hkl]; omega) (HS.out _ (List.getElem_mem hk))
        have e := bad_no HP.out
        unfold chainE at e
        rw [eat_get hk] at e
        rw [e, chainA, List.map_take] at g
        have G := Lib.hid g
        clear g e
        repeat' (first | (with_reducible first | refine vseq ?_ | refine vthenN ?_ | refine vthenE ?_ | refine vthenR ?_ | refine vret ?_ | refine vskip ?_ | refine vexit ?_ | refine vblock ?_ | refine vblockN ?_ | refine vblockR ?_ | refine vblockH ?_ | refine vrun_nil ?_ | refine vblockE rfl ?_ | refine vregion [] ?_ | refine vhrun_nil ?_) | ((with_reducible refine vcondT ?_ ?_); (focus (go_simp; done))) | ((with_reducible refine vcondF ?_ ?_); (focus (go_simp; done))) | ((with_reducible first | refine vrun_cons fun KK hKK => ?_ | refine vhrun_cons fun KK hKK => ?_); go_simp; (first | (refine ⟨_, G.out, ?_⟩) | skip); refine hKK _ ?_; clear hKK KK) | ((refine vdrawL 9 9 [] rfl (by kernel_rfl) (by kernel_rfl) ?_); simp only [List.take, List.drop]) | ((with_reducible refine vcondS ?_ (fun ht => ?_) (fun ht => ?_)); (focus (go_simp; done)); (all_goals (simp [go_sem] at ht; replace ht := ht.out))))
        refine hK _ ?_
        go_simp
      · intro k hk HB HP K
        have hkl : k ≤ l.length := by omega
        have g := p_next x (l.take k) l[k] (by rw [take_len hkl]; omega) (HS.out _ (List.getElem_mem hk))
        have e := HR.out
        rw [if_neg (by decide), if_neg (by omega), firstErr_hit hk HB.out HP.out] at e
        injection e with e1 e2
        have hne := bad_yes HP.out
        rw [e2] at hne
        unfold chainE at e2
        rw [eat_get hk] at e2
        rw [e2, chainA, List.map_take] at g
        have G := Lib.hid g
        subst e1
        clear g e2
        repeat' (first | (with_reducible first | refine vseq ?_ | refine vthenN ?_ | refine vthenE ?_ | refine vthenR ?_ | refine vret ?_ | refine vskip ?_ | refine vexit ?_ | refine vblock ?_ | refine vblockN ?_ | refine vblockR ?_ | refine vblockH ?_ | refine vrun_nil ?_ | refine vblockE rfl ?_ | refine vregion [] ?_ | refine vhrun_nil ?_) | ((with_reducible refine vcondT ?_ ?_); (focus (go_simp; done))) | ((with_reducible refine vcondF ?_ ?_); (focus (go_simp; done))) | ((with_reducible first | refine vrun_cons fun KK hKK => ?_ | refine vhrun_cons fun KK hKK => ?_); go_simp; (first | (refine ⟨_, G.out, ?_⟩) | skip); refine hKK _ ?_; clear hKK KK) | ((refine vdrawL 9 9 [] rfl (by kernel_rfl) (by kernel_rfl) ?_); simp only [List.take, List.drop]) | ((with_reducible refine vcondS ?_ (fun ht => ?_) (fun ht => ?_)); (focus (go_simp; done)); (all_goals (simp [go_sem] at ht; replace ht := ht.out))))
        go_simp
      · intro HB K
        have e := HR.out
        rw [if_neg (by decide), if_neg (by omega), firstErr_out HB.out] at e
        injection e with e1 e2
        subst e1 e2
        repeat (first | (with_reducible first | refine vseq ?_ | refine vthenN ?_ | refine vthenE ?_ | refine vthenR ?_ | refine vret ?_ | refine vskip ?_ | refine vexit ?_ | refine vblock ?_ | refine vblockN ?_ | refine vblockR ?_ | refine vblockH ?_ | refine vrun_nil ?_ | refine vblockE rfl ?_ | refine vregion [] ?_ | refine vhrun_nil ?_) | ((with_reducible refine vcondT ?_ ?_); (focus (go_simp; done))) | ((with_reducible refine vcondF ?_ ?_); (focus (go_simp; done))) | ((with_reducible first | refine vrun_cons fun KK hKK => ?_ | refine vhrun_cons fun KK hKK => ?_); go_simp; refine hKK _ ?_; clear hKK KK) | ((refine vdrawL 9 9 [] rfl (by kernel_rfl) (by kernel_rfl) ?_); simp only [List.append, List.take, List.drop]))
        go_simp
  · have hf : ∀ a, fst [T, a] = T := fun a => by simp [fst, hT]
    repeat' (first | (with_reducible first | refine vseq ?_ | refine vthenN ?_ | refine vthenE ?_ | refine vthenR ?_ | refine vret ?_ | refine vskip ?_ | refine vexit ?_ | refine vblock ?_ | refine vblockN ?_ | refine vblockR ?_ | refine vblockH ?_ | refine vrun_nil ?_ | refine vblockE rfl ?_ | refine vregion [] ?_ | refine vhrun_nil ?_) | ((with_reducible refine vcondT ?_ ?_); (focus (go_simp; done))) | ((with_reducible refine vcondF ?_ ?_); (focus (go_simp; done))) | ((with_reducible first | refine vrun_cons fun KK hKK => ?_ | refine vhrun_cons fun KK hKK => ?_); go_simp; (first | (with_reducible refine ⟨_, h1, ?_⟩) | (with_reducible refine ⟨_, p_unless _ _, ?_⟩) | (refine ⟨_, p_firstA _ rfl rfl, ?_⟩) | skip); refine hKK _ ?_; clear hKK KK) | ((refine vdrawL 9 9 [] rfl (by kernel_rfl) (by kernel_rfl) ?_); simp only [List.append, List.take, List.drop]) | ((with_reducible refine vcondS ?_ (fun ht => ?_) (fun ht => ?_)); (focus (go_simp; done)); (all_goals (simp [go_sem] at ht; replace ht := ht.out))))
    have e := HR.out
    rw [if_pos hT] at e
    injection e with e1 e2
    subst e1 e2
    go_simp
end Go.Proofs.YthbgghmjbaldlaaGreatDoor

/-! QI: Walks on plain values: a chain on a day, rewards; texts of at most 1000 bytes. -/
namespace Go.Proofs.YthbgghmjbaldlaaGreatDoor
open Go.RowKit
set_option maxRecDepth 100000
set_option maxHeartbeats 1000000
theorem p_at (x : Item) (l : List Event) (day : Int) (hl : l.length ≤ 1000000) (hx : SmallI x) (hs : SmallL l) : VC Tryz.prog 95 [itemA x, eventsA l, I day] (.tup [chainA x (untilL l day), I (atErr x l day)]) := by
  have h1 := p_CheckChain x l hl hx hs
  have h2 := p_until x l day hl
  unfold atErr
  generalize checkChain x l = E at *
  generalize untilL l day = U at *
  clear hx hs
  refine VC_of Tryz.func95 rfl (by kernel_rfl) (by kernel_rfl) rfl fun M0 w0 => ?_
  simp only [Tryz.ntmps95, Tryz.results95, enumA]
  repeat' (first | (with_reducible first | refine vseq ?_ | refine vthenN ?_ | refine vthenE ?_ | refine vthenR ?_ | refine vret ?_ | refine vskip ?_ | refine vexit ?_ | refine vblock ?_ | refine vblockN ?_ | refine vblockR ?_ | refine vblockH ?_ | refine vrun_nil ?_ | refine vblockE rfl ?_ | refine vregion [] ?_ | refine vhrun_nil ?_) | ((with_reducible refine vcondT ?_ ?_); (focus (go_simp; done))) | ((with_reducible refine vcondF ?_ ?_); (focus (go_simp; done))) | ((with_reducible first | refine vrun_cons fun KK hKK => ?_ | refine vhrun_cons fun KK hKK => ?_); go_simp; (first | (with_reducible refine ⟨_, h1, ?_⟩) | skip); refine hKK _ ?_; clear hKK KK) | ((with_reducible refine vcondS ?_ (fun ht => ?_) (fun ht => ?_)); (focus (go_simp; done)); (all_goals (simp [go_sem] at ht; replace ht := ht.out))))
  refine vdraw 14 [] (by kernel_rfl) (by kernel_rfl) ?_
  simp only [List.take, List.drop]
  repeat' (first | (with_reducible first | refine vseq ?_ | refine vthenN ?_ | refine vthenE ?_ | refine vthenR ?_ | refine vret ?_ | refine vskip ?_ | refine vexit ?_ | refine vblock ?_ | refine vblockN ?_ | refine vblockR ?_ | refine vblockH ?_ | refine vrun_nil ?_ | refine vblockE rfl ?_ | refine vregion [] ?_ | refine vhrun_nil ?_) | ((with_reducible refine vcondT ?_ ?_); (focus (go_simp; done))) | ((with_reducible refine vcondF ?_ ?_); (focus (go_simp; done))) | ((with_reducible first | refine vrun_cons fun KK hKK => ?_ | refine vhrun_cons fun KK hKK => ?_); go_simp; (first | (with_reducible refine ⟨_, h2, ?_⟩) | (with_reducible refine ⟨_, p_within _ _ _, ?_⟩) | (with_reducible refine ⟨_, p_unless _ _, ?_⟩) | (refine ⟨_, p_firstA _ rfl rfl, ?_⟩) | skip); refine hKK _ ?_; clear hKK KK) | ((refine vdrawL 16 14 [] rfl (by kernel_rfl) (by kernel_rfl) ?_); simp only [List.append, List.take, List.drop]) | ((with_reducible refine vcondS ?_ (fun ht => ?_) (fun ht => ?_)); (focus (go_simp; done)); (all_goals (simp [go_sem] at ht; replace ht := ht.out))))
  go_simp
/-- Who has the item on a day, or the error. -/
theorem p_HolderAt (x : Item) (l : List Event) (day : Int) (hl : l.length ≤ 1000000) (hx : SmallI x) (hs : SmallL l) : VC Tryz.prog 43 [itemA x, eventsA l, I day] (.tup [S (if atErr x l day = 0 then holder x (untilL l day) else ⟨#[]⟩), I (atErr x l day)]) := by
  have h1 := p_at x l day hl hx hs
  have h2 := p_holder x (untilL l day) (by simp only [untilL, List.length_take]; omega)
  generalize atErr x l day = E at *
  generalize untilL l day = U at *
  clear hx hs
  refine VC_of Tryz.func43 rfl (by kernel_rfl) (by kernel_rfl) rfl fun M0 w0 => ?_
  simp only [Tryz.ntmps43, Tryz.results43, enumA]
  repeat' (first | (with_reducible first | refine vseq ?_ | refine vthenN ?_ | refine vthenE ?_ | refine vthenR ?_ | refine vret ?_ | refine vskip ?_ | refine vexit ?_ | refine vblock ?_ | refine vblockN ?_ | refine vblockR ?_ | refine vblockH ?_ | refine vrun_nil ?_ | refine vblockE rfl ?_ | refine vregion [] ?_ | refine vhrun_nil ?_) | ((with_reducible refine vcondT ?_ ?_); (focus (go_simp; done))) | ((with_reducible refine vcondF ?_ ?_); (focus (go_simp; done))) | ((with_reducible first | refine vrun_cons fun KK hKK => ?_ | refine vhrun_cons fun KK hKK => ?_); go_simp; (first | (with_reducible refine ⟨_, h1, ?_⟩) | (with_reducible refine ⟨_, h2, ?_⟩) | skip); refine hKK _ ?_; clear hKK KK) | ((with_reducible refine vcondS ?_ (fun ht => ?_) (fun ht => ?_)); (focus (go_simp; done)); (all_goals (simp [go_sem] at ht; replace ht := ht.out))))
  all_goals (go_simp; first | done | (simp_all []; done) | (simp only []; (try intros); (repeat' split) <;> (first | rfl | omega | (simp_all; done) | (simp_all; omega))) | ((try intros); (repeat' split) <;> (first | rfl | omega | (simp_all; done) | (simp_all; omega))))
theorem p_RightAt (x : Item) (l : List Event) (day : Int) (hl : l.length ≤ 1000000) (hx : SmallI x) (hs : SmallL l) : VC Tryz.prog 46 [itemA x, eventsA l, I day] (.tup [I (if atErr x l day = 0 then right (untilL l day) day else 0), I (atErr x l day)]) := by
  have h1 := p_at x l day hl hx hs
  have h2 := p_right x (untilL l day) day (by simp only [untilL, List.length_take]; omega)
  generalize atErr x l day = E at *
  generalize untilL l day = U at *
  clear hx hs
  refine VC_of Tryz.func46 rfl (by kernel_rfl) (by kernel_rfl) rfl fun M0 w0 => ?_
  simp only [Tryz.ntmps46, Tryz.results46, enumA]
  repeat' (first | (with_reducible first | refine vseq ?_ | refine vthenN ?_ | refine vthenE ?_ | refine vthenR ?_ | refine vret ?_ | refine vskip ?_ | refine vexit ?_ | refine vblock ?_ | refine vblockN ?_ | refine vblockR ?_ | refine vblockH ?_ | refine vrun_nil ?_ | refine vblockE rfl ?_ | refine vregion [] ?_ | refine vhrun_nil ?_) | ((with_reducible refine vcondT ?_ ?_); (focus (go_simp; done))) | ((with_reducible refine vcondF ?_ ?_); (focus (go_simp; done))) | ((with_reducible first | refine vrun_cons fun KK hKK => ?_ | refine vhrun_cons fun KK hKK => ?_); go_simp; (first | (with_reducible refine ⟨_, h1, ?_⟩) | (with_reducible refine ⟨_, h2, ?_⟩) | skip); refine hKK _ ?_; clear hKK KK) | ((with_reducible refine vcondS ?_ (fun ht => ?_) (fun ht => ?_)); (focus (go_simp; done)); (all_goals (simp [go_sem] at ht; replace ht := ht.out))))
  all_goals (go_simp; first | done | (simp_all []; done) | (simp only []; (try intros); (repeat' split) <;> (first | rfl | omega | (simp_all; done) | (simp_all; omega))) | ((try intros); (repeat' split) <;> (first | rfl | omega | (simp_all; done) | (simp_all; omega))))
/-! ### Rewards -/
def reward (v : Int) : Int := if inR v 0 1000000000 = false then 0 else if v ≤ 50000 then v * 5 / 100 else (250000 + 3 * (v - 50000)) / 100
def rewardE (v : Int) : Int := if inR v 0 1000000000 = false then 2 else 0
theorem p_RewardOf (v : Int) : VC Tryz.prog 51 [I v] (.tup [I (reward v), I (rewardE v)]) := by
  unfold reward rewardE
  refine VC_of Tryz.func51 rfl (by kernel_rfl) (by kernel_rfl) rfl fun M0 w0 => ?_
  simp only [Tryz.ntmps51, Tryz.results51, enumA]
  cases hr : inR v 0 1000000000
  · have h1 := p_within v 0 1000000000
    rw [hr] at h1
    repeat' (first | (with_reducible first | refine vseq ?_ | refine vthenN ?_ | refine vthenE ?_ | refine vthenR ?_ | refine vret ?_ | refine vskip ?_ | refine vexit ?_ | refine vblock ?_ | refine vblockN ?_ | refine vblockR ?_ | refine vblockH ?_ | refine vrun_nil ?_ | refine vblockE rfl ?_ | refine vregion [] ?_ | refine vhrun_nil ?_) | ((with_reducible refine vcondT ?_ ?_); (focus (go_simp; done))) | ((with_reducible refine vcondF ?_ ?_); (focus (go_simp; done))) | ((with_reducible first | refine vrun_cons fun KK hKK => ?_ | refine vhrun_cons fun KK hKK => ?_); go_simp; (first | (with_reducible refine ⟨_, h1, ?_⟩) | skip); refine hKK _ ?_; clear hKK KK) | ((with_reducible refine vcondS ?_ (fun ht => ?_) (fun ht => ?_)); (focus (go_simp; done)); (all_goals (simp [go_sem] at ht; replace ht := ht.out))))
    go_simp
  · have h1 := p_within v 0 1000000000
    rw [hr] at h1
    obtain ⟨b1, b2⟩ := inR_iff.1 hr
    clear hr
    by_cases h5 : v ≤ 50000
    · have e1 : (if v < 50000 then v else 50000) = v := by split <;> omega
      have e2 : (if v ≤ 50000 then v else 50000) = v := if_pos h5
      have e3 : min v 50000 = v := by omega
      have w1 := wrap_eq (x := 5 * v) (by omega) (by omega)
      have hq : (5 * v).tdiv 100 = v * 5 / 100 := by rw [Int.tdiv_eq_ediv_of_nonneg (by omega)]; omega
      have w2 := wrap_eq (x := v * 5 / 100) (by omega) (by omega)
      have wz : IntKind.i64.wrap 0 = 0 := rfl
      have hn : ¬ 50000 < v := by omega
      repeat' (first | (with_reducible first | refine vseq ?_ | refine vthenN ?_ | refine vthenE ?_ | refine vthenR ?_ | refine vret ?_ | refine vskip ?_ | refine vexit ?_ | refine vblock ?_ | refine vblockN ?_ | refine vblockR ?_ | refine vblockH ?_ | refine vrun_nil ?_ | refine vblockE rfl ?_ | refine vregion [] ?_ | refine vhrun_nil ?_) | ((with_reducible refine vcondT ?_ ?_); (focus (go_simp; done))) | ((with_reducible refine vcondF ?_ ?_); (focus (go_simp; done))) | ((with_reducible first | refine vrun_cons fun KK hKK => ?_ | refine vhrun_cons fun KK hKK => ?_); go_simp; (first | (with_reducible refine ⟨_, h1, ?_⟩) | skip); refine hKK _ ?_; clear hKK KK) | ((with_reducible refine vcondS ?_ (fun ht => ?_) (fun ht => ?_)); (focus (go_simp; done)); (all_goals (simp [go_sem] at ht; replace ht := ht.out))))
      go_simp
    · have e1 : (if v < 50000 then v else 50000) = 50000 := by split <;> omega
      have e3 : min v 50000 = 50000 := by omega
      have w0 := wrap_eq (x := v - 50000) (by omega) (by omega)
      have w1 := wrap_eq (x := 3 * (v - 50000)) (by omega) (by omega)
      have w3 : IntKind.i64.wrap 250000 = 250000 := rfl
      have hp : 50000 < v := by omega
      have w2 := wrap_eq (x := 250000 + 3 * (v - 50000)) (by omega) (by omega)
      have hq : (250000 + 3 * (v - 50000)).tdiv 100 = (250000 + 3 * (v - 50000)) / 100 := Int.tdiv_eq_ediv_of_nonneg (by omega)
      have w4 := wrap_eq (x := (250000 + 3 * (v - 50000)) / 100) (by omega) (by omega)
      repeat' (first | (with_reducible first | refine vseq ?_ | refine vthenN ?_ | refine vthenE ?_ | refine vthenR ?_ | refine vret ?_ | refine vskip ?_ | refine vexit ?_ | refine vblock ?_ | refine vblockN ?_ | refine vblockR ?_ | refine vblockH ?_ | refine vrun_nil ?_ | refine vblockE rfl ?_ | refine vregion [] ?_ | refine vhrun_nil ?_) | ((with_reducible refine vcondT ?_ ?_); (focus (go_simp; done))) | ((with_reducible refine vcondF ?_ ?_); (focus (go_simp; done))) | ((with_reducible first | refine vrun_cons fun KK hKK => ?_ | refine vhrun_cons fun KK hKK => ?_); go_simp; (first | (with_reducible refine ⟨_, h1, ?_⟩) | skip); refine hKK _ ?_; clear hKK KK) | ((with_reducible refine vcondS ?_ (fun ht => ?_) (fun ht => ?_)); (focus (go_simp; done)); (all_goals (simp [go_sem] at ht; replace ht := ht.out))))
      go_simp
end Go.Proofs.YthbgghmjbaldlaaGreatDoor
