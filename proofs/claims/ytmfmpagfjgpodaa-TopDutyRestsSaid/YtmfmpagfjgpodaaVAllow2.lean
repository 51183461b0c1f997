/- Walks on plain values: the errors of trips, and the law of allowed trips; records with texts of at most 1000 bytes. -/
import Derived.Test.YtmfmpagfjgpodaaVAllow
namespace Go.Proofs.Ytmfmpagfjgpodaa
open Go.RowKit
set_option maxRecDepth 100000
theorem tripErr_both {r : Rul} {l : List Rec} {t : Trip} (h : bothErr r l ≠ 0) : tripErrP r l t = bothErr r l := by
  have : tripE r l t = bothErr r l := by unfold tripE; rw [fst, if_pos h]
  unfold tripErrP
  rw [this, if_pos h]
/-- A right trip. -/
theorem tripRight {r : Rul} {l : List Rec} {t : Trip} (h : tripErrP r l t = 0) : bothErr r l = 0 ∧ l.length < 40 ∧ (0 ≤ t.start ∧ t.start ≤ 8640000000) ∧ (0 ≤ t.lo ∧ t.lo ≤ 200000) ∧ (0 ≤ t.hi ∧ t.hi ≤ 200000) ∧ t.lo ≤ t.hi ∧ (-1 ≤ t.next ∧ t.next ≤ 8640000000) ∧ endOf l ≤ t.start ∧ (firstBroken r l).2 = 0 := by
  unfold tripErrP at h
  have h0 : tripE r l t = 0 := by
    by_cases h0 : tripE r l t = 0
    · exact h0
    · rw [if_pos h0] at h; exact h
  rw [if_neg (by simpa using h0)] at h
  have hz := fst_zero h0
  simp only [List.mem_cons, List.not_mem_nil, or_false, forall_eq_or_imp, forall_eq] at hz
  obtain ⟨z0, z1, z2, z3, z4, z5⟩ := hz
  have y1 := unl_zero (by decide) z1
  have y2 := unl_zero (by decide) z2
  have y3 := unl_zero (by decide) z3
  have y4 := unl_zero (by decide) z4
  have y5 := unl_zero (by decide) z5
  have y6 := unl_zero (by decide) h
  simp only [decide_eq_true_eq] at y1 y3 y5 y6
  simp only [Bool.and_eq_true, isTime, isTake, inR_iff] at y2
  simp only [Bool.or_eq_true, beq_iff_eq, isTime, inR_iff] at y4
  exact ⟨z0, by omega, y2.1.1, y2.1.2, y2.2, y3, by omega, y5, y6⟩
set_option maxHeartbeats 4000000 in
theorem v83 (l : List Rec) (r : Rul) (t : Trip) (hb : bothErr r l = 0) : VC Try.prog 83 [.agg r.av, recsA l, .agg t.av] (I (tripErrP r l t)) := by
  have hR := (bothErr_zero hb).2
  have hl := hR.len
  have h35 := v35 l r (by omega) hR.timed
  rw [← firstBroken_is hR] at h35
  have hend : l.length ≠ 0 → endOf l = (rat l (l.length - 1)).hi := fun h => by unfold endOf; rw [if_neg h]
  have hend0 : l.length = 0 → endOf l = 0 := fun h => by unfold endOf; rw [if_pos h]
  generalize hR0 : tripErrP r l t = R
  unfold tripErrP tripE at hR0
  rw [hb] at hR0
  generalize endOf l = E at *
  generalize firstBroken r l = F at *
  obtain ⟨fk, fb⟩ := F
  simp only [isTake] at hR0 h35
  have HR := Lib.hid hR0
  have H35 := Lib.hid h35
  have HE := Lib.hid hend
  have HE0 := Lib.hid hend0
  clear hR0 h35 hend hend0 hb hR
  refine VC_of Try.func83 rfl (by kernel_rfl) (by kernel_rfl) rfl fun M0 w0 => ?_
  simp only [Try.ntmps83, Try.results83, enumA]
  by_cases c1 : (40 : Int) ≤ l.length
  · repeat (first | (with_reducible refine vseq ?_) | (with_reducible refine vthenN ?_) | (with_reducible refine vthenE ?_) | (with_reducible refine vthenR ?_) | (with_reducible refine vret ?_) | (with_reducible refine vskip ?_) | (with_reducible refine vexit ?_) | (with_reducible refine vblock ?_) | (with_reducible refine vblockN ?_) | (with_reducible refine vblockR ?_) | (with_reducible refine vblockH ?_) | (with_reducible refine vrun_nil ?_) | (with_reducible refine vblockE rfl ?_) | (with_reducible refine vregion [] ?_) | (with_reducible refine vhrun_nil ?_) | ((with_reducible refine vcondT ?_ ?_); (focus (go_simp; done))) | ((with_reducible refine vcondF ?_ ?_); (focus (go_simp; done))) | ((with_reducible refine vrun_cons fun KK hKK => ?_); go_simp; (first | (with_reducible refine ⟨_, v22 _, ?_⟩) | (with_reducible refine ⟨_, v36 _ _ _, ?_⟩) | skip); refine hKK _ ?_; clear hKK KK) | ((with_reducible refine vhrun_cons fun KK hKK => ?_); go_simp; (first | (with_reducible refine ⟨_, v22 _, ?_⟩) | (with_reducible refine ⟨_, v36 _ _ _, ?_⟩) | skip); refine hKK _ ?_; clear hKK KK))
    have e := HR.out
    simp [fst, unl, show ¬ (l.length : Int) < 40 by omega] at e
    subst e
    go_simp
  · have c1' : (l.length : Int) < 40 := by omega
    cases c2 : isTime t.start
    · repeat (first | (with_reducible refine vseq ?_) | (with_reducible refine vthenN ?_) | (with_reducible refine vthenE ?_) | (with_reducible refine vthenR ?_) | (with_reducible refine vret ?_) | (with_reducible refine vskip ?_) | (with_reducible refine vexit ?_) | (with_reducible refine vblock ?_) | (with_reducible refine vblockN ?_) | (with_reducible refine vblockR ?_) | (with_reducible refine vblockH ?_) | (with_reducible refine vrun_nil ?_) | (with_reducible refine vblockE rfl ?_) | (with_reducible refine vregion [] ?_) | (with_reducible refine vhrun_nil ?_) | ((with_reducible refine vcondT ?_ ?_); (focus (go_simp; done))) | ((with_reducible refine vcondF ?_ ?_); (focus (go_simp; done))) | ((with_reducible refine vrun_cons fun KK hKK => ?_); go_simp; (first | (with_reducible refine ⟨_, v22 _, ?_⟩) | (with_reducible refine ⟨_, v36 _ _ _, ?_⟩) | skip); refine hKK _ ?_; clear hKK KK) | ((with_reducible refine vhrun_cons fun KK hKK => ?_); go_simp; (first | (with_reducible refine ⟨_, v22 _, ?_⟩) | (with_reducible refine ⟨_, v36 _ _ _, ?_⟩) | skip); refine hKK _ ?_; clear hKK KK))
      have e := HR.out
      simp [fst, unl, c1', c2] at e
      subst e
      go_simp
    · cases c3 : inR t.lo 0 200000
      · repeat (first | (with_reducible refine vseq ?_) | (with_reducible refine vthenN ?_) | (with_reducible refine vthenE ?_) | (with_reducible refine vthenR ?_) | (with_reducible refine vret ?_) | (with_reducible refine vskip ?_) | (with_reducible refine vexit ?_) | (with_reducible refine vblock ?_) | (with_reducible refine vblockN ?_) | (with_reducible refine vblockR ?_) | (with_reducible refine vblockH ?_) | (with_reducible refine vrun_nil ?_) | (with_reducible refine vblockE rfl ?_) | (with_reducible refine vregion [] ?_) | (with_reducible refine vhrun_nil ?_) | ((with_reducible refine vcondT ?_ ?_); (focus (go_simp; done))) | ((with_reducible refine vcondF ?_ ?_); (focus (go_simp; done))) | ((with_reducible refine vrun_cons fun KK hKK => ?_); go_simp; (first | (with_reducible refine ⟨_, v22 _, ?_⟩) | (with_reducible refine ⟨_, v36 _ _ _, ?_⟩) | skip); refine hKK _ ?_; clear hKK KK) | ((with_reducible refine vhrun_cons fun KK hKK => ?_); go_simp; (first | (with_reducible refine ⟨_, v22 _, ?_⟩) | (with_reducible refine ⟨_, v36 _ _ _, ?_⟩) | skip); refine hKK _ ?_; clear hKK KK))
        have e := HR.out
        simp [fst, unl, c1', c2, c3] at e
        subst e
        go_simp
      · cases c4 : inR t.hi 0 200000
        · repeat (first | (with_reducible refine vseq ?_) | (with_reducible refine vthenN ?_) | (with_reducible refine vthenE ?_) | (with_reducible refine vthenR ?_) | (with_reducible refine vret ?_) | (with_reducible refine vskip ?_) | (with_reducible refine vexit ?_) | (with_reducible refine vblock ?_) | (with_reducible refine vblockN ?_) | (with_reducible refine vblockR ?_) | (with_reducible refine vblockH ?_) | (with_reducible refine vrun_nil ?_) | (with_reducible refine vblockE rfl ?_) | (with_reducible refine vregion [] ?_) | (with_reducible refine vhrun_nil ?_) | ((with_reducible refine vcondT ?_ ?_); (focus (go_simp; done))) | ((with_reducible refine vcondF ?_ ?_); (focus (go_simp; done))) | ((with_reducible refine vrun_cons fun KK hKK => ?_); go_simp; (first | (with_reducible refine ⟨_, v22 _, ?_⟩) | (with_reducible refine ⟨_, v36 _ _ _, ?_⟩) | skip); refine hKK _ ?_; clear hKK KK) | ((with_reducible refine vhrun_cons fun KK hKK => ?_); go_simp; (first | (with_reducible refine ⟨_, v22 _, ?_⟩) | (with_reducible refine ⟨_, v36 _ _ _, ?_⟩) | skip); refine hKK _ ?_; clear hKK KK))
          have e := HR.out
          simp [fst, unl, c1', c2, c3, c4] at e
          subst e
          go_simp
        · by_cases c5 : t.hi < t.lo
          · repeat (first | (with_reducible refine vseq ?_) | (with_reducible refine vthenN ?_) | (with_reducible refine vthenE ?_) | (with_reducible refine vthenR ?_) | (with_reducible refine vret ?_) | (with_reducible refine vskip ?_) | (with_reducible refine vexit ?_) | (with_reducible refine vblock ?_) | (with_reducible refine vblockN ?_) | (with_reducible refine vblockR ?_) | (with_reducible refine vblockH ?_) | (with_reducible refine vrun_nil ?_) | (with_reducible refine vblockE rfl ?_) | (with_reducible refine vregion [] ?_) | (with_reducible refine vhrun_nil ?_) | ((with_reducible refine vcondT ?_ ?_); (focus (go_simp; done))) | ((with_reducible refine vcondF ?_ ?_); (focus (go_simp; done))) | ((with_reducible refine vrun_cons fun KK hKK => ?_); go_simp; (first | (with_reducible refine ⟨_, v22 _, ?_⟩) | (with_reducible refine ⟨_, v36 _ _ _, ?_⟩) | skip); refine hKK _ ?_; clear hKK KK) | ((with_reducible refine vhrun_cons fun KK hKK => ?_); go_simp; (first | (with_reducible refine ⟨_, v22 _, ?_⟩) | (with_reducible refine ⟨_, v36 _ _ _, ?_⟩) | skip); refine hKK _ ?_; clear hKK KK))
            have e := HR.out
            simp [fst, unl, c1', c2, c3, c4, show ¬ t.lo ≤ t.hi by omega] at e
            subst e
            go_simp
          · have c5' : t.lo ≤ t.hi := by omega
            by_cases c6 : t.next = -1
            · by_cases c8 : l.length = 0
              · have c9 : E ≤ t.start := by
                  rw [HE0.out c8]
                  exact (inR_iff.1 c2).1
                have c8' : (l.length : Int) = 0 := by omega
                by_cases c10 : fb = 0
                · have C9 := Lib.hid c9
                  clear c9
                  repeat (first | (with_reducible refine vseq ?_) | (with_reducible refine vthenN ?_) | (with_reducible refine vthenE ?_) | (with_reducible refine vthenR ?_) | (with_reducible refine vret ?_) | (with_reducible refine vskip ?_) | (with_reducible refine vexit ?_) | (with_reducible refine vblock ?_) | (with_reducible refine vblockN ?_) | (with_reducible refine vblockR ?_) | (with_reducible refine vblockH ?_) | (with_reducible refine vrun_nil ?_) | (with_reducible refine vblockE rfl ?_) | (with_reducible refine vregion [] ?_) | (with_reducible refine vhrun_nil ?_) | ((with_reducible refine vcondT ?_ ?_); (focus (go_simp; done))) | ((with_reducible refine vcondF ?_ ?_); (focus (go_simp; done))) | ((with_reducible refine vrun_cons fun KK hKK => ?_); go_simp; (first | (with_reducible refine ⟨_, v22 _, ?_⟩) | (with_reducible refine ⟨_, v36 _ _ _, ?_⟩) | skip); refine hKK _ ?_; clear hKK KK) | ((with_reducible refine vhrun_cons fun KK hKK => ?_); go_simp; (first | (with_reducible refine ⟨_, v22 _, ?_⟩) | (with_reducible refine ⟨_, v36 _ _ _, ?_⟩) | skip); refine hKK _ ?_; clear hKK KK))
                  refine vdraw 15 [] (by kernel_rfl) (by kernel_rfl) ?_
                  simp only [List.take, List.drop]
                  repeat (first | (with_reducible refine vseq ?_) | (with_reducible refine vthenN ?_) | (with_reducible refine vthenE ?_) | (with_reducible refine vthenR ?_) | (with_reducible refine vret ?_) | (with_reducible refine vskip ?_) | (with_reducible refine vexit ?_) | (with_reducible refine vblock ?_) | (with_reducible refine vblockN ?_) | (with_reducible refine vblockR ?_) | (with_reducible refine vblockH ?_) | (with_reducible refine vrun_nil ?_) | (with_reducible refine vblockE rfl ?_) | (with_reducible refine vregion [] ?_) | (with_reducible refine vhrun_nil ?_) | ((with_reducible refine vcondT ?_ ?_); (focus (go_simp; done))) | ((with_reducible refine vcondF ?_ ?_); (focus (go_simp; done))) | ((with_reducible refine vrun_cons fun KK hKK => ?_); go_simp; (first | (refine ⟨_, H35.out, ?_⟩) | skip); refine hKK _ ?_; clear hKK KK) | ((with_reducible refine vhrun_cons fun KK hKK => ?_); go_simp; (first | (refine ⟨_, H35.out, ?_⟩) | skip); refine hKK _ ?_; clear hKK KK))
                  have c9 := C9.out
                  have e := HR.out
                  simp [fst, unl, c1', c2, c3, c4, c5', c6, c9, c10] at e
                  subst e
                  go_simp
                · have C9 := Lib.hid c9
                  clear c9
                  repeat (first | (with_reducible refine vseq ?_) | (with_reducible refine vthenN ?_) | (with_reducible refine vthenE ?_) | (with_reducible refine vthenR ?_) | (with_reducible refine vret ?_) | (with_reducible refine vskip ?_) | (with_reducible refine vexit ?_) | (with_reducible refine vblock ?_) | (with_reducible refine vblockN ?_) | (with_reducible refine vblockR ?_) | (with_reducible refine vblockH ?_) | (with_reducible refine vrun_nil ?_) | (with_reducible refine vblockE rfl ?_) | (with_reducible refine vregion [] ?_) | (with_reducible refine vhrun_nil ?_) | ((with_reducible refine vcondT ?_ ?_); (focus (go_simp; done))) | ((with_reducible refine vcondF ?_ ?_); (focus (go_simp; done))) | ((with_reducible refine vrun_cons fun KK hKK => ?_); go_simp; (first | (with_reducible refine ⟨_, v22 _, ?_⟩) | (with_reducible refine ⟨_, v36 _ _ _, ?_⟩) | skip); refine hKK _ ?_; clear hKK KK) | ((with_reducible refine vhrun_cons fun KK hKK => ?_); go_simp; (first | (with_reducible refine ⟨_, v22 _, ?_⟩) | (with_reducible refine ⟨_, v36 _ _ _, ?_⟩) | skip); refine hKK _ ?_; clear hKK KK))
                  refine vdraw 15 [] (by kernel_rfl) (by kernel_rfl) ?_
                  simp only [List.take, List.drop]
                  repeat (first | (with_reducible refine vseq ?_) | (with_reducible refine vthenN ?_) | (with_reducible refine vthenE ?_) | (with_reducible refine vthenR ?_) | (with_reducible refine vret ?_) | (with_reducible refine vskip ?_) | (with_reducible refine vexit ?_) | (with_reducible refine vblock ?_) | (with_reducible refine vblockN ?_) | (with_reducible refine vblockR ?_) | (with_reducible refine vblockH ?_) | (with_reducible refine vrun_nil ?_) | (with_reducible refine vblockE rfl ?_) | (with_reducible refine vregion [] ?_) | (with_reducible refine vhrun_nil ?_) | ((with_reducible refine vcondT ?_ ?_); (focus (go_simp; done))) | ((with_reducible refine vcondF ?_ ?_); (focus (go_simp; done))) | ((with_reducible refine vrun_cons fun KK hKK => ?_); go_simp; (first | (refine ⟨_, H35.out, ?_⟩) | skip); refine hKK _ ?_; clear hKK KK) | ((with_reducible refine vhrun_cons fun KK hKK => ?_); go_simp; (first | (refine ⟨_, H35.out, ?_⟩) | skip); refine hKK _ ?_; clear hKK KK))
                  have c9 := C9.out
                  have e := HR.out
                  simp [fst, unl, c1', c2, c3, c4, c5', c6, c9, c10] at e
                  subst e
                  go_simp
              · have hk : l.length - 1 < l.length := by omega
                have q0 : (0 : Int) < l.length := by omega
                have q4 : (1 : Int) ≤ l.length := by omega
                have q5 : 0 < l.length := by omega
                have q1 : (0 : Int) ≤ (l.length : Int) - 1 := by omega
                have q2 := wrap_eq (x := (l.length : Int) - 1) (by omega) (by omega)
                have q3 : ((l.length : Int) - 1).toNat = l.length - 1 := by omega
                have he := HE.out c8
                rw [rat_get hk] at he
                have HEE := Lib.hid he
                clear he
                by_cases c9 : t.start < l[l.length - 1].hi
                · repeat (first | (with_reducible refine vseq ?_) | (with_reducible refine vthenN ?_) | (with_reducible refine vthenE ?_) | (with_reducible refine vthenR ?_) | (with_reducible refine vret ?_) | (with_reducible refine vskip ?_) | (with_reducible refine vexit ?_) | (with_reducible refine vblock ?_) | (with_reducible refine vblockN ?_) | (with_reducible refine vblockR ?_) | (with_reducible refine vblockH ?_) | (with_reducible refine vrun_nil ?_) | (with_reducible refine vblockE rfl ?_) | (with_reducible refine vregion [] ?_) | (with_reducible refine vhrun_nil ?_) | ((with_reducible refine vcondT ?_ ?_); (focus (go_simp; done))) | ((with_reducible refine vcondF ?_ ?_); (focus (go_simp; done))) | ((with_reducible refine vrun_cons fun KK hKK => ?_); go_simp; (first | (with_reducible refine ⟨_, v22 _, ?_⟩) | (with_reducible refine ⟨_, v36 _ _ _, ?_⟩) | skip); refine hKK _ ?_; clear hKK KK) | ((with_reducible refine vhrun_cons fun KK hKK => ?_); go_simp; (first | (with_reducible refine ⟨_, v22 _, ?_⟩) | (with_reducible refine ⟨_, v36 _ _ _, ?_⟩) | skip); refine hKK _ ?_; clear hKK KK))
                  refine vdraw 15 [] (by kernel_rfl) (by kernel_rfl) ?_
                  simp only [List.take, List.drop]
                  repeat (first | (with_reducible refine vseq ?_) | (with_reducible refine vthenN ?_) | (with_reducible refine vthenE ?_) | (with_reducible refine vthenR ?_) | (with_reducible refine vret ?_) | (with_reducible refine vskip ?_) | (with_reducible refine vexit ?_) | (with_reducible refine vblock ?_) | (with_reducible refine vblockN ?_) | (with_reducible refine vblockR ?_) | (with_reducible refine vblockH ?_) | (with_reducible refine vrun_nil ?_) | (with_reducible refine vblockE rfl ?_) | (with_reducible refine vregion [] ?_) | (with_reducible refine vhrun_nil ?_) | ((with_reducible refine vcondT ?_ ?_); (focus (go_simp; done))) | ((with_reducible refine vcondF ?_ ?_); (focus (go_simp; done))) | ((with_reducible refine vrun_cons fun KK hKK => ?_); go_simp; (first | (refine ⟨_, H35.out, ?_⟩) | skip); refine hKK _ ?_; clear hKK KK) | ((with_reducible refine vhrun_cons fun KK hKK => ?_); go_simp; (first | (refine ⟨_, H35.out, ?_⟩) | skip); refine hKK _ ?_; clear hKK KK))
                  have c9' : ¬ E ≤ t.start := by rw [HEE.out]; omega
                  have e := HR.out
                  simp [fst, unl, c1', c2, c3, c4, c5', c6, c9'] at e
                  subst e
                  go_simp
                · by_cases c10 : fb = 0
                  · repeat (first | (with_reducible refine vseq ?_) | (with_reducible refine vthenN ?_) | (with_reducible refine vthenE ?_) | (with_reducible refine vthenR ?_) | (with_reducible refine vret ?_) | (with_reducible refine vskip ?_) | (with_reducible refine vexit ?_) | (with_reducible refine vblock ?_) | (with_reducible refine vblockN ?_) | (with_reducible refine vblockR ?_) | (with_reducible refine vblockH ?_) | (with_reducible refine vrun_nil ?_) | (with_reducible refine vblockE rfl ?_) | (with_reducible refine vregion [] ?_) | (with_reducible refine vhrun_nil ?_) | ((with_reducible refine vcondT ?_ ?_); (focus (go_simp; done))) | ((with_reducible refine vcondF ?_ ?_); (focus (go_simp; done))) | ((with_reducible refine vrun_cons fun KK hKK => ?_); go_simp; (first | (with_reducible refine ⟨_, v22 _, ?_⟩) | (with_reducible refine ⟨_, v36 _ _ _, ?_⟩) | skip); refine hKK _ ?_; clear hKK KK) | ((with_reducible refine vhrun_cons fun KK hKK => ?_); go_simp; (first | (with_reducible refine ⟨_, v22 _, ?_⟩) | (with_reducible refine ⟨_, v36 _ _ _, ?_⟩) | skip); refine hKK _ ?_; clear hKK KK))
                    refine vdraw 15 [] (by kernel_rfl) (by kernel_rfl) ?_
                    simp only [List.take, List.drop]
                    repeat (first | (with_reducible refine vseq ?_) | (with_reducible refine vthenN ?_) | (with_reducible refine vthenE ?_) | (with_reducible refine vthenR ?_) | (with_reducible refine vret ?_) | (with_reducible refine vskip ?_) | (with_reducible refine vexit ?_) | (with_reducible refine vblock ?_) | (with_reducible refine vblockN ?_) | (with_reducible refine vblockR ?_) | (with_reducible refine vblockH ?_) | (with_reducible refine vrun_nil ?_) | (with_reducible refine vblockE rfl ?_) | (with_reducible refine vregion [] ?_) | (with_reducible refine vhrun_nil ?_) | ((with_reducible refine vcondT ?_ ?_); (focus (go_simp; done))) | ((with_reducible refine vcondF ?_ ?_); (focus (go_simp; done))) | ((with_reducible refine vrun_cons fun KK hKK => ?_); go_simp; (first | (refine ⟨_, H35.out, ?_⟩) | skip); refine hKK _ ?_; clear hKK KK) | ((with_reducible refine vhrun_cons fun KK hKK => ?_); go_simp; (first | (refine ⟨_, H35.out, ?_⟩) | skip); refine hKK _ ?_; clear hKK KK))
                    have c9' : E ≤ t.start := by rw [HEE.out]; omega
                    have e := HR.out
                    simp [fst, unl, c1', c2, c3, c4, c5', c6, c9', c10] at e
                    subst e
                    go_simp
                  · repeat (first | (with_reducible refine vseq ?_) | (with_reducible refine vthenN ?_) | (with_reducible refine vthenE ?_) | (with_reducible refine vthenR ?_) | (with_reducible refine vret ?_) | (with_reducible refine vskip ?_) | (with_reducible refine vexit ?_) | (with_reducible refine vblock ?_) | (with_reducible refine vblockN ?_) | (with_reducible refine vblockR ?_) | (with_reducible refine vblockH ?_) | (with_reducible refine vrun_nil ?_) | (with_reducible refine vblockE rfl ?_) | (with_reducible refine vregion [] ?_) | (with_reducible refine vhrun_nil ?_) | ((with_reducible refine vcondT ?_ ?_); (focus (go_simp; done))) | ((with_reducible refine vcondF ?_ ?_); (focus (go_simp; done))) | ((with_reducible refine vrun_cons fun KK hKK => ?_); go_simp; (first | (with_reducible refine ⟨_, v22 _, ?_⟩) | (with_reducible refine ⟨_, v36 _ _ _, ?_⟩) | skip); refine hKK _ ?_; clear hKK KK) | ((with_reducible refine vhrun_cons fun KK hKK => ?_); go_simp; (first | (with_reducible refine ⟨_, v22 _, ?_⟩) | (with_reducible refine ⟨_, v36 _ _ _, ?_⟩) | skip); refine hKK _ ?_; clear hKK KK))
                    refine vdraw 15 [] (by kernel_rfl) (by kernel_rfl) ?_
                    simp only [List.take, List.drop]
                    repeat (first | (with_reducible refine vseq ?_) | (with_reducible refine vthenN ?_) | (with_reducible refine vthenE ?_) | (with_reducible refine vthenR ?_) | (with_reducible refine vret ?_) | (with_reducible refine vskip ?_) | (with_reducible refine vexit ?_) | (with_reducible refine vblock ?_) | (with_reducible refine vblockN ?_) | (with_reducible refine vblockR ?_) | (with_reducible refine vblockH ?_) | (with_reducible refine vrun_nil ?_) | (with_reducible refine vblockE rfl ?_) | (with_reducible refine vregion [] ?_) | (with_reducible refine vhrun_nil ?_) | ((with_reducible refine vcondT ?_ ?_); (focus (go_simp; done))) | ((with_reducible refine vcondF ?_ ?_); (focus (go_simp; done))) | ((with_reducible refine vrun_cons fun KK hKK => ?_); go_simp; (first | (refine ⟨_, H35.out, ?_⟩) | skip); refine hKK _ ?_; clear hKK KK) | ((with_reducible refine vhrun_cons fun KK hKK => ?_); go_simp; (first | (refine ⟨_, H35.out, ?_⟩) | skip); refine hKK _ ?_; clear hKK KK))
                    have c9' : E ≤ t.start := by rw [HEE.out]; omega
                    have e := HR.out
                    simp [fst, unl, c1', c2, c3, c4, c5', c6, c9', c10] at e
                    subst e
                    go_simp
            · cases c7 : isTime t.next
              · repeat (first | (with_reducible refine vseq ?_) | (with_reducible refine vthenN ?_) | (with_reducible refine vthenE ?_) | (with_reducible refine vthenR ?_) | (with_reducible refine vret ?_) | (with_reducible refine vskip ?_) | (with_reducible refine vexit ?_) | (with_reducible refine vblock ?_) | (with_reducible refine vblockN ?_) | (with_reducible refine vblockR ?_) | (with_reducible refine vblockH ?_) | (with_reducible refine vrun_nil ?_) | (with_reducible refine vblockE rfl ?_) | (with_reducible refine vregion [] ?_) | (with_reducible refine vhrun_nil ?_) | ((with_reducible refine vcondT ?_ ?_); (focus (go_simp; done))) | ((with_reducible refine vcondF ?_ ?_); (focus (go_simp; done))) | ((with_reducible refine vrun_cons fun KK hKK => ?_); go_simp; (first | (with_reducible refine ⟨_, v22 _, ?_⟩) | (with_reducible refine ⟨_, v36 _ _ _, ?_⟩) | skip); refine hKK _ ?_; clear hKK KK) | ((with_reducible refine vhrun_cons fun KK hKK => ?_); go_simp; (first | (with_reducible refine ⟨_, v22 _, ?_⟩) | (with_reducible refine ⟨_, v36 _ _ _, ?_⟩) | skip); refine hKK _ ?_; clear hKK KK))
                have e := HR.out
                simp [fst, unl, c1', c2, c3, c4, c5', c6, c7] at e
                subst e
                go_simp
              · by_cases c8 : l.length = 0
                · have c9 : E ≤ t.start := by
                    rw [HE0.out c8]
                    exact (inR_iff.1 c2).1
                  have c8' : (l.length : Int) = 0 := by omega
                  by_cases c10 : fb = 0
                  · have C9 := Lib.hid c9
                    clear c9
                    repeat (first | (with_reducible refine vseq ?_) | (with_reducible refine vthenN ?_) | (with_reducible refine vthenE ?_) | (with_reducible refine vthenR ?_) | (with_reducible refine vret ?_) | (with_reducible refine vskip ?_) | (with_reducible refine vexit ?_) | (with_reducible refine vblock ?_) | (with_reducible refine vblockN ?_) | (with_reducible refine vblockR ?_) | (with_reducible refine vblockH ?_) | (with_reducible refine vrun_nil ?_) | (with_reducible refine vblockE rfl ?_) | (with_reducible refine vregion [] ?_) | (with_reducible refine vhrun_nil ?_) | ((with_reducible refine vcondT ?_ ?_); (focus (go_simp; done))) | ((with_reducible refine vcondF ?_ ?_); (focus (go_simp; done))) | ((with_reducible refine vrun_cons fun KK hKK => ?_); go_simp; (first | (with_reducible refine ⟨_, v22 _, ?_⟩) | (with_reducible refine ⟨_, v36 _ _ _, ?_⟩) | skip); refine hKK _ ?_; clear hKK KK) | ((with_reducible refine vhrun_cons fun KK hKK => ?_); go_simp; (first | (with_reducible refine ⟨_, v22 _, ?_⟩) | (with_reducible refine ⟨_, v36 _ _ _, ?_⟩) | skip); refine hKK _ ?_; clear hKK KK))
                    refine vdraw 15 [] (by kernel_rfl) (by kernel_rfl) ?_
                    simp only [List.take, List.drop]
                    repeat (first | (with_reducible refine vseq ?_) | (with_reducible refine vthenN ?_) | (with_reducible refine vthenE ?_) | (with_reducible refine vthenR ?_) | (with_reducible refine vret ?_) | (with_reducible refine vskip ?_) | (with_reducible refine vexit ?_) | (with_reducible refine vblock ?_) | (with_reducible refine vblockN ?_) | (with_reducible refine vblockR ?_) | (with_reducible refine vblockH ?_) | (with_reducible refine vrun_nil ?_) | (with_reducible refine vblockE rfl ?_) | (with_reducible refine vregion [] ?_) | (with_reducible refine vhrun_nil ?_) | ((with_reducible refine vcondT ?_ ?_); (focus (go_simp; done))) | ((with_reducible refine vcondF ?_ ?_); (focus (go_simp; done))) | ((with_reducible refine vrun_cons fun KK hKK => ?_); go_simp; (first | (refine ⟨_, H35.out, ?_⟩) | skip); refine hKK _ ?_; clear hKK KK) | ((with_reducible refine vhrun_cons fun KK hKK => ?_); go_simp; (first | (refine ⟨_, H35.out, ?_⟩) | skip); refine hKK _ ?_; clear hKK KK))
                    have c9 := C9.out
                    have e := HR.out
                    simp [fst, unl, c1', c2, c3, c4, c5', c7, c9, c10] at e
                    subst e
                    go_simp
                  · have C9 := Lib.hid c9
                    clear c9
                    repeat (first | (with_reducible refine vseq ?_) | (with_reducible refine vthenN ?_) | (with_reducible refine vthenE ?_) | (with_reducible refine vthenR ?_) | (with_reducible refine vret ?_) | (with_reducible refine vskip ?_) | (with_reducible refine vexit ?_) | (with_reducible refine vblock ?_) | (with_reducible refine vblockN ?_) | (with_reducible refine vblockR ?_) | (with_reducible refine vblockH ?_) | (with_reducible refine vrun_nil ?_) | (with_reducible refine vblockE rfl ?_) | (with_reducible refine vregion [] ?_) | (with_reducible refine vhrun_nil ?_) | ((with_reducible refine vcondT ?_ ?_); (focus (go_simp; done))) | ((with_reducible refine vcondF ?_ ?_); (focus (go_simp; done))) | ((with_reducible refine vrun_cons fun KK hKK => ?_); go_simp; (first | (with_reducible refine ⟨_, v22 _, ?_⟩) | (with_reducible refine ⟨_, v36 _ _ _, ?_⟩) | skip); refine hKK _ ?_; clear hKK KK) | ((with_reducible refine vhrun_cons fun KK hKK => ?_); go_simp; (first | (with_reducible refine ⟨_, v22 _, ?_⟩) | (with_reducible refine ⟨_, v36 _ _ _, ?_⟩) | skip); refine hKK _ ?_; clear hKK KK))
                    refine vdraw 15 [] (by kernel_rfl) (by kernel_rfl) ?_
                    simp only [List.take, List.drop]
                    repeat (first | (with_reducible refine vseq ?_) | (with_reducible refine vthenN ?_) | (with_reducible refine vthenE ?_) | (with_reducible refine vthenR ?_) | (with_reducible refine vret ?_) | (with_reducible refine vskip ?_) | (with_reducible refine vexit ?_) | (with_reducible refine vblock ?_) | (with_reducible refine vblockN ?_) | (with_reducible refine vblockR ?_) | (with_reducible refine vblockH ?_) | (with_reducible refine vrun_nil ?_) | (with_reducible refine vblockE rfl ?_) | (with_reducible refine vregion [] ?_) | (with_reducible refine vhrun_nil ?_) | ((with_reducible refine vcondT ?_ ?_); (focus (go_simp; done))) | ((with_reducible refine vcondF ?_ ?_); (focus (go_simp; done))) | ((with_reducible refine vrun_cons fun KK hKK => ?_); go_simp; (first | (refine ⟨_, H35.out, ?_⟩) | skip); refine hKK _ ?_; clear hKK KK) | ((with_reducible refine vhrun_cons fun KK hKK => ?_); go_simp; (first | (refine ⟨_, H35.out, ?_⟩) | skip); refine hKK _ ?_; clear hKK KK))
                    have c9 := C9.out
                    have e := HR.out
                    simp [fst, unl, c1', c2, c3, c4, c5', c7, c9, c10] at e
                    subst e
                    go_simp
                · have hk : l.length - 1 < l.length := by omega
                  have q0 : (0 : Int) < l.length := by omega
                  have q4 : (1 : Int) ≤ l.length := by omega
                  have q5 : 0 < l.length := by omega
                  have q1 : (0 : Int) ≤ (l.length : Int) - 1 := by omega
                  have q2 := wrap_eq (x := (l.length : Int) - 1) (by omega) (by omega)
                  have q3 : ((l.length : Int) - 1).toNat = l.length - 1 := by omega
                  have he := HE.out c8
                  rw [rat_get hk] at he
                  have HEE := Lib.hid he
                  clear he
                  by_cases c9 : t.start < l[l.length - 1].hi
                  · repeat (first | (with_reducible refine vseq ?_) | (with_reducible refine vthenN ?_) | (with_reducible refine vthenE ?_) | (with_reducible refine vthenR ?_) | (with_reducible refine vret ?_) | (with_reducible refine vskip ?_) | (with_reducible refine vexit ?_) | (with_reducible refine vblock ?_) | (with_reducible refine vblockN ?_) | (with_reducible refine vblockR ?_) | (with_reducible refine vblockH ?_) | (with_reducible refine vrun_nil ?_) | (with_reducible refine vblockE rfl ?_) | (with_reducible refine vregion [] ?_) | (with_reducible refine vhrun_nil ?_) | ((with_reducible refine vcondT ?_ ?_); (focus (go_simp; done))) | ((with_reducible refine vcondF ?_ ?_); (focus (go_simp; done))) | ((with_reducible refine vrun_cons fun KK hKK => ?_); go_simp; (first | (with_reducible refine ⟨_, v22 _, ?_⟩) | (with_reducible refine ⟨_, v36 _ _ _, ?_⟩) | skip); refine hKK _ ?_; clear hKK KK) | ((with_reducible refine vhrun_cons fun KK hKK => ?_); go_simp; (first | (with_reducible refine ⟨_, v22 _, ?_⟩) | (with_reducible refine ⟨_, v36 _ _ _, ?_⟩) | skip); refine hKK _ ?_; clear hKK KK))
                    refine vdraw 15 [] (by kernel_rfl) (by kernel_rfl) ?_
                    simp only [List.take, List.drop]
                    repeat (first | (with_reducible refine vseq ?_) | (with_reducible refine vthenN ?_) | (with_reducible refine vthenE ?_) | (with_reducible refine vthenR ?_) | (with_reducible refine vret ?_) | (with_reducible refine vskip ?_) | (with_reducible refine vexit ?_) | (with_reducible refine vblock ?_) | (with_reducible refine vblockN ?_) | (with_reducible refine vblockR ?_) | (with_reducible refine vblockH ?_) | (with_reducible refine vrun_nil ?_) | (with_reducible refine vblockE rfl ?_) | (with_reducible refine vregion [] ?_) | (with_reducible refine vhrun_nil ?_) | ((with_reducible refine vcondT ?_ ?_); (focus (go_simp; done))) | ((with_reducible refine vcondF ?_ ?_); (focus (go_simp; done))) | ((with_reducible refine vrun_cons fun KK hKK => ?_); go_simp; (first | (refine ⟨_, H35.out, ?_⟩) | skip); refine hKK _ ?_; clear hKK KK) | ((with_reducible refine vhrun_cons fun KK hKK => ?_); go_simp; (first | (refine ⟨_, H35.out, ?_⟩) | skip); refine hKK _ ?_; clear hKK KK))
                    have c9' : ¬ E ≤ t.start := by rw [HEE.out]; omega
                    have e := HR.out
                    simp [fst, unl, c1', c2, c3, c4, c5', c7, c9'] at e
                    subst e
                    go_simp
                  · by_cases c10 : fb = 0
                    · repeat (first | (with_reducible refine vseq ?_) | (with_reducible refine vthenN ?_) | (with_reducible refine vthenE ?_) | (with_reducible refine vthenR ?_) | (with_reducible refine vret ?_) | (with_reducible refine vskip ?_) | (with_reducible refine vexit ?_) | (with_reducible refine vblock ?_) | (with_reducible refine vblockN ?_) | (with_reducible refine vblockR ?_) | (with_reducible refine vblockH ?_) | (with_reducible refine vrun_nil ?_) | (with_reducible refine vblockE rfl ?_) | (with_reducible refine vregion [] ?_) | (with_reducible refine vhrun_nil ?_) | ((with_reducible refine vcondT ?_ ?_); (focus (go_simp; done))) | ((with_reducible refine vcondF ?_ ?_); (focus (go_simp; done))) | ((with_reducible refine vrun_cons fun KK hKK => ?_); go_simp; (first | (with_reducible refine ⟨_, v22 _, ?_⟩) | (with_reducible refine ⟨_, v36 _ _ _, ?_⟩) | skip); refine hKK _ ?_; clear hKK KK) | ((with_reducible refine vhrun_cons fun KK hKK => ?_); go_simp; (first | (with_reducible refine ⟨_, v22 _, ?_⟩) | (with_reducible refine ⟨_, v36 _ _ _, ?_⟩) | skip); refine hKK _ ?_; clear hKK KK))
                      refine vdraw 15 [] (by kernel_rfl) (by kernel_rfl) ?_
                      simp only [List.take, List.drop]
                      repeat (first | (with_reducible refine vseq ?_) | (with_reducible refine vthenN ?_) | (with_reducible refine vthenE ?_) | (with_reducible refine vthenR ?_) | (with_reducible refine vret ?_) | (with_reducible refine vskip ?_) | (with_reducible refine vexit ?_) | (with_reducible refine vblock ?_) | (with_reducible refine vblockN ?_) | (with_reducible refine vblockR ?_) | (with_reducible refine vblockH ?_) | (with_reducible refine vrun_nil ?_) | (with_reducible refine vblockE rfl ?_) | (with_reducible refine vregion [] ?_) | (with_reducible refine vhrun_nil ?_) | ((with_reducible refine vcondT ?_ ?_); (focus (go_simp; done))) | ((with_reducible refine vcondF ?_ ?_); (focus (go_simp; done))) | ((with_reducible refine vrun_cons fun KK hKK => ?_); go_simp; (first | (refine ⟨_, H35.out, ?_⟩) | skip); refine hKK _ ?_; clear hKK KK) | ((with_reducible refine vhrun_cons fun KK hKK => ?_); go_simp; (first | (refine ⟨_, H35.out, ?_⟩) | skip); refine hKK _ ?_; clear hKK KK))
                      have c9' : E ≤ t.start := by rw [HEE.out]; omega
                      have e := HR.out
                      simp [fst, unl, c1', c2, c3, c4, c5', c7, c9', c10] at e
                      subst e
                      go_simp
                    · repeat (first | (with_reducible refine vseq ?_) | (with_reducible refine vthenN ?_) | (with_reducible refine vthenE ?_) | (with_reducible refine vthenR ?_) | (with_reducible refine vret ?_) | (with_reducible refine vskip ?_) | (with_reducible refine vexit ?_) | (with_reducible refine vblock ?_) | (with_reducible refine vblockN ?_) | (with_reducible refine vblockR ?_) | (with_reducible refine vblockH ?_) | (with_reducible refine vrun_nil ?_) | (with_reducible refine vblockE rfl ?_) | (with_reducible refine vregion [] ?_) | (with_reducible refine vhrun_nil ?_) | ((with_reducible refine vcondT ?_ ?_); (focus (go_simp; done))) | ((with_reducible refine vcondF ?_ ?_); (focus (go_simp; done))) | ((with_reducible refine vrun_cons fun KK hKK => ?_); go_simp; (first | (with_reducible refine ⟨_, v22 _, ?_⟩) | (with_reducible refine ⟨_, v36 _ _ _, ?_⟩) | skip); refine hKK _ ?_; clear hKK KK) | ((with_reducible refine vhrun_cons fun KK hKK => ?_); go_simp; (first | (with_reducible refine ⟨_, v22 _, ?_⟩) | (with_reducible refine ⟨_, v36 _ _ _, ?_⟩) | skip); refine hKK _ ?_; clear hKK KK))
                      refine vdraw 15 [] (by kernel_rfl) (by kernel_rfl) ?_
                      simp only [List.take, List.drop]
                      repeat (first | (with_reducible refine vseq ?_) | (with_reducible refine vthenN ?_) | (with_reducible refine vthenE ?_) | (with_reducible refine vthenR ?_) | (with_reducible refine vret ?_) | (with_reducible refine vskip ?_) | (with_reducible refine vexit ?_) | (with_reducible refine vblock ?_) | (with_reducible refine vblockN ?_) | (with_reducible refine vblockR ?_) | (with_reducible refine vblockH ?_) | (with_reducible refine vrun_nil ?_) | (with_reducible refine vblockE rfl ?_) | (with_reducible refine vregion [] ?_) | (with_reducible refine vhrun_nil ?_) | ((with_reducible refine vcondT ?_ ?_); (focus (go_simp; done))) | ((with_reducible refine vcondF ?_ ?_); (focus (go_simp; done))) | ((with_reducible refine vrun_cons fun KK hKK => ?_); go_simp; (first | (refine ⟨_, H35.out, ?_⟩) | skip); refine hKK _ ?_; clear hKK KK) | ((with_reducible refine vhrun_cons fun KK hKK => ?_); go_simp; (first | (refine ⟨_, H35.out, ?_⟩) | skip); refine hKK _ ?_; clear hKK KK))
                      have c9' : E ≤ t.start := by rw [HEE.out]; omega
                      have e := HR.out
                      simp [fst, unl, c1', c2, c3, c4, c5', c7, c9', c10] at e
                      subst e
                      go_simp
theorem v25 (l : List Rec) (r : Rul) (t : Trip) (hl : l.length ≤ 1000000) (hd : Small l) : VC Try.prog 25 [.agg r.av, recsA l, .agg t.av] (I (tripErrP r l t)) := by
  refine VC_of Try.func25 rfl (by kernel_rfl) (by kernel_rfl) rfl fun M0 w0 => ?_
  simp only [Try.ntmps25, Try.results25, enumA]
  by_cases hb : bothErr r l = 0
  · repeat (first | (with_reducible refine vseq ?_) | (with_reducible refine vthenN ?_) | (with_reducible refine vthenE ?_) | (with_reducible refine vthenR ?_) | (with_reducible refine vret ?_) | (with_reducible refine vskip ?_) | (with_reducible refine vexit ?_) | (with_reducible refine vblock ?_) | (with_reducible refine vblockN ?_) | (with_reducible refine vblockR ?_) | (with_reducible refine vblockH ?_) | (with_reducible refine vrun_nil ?_) | (with_reducible refine vblockE rfl ?_) | (with_reducible refine vregion [] ?_) | (with_reducible refine vhrun_nil ?_) | ((with_reducible refine vcondT ?_ ?_); (focus (go_simp; done))) | ((with_reducible refine vcondF ?_ ?_); (focus (go_simp; done))) | ((with_reducible refine vrun_cons fun KK hKK => ?_); go_simp; (first | (refine ⟨_, v31 l r hl hd, ?_⟩) | (refine ⟨_, v83 l r t hb, ?_⟩) | skip); refine hKK _ ?_; clear hKK KK) | ((with_reducible refine vhrun_cons fun KK hKK => ?_); go_simp; (first | (refine ⟨_, v31 l r hl hd, ?_⟩) | (refine ⟨_, v83 l r t hb, ?_⟩) | skip); refine hKK _ ?_; clear hKK KK))
    go_simp
  · have he := Lib.hid (tripErr_both (t := t) hb)
    repeat (first | (with_reducible refine vseq ?_) | (with_reducible refine vthenN ?_) | (with_reducible refine vthenE ?_) | (with_reducible refine vthenR ?_) | (with_reducible refine vret ?_) | (with_reducible refine vskip ?_) | (with_reducible refine vexit ?_) | (with_reducible refine vblock ?_) | (with_reducible refine vblockN ?_) | (with_reducible refine vblockR ?_) | (with_reducible refine vblockH ?_) | (with_reducible refine vrun_nil ?_) | (with_reducible refine vblockE rfl ?_) | (with_reducible refine vregion [] ?_) | (with_reducible refine vhrun_nil ?_) | ((with_reducible refine vcondT ?_ ?_); (focus (go_simp; done))) | ((with_reducible refine vcondF ?_ ?_); (focus (go_simp; done))) | ((with_reducible refine vrun_cons fun KK hKK => ?_); go_simp; (first | (refine ⟨_, v31 l r hl hd, ?_⟩) | skip); refine hKK _ ?_; clear hKK KK) | ((with_reducible refine vhrun_cons fun KK hKK => ?_); go_simp; (first | (refine ⟨_, v31 l r hl hd, ?_⟩) | skip); refine hKK _ ?_; clear hKK KK))
    rw [he.out]
    go_simp
theorem v26 (l : List Rec) (r : Rul) (t : Trip) (h : tripErrP r l t = 0) : VC Try.prog 26 [.agg r.av, recsA l, .agg t.av] (.tup [I (if breaksP r l t.start t.next t.hi = 0 then 2 else if breaksP r l t.start t.next t.lo = 0 then 1 else 0), I (breaksP r l t.start t.next t.hi)]) := by
  obtain ⟨h1, h2, h3, h4, h5, h6, h7, h8, h9⟩ := tripRight h
  have hR := (bothErr_zero h1).2
  have a1 := Lib.hid (v84 l r t t.hi hR h3 h8 h5 h7)
  have a2 := Lib.hid (v84 l r t t.lo hR h3 h8 h4 h7)
  clear h h1 h2 h3 h4 h5 h6 h7 h8 h9 hR
  generalize breaksP r l t.start t.next t.hi = X at *
  generalize breaksP r l t.start t.next t.lo = Y at *
  refine VC_of Try.func26 rfl (by kernel_rfl) (by kernel_rfl) rfl fun M0 w0 => ?_
  simp only [Try.ntmps26, Try.results26, enumA]
  by_cases c1 : X = 0
  · repeat (first | (with_reducible refine vseq ?_) | (with_reducible refine vthenN ?_) | (with_reducible refine vthenE ?_) | (with_reducible refine vthenR ?_) | (with_reducible refine vret ?_) | (with_reducible refine vskip ?_) | (with_reducible refine vexit ?_) | (with_reducible refine vblock ?_) | (with_reducible refine vblockN ?_) | (with_reducible refine vblockR ?_) | (with_reducible refine vblockH ?_) | (with_reducible refine vrun_nil ?_) | (with_reducible refine vblockE rfl ?_) | (with_reducible refine vregion [] ?_) | (with_reducible refine vhrun_nil ?_) | ((with_reducible refine vcondT ?_ ?_); (focus (go_simp; done))) | ((with_reducible refine vcondF ?_ ?_); (focus (go_simp; done))) | ((with_reducible refine vrun_cons fun KK hKK => ?_); go_simp; (first | (refine ⟨_, a1.out, ?_⟩) | skip); refine hKK _ ?_; clear hKK KK) | ((with_reducible refine vhrun_cons fun KK hKK => ?_); go_simp; (first | (refine ⟨_, a1.out, ?_⟩) | skip); refine hKK _ ?_; clear hKK KK))
    go_simp
  · by_cases c2 : Y = 0
    · repeat (first | (with_reducible refine vseq ?_) | (with_reducible refine vthenN ?_) | (with_reducible refine vthenE ?_) | (with_reducible refine vthenR ?_) | (with_reducible refine vret ?_) | (with_reducible refine vskip ?_) | (with_reducible refine vexit ?_) | (with_reducible refine vblock ?_) | (with_reducible refine vblockN ?_) | (with_reducible refine vblockR ?_) | (with_reducible refine vblockH ?_) | (with_reducible refine vrun_nil ?_) | (with_reducible refine vblockE rfl ?_) | (with_reducible refine vregion [] ?_) | (with_reducible refine vhrun_nil ?_) | ((with_reducible refine vcondT ?_ ?_); (focus (go_simp; done))) | ((with_reducible refine vcondF ?_ ?_); (focus (go_simp; done))) | ((with_reducible refine vrun_cons fun KK hKK => ?_); go_simp; (first | (refine ⟨_, a1.out, ?_⟩) | (refine ⟨_, a2.out, ?_⟩) | skip); refine hKK _ ?_; clear hKK KK) | ((with_reducible refine vhrun_cons fun KK hKK => ?_); go_simp; (first | (refine ⟨_, a1.out, ?_⟩) | (refine ⟨_, a2.out, ?_⟩) | skip); refine hKK _ ?_; clear hKK KK))
      go_simp
    · repeat (first | (with_reducible refine vseq ?_) | (with_reducible refine vthenN ?_) | (with_reducible refine vthenE ?_) | (with_reducible refine vthenR ?_) | (with_reducible refine vret ?_) | (with_reducible refine vskip ?_) | (with_reducible refine vexit ?_) | (with_reducible refine vblock ?_) | (with_reducible refine vblockN ?_) | (with_reducible refine vblockR ?_) | (with_reducible refine vblockH ?_) | (with_reducible refine vrun_nil ?_) | (with_reducible refine vblockE rfl ?_) | (with_reducible refine vregion [] ?_) | (with_reducible refine vhrun_nil ?_) | ((with_reducible refine vcondT ?_ ?_); (focus (go_simp; done))) | ((with_reducible refine vcondF ?_ ?_); (focus (go_simp; done))) | ((with_reducible refine vrun_cons fun KK hKK => ?_); go_simp; (first | (refine ⟨_, a1.out, ?_⟩) | (refine ⟨_, a2.out, ?_⟩) | skip); refine hKK _ ?_; clear hKK KK) | ((with_reducible refine vhrun_cons fun KK hKK => ?_); go_simp; (first | (refine ⟨_, a1.out, ?_⟩) | (refine ⟨_, a2.out, ?_⟩) | skip); refine hKK _ ?_; clear hKK KK))
      go_simp
theorem v4 (l : List Rec) (r : Rul) (t : Trip) (hl : l.length ≤ 9223372036854775807) (hd : ∀ x ∈ l, x.driver.size ≤ 9223372036854775807) : VC Try.prog 4 [.agg r.av, recsA l, .agg t.av] (B true) := by
  refine VC_of Try.func4 rfl (by kernel_rfl) (by kernel_rfl) rfl fun M0 w0 => ?_
  simp only [Try.ntmps4, Try.results4, enumA]
  cases hfew : fewP l
  · repeat (first | (with_reducible refine vseq ?_) | (with_reducible refine vthenN ?_) | (with_reducible refine vthenE ?_) | (with_reducible refine vthenR ?_) | (with_reducible refine vret ?_) | (with_reducible refine vskip ?_) | (with_reducible refine vexit ?_) | (with_reducible refine vblock ?_) | (with_reducible refine vblockN ?_) | (with_reducible refine vblockR ?_) | (with_reducible refine vblockH ?_) | (with_reducible refine vrun_nil ?_) | (with_reducible refine vblockE rfl ?_) | (with_reducible refine vregion [] ?_) | (with_reducible refine vhrun_nil ?_) | ((with_reducible refine vcondT ?_ ?_); (focus (go_simp; done))) | ((with_reducible refine vcondF ?_ ?_); (focus (go_simp; done))) | ((with_reducible refine vrun_cons fun KK hKK => ?_); go_simp; (first | (with_reducible refine ⟨_, v17, ?_⟩) | (with_reducible refine ⟨_, v18 l hl hd, ?_⟩) | skip); refine hKK _ ?_; clear hKK KK) | ((with_reducible refine vhrun_cons fun KK hKK => ?_); go_simp; (first | (with_reducible refine ⟨_, v17, ?_⟩) | (with_reducible refine ⟨_, v18 l hl hd, ?_⟩) | skip); refine hKK _ ?_; clear hKK KK))
    go_simp
  · obtain ⟨hsm, hl3, _⟩ := fewP_small hfew
    have h24 := v24 l r t (by omega) hsm
    have h25 := Lib.hid (v25 l r t (by omega) hsm)
    have h20 := Lib.hid (v20 l (by omega))
    clear hsm
    unfold allowOut at h24
    by_cases hE : tripErrP r l t = 0
    · rw [if_neg (by simpa using hE)] at h24
      simp only at h24
      have h26 := Lib.hid (v26 l r t hE)
      have H24 := Lib.hid h24
      clear h24
      generalize breaksP r l t.start t.next t.hi = X at *
      generalize (if X = 0 then (2 : Int) else if breaksP r l t.start t.next t.lo = 0 then 1 else 0) = Y at *
      repeat (first | (with_reducible refine vseq ?_) | (with_reducible refine vthenN ?_) | (with_reducible refine vthenE ?_) | (with_reducible refine vthenR ?_) | (with_reducible refine vret ?_) | (with_reducible refine vskip ?_) | (with_reducible refine vexit ?_) | (with_reducible refine vblock ?_) | (with_reducible refine vblockN ?_) | (with_reducible refine vblockR ?_) | (with_reducible refine vblockH ?_) | (with_reducible refine vrun_nil ?_) | (with_reducible refine vblockE rfl ?_) | (with_reducible refine vregion [] ?_) | (with_reducible refine vhrun_nil ?_) | ((with_reducible refine vcondT ?_ ?_); (focus (go_simp; done))) | ((with_reducible refine vcondF ?_ ?_); (focus (go_simp; done))) | ((with_reducible refine vrun_cons fun KK hKK => ?_); go_simp; (first | (with_reducible refine ⟨_, v17, ?_⟩) | (with_reducible refine ⟨_, v18 l hl hd, ?_⟩) | skip); refine hKK _ ?_; clear hKK KK) | ((with_reducible refine vhrun_cons fun KK hKK => ?_); go_simp; (first | (with_reducible refine ⟨_, v17, ?_⟩) | (with_reducible refine ⟨_, v18 l hl hd, ?_⟩) | skip); refine hKK _ ?_; clear hKK KK))
      refine vdraw 12 [] (by kernel_rfl) (by kernel_rfl) ?_
      simp only [List.take, List.drop]
      repeat (first | (with_reducible refine vseq ?_) | (with_reducible refine vthenN ?_) | (with_reducible refine vthenE ?_) | (with_reducible refine vthenR ?_) | (with_reducible refine vret ?_) | (with_reducible refine vskip ?_) | (with_reducible refine vexit ?_) | (with_reducible refine vblock ?_) | (with_reducible refine vblockN ?_) | (with_reducible refine vblockR ?_) | (with_reducible refine vblockH ?_) | (with_reducible refine vrun_nil ?_) | (with_reducible refine vblockE rfl ?_) | (with_reducible refine vregion [] ?_) | (with_reducible refine vhrun_nil ?_) | ((with_reducible refine vcondT ?_ ?_); (focus (go_simp; done))) | ((with_reducible refine vcondF ?_ ?_); (focus (go_simp; done))) | ((with_reducible refine vrun_cons fun KK hKK => ?_); go_simp; (first | (refine ⟨_, h20.out, ?_⟩) | (refine ⟨_, H24.out, ?_⟩) | skip); refine hKK _ ?_; clear hKK KK) | ((with_reducible refine vhrun_cons fun KK hKK => ?_); go_simp; (first | (refine ⟨_, h20.out, ?_⟩) | (refine ⟨_, H24.out, ?_⟩) | skip); refine hKK _ ?_; clear hKK KK))
      repeat (first | (with_reducible refine vseq ?_) | (with_reducible refine vthenN ?_) | (with_reducible refine vthenE ?_) | (with_reducible refine vthenR ?_) | (with_reducible refine vret ?_) | (with_reducible refine vskip ?_) | (with_reducible refine vexit ?_) | (with_reducible refine vblock ?_) | (with_reducible refine vblockN ?_) | (with_reducible refine vblockR ?_) | (with_reducible refine vblockH ?_) | (with_reducible refine vrun_nil ?_) | (with_reducible refine vblockE rfl ?_) | (with_reducible refine vregion [] ?_) | (with_reducible refine vhrun_nil ?_) | ((with_reducible refine vcondT ?_ ?_); (focus (go_simp; done))) | ((with_reducible refine vcondF ?_ ?_); (focus (go_simp; done))) | ((with_reducible refine vrun_cons fun KK hKK => ?_); go_simp; (first | (refine ⟨_, h25.out, ?_⟩) | (refine ⟨_, h26.out, ?_⟩) | skip); refine hKK _ ?_; clear hKK KK) | ((with_reducible refine vhrun_cons fun KK hKK => ?_); go_simp; (first | (refine ⟨_, h25.out, ?_⟩) | (refine ⟨_, h26.out, ?_⟩) | skip); refine hKK _ ?_; clear hKK KK))
      go_simp
    · rw [if_pos hE] at h24
      simp only at h24
      have H24 := Lib.hid h24
      clear h24
      repeat (first | (with_reducible refine vseq ?_) | (with_reducible refine vthenN ?_) | (with_reducible refine vthenE ?_) | (with_reducible refine vthenR ?_) | (with_reducible refine vret ?_) | (with_reducible refine vskip ?_) | (with_reducible refine vexit ?_) | (with_reducible refine vblock ?_) | (with_reducible refine vblockN ?_) | (with_reducible refine vblockR ?_) | (with_reducible refine vblockH ?_) | (with_reducible refine vrun_nil ?_) | (with_reducible refine vblockE rfl ?_) | (with_reducible refine vregion [] ?_) | (with_reducible refine vhrun_nil ?_) | ((with_reducible refine vcondT ?_ ?_); (focus (go_simp; done))) | ((with_reducible refine vcondF ?_ ?_); (focus (go_simp; done))) | ((with_reducible refine vrun_cons fun KK hKK => ?_); go_simp; (first | (with_reducible refine ⟨_, v17, ?_⟩) | (with_reducible refine ⟨_, v18 l hl hd, ?_⟩) | skip); refine hKK _ ?_; clear hKK KK) | ((with_reducible refine vhrun_cons fun KK hKK => ?_); go_simp; (first | (with_reducible refine ⟨_, v17, ?_⟩) | (with_reducible refine ⟨_, v18 l hl hd, ?_⟩) | skip); refine hKK _ ?_; clear hKK KK))
      refine vdraw 12 [] (by kernel_rfl) (by kernel_rfl) ?_
      simp only [List.take, List.drop]
      repeat (first | (with_reducible refine vseq ?_) | (with_reducible refine vthenN ?_) | (with_reducible refine vthenE ?_) | (with_reducible refine vthenR ?_) | (with_reducible refine vret ?_) | (with_reducible refine vskip ?_) | (with_reducible refine vexit ?_) | (with_reducible refine vblock ?_) | (with_reducible refine vblockN ?_) | (with_reducible refine vblockR ?_) | (with_reducible refine vblockH ?_) | (with_reducible refine vrun_nil ?_) | (with_reducible refine vblockE rfl ?_) | (with_reducible refine vregion [] ?_) | (with_reducible refine vhrun_nil ?_) | ((with_reducible refine vcondT ?_ ?_); (focus (go_simp; done))) | ((with_reducible refine vcondF ?_ ?_); (focus (go_simp; done))) | ((with_reducible refine vrun_cons fun KK hKK => ?_); go_simp; (first | (refine ⟨_, h20.out, ?_⟩) | (refine ⟨_, H24.out, ?_⟩) | skip); refine hKK _ ?_; clear hKK KK) | ((with_reducible refine vhrun_cons fun KK hKK => ?_); go_simp; (first | (refine ⟨_, h20.out, ?_⟩) | (refine ⟨_, H24.out, ?_⟩) | skip); refine hKK _ ?_; clear hKK KK))
      repeat (first | (with_reducible refine vseq ?_) | (with_reducible refine vthenN ?_) | (with_reducible refine vthenE ?_) | (with_reducible refine vthenR ?_) | (with_reducible refine vret ?_) | (with_reducible refine vskip ?_) | (with_reducible refine vexit ?_) | (with_reducible refine vblock ?_) | (with_reducible refine vblockN ?_) | (with_reducible refine vblockR ?_) | (with_reducible refine vblockH ?_) | (with_reducible refine vrun_nil ?_) | (with_reducible refine vblockE rfl ?_) | (with_reducible refine vregion [] ?_) | (with_reducible refine vhrun_nil ?_) | ((with_reducible refine vcondT ?_ ?_); (focus (go_simp; done))) | ((with_reducible refine vcondF ?_ ?_); (focus (go_simp; done))) | ((with_reducible refine vrun_cons fun KK hKK => ?_); go_simp; (first | (refine ⟨_, h25.out, ?_⟩) | skip); refine hKK _ ?_; clear hKK KK) | ((with_reducible refine vhrun_cons fun KK hKK => ?_); go_simp; (first | (refine ⟨_, h25.out, ?_⟩) | skip); refine hKK _ ?_; clear hKK KK))
      go_simp
end Go.Proofs.Ytmfmpagfjgpodaa
