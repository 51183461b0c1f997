/- The law of cars on plain values: it gives true; no condition. -/
import Derived.Test.YtmfmpagfjgpodaaVCars4
namespace Go.Proofs.Ytmfmpagfjgpodaa
open Go.RowKit
set_option maxRecDepth 100000
theorem upD_spec (l : List Int) (date : Int) : upD l date ≤ l.length ∧ (∀ j, j < upD l date → iat l j ≤ date) ∧ (upD l date < l.length → date < iat l (upD l date)) := by
  obtain ⟨_, h2, h3, h4⟩ := upF_spec (p := fun k => decide (date < iat l k)) l.length 0
  rw [Nat.zero_add] at h2 h4
  refine ⟨h2, fun j hj => ?_, fun h => of_decide_eq_true (h4 h)⟩
  have := h3 j (Nat.zero_le _) hj
  simp at this
  omega
theorem last_up {l : List Int} {date : Int} (hz : ∀ k, k < l.length → dchk l k = 0) : ∀ k, k ≤ l.length → lastF l date k = if min k (upD l date) = 0 then -1 else iat l (min k (upD l date) - 1)
  | 0, _ => by simp [lastF]
  | k + 1, h => by
    obtain ⟨h1, h2, h3⟩ := upD_spec l date
    rw [lastF, last_up hz k (by omega)]
    by_cases hk : k < upD l date
    · rw [if_pos (h2 k hk), show min (k + 1) (upD l date) = k + 1 by omega, if_neg (by omega), Nat.add_sub_cancel]
    · have hd : date < iat l k := by
        have h4 := h3 (by omega)
        by_cases he : upD l date = k
        · rw [← he]; exact h4
        · have := dates_sorted hz (i := upD l date) (j := k) (by omega) (by omega)
          omega
      rw [if_neg (by omega), show min (k + 1) (upD l date) = upD l date by omega, show min k (upD l date) = upD l date by omega]
theorem next_eq {l : List Int} {every date : Int} (hC : (datesE l).2 = 0) : nextR l every date = nextI l every date := by
  obtain ⟨hlen, hz⟩ := dates_zero hC
  have hl := last_up (date := date) hz l.length (Nat.le_refl _)
  have hu := (upD_spec l date).1
  rw [Nat.min_eq_right hu] at hl
  unfold nextR nextI nextE
  rw [hl, hC]
  cases h2 : inR every 1 1000
  · simp [fst, unl]
  · rcases dateErr_or date with h3 | h3
    · by_cases h0 : upD l date = 0
      · simp [fst, unl, h3, h0]
      · have := dchk_zero (hz (upD l date - 1) (by omega))
        simp [fst, unl, h3, h0]
        omega
    · simp [fst, unl, h3]
theorem next_err {l : List Int} {every date : Int} (hC : (datesE l).2 ≠ 0) : nextI l every date = (0, (datesE l).2) := by
  have : nextE l every date = (datesE l).2 := by simp [nextE, fst, hC]
  unfold nextI
  rw [this, if_pos hC]
theorem v12 (l : List Rec) (done : List Int) (a b : Int) (hl : l.length ≤ 9223372036854775807) (hd : ∀ x ∈ l, x.driver.size ≤ 9223372036854775807) (hl2 : done.length ≤ 9223372036854775807) : VC Try.prog 12 [recsA l, intsA done, .agg [I a, I b]] (B true) := by
  refine VC_of Try.func12 rfl (by kernel_rfl) (by kernel_rfl) rfl fun M0 w0 => ?_
  simp only [Try.ntmps12, Try.results12, enumA]
  cases hfew : fewP l
  · repeat (first | (with_reducible refine vseq ?_) | (with_reducible refine vthenN ?_) | (with_reducible refine vthenE ?_) | (with_reducible refine vthenR ?_) | (with_reducible refine vret ?_) | (with_reducible refine vskip ?_) | (with_reducible refine vexit ?_) | (with_reducible refine vblock ?_) | (with_reducible refine vblockN ?_) | (with_reducible refine vblockR ?_) | (with_reducible refine vblockH ?_) | (with_reducible refine vrun_nil ?_) | (with_reducible refine vblockE rfl ?_) | (with_reducible refine vregion [] ?_) | (with_reducible refine vhrun_nil ?_) | ((with_reducible refine vcondT ?_ ?_); (focus (go_simp; done))) | ((with_reducible refine vcondF ?_ ?_); (focus (go_simp; done))) | ((with_reducible refine vrun_cons fun KK hKK => ?_); go_simp; (first | (with_reducible refine ⟨_, v17, ?_⟩) | (with_reducible refine ⟨_, v18 l hl hd, ?_⟩) | skip); refine hKK _ ?_; clear hKK KK) | ((with_reducible refine vhrun_cons fun KK hKK => ?_); go_simp; (first | (with_reducible refine ⟨_, v17, ?_⟩) | (with_reducible refine ⟨_, v18 l hl hd, ?_⟩) | skip); refine hKK _ ?_; clear hKK KK))
    go_simp
  · obtain ⟨hsm, hl3, _⟩ := fewP_small hfew
    by_cases h22 : (22 : Int) < done.length
    · repeat (first | (with_reducible refine vseq ?_) | (with_reducible refine vthenN ?_) | (with_reducible refine vthenE ?_) | (with_reducible refine vthenR ?_) | (with_reducible refine vret ?_) | (with_reducible refine vskip ?_) | (with_reducible refine vexit ?_) | (with_reducible refine vblock ?_) | (with_reducible refine vblockN ?_) | (with_reducible refine vblockR ?_) | (with_reducible refine vblockH ?_) | (with_reducible refine vrun_nil ?_) | (with_reducible refine vblockE rfl ?_) | (with_reducible refine vregion [] ?_) | (with_reducible refine vhrun_nil ?_) | ((with_reducible refine vcondT ?_ ?_); (focus (go_simp; done))) | ((with_reducible refine vcondF ?_ ?_); (focus (go_simp; done))) | ((with_reducible refine vrun_cons fun KK hKK => ?_); go_simp; (first | (with_reducible refine ⟨_, v17, ?_⟩) | (with_reducible refine ⟨_, v18 l hl hd, ?_⟩) | skip); refine hKK _ ?_; clear hKK KK) | ((with_reducible refine vhrun_cons fun KK hKK => ?_); go_simp; (first | (with_reducible refine ⟨_, v17, ?_⟩) | (with_reducible refine ⟨_, v18 l hl hd, ?_⟩) | skip); refine hKK _ ?_; clear hKK KK))
      go_simp
    · have HS := Lib.hid hsm
      clear hsm
      have h20 := Lib.hid (VC_of_own (o20 l (by omega)))
      have h55 := Lib.hid (VC_of_own (o55 done (by omega)))
      have h57 := Lib.hid (v57 (l := l) (by omega) HS.out)
      have h59 := Lib.hid (VC_of_own (o59 l (by omega)))
      have h58 := Lib.hid (v58 (compB (dvs l) l.length) (by have := compB_len (dvs l) l.length; omega))
      obtain ⟨P, h54, h56⟩ : ∃ P : Int × Int, VC Try.prog 54 [intsA done, I a, I b] (.tup [I P.1, I P.2]) ∧ VC Try.prog 56 [intsA done, I a, I b] (.tup [I P.1, I P.2]) := by
        refine ⟨nextI done a b, v54 done a b (by omega), ?_⟩
        by_cases hC : (datesE done).2 = 0
        · rw [← next_eq hC]
          exact v56 done a b (by omega) hC
        · rw [next_err hC]
          exact v56e done a b (by omega) hC
      have H54 := Lib.hid h54
      have H56 := Lib.hid h56
      clear h54 h56
      by_cases hE : (checkRecs false l).2 = 0
      · have h53 := Lib.hid (v53 l (by omega) HS.out hE)
        generalize checkRecs false l = E at *
        generalize compB (dvs l) l.length = L at *
        repeat (first | (with_reducible refine vseq ?_) | (with_reducible refine vthenN ?_) | (with_reducible refine vthenE ?_) | (with_reducible refine vthenR ?_) | (with_reducible refine vret ?_) | (with_reducible refine vskip ?_) | (with_reducible refine vexit ?_) | (with_reducible refine vblock ?_) | (with_reducible refine vblockN ?_) | (with_reducible refine vblockR ?_) | (with_reducible refine vblockH ?_) | (with_reducible refine vrun_nil ?_) | (with_reducible refine vblockE rfl ?_) | (with_reducible refine vregion [] ?_) | (with_reducible refine vhrun_nil ?_) | ((with_reducible refine vcondT ?_ ?_); (focus (go_simp; done))) | ((with_reducible refine vcondF ?_ ?_); (focus (go_simp; done))) | ((with_reducible refine vrun_cons fun KK hKK => ?_); go_simp; (first | (with_reducible refine ⟨_, v17, ?_⟩) | (with_reducible refine ⟨_, v18 l hl hd, ?_⟩) | (refine ⟨_, h20.out, ?_⟩) | (refine ⟨_, h53.out, ?_⟩) | skip); refine hKK _ ?_; clear hKK KK) | ((with_reducible refine vhrun_cons fun KK hKK => ?_); go_simp; (first | (with_reducible refine ⟨_, v17, ?_⟩) | (with_reducible refine ⟨_, v18 l hl hd, ?_⟩) | (refine ⟨_, h20.out, ?_⟩) | (refine ⟨_, h53.out, ?_⟩) | skip); refine hKK _ ?_; clear hKK KK))
        refine vdraw 12 [] (by kernel_rfl) (by kernel_rfl) ?_
        simp only [List.take, List.drop]
        repeat (first | (with_reducible refine vseq ?_) | (with_reducible refine vthenN ?_) | (with_reducible refine vthenE ?_) | (with_reducible refine vthenR ?_) | (with_reducible refine vret ?_) | (with_reducible refine vskip ?_) | (with_reducible refine vexit ?_) | (with_reducible refine vblock ?_) | (with_reducible refine vblockN ?_) | (with_reducible refine vblockR ?_) | (with_reducible refine vblockH ?_) | (with_reducible refine vrun_nil ?_) | (with_reducible refine vblockE rfl ?_) | (with_reducible refine vregion [] ?_) | (with_reducible refine vhrun_nil ?_) | ((with_reducible refine vcondT ?_ ?_); (focus (go_simp; done))) | ((with_reducible refine vcondF ?_ ?_); (focus (go_simp; done))) | ((with_reducible refine vrun_cons fun KK hKK => ?_); go_simp; (first | (refine ⟨_, h55.out, ?_⟩) | (refine ⟨_, H54.out, ?_⟩) | (refine ⟨_, H56.out, ?_⟩) | (refine ⟨_, h57.out, ?_⟩) | (refine ⟨_, h59.out, ?_⟩) | (refine ⟨_, h58.out, ?_⟩) | skip); refine hKK _ ?_; clear hKK KK) | ((with_reducible refine vhrun_cons fun KK hKK => ?_); go_simp; (first | (refine ⟨_, h55.out, ?_⟩) | (refine ⟨_, H54.out, ?_⟩) | (refine ⟨_, H56.out, ?_⟩) | (refine ⟨_, h57.out, ?_⟩) | (refine ⟨_, h59.out, ?_⟩) | (refine ⟨_, h58.out, ?_⟩) | skip); refine hKK _ ?_; clear hKK KK))
        go_simp
      · have h53 := Lib.hid (v53e l (by omega) HS.out hE)
        generalize checkRecs false l = E at *
        generalize compB (dvs l) l.length = L at *
        repeat (first | (with_reducible refine vseq ?_) | (with_reducible refine vthenN ?_) | (with_reducible refine vthenE ?_) | (with_reducible refine vthenR ?_) | (with_reducible refine vret ?_) | (with_reducible refine vskip ?_) | (with_reducible refine vexit ?_) | (with_reducible refine vblock ?_) | (with_reducible refine vblockN ?_) | (with_reducible refine vblockR ?_) | (with_reducible refine vblockH ?_) | (with_reducible refine vrun_nil ?_) | (with_reducible refine vblockE rfl ?_) | (with_reducible refine vregion [] ?_) | (with_reducible refine vhrun_nil ?_) | ((with_reducible refine vcondT ?_ ?_); (focus (go_simp; done))) | ((with_reducible refine vcondF ?_ ?_); (focus (go_simp; done))) | ((with_reducible refine vrun_cons fun KK hKK => ?_); go_simp; (first | (with_reducible refine ⟨_, v17, ?_⟩) | (with_reducible refine ⟨_, v18 l hl hd, ?_⟩) | (refine ⟨_, h20.out, ?_⟩) | (refine ⟨_, h53.out, ?_⟩) | skip); refine hKK _ ?_; clear hKK KK) | ((with_reducible refine vhrun_cons fun KK hKK => ?_); go_simp; (first | (with_reducible refine ⟨_, v17, ?_⟩) | (with_reducible refine ⟨_, v18 l hl hd, ?_⟩) | (refine ⟨_, h20.out, ?_⟩) | (refine ⟨_, h53.out, ?_⟩) | skip); refine hKK _ ?_; clear hKK KK))
        refine vdraw 12 [] (by kernel_rfl) (by kernel_rfl) ?_
        simp only [List.take, List.drop]
        repeat (first | (with_reducible refine vseq ?_) | (with_reducible refine vthenN ?_) | (with_reducible refine vthenE ?_) | (with_reducible refine vthenR ?_) | (with_reducible refine vret ?_) | (with_reducible refine vskip ?_) | (with_reducible refine vexit ?_) | (with_reducible refine vblock ?_) | (with_reducible refine vblockN ?_) | (with_reducible refine vblockR ?_) | (with_reducible refine vblockH ?_) | (with_reducible refine vrun_nil ?_) | (with_reducible refine vblockE rfl ?_) | (with_reducible refine vregion [] ?_) | (with_reducible refine vhrun_nil ?_) | ((with_reducible refine vcondT ?_ ?_); (focus (go_simp; done))) | ((with_reducible refine vcondF ?_ ?_); (focus (go_simp; done))) | ((with_reducible refine vrun_cons fun KK hKK => ?_); go_simp; (first | (refine ⟨_, h55.out, ?_⟩) | (refine ⟨_, H54.out, ?_⟩) | (refine ⟨_, H56.out, ?_⟩) | (refine ⟨_, h57.out, ?_⟩) | (refine ⟨_, h59.out, ?_⟩) | (refine ⟨_, h58.out, ?_⟩) | skip); refine hKK _ ?_; clear hKK KK) | ((with_reducible refine vhrun_cons fun KK hKK => ?_); go_simp; (first | (refine ⟨_, h55.out, ?_⟩) | (refine ⟨_, H54.out, ?_⟩) | (refine ⟨_, H56.out, ?_⟩) | (refine ⟨_, h57.out, ?_⟩) | (refine ⟨_, h59.out, ?_⟩) | (refine ⟨_, h58.out, ?_⟩) | skip); refine hKK _ ?_; clear hKK KK))
        go_simp
end Go.Proofs.Ytmfmpagfjgpodaa
