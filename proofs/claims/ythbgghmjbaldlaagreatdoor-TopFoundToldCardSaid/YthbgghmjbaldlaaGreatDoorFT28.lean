/- Texts in one: Texts of events by the program; texts of at most 1000 bytes. -/
import Derived.Test.YthbgghmjbaldlaaGreatDoorFT27
/-! ST2: Texts of events by the program; texts of at most 1000 bytes. -/
namespace Go.Proofs.YthbgghmjbaldlaaGreatDoor
open Go.RowKit Go.Shelf
set_option maxRecDepth 100000
set_option maxHeartbeats 1000000
theorem p_FormatEvent (x : Event) (h : SmallE x) (hd : -9223372036854775808 ≤ x.day ∧ x.day ≤ 9223372036854775807) : VC Tryz.prog 26 [.agg x.av] (S (evText x)) := by
  obtain ⟨it, day, k, f, t⟩ := x
  have g2 := v_ItoaM day hd
  have s1 := decT_size day hd
  have s2 := h.item
  have s3 := h.frm
  have s4 := h.dst
  simp only at s2 s3 s4
  have hsp : (⟨#[32]⟩ : ByteArray).size = 1 := rfl
  have hJ := fun w : ByteArray => fun hw : w.size ≤ 8 => v_Join [it, decT day, w, f, t] ⟨#[32]⟩ (by rw [joinlen_five, hsp]; omega) (by show 5 ≤ 1000000000; decide)
  have g1 := p_within k 0 4
  unfold evText
  simp only
  by_cases hk : 0 ≤ k ∧ k ≤ 4
  · rw [if_neg (word_ne hk)]
    have hin : inR k 0 4 = true := by simp [inR, hk.1, hk.2]
    rw [hin] at g1
    have hj2 := hJ (word k) (word_size k)
    rw [join_five] at hj2
    generalize decT day = D at *
    clear hd s1 s2 s3 s4 hJ h hin hsp
    obtain ⟨R, hR⟩ : ∃ R, it ++ ⟨#[32]⟩ ++ D ++ ⟨#[32]⟩ ++ word k ++ ⟨#[32]⟩ ++ f ++ ⟨#[32]⟩ ++ t = R := ⟨_, rfl⟩
    rw [hR] at hj2 ⊢
    clear hR
    have : k = 0 ∨ k = 1 ∨ k = 2 ∨ k = 3 ∨ k = 4 := by omega
    clear hk
    rcases this with rfl | rfl | rfl | rfl | rfl
    · refine VC_of Tryz.func26 rfl (by kernel_rfl) (by kernel_rfl) rfl fun M0 w0 => ?_
      simp only [Tryz.ntmps26, Tryz.results26, enumA]
      repeat' (first | (with_reducible first | refine vseq ?_ | refine vthenN ?_ | refine vthenE ?_ | refine vthenR ?_ | refine vret ?_ | refine vskip ?_ | refine vexit ?_ | refine vblock ?_ | refine vblockN ?_ | refine vblockR ?_ | refine vblockH ?_ | refine vrun_nil ?_ | refine vblockE rfl ?_ | refine vregion [] ?_ | refine vhrun_nil ?_) | ((with_reducible refine vcondT ?_ ?_); (focus (go_simp; done))) | ((with_reducible refine vcondF ?_ ?_); (focus (go_simp; done))) | ((with_reducible first | refine vrun_cons fun KK hKK => ?_ | refine vhrun_cons fun KK hKK => ?_); go_simp; (first | (with_reducible refine ⟨_, g1, ?_⟩) | (with_reducible refine ⟨_, g2, ?_⟩) | (refine ⟨_, hj2, ?_⟩) | skip); refine hKK _ ?_; clear hKK KK) | ((refine vdrawL 16 16 [] rfl (by kernel_rfl) (by kernel_rfl) ?_); simp only [List.take, List.drop]) | ((with_reducible refine vcondS ?_ (fun ht => ?_) (fun ht => ?_)); (focus (go_simp; done)); (all_goals (simp [go_sem] at ht; replace ht := ht.out))))
      go_simp
    · refine VC_of Tryz.func26 rfl (by kernel_rfl) (by kernel_rfl) rfl fun M0 w0 => ?_
      simp only [Tryz.ntmps26, Tryz.results26, enumA]
      repeat' (first | (with_reducible first | refine vseq ?_ | refine vthenN ?_ | refine vthenE ?_ | refine vthenR ?_ | refine vret ?_ | refine vskip ?_ | refine vexit ?_ | refine vblock ?_ | refine vblockN ?_ | refine vblockR ?_ | refine vblockH ?_ | refine vrun_nil ?_ | refine vblockE rfl ?_ | refine vregion [] ?_ | refine vhrun_nil ?_) | ((with_reducible refine vcondT ?_ ?_); (focus (go_simp; done))) | ((with_reducible refine vcondF ?_ ?_); (focus (go_simp; done))) | ((with_reducible first | refine vrun_cons fun KK hKK => ?_ | refine vhrun_cons fun KK hKK => ?_); go_simp; (first | (with_reducible refine ⟨_, g1, ?_⟩) | (with_reducible refine ⟨_, g2, ?_⟩) | (refine ⟨_, hj2, ?_⟩) | skip); refine hKK _ ?_; clear hKK KK) | ((refine vdrawL 16 16 [] rfl (by kernel_rfl) (by kernel_rfl) ?_); simp only [List.take, List.drop]) | ((with_reducible refine vcondS ?_ (fun ht => ?_) (fun ht => ?_)); (focus (go_simp; done)); (all_goals (simp [go_sem] at ht; replace ht := ht.out))))
      go_simp
    · refine VC_of Tryz.func26 rfl (by kernel_rfl) (by kernel_rfl) rfl fun M0 w0 => ?_
      simp only [Tryz.ntmps26, Tryz.results26, enumA]
      repeat' (first | (with_reducible first | refine vseq ?_ | refine vthenN ?_ | refine vthenE ?_ | refine vthenR ?_ | refine vret ?_ | refine vskip ?_ | refine vexit ?_ | refine vblock ?_ | refine vblockN ?_ | refine vblockR ?_ | refine vblockH ?_ | refine vrun_nil ?_ | refine vblockE rfl ?_ | refine vregion [] ?_ | refine vhrun_nil ?_) | ((with_reducible refine vcondT ?_ ?_); (focus (go_simp; done))) | ((with_reducible refine vcondF ?_ ?_); (focus (go_simp; done))) | ((with_reducible first | refine vrun_cons fun KK hKK => ?_ | refine vhrun_cons fun KK hKK => ?_); go_simp; (first | (with_reducible refine ⟨_, g1, ?_⟩) | (with_reducible refine ⟨_, g2, ?_⟩) | (refine ⟨_, hj2, ?_⟩) | skip); refine hKK _ ?_; clear hKK KK) | ((refine vdrawL 16 16 [] rfl (by kernel_rfl) (by kernel_rfl) ?_); simp only [List.take, List.drop]) | ((with_reducible refine vcondS ?_ (fun ht => ?_) (fun ht => ?_)); (focus (go_simp; done)); (all_goals (simp [go_sem] at ht; replace ht := ht.out))))
      go_simp
    · refine VC_of Tryz.func26 rfl (by kernel_rfl) (by kernel_rfl) rfl fun M0 w0 => ?_
      simp only [Tryz.ntmps26, Tryz.results26, enumA]
      repeat' (first | (with_reducible first | refine vseq ?_ | refine vthenN ?_ | refine vthenE ?_ | refine vthenR ?_ | refine vret ?_ | refine vskip ?_ | refine vexit ?_ | refine vblock ?_ | refine vblockN ?_ | refine vblockR ?_ | refine vblockH ?_ | refine vrun_nil ?_ | refine vblockE rfl ?_ | refine vregion [] ?_ | refine vhrun_nil ?_) | ((with_reducible refine vcondT ?_ ?_); (focus (go_simp; done))) | ((with_reducible refine vcondF ?_ ?_); (focus (go_simp; done))) | ((with_reducible first | refine vrun_cons fun KK hKK => ?_ | refine vhrun_cons fun KK hKK => ?_); go_simp; (first | (with_reducible refine ⟨_, g1, ?_⟩) | (with_reducible refine ⟨_, g2, ?_⟩) | (refine ⟨_, hj2, ?_⟩) | skip); refine hKK _ ?_; clear hKK KK) | ((refine vdrawL 16 16 [] rfl (by kernel_rfl) (by kernel_rfl) ?_); simp only [List.take, List.drop]) | ((with_reducible refine vcondS ?_ (fun ht => ?_) (fun ht => ?_)); (focus (go_simp; done)); (all_goals (simp [go_sem] at ht; replace ht := ht.out))))
      go_simp
    · refine VC_of Tryz.func26 rfl (by kernel_rfl) (by kernel_rfl) rfl fun M0 w0 => ?_
      simp only [Tryz.ntmps26, Tryz.results26, enumA]
      repeat' (first | (with_reducible first | refine vseq ?_ | refine vthenN ?_ | refine vthenE ?_ | refine vthenR ?_ | refine vret ?_ | refine vskip ?_ | refine vexit ?_ | refine vblock ?_ | refine vblockN ?_ | refine vblockR ?_ | refine vblockH ?_ | refine vrun_nil ?_ | refine vblockE rfl ?_ | refine vregion [] ?_ | refine vhrun_nil ?_) | ((with_reducible refine vcondT ?_ ?_); (focus (go_simp; done))) | ((with_reducible refine vcondF ?_ ?_); (focus (go_simp; done))) | ((with_reducible first | refine vrun_cons fun KK hKK => ?_ | refine vhrun_cons fun KK hKK => ?_); go_simp; (first | (with_reducible refine ⟨_, g1, ?_⟩) | (with_reducible refine ⟨_, g2, ?_⟩) | (refine ⟨_, hj2, ?_⟩) | skip); refine hKK _ ?_; clear hKK KK) | ((refine vdrawL 16 16 [] rfl (by kernel_rfl) (by kernel_rfl) ?_); simp only [List.take, List.drop]) | ((with_reducible refine vcondS ?_ (fun ht => ?_) (fun ht => ?_)); (focus (go_simp; done)); (all_goals (simp [go_sem] at ht; replace ht := ht.out))))
      go_simp
  · rw [if_pos (word_no hk)]
    have hin : inR k 0 4 = false := by
      simp only [inR, Bool.and_eq_false_iff, decide_eq_false_iff_not]
      omega
    rw [hin] at g1
    clear hJ g2 hd s1 s2 s3 s4 h hin
    refine VC_of Tryz.func26 rfl (by kernel_rfl) (by kernel_rfl) rfl fun M0 w0 => ?_
    simp only [Tryz.ntmps26, Tryz.results26, enumA]
    repeat' (first | (with_reducible first | refine vseq ?_ | refine vthenN ?_ | refine vthenE ?_ | refine vthenR ?_ | refine vret ?_ | refine vskip ?_ | refine vexit ?_ | refine vblock ?_ | refine vblockN ?_ | refine vblockR ?_ | refine vblockH ?_ | refine vrun_nil ?_ | refine vblockE rfl ?_ | refine vregion [] ?_ | refine vhrun_nil ?_) | ((with_reducible refine vcondT ?_ ?_); (focus (go_simp; done))) | ((with_reducible refine vcondF ?_ ?_); (focus (go_simp; done))) | ((with_reducible first | refine vrun_cons fun KK hKK => ?_ | refine vhrun_cons fun KK hKK => ?_); go_simp; (first | (with_reducible refine ⟨_, g1, ?_⟩) | skip); refine hKK _ ?_; clear hKK KK) | ((refine vdrawL 16 16 [] rfl (by kernel_rfl) (by kernel_rfl) ?_); simp only [List.append, List.take, List.drop]) | ((with_reducible refine vcondS ?_ (fun ht => ?_) (fun ht => ?_)); (focus (go_simp; done)); (all_goals (simp [go_sem] at ht; replace ht := ht.out))))
    go_simp
end Go.Proofs.YthbgghmjbaldlaaGreatDoor
