/- Texts in one: Walks: the sizes of rules and of logs; the error of rules. -/
import Derived.Test.YtoibondihdhnoaaGreatDoorFRA46
namespace Go.Proofs.YtoibondihdhnoaaGreatDoor
open Go.RowKit
set_option maxRecDepth 100000
set_option maxHeartbeats 2000000
def longN (r : Ru) (k : Nat) : Bool := decide (20 < (rat r.ranks k).name.size)
def fewB (r : Ru) : Bool := decide (r.ranks.length ≤ 8) && !anyP (longN r) 0 r.ranks.length
theorem l_Few (r : Ru) (hl : r.ranks.length ≤ 9223372036854775807) : VC Tryz.prog 19 [rulesA r] (B (fewB r)) := by
 unfold fewB
 by_cases h8 : r.ranks.length ≤ 8
 ·have h8' : ¬ (8 : Int) < (r.ranks.length : Int) := by omega
  obtain ⟨R, hR⟩ : ∃ R, anyP (longN r) 0 r.ranks.length = R := ⟨_, rfl⟩
  rw [decide_eq_true h8, hR]
  have HR := Lib.hid hR
  have HL := Lib.hid h8
  clear hR h8 hl
  refine VC_of Tryz.func19 rfl (by kernel_rfl) (by kernel_rfl) rfl fun M0 w0 => ?_
  simp only [Tryz.ntmps19, Tryz.results19, enumA]
  repeat' (first | (with_reducible first | refine vseq ?_ | refine vthenN ?_ | refine vskip ?_ | refine vblock ?_ | refine vrun_nil ?_ | refine vregion [] ?_) | ((with_reducible refine vcondF ?_ ?_); (focus (go_simp; done))) | ((with_reducible refine vrun_cons fun KK hKK => ?_); go_simp; refine hKK _ ?_; clear hKK KK))
  apply vfor [1] (fun k => [(3, I k)]) (fun k => ([] : Hp)) (longN r) (r.ranks.length)
  ·go_simp <;> exact rfl
  ·go_simp
  ·intro k hk HB HP K hK
   have := HL.out
   obtain ⟨w1, w2, w3, w4, w5, w6⟩ := ixs (m := k) (by omega)
   have hp := HP.out
   rw [longN, decide_eq_false_iff_not] at hp
   have hp2 : ¬ (20 : Int) < ((rat r.ranks k).name.size : Int) := by omega
   clear hp this
   repeat' (first | (with_reducible first | refine vseq ?_ | refine vthenN ?_ | refine vskip ?_ | refine vblock ?_ | refine vblockN ?_ | refine vrun_nil ?_ | refine vregion [] ?_) | ((with_reducible refine vcondT ?_ ?_); (focus (go_simp; done))) | ((with_reducible refine vcondF ?_ ?_); (focus (go_simp; done))) | ((with_reducible refine vrun_cons fun KK hKK => ?_); go_simp; refine hKK _ ?_; clear hKK KK))
   refine hK _ ?_
   go_simp
  ·intro k hk HB HP K
   have hp := HP.out
   rw [longN, decide_eq_true_eq] at hp
   have hp2 : (20 : Int) < ((rat r.ranks k).name.size : Int) := by omega
   have e := HR.out
   rw [anyP_hit hk HP.out] at e
   subst e
   clear hp
   repeat' (first | (with_reducible first | refine vseq ?_ | refine vthenN ?_ | refine vthenR ?_ | refine vret ?_ | refine vskip ?_ | refine vblock ?_ | refine vblockR ?_ | refine vrun_nil ?_ | refine vregion [] ?_) | ((with_reducible refine vcondT ?_ ?_); (focus (go_simp; done))) | ((with_reducible refine vrun_cons fun KK hKK => ?_); go_simp; refine hKK _ ?_; clear hKK KK))
   go_simp
  ·intro HB K
   have e := HR.out
   rw [anyP_out HB.out] at e
   subst e
   repeat' (first | (with_reducible first | refine vseq ?_ | refine vthenN ?_ | refine vthenE ?_ | refine vret ?_ | refine vexit ?_ | refine vblockH ?_ | refine vrun_nil ?_ | refine vregion [] ?_) | ((with_reducible refine vcondF ?_ ?_); (focus (go_simp; done))) | ((with_reducible refine vrun_cons fun KK hKK => ?_); go_simp; refine hKK _ ?_; clear hKK KK))
   go_simp
 ·have h8' : (8 : Int) < (r.ranks.length : Int) := by omega
  rw [decide_eq_false h8, Bool.false_and]
  clear h8 hl
  refine VC_of Tryz.func19 rfl (by kernel_rfl) (by kernel_rfl) rfl fun M0 w0 => ?_
  simp only [Tryz.ntmps19, Tryz.results19, enumA]
  repeat' (first | (with_reducible first | refine vseq ?_ | refine vthenN ?_ | refine vthenR ?_ | refine vret ?_ | refine vrun_nil ?_ | refine vregion [] ?_) | ((with_reducible refine vcondT ?_ ?_); (focus (go_simp; done))) | ((with_reducible refine vrun_cons fun KK hKK => ?_); go_simp; refine hKK _ ?_; clear hKK KK))
  go_simp
theorem few_is {r : Ru} (h : fewB r = true) : r.ranks.length ≤ 8 ∧ ∀ k, k < r.ranks.length → (rat r.ranks k).name.size ≤ 1000 := by
 unfold fewB at h
 rw [Bool.and_eq_true, decide_eq_true_eq, Bool.not_eq_true'] at h
 refine ⟨h.1, fun k hk => ?_⟩
 by_cases hb : longN r k = true
 ·have := anyP_hit hk hb
  rw [h.2] at this
  cases this
 ·unfold longN at hb
  have : ¬ 20 < (rat r.ranks k).name.size := fun hh => hb (decide_eq_true hh)
  omega
theorem l_rulesErr (r : Ru) (hn : r.ranks.length ≤ 1000000) (hnm : ∀ k, k < r.ranks.length → (rat r.ranks k).name.size ≤ 1000) : VC Tryz.prog 24 [rulesA r] (I (checkR r).2) := by
 have g := r_CheckRules r hn hnm
 generalize (checkR r).2 = E at *
 generalize ((checkR r).1 : Int) = K0 at *
 refine VC_of Tryz.func24 rfl (by kernel_rfl) (by kernel_rfl) rfl fun M0 w0 => ?_
 simp only [Tryz.ntmps24, Tryz.results24, enumA]
 repeat' (first | (with_reducible first | refine vseq ?_ | refine vthenN ?_ | refine vret ?_ | refine vrun_nil ?_ | refine vregion [] ?_) | ((with_reducible refine vrun_cons fun KK hKK => ?_); go_simp; (first | (refine ⟨_, g, ?_⟩) | skip); refine hKK _ ?_; clear hKK KK))
 go_simp
end Go.Proofs.YtoibondihdhnoaaGreatDoor
