/- Texts in one: Walks on a town that changes: the first car declines. -/
import Derived.Test.YtoibondihdhnoaaGreatDoorFRA21
namespace Go.Proofs.YtoibondihdhnoaaGreatDoor
open Go.RowKit
set_option maxRecDepth 100000
set_option maxHeartbeats 2000000
theorem w_decline (r : Ru) (s : St) (mv : List Sg) (n1 n2 : Bool) (x : Ev) (k : Nat) (hx : x.rank = k) (hk : k < s.q.length) (hr : r.ranks.length = s.q.length) (hb : 0 ≤ r.back ∨ r.back = -1) (hq : (qat s.q k).length ≤ 10000) (h0 : headE (qat s.q k) x.car = 0) :
  VH Tryz.prog 226 (townH r s mv n1 n2) [.ref 0 0, evA x] [0] (townH r ⟨s.q.set k (declineQ r (qat s.q k) x.car), s.tk, s.time⟩ mv n1 n2) (I 0) := by
 have g1 := p_headErr r s mv x k hx hk
 rw [h0] at g1
 have hp1 : 1 ≤ (qat s.q k).length := by
  unfold headE at h0
  by_cases h : (qat s.q k).length = 0
  ·rw [if_pos h] at h0
   cases h0
  ·omega
 clear h0
 obtain ⟨kd, tm, rk, car⟩ := x
 simp only at hx
 subst hx
 simp only [evA] at g1 ⊢
 unfold declineQ
 rw [List.length_tail]
 by_cases hbk : r.back = -1
 ·have e : backK r ((qat s.q k).length - 1) = (qat s.q k).length - 1 := by unfold backK; rw [if_neg (by omega)]
  rw [e]
  clear e hb
  obtain ⟨ranks, bk, rt⟩ := r
  simp only at hbk hr
  subst hbk
  refine VH_of Tryz.func226 rfl (by kernel_rfl) rfl (fun _ => by kernel_rfl) fun M0 w0 vs => ?_
  simp only [Tryz.ntmps226, Tryz.results226, enumA]
  unfold townH
  simp only
  repeat' (first | (with_reducible first | refine vseq ?_ | refine vthenN ?_ | refine vskip ?_ | refine vrun_nil ?_ | refine vregion [] ?_) | ((with_reducible refine vcondF ?_ ?_); (focus (go_simp; done))) | ((with_reducible refine vrun_cons fun KK hKK => ?_); go_simp; (first | (refine ⟨_, ⟨g1, rfl⟩, ?_⟩) | skip); refine hKK _ ?_; clear hKK KK))
  refine vdrawL 11 11 [] rfl (by kernel_rfl) (by kernel_rfl) ?_
  simp only [List.take, List.drop]
  repeat' (first | (with_reducible first | refine vseq ?_ | refine vthenN ?_ | refine vskip ?_ | refine vrun_nil ?_ | refine vregion [] ?_ | refine vhrun_nil ?_) | ((with_reducible refine vcondF ?_ ?_); (focus (go_simp; done))) | ((with_reducible first | refine vrun_cons fun KK hKK => ?_ | refine vhrun_cons fun KK hKK => ?_); go_simp; refine hKK _ ?_; clear hKK KK))
  refine vdrawZ 17 [0, 39, 39, 40, 40, 41, 41, 42, 42, 43, 3, 44, 44, 45] (by kernel_rfl) (by kernel_rfl) (by kernel_rfl) (fun v => v) lkp_same rfl ⟨rfl, rfl⟩ ?_
  simp only [List.take]
  repeat' (first | (with_reducible refine vhrun_nil ?_) | ((with_reducible refine vhrun_cons fun KK hKK => ?_); go_simp; refine hKK _ ?_; clear hKK KK))
  refine ⟨_, _, sp_own (by exact rfl) (by exact rfl) (by go_simp; exact o_Concat3 _ _ _ (by txo) (by txo) (by simp; omega)) (by go_simp), ?_, ?_, ?_⟩
  ·simp only [List.forall_mem_cons]
   go_simp
  ·repeat' (first | (with_reducible refine vhrun_nil ?_) | ((with_reducible refine vhrun_cons fun KK hKK => ?_); go_simp; refine hKK _ ?_; clear hKK KK))
   simp only [List.forall_mem_cons]
   go_simp
  go_simp
  refine vl_run [] 2 ⟨rfl, rfl⟩ ?_
  simp only [List.take, List.drop]
  repeat' (first | (with_reducible refine vrun_nil ?_) | ((with_reducible refine vrun_cons fun KK hKK => ?_); go_simp; refine hKK _ ?_; clear hKK KK))
  refine vl_nil ?_
  repeat' (first | (with_reducible first | refine vseq ?_ | refine vthenN ?_ | refine vret ?_ | refine vrun_nil ?_ | refine vregion [] ?_) | ((with_reducible refine vrun_cons fun KK hKK => ?_); go_simp; refine hKK _ ?_; clear hKK KK))
  go_simp
  rw [← rowsC_set]
  congr 1
  rw [txt_tail, ← List.map_take, ← List.map_drop, List.map_append]
  rw [List.drop_of_length_le (Nat.le_refl _)]
  rfl
 ·obtain ⟨p, hp⟩ : ∃ p, backK r ((qat s.q k).length - 1) = p := ⟨_, rfl⟩
  have hp2 : (if r.back < (((qat s.q k).length - 1 : Nat) : Int) then r.back else (((qat s.q k).length - 1 : Nat) : Int)) = (p : Int) := by
   rw [← hp]
   unfold backK
   rw [if_pos hbk]
   split <;> omega
  have hp3 : p ≤ (qat s.q k).length - 1 := by
   split at hp2 <;> omega
  rw [hp]
  clear hp hb
  refine VH_of Tryz.func226 rfl (by kernel_rfl) rfl (fun _ => by kernel_rfl) fun M0 w0 vs => ?_
  simp only [Tryz.ntmps226, Tryz.results226, enumA]
  unfold townH
  repeat' (first | (with_reducible first | refine vseq ?_ | refine vthenN ?_ | refine vskip ?_ | refine vrun_nil ?_ | refine vregion [] ?_) | ((with_reducible refine vcondF ?_ ?_); (focus (go_simp; done))) | ((with_reducible refine vrun_cons fun KK hKK => ?_); go_simp; (first | (refine ⟨_, ⟨g1, rfl⟩, ?_⟩) | skip); refine hKK _ ?_; clear hKK KK))
  refine vdrawL 11 11 [] rfl (by kernel_rfl) (by kernel_rfl) ?_
  simp only [List.take, List.drop]
  repeat' (first | (with_reducible first | refine vseq ?_ | refine vthenN ?_ | refine vrun_nil ?_ | refine vregion [] ?_ | refine vhrun_nil ?_) | ((with_reducible refine vcondT ?_ ?_); (focus (go_simp; done))) | ((with_reducible first | refine vrun_cons fun KK hKK => ?_ | refine vhrun_cons fun KK hKK => ?_); go_simp; refine hKK _ ?_; clear hKK KK))
  refine vdrawZ 17 [0, 39, 39, 40, 40, 41, 41, 42, 42, 43, 3, 44, 44, 45] (by kernel_rfl) (by kernel_rfl) (by kernel_rfl) (fun v => v) lkp_same rfl ⟨rfl, rfl⟩ ?_
  simp only [List.take]
  repeat' (first | (with_reducible refine vhrun_nil ?_) | ((with_reducible refine vhrun_cons fun KK hKK => ?_); go_simp; refine hKK _ ?_; clear hKK KK))
  refine ⟨_, _, sp_own (by exact rfl) (by exact rfl) (by go_simp; exact o_Concat3 _ _ _ (by txo) (by txo) (by simp; omega)) (by go_simp), ?_, ?_, ?_⟩
  ·simp only [List.forall_mem_cons]
   go_simp
  ·repeat' (first | (with_reducible refine vhrun_nil ?_) | ((with_reducible refine vhrun_cons fun KK hKK => ?_); go_simp; refine hKK _ ?_; clear hKK KK))
   simp only [List.forall_mem_cons]
   go_simp
  go_simp
  refine vl_run [] 2 ⟨rfl, rfl⟩ ?_
  simp only [List.take, List.drop]
  repeat' (first | (with_reducible refine vrun_nil ?_) | ((with_reducible refine vrun_cons fun KK hKK => ?_); go_simp; refine hKK _ ?_; clear hKK KK))
  refine vl_nil ?_
  repeat' (first | (with_reducible first | refine vseq ?_ | refine vthenN ?_ | refine vret ?_ | refine vrun_nil ?_ | refine vregion [] ?_) | ((with_reducible refine vrun_cons fun KK hKK => ?_); go_simp; refine hKK _ ?_; clear hKK KK))
  go_simp
  rw [← rowsC_set]
  congr 1
  rw [txt_tail, ← List.map_take, ← List.map_drop, List.map_append]
  rfl
end Go.Proofs.YtoibondihdhnoaaGreatDoor
