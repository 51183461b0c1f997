/- Texts in one: Walks on a town that changes: cars that leave and that are called up. -/
import Derived.Test.YtoibondihdhnoaaGreatDoorFRA22
import Derived.Test.YtoibondihdhnoaaGreatDoorFRA21
namespace Go.Proofs.YtoibondihdhnoaaGreatDoor
open Go.RowKit
set_option maxRecDepth 100000
set_option maxHeartbeats 2000000
theorem w_leaveE (r : Ru) (s : St) (mv : List Sg) (n1 n2 : Bool) (x : Ev) (k : Nat) (hx : x.rank = k) (hk : k < s.q.length) (hq : (qat s.q k).length ≤ 1000000) (h0 : idxT (qat s.q k) x.car < 0) :
  VH Tryz.prog 227 (townH r s mv n1 n2) [.ref 0 0, evA x] [0] (townH r s mv n1 n2) (I 6) := by
 have g1 := p_index (qat s.q k) x.car hq
 unfold idxT at h0
 generalize ixP (isT (qat s.q k) x.car) 0 (qat s.q k).length = A at *
 obtain ⟨kd, tm, rk, car⟩ := x
 simp only at hx
 subst hx
 simp only [evA]
 refine VH_of Tryz.func227 rfl (by kernel_rfl) rfl (fun _ => by kernel_rfl) fun M0 w0 vs => ?_
 simp only [Tryz.ntmps227, Tryz.results227, enumA]
 unfold townH
 repeat' (first | (with_reducible first | refine vseq ?_ | refine vthenN ?_ | refine vthenR ?_ | refine vret ?_ | refine vrun_nil ?_ | refine vregion [] ?_ | refine vhrun_nil ?_) | ((with_reducible refine vcondT ?_ ?_); (focus (go_simp; done))) | ((with_reducible first | refine vrun_cons fun KK hKK => ?_ | refine vhrun_cons fun KK hKK => ?_); go_simp; (first | (refine ⟨_, ⟨g1, rfl⟩, ?_⟩) | skip); refine hKK _ ?_; clear hKK KK) | ((refine vdrawL 10 10 [] rfl (by kernel_rfl) (by kernel_rfl) ?_); simp only [List.take, List.drop]))
 go_simp
theorem w_leave (r : Ru) (s : St) (mv : List Sg) (n1 n2 : Bool) (x : Ev) (k : Nat) (hx : x.rank = k) (hk : k < s.q.length) (hq : (qat s.q k).length ≤ 10000) (h0 : ¬ idxT (qat s.q k) x.car < 0) :
  VH Tryz.prog 227 (townH r s mv n1 n2) [.ref 0 0, evA x] [0] (townH r (leaveS s x k) mv n1 n2) (I 0) := by
 have g1 := p_index (qat s.q k) x.car (by omega)
 obtain ⟨i, e, hi, hh⟩ := idxT_at (l := qat s.q k) (c := x.car) (Classical.byContradiction fun hn => h0 (idxT_neg.2 hn))
 unfold leaveS
 rw [e, Int.toNat_natCast]
 unfold idxT at e
 rw [e] at g1
 clear e h0 hh
 obtain ⟨kd, tm, rk, car⟩ := x
 simp only at hx
 subst hx
 have hw := ixs (m := i) (by omega)
 obtain ⟨w1, w2, w3, w4, w5, w6⟩ := hw
 have hi2 : i ≤ (qat s.q k).length := by omega
 have hi3 : (i : Int) + 1 ≤ ((qat s.q k).length : Int) := by omega
 have hi4 : i + 1 ≤ (qat s.q k).length := hi
 have hi5 : (i : Int) ≤ ((qat s.q k).length : Int) := by omega
 simp only [evA]
 refine VH_of Tryz.func227 rfl (by kernel_rfl) rfl (fun _ => by kernel_rfl) fun M0 w0 vs => ?_
 simp only [Tryz.ntmps227, Tryz.results227, enumA]
 unfold townH
 repeat' (first | (with_reducible first | refine vseq ?_ | refine vthenN ?_ | refine vrun_nil ?_ | refine vregion [] ?_) | ((with_reducible refine vrun_cons fun KK hKK => ?_); go_simp; refine hKK _ ?_; clear hKK KK))
 refine vdrawL 10 10 [] rfl (by kernel_rfl) (by kernel_rfl) ?_
 simp only [List.take, List.drop]
 repeat' (first | (with_reducible first | refine vseq ?_ | refine vthenN ?_ | refine vskip ?_ | refine vrun_nil ?_ | refine vregion [] ?_ | refine vhrun_nil ?_) | ((with_reducible refine vcondF ?_ ?_); (focus (go_simp; done))) | ((with_reducible first | refine vrun_cons fun KK hKK => ?_ | refine vhrun_cons fun KK hKK => ?_); go_simp; (first | (refine ⟨_, ⟨g1, rfl⟩, ?_⟩) | skip); refine hKK _ ?_; clear hKK KK))
 refine vdrawZ 15 [0, 22, 22, 23, 23, 24, 24, 25, 25, 26, 3, 27, 27, 28] (by kernel_rfl) (by kernel_rfl) (by kernel_rfl) (fun v => v) lkp_same rfl ⟨rfl, rfl⟩ ?_
 simp only [List.take]
 repeat' (first | (with_reducible refine vhrun_nil ?_) | ((with_reducible refine vhrun_cons fun KK hKK => ?_); go_simp; refine hKK _ ?_; clear hKK KK))
 refine ⟨_, _, sp_own (by exact rfl) (by exact rfl) (by go_simp; exact o_Concat2 _ _ (by txo) (by txo) (by simp; omega)) (by go_simp), ?_, ?_, ?_⟩
 ·simp only [List.forall_mem_cons]
  go_simp
 ·repeat' (first | (with_reducible refine vhrun_nil ?_) | ((with_reducible refine vhrun_cons fun KK hKK => ?_); go_simp; refine hKK _ ?_; clear hKK KK))
  simp only [List.forall_mem_cons]
  go_simp
 go_simp
 refine vl_run [] 2 ⟨rfl, rfl⟩ ?_
 simp only [List.take, List.drop]
 repeat' (first | (with_reducible refine vrun_nil ?_) | ((with_reducible refine vrun_cons fun KK hKK => ?_); go_simp; refine hKK _ ?_; clear hKK KK))
 refine vl_nil ?_
 repeat' (first | (with_reducible first | refine vseq ?_ | refine vthenN ?_ | refine vret ?_ | refine vrun_nil ?_ | refine vregion [] ?_) | ((with_reducible refine vrun_cons fun KK hKK => ?_); go_simp; refine hKK _ ?_; clear hKK KK))
 go_simp
 rw [← rowsC_set]
 congr 1
 rw [List.eraseIdx_eq_take_drop_succ, List.map_append, List.map_take, List.map_drop]
end Go.Proofs.YtoibondihdhnoaaGreatDoor
