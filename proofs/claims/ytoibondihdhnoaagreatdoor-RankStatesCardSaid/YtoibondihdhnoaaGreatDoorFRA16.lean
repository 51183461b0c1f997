/- Texts in one: Walks on a town that changes: cars move up. -/
import Derived.Test.YtoibondihdhnoaaGreatDoorFRA9
import Derived.Test.YtoibondihdhnoaaGreatDoorFRA15
import Derived.Test.YtoibondihdhnoaaGreatDoorFRA13
namespace Go.Proofs.YtoibondihdhnoaaGreatDoor
open Go.RowKit
set_option maxRecDepth 100000
set_option maxHeartbeats 2000000
def townH (r : Ru) (s : St) (mv : List Sg) (n1 n2 : Bool) : Hp :=
 [some (.box [.osl 1, .osl 2, I s.time, .sl 4 (r.ranks.map Rk.av), I r.back, I r.ret, .osl 3]), some (.bag 62 1 false none (rowsC s.q)), some (.arr 148 3 n1 (s.tk.map Tk.av)), some (.arr 45 3 n2 (mv.map Sg.av))]
theorem txt_app (l : List ByteArray) (c : ByteArray) : l.map txtA ++ [[S c]] = (l ++ [c]).map txtA := by simp [txtA]
theorem txt_tail (l : List ByteArray) : (l.map txtA).tail = l.tail.map txtA := List.map_tail.symm
def upQ (q : List (List ByteArray)) (k f : Nat) : List (List ByteArray) := (q.set f (qat q f).tail).set k (qat q k ++ [tat (qat q f) 0])
def upM (q : List (List ByteArray)) (k f : Nat) : List Sg := [⟨3, f, tat (qat q f) 0⟩, ⟨0, k, tat (qat q f) 0⟩]
theorem rowsC_up {q : List (List ByteArray)} {k f : Nat} : ((rowsC q).set f ((qat q f).map txtA).tail).set k ((qat q k).map txtA ++ [[S (tat (qat q f) 0)]]) = rowsC (upQ q k f) := by
 rw [txt_app, txt_tail, rowsC_set, rowsC_set]
 rfl
theorem w_up (r : Ru) (s : St) (mv : List Sg) (n1 n2 : Bool) (k f : Nat) (hk : k < s.q.length) (hr : r.ranks.length = s.q.length) (hf : (rat r.ranks k).feeder = f) (hfl : f < s.q.length) (hne : f ≠ k) (hp : 0 < (qat s.q f).length) (hq : (qat s.q k).length + 1 ≤ 1000000000) (hm : mv.length + 2 ≤ 1000000000) :
  VH Tryz.prog 157 (townH r s mv n1 n2) [.ref 0 0, I (k : Int)] [0] (townH r ⟨upQ s.q k f, s.tk, s.time⟩ (mv ++ upM s.q k f) n1 false) (.tup []) := by
 have hk2 : k < r.ranks.length := by omega
 have ht := tat_get hp
 have hp1 : 1 ≤ (qat s.q f).length := hp
 refine VH_of Tryz.func157 rfl (by kernel_rfl) rfl (fun _ => by kernel_rfl) fun M0 w0 vs => ?_
 simp only [Tryz.ntmps157, Tryz.results157, enumA]
 unfold townH
 repeat' (with_reducible refine vseq ?_)
 refine vregion [] ?_
 repeat' (first | (with_reducible first | refine vseq ?_ | refine vthenN ?_ | refine vrun_nil ?_) | ((with_reducible refine vrun_cons fun KK hKK => ?_); go_simp; refine hKK _ ?_; clear hKK KK))
 refine vregion [] ?_
 repeat' (first | (with_reducible first | refine vseq ?_ | refine vthenN ?_ | refine vrun_nil ?_) | ((with_reducible refine vrun_cons fun KK hKK => ?_); go_simp; refine hKK _ ?_; clear hKK KK))
 refine vdraw 16 [] (by kernel_rfl) (by kernel_rfl) ?_
 simp only [List.take, List.drop]
 repeat' (first | (with_reducible first | refine vseq ?_ | refine vthenN ?_ | refine vrun_nil ?_ | refine vhrun_nil ?_) | ((with_reducible first | refine vrun_cons fun KK hKK => ?_ | refine vhrun_cons fun KK hKK => ?_); go_simp; refine hKK _ ?_; clear hKK KK))
 refine vdrawZ 16 [0, 41, 41, 42, 42, 43, 43, 44, 44, 45, 1, 46] (by kernel_rfl) (by kernel_rfl) (by kernel_rfl) (unW 1) (lkp_unW 1) rfl ⟨rfl, rfl⟩ ?_
 simp only [List.take]
 repeat' (first | (with_reducible refine vhrun_nil ?_) | ((with_reducible refine vhrun_cons fun KK hKK => ?_); go_simp; refine hKK _ ?_; clear hKK KK))
 refine ⟨_, _, sp_app (id := 1) (k := k) (es := (qat s.q k).map txtA) (c := S (tat (qat s.q f) 0)) (by exact rfl) (by exact rfl) (by go_simp) (by go_simp) ti62 ti9 (by exact rfl) (by go_simp), ?_, ?_, ?_⟩
 ·simp only [List.forall_mem_cons]
  go_simp
 ·repeat' (first | (with_reducible refine vhrun_nil ?_) | ((with_reducible refine vhrun_cons fun KK hKK => ?_); go_simp; refine hKK _ ?_; clear hKK KK))
  simp only [List.forall_mem_cons]
  go_simp
 go_simp
 refine vl_run [] 2 ⟨rfl, rfl⟩ ?_
 simp only [List.take, List.drop]
 repeat' (first | (with_reducible refine vrun_nil ?_) | ((with_reducible refine vrun_cons fun KK hKK => ?_); go_simp; refine hKK _ ?_; clear hKK KK))
 refine vl_nil ?_
 repeat' (with_reducible refine vthenN ?_)
 refine vregion [] ?_
 repeat' (first | (with_reducible refine vrun_nil ?_) | ((with_reducible refine vrun_cons fun KK hKK => ?_); go_simp; refine hKK _ ?_; clear hKK KK))
 go_simp
 refine ⟨?_, ?_⟩
 ·rw [← ht]
  exact rowsC_up
 ·simp [upM, ht, Sg.av]
end Go.Proofs.YtoibondihdhnoaaGreatDoor
