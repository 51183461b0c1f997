/- Texts in one: Walks on a town that changes: a car returns. -/
import Derived.Test.YtoibondihdhnoaaGreatDoorFRA25
import Derived.Test.YtoibondihdhnoaaGreatDoorFRA24
import Derived.Test.YtoibondihdhnoaaGreatDoorFRA15
namespace Go.Proofs.YtoibondihdhnoaaGreatDoor
open Go.RowKit
set_option maxRecDepth 100000
set_option maxHeartbeats 2000000
theorem w_backE1 (r : Ru) (s : St) (mv : List Sg) (n1 n2 : Bool) (x : Ev) (k : Nat) (hx : x.rank = k) (hl : s.tk.length ≤ 1000000) (h0 : tkIx s.tk x.car < 0) :
  VH Tryz.prog 229 (townH r s mv n1 n2) [.ref 0 0, evA x] [0] (townH r s mv n1 n2) (I 6) := by
 have g1 := p_taken r s mv x.car hl
 generalize tkIx s.tk x.car = A at *
 obtain ⟨kd, tm, rk, car⟩ := x
 simp only at hx
 subst hx
 simp only [evA]
 refine VH_of Tryz.func229 rfl (by kernel_rfl) rfl (fun _ => by kernel_rfl) fun M0 w0 vs => ?_
 simp only [Tryz.ntmps229, Tryz.results229, enumA]
 unfold townH
 repeat' (first | (with_reducible first | refine vseq ?_ | refine vthenN ?_ | refine vthenR ?_ | refine vret ?_ | refine vrun_nil ?_ | refine vregion [] ?_ | refine vhrun_nil ?_) | ((with_reducible refine vcondT ?_ ?_); (focus (go_simp; done))) | ((with_reducible first | refine vrun_cons fun KK hKK => ?_ | refine vhrun_cons fun KK hKK => ?_); go_simp; (first | (refine ⟨_, ⟨g1, rfl⟩, ?_⟩) | skip); refine hKK _ ?_; clear hKK KK) | ((refine vdrawL 16 16 [] rfl (by kernel_rfl) (by kernel_rfl) ?_); simp only [List.take, List.drop]))
 go_simp
theorem w_backE2 (r : Ru) (s : St) (mv : List Sg) (n1 n2 : Bool) (x : Ev) (k i : Nat) (hx : x.rank = k) (hl : s.tk.length ≤ 1000000) (hi : tkIx s.tk x.car = i) (hil : i < s.tk.length) (h0 : (tkat s.tk i).rank ≠ k) :
  VH Tryz.prog 229 (townH r s mv n1 n2) [.ref 0 0, evA x] [0] (townH r s mv n1 n2) (I 6) := by
 have g1 := p_taken r s mv x.car hl
 rw [hi] at g1
 clear hi
 obtain ⟨kd, tm, rk, car⟩ := x
 simp only at hx
 subst hx
 simp only [evA]
 refine VH_of Tryz.func229 rfl (by kernel_rfl) rfl (fun _ => by kernel_rfl) fun M0 w0 vs => ?_
 simp only [Tryz.ntmps229, Tryz.results229, enumA]
 unfold townH
 repeat' (first | (with_reducible first | refine vseq ?_ | refine vthenN ?_ | refine vthenR ?_ | refine vret ?_ | refine vrun_nil ?_ | refine vregion [] ?_ | refine vhrun_nil ?_) | ((with_reducible refine vcondT ?_ ?_); (focus (go_simp; done))) | ((with_reducible first | refine vrun_cons fun KK hKK => ?_ | refine vhrun_cons fun KK hKK => ?_); go_simp; (first | (refine ⟨_, ⟨g1, rfl⟩, ?_⟩) | skip); refine hKK _ ?_; clear hKK KK) | ((refine vdrawL 16 16 [] rfl (by kernel_rfl) (by kernel_rfl) ?_); simp only [List.take, List.drop]))
 go_simp
theorem w_backE3 (r : Ru) (s : St) (mv : List Sg) (n1 n2 : Bool) (x : Ev) (k i : Nat) (hx : x.rank = k) (hk : k < s.q.length) (hr : r.ranks.length = s.q.length) (hl : s.tk.length ≤ 1000000) (hi : tkIx s.tk x.car = i) (hil : i < s.tk.length) (h0 : (tkat s.tk i).rank = k)
  (ht : 0 ≤ x.time ∧ x.time ≤ 604800) (ht2 : 0 ≤ (tkat s.tk i).time ∧ (tkat s.tk i).time ≤ 604800) (h1 : ¬ fst [unl (decide (x.time - (tkat s.tk i).time ≤ r.ret)) 25, unl (freeP r s k) 16] = 0) :
  VH Tryz.prog 229 (townH r s mv n1 n2) [.ref 0 0, evA x] [0] (townH r s mv n1 n2) (I (fst [unl (decide (x.time - (tkat s.tk i).time ≤ r.ret)) 25, unl (freeP r s k) 16])) := by
 have g1 := p_taken r s mv x.car hl
 rw [hi] at g1
 clear hi
 have g2 := p_free r s mv k hk hr
 have g3 := p_unless (decide (x.time - (tkat s.tk i).time ≤ r.ret)) 25
 have g4 := p_unless (freeP r s k) 16
 have g5 : VC Tryz.prog 88 [.sl 1 ([unl (decide (x.time - (tkat s.tk i).time ≤ r.ret)) 25, unl (freeP r s k) 16].map intA)] (I (fst [unl (decide (x.time - (tkat s.tk i).time ≤ r.ret)) 25, unl (freeP r s k) 16])) := p_firstR _ rfl rfl
 have hw : IntKind.i64.wrap (x.time - (tkat s.tk i).time) = x.time - (tkat s.tk i).time := wrap_eq (by omega) (by omega)
 generalize fst [unl (decide (x.time - (tkat s.tk i).time ≤ r.ret)) 25, unl (freeP r s k) 16] = E at *
 generalize unl (decide (x.time - (tkat s.tk i).time ≤ r.ret)) 25 = A1 at *
 generalize unl (freeP r s k) 16 = A2 at *
 generalize freeP r s k = F at *
 clear ht ht2
 obtain ⟨kd, tm, rk, car⟩ := x
 simp only at hx hw g3
 subst hx
 simp only [evA]
 refine VH_of Tryz.func229 rfl (by kernel_rfl) rfl (fun _ => by kernel_rfl) fun M0 w0 vs => ?_
 simp only [Tryz.ntmps229, Tryz.results229, enumA]
 unfold townH
 repeat' (first | (with_reducible first | refine vseq ?_ | refine vthenN ?_ | refine vthenR ?_ | refine vret ?_ | refine vskip ?_ | refine vrun_nil ?_ | refine vregion [] ?_ | refine vhrun_nil ?_) | ((with_reducible refine vcondT ?_ ?_); (focus (go_simp; done))) | ((with_reducible refine vcondF ?_ ?_); (focus (go_simp; done))) | ((with_reducible first | refine vrun_cons fun KK hKK => ?_ | refine vhrun_cons fun KK hKK => ?_); go_simp; (first | (refine ⟨_, ⟨g1, rfl⟩, ?_⟩) | (refine ⟨_, ⟨g2, rfl⟩, ?_⟩) | (with_reducible refine ⟨_, g3, ?_⟩) | (with_reducible refine ⟨_, g4, ?_⟩) | (refine ⟨_, g5, ?_⟩) | skip); refine hKK _ ?_; clear hKK KK) | ((refine vdrawL 16 16 [] rfl (by kernel_rfl) (by kernel_rfl) ?_); simp only [List.take, List.drop]) | ((refine vdrawL 27 27 [] rfl (by kernel_rfl) (by kernel_rfl) ?_); simp only [List.take, List.drop]))
 go_simp
end Go.Proofs.YtoibondihdhnoaaGreatDoor
namespace Go.Proofs.YtoibondihdhnoaaGreatDoor
open Go.RowKit
set_option maxRecDepth 100000
set_option maxHeartbeats 2000000
theorem erase_map {α β : Type} (f : α → β) : ∀ (l : List α) (i : Nat), (l.map f).eraseIdx i = (l.eraseIdx i).map f
 | [], _ => rfl
 | _ :: _, 0 => rfl
 | x :: l, i + 1 => by
  rw [List.map_cons, List.eraseIdx_cons_succ, List.eraseIdx_cons_succ, List.map_cons, erase_map f l i]
theorem w_back (r : Ru) (s : St) (mv : List Sg) (n1 n2 : Bool) (x : Ev) (k i : Nat) (hx : x.rank = k) (hk : k < s.q.length) (hr : r.ranks.length = s.q.length) (hl : s.tk.length ≤ 1000000) (hi : tkIx s.tk x.car = i) (hil : i < s.tk.length) (h0 : (tkat s.tk i).rank = k)
  (ht : 0 ≤ x.time ∧ x.time ≤ 604800) (ht2 : 0 ≤ (tkat s.tk i).time ∧ (tkat s.tk i).time ≤ 604800) (hq : (qat s.q k).length + 1 ≤ 10000) (h1 : fst [unl (decide (x.time - (tkat s.tk i).time ≤ r.ret)) 25, unl (freeP r s k) 16] = 0) :
  VH Tryz.prog 229 (townH r s mv n1 n2) [.ref 0 0, evA x] [0] (townH r ⟨s.q.set k ([x.car] ++ qat s.q k), s.tk.eraseIdx i, s.time⟩ mv false n2) (I 0) := by
 have g1 := p_taken r s mv x.car hl
 rw [hi] at g1
 clear hi
 have g2 := p_free r s mv k hk hr
 have g3 := p_unless (decide (x.time - (tkat s.tk i).time ≤ r.ret)) 25
 have g4 := p_unless (freeP r s k) 16
 have g5 : VC Tryz.prog 88 [.sl 1 ([unl (decide (x.time - (tkat s.tk i).time ≤ r.ret)) 25, unl (freeP r s k) 16].map intA)] (I (fst [unl (decide (x.time - (tkat s.tk i).time ≤ r.ret)) 25, unl (freeP r s k) 16])) := p_firstR _ rfl rfl
 have hw : IntKind.i64.wrap (x.time - (tkat s.tk i).time) = x.time - (tkat s.tk i).time := wrap_eq (by omega) (by omega)
 have gd := w_Delete (s.tk.map Tk.av) n1 i (by simpa using hil)
 rw [erase_map] at gd
 rw [h1] at g5
 clear h1
 generalize unl (decide (x.time - (tkat s.tk i).time ≤ r.ret)) 25 = A1 at *
 generalize unl (freeP r s k) 16 = A2 at *
 generalize freeP r s k = F at *
 generalize s.tk.eraseIdx i = TK at *
 clear ht ht2
 obtain ⟨kd, tm, rk, car⟩ := x
 simp only at hx hw g3
 subst hx
 simp only [evA]
 obtain ⟨w1, w2, w3, w4, w5, w6⟩ := ixs (m := i) (by omega)
 refine VH_of Tryz.func229 rfl (by kernel_rfl) rfl (fun _ => by kernel_rfl) fun M0 w0 vs => ?_
 simp only [Tryz.ntmps229, Tryz.results229, enumA]
 unfold townH
 repeat' (first | (with_reducible first | refine vseq ?_ | refine vthenN ?_ | refine vrun_nil ?_ | refine vregion [] ?_) | ((with_reducible refine vrun_cons fun KK hKK => ?_); go_simp; (first | (refine ⟨_, ⟨g1, rfl⟩, ?_⟩) | skip); refine hKK _ ?_; clear hKK KK))
 refine vdrawL 16 16 [] rfl (by kernel_rfl) (by kernel_rfl) ?_
 simp only [List.take, List.drop]
 repeat' (first | (with_reducible first | refine vseq ?_ | refine vthenN ?_ | refine vskip ?_ | refine vrun_nil ?_ | refine vhrun_nil ?_) | ((with_reducible refine vcondF ?_ ?_); (focus (go_simp; done))) | ((with_reducible refine vhrun_cons fun KK hKK => ?_); go_simp; refine hKK _ ?_; clear hKK KK))
 refine vdrawL 27 27 [] rfl (by kernel_rfl) (by kernel_rfl) ?_
 simp only [List.take, List.drop]
 repeat' (first | (with_reducible first | refine vseq ?_ | refine vthenN ?_ | refine vrun_nil ?_ | refine vhrun_nil ?_) | ((with_reducible refine vhrun_cons fun KK hKK => ?_); go_simp; (first | (refine ⟨_, ⟨g2, rfl⟩, ?_⟩) | (with_reducible refine ⟨_, g3, ?_⟩) | (with_reducible refine ⟨_, g4, ?_⟩) | (refine ⟨_, g5, ?_⟩) | skip); refine hKK _ ?_; clear hKK KK))
 refine vregion [] ?_
 repeat' (first | (with_reducible first | refine vseq ?_ | refine vthenN ?_ | refine vskip ?_ | refine vrun_nil ?_) | ((with_reducible refine vcondF ?_ ?_); (focus (go_simp; done))) | ((with_reducible refine vrun_cons fun KK hKK => ?_); go_simp; refine hKK _ ?_; clear hKK KK))
 refine vregionL (vl_run [] 9 ⟨rfl, rfl⟩ ?_)
 simp only [List.take, List.drop]
 repeat' (first | (with_reducible refine vrun_nil ?_) | ((with_reducible refine vrun_cons fun KK hKK => ?_); go_simp; refine hKK _ ?_; clear hKK KK))
 refine vl_conv (fun p a w R => ⟨_, Rel.deadCell R (bi := 0) (j := 1) (r := 2) rfl rfl⟩) ?_
 simp only [List.set]
 refine vl_call [2] [] [] [some (.arr 148 3 false (TK.map Tk.av))] (.osl 0) rfl (by go_simp) ?_ ?_
 ·unfold HCall
  go_simp
  refine ⟨_, _, ⟨_, gd⟩, ?_⟩
  go_simp
  kernel_rfl
 go_simp
 refine vl_run [] 4 ⟨rfl, rfl⟩ ?_
 simp only [List.take, List.drop]
 repeat' (first | (with_reducible refine vrun_nil ?_) | ((with_reducible refine vrun_cons fun KK hKK => ?_); go_simp; refine hKK _ ?_; clear hKK KK))
 refine vl_nil ?_
 repeat' (with_reducible first | refine vseq ?_ | refine vthenN ?_)
 refine vdrawZ 20 [0, 69, 69, 70, 70, 71, 71, 72, 72, 73, 3, 74, 74, 75] (by kernel_rfl) (by kernel_rfl) (by kernel_rfl) (fun v => v) lkp_same rfl ⟨rfl, rfl⟩ ?_
 simp only [List.take]
 repeat' (first | (with_reducible refine vhrun_nil ?_) | ((with_reducible refine vhrun_cons fun KK hKK => ?_); go_simp; refine hKK _ ?_; clear hKK KK))
 refine ⟨_, _, sp_own (by exact rfl) (by exact rfl) (by go_simp; exact o_ConcatC _ _ (by txo) (by simp; omega)) (by go_simp), ?_, ?_, ?_⟩
 ·simp only [List.forall_mem_cons]
  go_simp
 ·repeat' (first | (with_reducible refine vhrun_nil ?_) | ((with_reducible refine vhrun_cons fun KK hKK => ?_); go_simp; refine hKK _ ?_; clear hKK KK))
  simp only [List.forall_mem_cons]
  go_simp
 go_simp
 refine vl_run [] 2 ⟨rfl, rfl⟩ ?_
 simp only [List.take, List.drop]
 repeat' (first | (with_reducible refine vrun_nil ?_) | ((with_reducible refine vrun_cons fun KK hKK => ?_); go_simp; refine hKK _ ?_; clear hKK KK))
 refine vl_nil ?_
 repeat' (first | (with_reducible first | refine vseq ?_ | refine vthenN ?_ | refine vret ?_ | refine vrun_nil ?_ | refine vregion [] ?_) | ((with_reducible refine vrun_cons fun KK hKK => ?_); go_simp; refine hKK _ ?_; clear hKK KK))
 go_simp
 rw [← rowsC_set]
 rfl
end Go.Proofs.YtoibondihdhnoaaGreatDoor
namespace Go.Proofs.YtoibondihdhnoaaGreatDoor
open Go.RowKit
set_option maxRecDepth 100000
set_option maxHeartbeats 2000000
theorem spotA_is (q : List (List ByteArray)) (c : ByteArray) : ∃ a b : Int, spotA q c = .tup [.agg [I a, I b], B (decide (0 ≤ spotK q c))] := by
 unfold spotA
 by_cases h : 0 ≤ spotK q c
 ·rw [if_pos h, decide_eq_true h]
  exact ⟨_, _, rfl⟩
 ·rw [if_neg h, decide_eq_false h]
  exact ⟨_, _, rfl⟩
theorem w_arriveE (r : Ru) (s : St) (mv : List Sg) (n1 n2 : Bool) (x : Ev) (k : Nat) (hx : x.rank = k) (hk : k < s.q.length) (hr : r.ranks.length = s.q.length) (hf : FeedOK r s.q.length) (hql : s.q.length ≤ 1000000) (hqs : ∀ k, k < s.q.length → (qat s.q k).length ≤ 1000000) (h0 : ¬ arriveE r s x k = 0) :
  VH Tryz.prog 224 (townH r s mv n1 n2) [.ref 0 0, evA x] [0] (townH r s mv n1 n2) (I (arriveE r s x k)) := by
 have hk2 : k < r.ranks.length := by omega
 have hfk := hf k hk
 clear hf
 have g1 := p_spot r s mv x.car hql hqs
 clear hqs
 obtain ⟨sa, sb, es⟩ := spotA_is s.q x.car
 rw [es] at g1
 clear es
 have g2 := p_free r s mv k hk hr
 have q1 := p_unless (!decide (0 ≤ spotK s.q x.car)) 5
 have q2 := p_unless (!waitsP r s k) 13
 have q3 := p_unless (freeP r s k) 16
 have g5 : VC Tryz.prog 88 [.sl 1 ([unl (!decide (0 ≤ spotK s.q x.car)) 5, unl (!waitsP r s k) 13, unl (freeP r s k) 16].map intA)] (I (arriveE r s x k)) := p_firstR _ rfl rfl
 unfold waitsP feedN at *
 generalize arriveE r s x k = E at *
 generalize decide (0 ≤ spotK s.q x.car) = D at *
 generalize unl (!D) 5 = A1 at *
 generalize unl (freeP r s k) 16 = A3 at *
 generalize freeP r s k = F at *
 obtain ⟨kd, tm, rk, car⟩ := x
 simp only at hx g1
 subst hx
 simp only [evA]
 by_cases h1 : (rat r.ranks k).feeder = -1
 ·have e : (decide ((rat r.ranks k).feeder ≠ -1) && decide (0 < (qat s.q (rat r.ranks k).feeder.toNat).length)) = false := by simp [h1]
  rw [e, Bool.not_false] at q2 g5
  generalize unl true 13 = A2 at *
  clear hfk e
  refine VH_of Tryz.func224 rfl (by kernel_rfl) rfl (fun _ => by kernel_rfl) fun M0 w0 vs => ?_
  simp only [Tryz.ntmps224, Tryz.results224, enumA]
  unfold townH
  repeat' (first | (with_reducible first | refine vseq ?_ | refine vthenN ?_ | refine vthenR ?_ | refine vret ?_ | refine vrun_nil ?_ | refine vregion [] ?_ | refine vhrun_nil ?_) | ((with_reducible refine vcondT ?_ ?_); (focus (go_simp; done))) | ((with_reducible first | refine vrun_cons fun KK hKK => ?_ | refine vhrun_cons fun KK hKK => ?_); go_simp; (first | (refine ⟨_, ⟨g1, rfl⟩, ?_⟩) | (refine ⟨_, ⟨g2, rfl⟩, ?_⟩) | (with_reducible refine ⟨_, q1, ?_⟩) | (with_reducible refine ⟨_, q2, ?_⟩) | (with_reducible refine ⟨_, q3, ?_⟩) | (refine ⟨_, g5, ?_⟩) | skip); refine hKK _ ?_; clear hKK KK) | ((refine vdrawL 11 11 [] rfl (by kernel_rfl) (by kernel_rfl) ?_); simp only [List.take, List.drop]) | ((refine vdrawL 14 14 [] rfl (by kernel_rfl) (by kernel_rfl) ?_); simp only [List.take, List.drop]))
  go_simp
 ·obtain ⟨f0, fl⟩ := hfk h1
  clear hfk
  obtain ⟨f, hfe⟩ : ∃ f : Nat, (rat r.ranks k).feeder = f := ⟨(rat r.ranks k).feeder.toNat, by omega⟩
  rw [hfe] at fl h1 q2 g5
  have e : (decide ((f : Int) ≠ -1) && decide (0 < (qat s.q (f : Int).toNat).length)) = decide (0 < (qat s.q f).length) := by
   rw [decide_eq_true h1, Bool.true_and, Int.toNat_natCast]
  rw [e] at q2 g5
  simp only [Int.toNat_natCast] at fl
  generalize unl (!decide (0 < (qat s.q f).length)) 13 = A2 at *
  clear f0 e
  have hmx : (if (f : Int) < 0 then 0 else (f : Int)) = f := if_neg (by omega)
  refine VH_of Tryz.func224 rfl (by kernel_rfl) rfl (fun _ => by kernel_rfl) fun M0 w0 vs => ?_
  simp only [Tryz.ntmps224, Tryz.results224, enumA]
  unfold townH
  repeat' (first | (with_reducible first | refine vseq ?_ | refine vthenN ?_ | refine vthenR ?_ | refine vret ?_ | refine vrun_nil ?_ | refine vregion [] ?_ | refine vhrun_nil ?_) | ((with_reducible refine vcondT ?_ ?_); (focus (go_simp; done))) | ((with_reducible first | refine vrun_cons fun KK hKK => ?_ | refine vhrun_cons fun KK hKK => ?_); go_simp; (first | (refine ⟨_, ⟨g1, rfl⟩, ?_⟩) | (refine ⟨_, ⟨g2, rfl⟩, ?_⟩) | (with_reducible refine ⟨_, q1, ?_⟩) | (with_reducible refine ⟨_, q2, ?_⟩) | (with_reducible refine ⟨_, q3, ?_⟩) | (refine ⟨_, g5, ?_⟩) | skip); refine hKK _ ?_; clear hKK KK) | ((refine vdrawL 11 11 [] rfl (by kernel_rfl) (by kernel_rfl) ?_); simp only [List.take, List.drop]) | ((refine vdrawL 14 14 [] rfl (by kernel_rfl) (by kernel_rfl) ?_); simp only [List.take, List.drop]))
  go_simp
end Go.Proofs.YtoibondihdhnoaaGreatDoor
namespace Go.Proofs.YtoibondihdhnoaaGreatDoor
open Go.RowKit
set_option maxRecDepth 100000
set_option maxHeartbeats 2000000
theorem w_arr00 (r : Ru) (s : St) (mv : List Sg) (n1 n2 : Bool) (x : Ev) (k : Nat) (hx : x.rank = k) (hk : k < s.q.length) (hr : r.ranks.length = s.q.length) (hql : s.q.length ≤ 1000000) (hqs : ∀ k, k < s.q.length → (qat s.q k).length ≤ 1000000) (hl : s.tk.length ≤ 1000000) (hfe : (rat r.ranks k).feeder = -1) (ht : tkIx s.tk x.car < 0) (h0 : arriveE r s x k = 0) :
  VH Tryz.prog 224 (townH r s mv n1 n2) [.ref 0 0, evA x] [0] (townH r ⟨s.q.set k (qat s.q k ++ [x.car]), s.tk, s.time⟩ mv n1 n2) (I 0) := by
 have hk2 : k < r.ranks.length := by omega
 have hqk := hqs k hk
 have hqk2 : (qat s.q k).length ≤ 999999999 := by omega
 have g1 := p_spot r s mv x.car hql hqs
 clear hqs
 obtain ⟨sa, sb, es⟩ := spotA_is s.q x.car
 rw [es] at g1
 clear es
 have g2 := p_free r s mv k hk hr
 have q1 := p_unless (!decide (0 ≤ spotK s.q x.car)) 5
 have q2 := p_unless (!waitsP r s k) 13
 have q3 := p_unless (freeP r s k) 16
 have g5 : VC Tryz.prog 88 [.sl 1 ([unl (!decide (0 ≤ spotK s.q x.car)) 5, unl (!waitsP r s k) 13, unl (freeP r s k) 16].map intA)] (I (arriveE r s x k)) := p_firstR _ rfl rfl
 rw [h0] at g5
 clear h0
 unfold waitsP feedN at *
 generalize decide (0 ≤ spotK s.q x.car) = D at *
 generalize unl (!D) 5 = A1 at *
 generalize unl (freeP r s k) 16 = A3 at *
 generalize freeP r s k = F at *
 have g6 := p_taken r ⟨s.q.set k (qat s.q k ++ [x.car]), s.tk, s.time⟩ mv x.car hl
 simp only at g6
 have e : (decide ((rat r.ranks k).feeder ≠ -1) && decide (0 < (qat s.q (rat r.ranks k).feeder.toNat).length)) = false := by simp [hfe]
 rw [e, Bool.not_false] at q2 g5
 generalize unl true 13 = A2 at *
 clear e
 generalize tkIx s.tk x.car = A at *
 obtain ⟨kd, tm, rk, car⟩ := x
 simp only at hx g1 g6
 subst hx
 simp only [evA]
 refine VH_of Tryz.func224 rfl (by kernel_rfl) rfl (fun _ => by kernel_rfl) fun M0 w0 vs => ?_
 simp only [Tryz.ntmps224, Tryz.results224, enumA]
 unfold townH
 repeat' (first | (with_reducible first | refine vseq ?_ | refine vthenN ?_ | refine vrun_nil ?_ | refine vregion [] ?_) | ((with_reducible refine vrun_cons fun KK hKK => ?_); go_simp; (first | (refine ⟨_, ⟨g1, rfl⟩, ?_⟩) | skip); refine hKK _ ?_; clear hKK KK))
 refine vdrawL 11 11 [] rfl (by kernel_rfl) (by kernel_rfl) ?_
 simp only [List.take, List.drop]
 repeat' (first | (with_reducible first | refine vseq ?_ | refine vthenN ?_ | refine vrun_nil ?_ | refine vhrun_nil ?_) | ((with_reducible refine vhrun_cons fun KK hKK => ?_); go_simp; refine hKK _ ?_; clear hKK KK))
 refine vregion [] ?_
 repeat' (first | (with_reducible first | refine vseq ?_ | refine vthenN ?_ | refine vrun_nil ?_) | ((with_reducible refine vrun_cons fun KK hKK => ?_); go_simp; refine hKK _ ?_; clear hKK KK))
 refine vdrawL 14 14 [] rfl (by kernel_rfl) (by kernel_rfl) ?_
 simp only [List.take, List.drop]
 repeat' (first | (with_reducible first | refine vseq ?_ | refine vthenN ?_ | refine vrun_nil ?_ | refine vhrun_nil ?_) | ((with_reducible refine vhrun_cons fun KK hKK => ?_); go_simp; (first | (refine ⟨_, ⟨g2, rfl⟩, ?_⟩) | (with_reducible refine ⟨_, q1, ?_⟩) | (with_reducible refine ⟨_, q2, ?_⟩) | (with_reducible refine ⟨_, q3, ?_⟩) | (refine ⟨_, g5, ?_⟩) | skip); refine hKK _ ?_; clear hKK KK))
 refine vregion [] ?_
 repeat' (first | (with_reducible first | refine vseq ?_ | refine vthenN ?_ | refine vskip ?_ | refine vrun_nil ?_) | ((with_reducible refine vcondF ?_ ?_); (focus (go_simp; done))) | ((with_reducible refine vrun_cons fun KK hKK => ?_); go_simp; refine hKK _ ?_; clear hKK KK))
 refine vdrawZ 19 [0, 59, 59, 60, 60, 61, 61, 62, 62, 63, 3, 64, 64, 65] (by kernel_rfl) (by kernel_rfl) (by kernel_rfl) (unW 1) (lkp_unW 1) rfl ⟨rfl, rfl⟩ ?_
 simp only [List.take]
 repeat' (first | (with_reducible refine vhrun_nil ?_) | ((with_reducible refine vhrun_cons fun KK hKK => ?_); go_simp; refine hKK _ ?_; clear hKK KK))
 refine ⟨_, _, sp_app (id := 1) (k := k) (es := (qat s.q k).map txtA) (c := S car) (by exact rfl) (by exact rfl) (by go_simp) (by go_simp) ti62 ti9 (by exact rfl) (by go_simp), ?_, ?_, ?_⟩
 ·simp only [List.forall_mem_cons]
  go_simp
 ·repeat' (first | (with_reducible refine vhrun_nil ?_) | ((with_reducible refine vhrun_cons fun KK hKK => ?_); go_simp; refine hKK _ ?_; clear hKK KK))
  simp only [List.forall_mem_cons]
  go_simp
 go_simp
 refine vl_run [] 2 ⟨rfl, rfl⟩ ?_
 simp only [List.take, List.drop]
 repeat' (first | (with_reducible refine vrun_nil ?_) | ((with_reducible refine vrun_cons fun KK hKK => ?_); go_simp; refine hKK _ ?_; clear hKK KK))
 refine vl_nil ?_
 repeat' (with_reducible first | refine vseq ?_ | refine vthenN ?_)
 rw [txt_app, rowsC_set]
 refine vregion [] ?_
 repeat' (first | (with_reducible first | refine vseq ?_ | refine vthenN ?_ | refine vrun_nil ?_) | ((with_reducible refine vrun_cons fun KK hKK => ?_); go_simp; (first | (refine ⟨_, ⟨g6, rfl⟩, ?_⟩) | skip); refine hKK _ ?_; clear hKK KK))
 refine vregion [] ?_
 repeat' (first | (with_reducible first | refine vseq ?_ | refine vthenN ?_ | refine vskip ?_ | refine vrun_nil ?_) | ((with_reducible refine vcondF ?_ ?_); (focus (go_simp; done))) | ((with_reducible refine vrun_cons fun KK hKK => ?_); go_simp; refine hKK _ ?_; clear hKK KK))
 refine vregion [] ?_
 repeat' (first | (with_reducible first | refine vthenN ?_ | refine vret ?_ | refine vrun_nil ?_) | ((with_reducible refine vrun_cons fun KK hKK => ?_); go_simp; refine hKK _ ?_; clear hKK KK))
 go_simp
theorem w_arr01 (r : Ru) (s : St) (mv : List Sg) (n1 n2 : Bool) (x : Ev) (k : Nat) (hx : x.rank = k) (hk : k < s.q.length) (hr : r.ranks.length = s.q.length) (hql : s.q.length ≤ 1000000) (hqs : ∀ k, k < s.q.length → (qat s.q k).length ≤ 1000000) (hl : s.tk.length ≤ 1000000) (hfe : (rat r.ranks k).feeder = -1) (i : Nat) (ht : tkIx s.tk x.car = i) (hil : i < s.tk.length) (h0 : arriveE r s x k = 0) :
  VH Tryz.prog 224 (townH r s mv n1 n2) [.ref 0 0, evA x] [0] (townH r ⟨s.q.set k (qat s.q k ++ [x.car]), s.tk.eraseIdx i, s.time⟩ mv false n2) (I 0) := by
 have hk2 : k < r.ranks.length := by omega
 have hqk := hqs k hk
 have hqk2 : (qat s.q k).length ≤ 999999999 := by omega
 have g1 := p_spot r s mv x.car hql hqs
 clear hqs
 obtain ⟨sa, sb, es⟩ := spotA_is s.q x.car
 rw [es] at g1
 clear es
 have g2 := p_free r s mv k hk hr
 have q1 := p_unless (!decide (0 ≤ spotK s.q x.car)) 5
 have q2 := p_unless (!waitsP r s k) 13
 have q3 := p_unless (freeP r s k) 16
 have g5 : VC Tryz.prog 88 [.sl 1 ([unl (!decide (0 ≤ spotK s.q x.car)) 5, unl (!waitsP r s k) 13, unl (freeP r s k) 16].map intA)] (I (arriveE r s x k)) := p_firstR _ rfl rfl
 rw [h0] at g5
 clear h0
 unfold waitsP feedN at *
 generalize decide (0 ≤ spotK s.q x.car) = D at *
 generalize unl (!D) 5 = A1 at *
 generalize unl (freeP r s k) 16 = A3 at *
 generalize freeP r s k = F at *
 have g6 := p_taken r ⟨s.q.set k (qat s.q k ++ [x.car]), s.tk, s.time⟩ mv x.car hl
 simp only at g6
 have e : (decide ((rat r.ranks k).feeder ≠ -1) && decide (0 < (qat s.q (rat r.ranks k).feeder.toNat).length)) = false := by simp [hfe]
 rw [e, Bool.not_false] at q2 g5
 generalize unl true 13 = A2 at *
 clear e
 rw [ht] at g6
 clear ht
 have gd := w_Delete (s.tk.map Tk.av) n1 i (by simpa using hil)
 rw [erase_map] at gd
 generalize s.tk.eraseIdx i = TK at *
 obtain ⟨w1, w2, w3, w4, w5, w6⟩ := ixs (m := i) (by omega)
 obtain ⟨kd, tm, rk, car⟩ := x
 simp only at hx g1 g6
 subst hx
 simp only [evA]
 refine VH_of Tryz.func224 rfl (by kernel_rfl) rfl (fun _ => by kernel_rfl) fun M0 w0 vs => ?_
 simp only [Tryz.ntmps224, Tryz.results224, enumA]
 unfold townH
 repeat' (first | (with_reducible first | refine vseq ?_ | refine vthenN ?_ | refine vrun_nil ?_ | refine vregion [] ?_) | ((with_reducible refine vrun_cons fun KK hKK => ?_); go_simp; (first | (refine ⟨_, ⟨g1, rfl⟩, ?_⟩) | skip); refine hKK _ ?_; clear hKK KK))
 refine vdrawL 11 11 [] rfl (by kernel_rfl) (by kernel_rfl) ?_
 simp only [List.take, List.drop]
 repeat' (first | (with_reducible first | refine vseq ?_ | refine vthenN ?_ | refine vrun_nil ?_ | refine vhrun_nil ?_) | ((with_reducible refine vhrun_cons fun KK hKK => ?_); go_simp; refine hKK _ ?_; clear hKK KK))
 refine vregion [] ?_
 repeat' (first | (with_reducible first | refine vseq ?_ | refine vthenN ?_ | refine vrun_nil ?_) | ((with_reducible refine vrun_cons fun KK hKK => ?_); go_simp; refine hKK _ ?_; clear hKK KK))
 refine vdrawL 14 14 [] rfl (by kernel_rfl) (by kernel_rfl) ?_
 simp only [List.take, List.drop]
 repeat' (first | (with_reducible first | refine vseq ?_ | refine vthenN ?_ | refine vrun_nil ?_ | refine vhrun_nil ?_) | ((with_reducible refine vhrun_cons fun KK hKK => ?_); go_simp; (first | (refine ⟨_, ⟨g2, rfl⟩, ?_⟩) | (with_reducible refine ⟨_, q1, ?_⟩) | (with_reducible refine ⟨_, q2, ?_⟩) | (with_reducible refine ⟨_, q3, ?_⟩) | (refine ⟨_, g5, ?_⟩) | skip); refine hKK _ ?_; clear hKK KK))
 refine vregion [] ?_
 repeat' (first | (with_reducible first | refine vseq ?_ | refine vthenN ?_ | refine vskip ?_ | refine vrun_nil ?_) | ((with_reducible refine vcondF ?_ ?_); (focus (go_simp; done))) | ((with_reducible refine vrun_cons fun KK hKK => ?_); go_simp; refine hKK _ ?_; clear hKK KK))
 refine vdrawZ 19 [0, 59, 59, 60, 60, 61, 61, 62, 62, 63, 3, 64, 64, 65] (by kernel_rfl) (by kernel_rfl) (by kernel_rfl) (unW 1) (lkp_unW 1) rfl ⟨rfl, rfl⟩ ?_
 simp only [List.take]
 repeat' (first | (with_reducible refine vhrun_nil ?_) | ((with_reducible refine vhrun_cons fun KK hKK => ?_); go_simp; refine hKK _ ?_; clear hKK KK))
 refine ⟨_, _, sp_app (id := 1) (k := k) (es := (qat s.q k).map txtA) (c := S car) (by exact rfl) (by exact rfl) (by go_simp) (by go_simp) ti62 ti9 (by exact rfl) (by go_simp), ?_, ?_, ?_⟩
 ·simp only [List.forall_mem_cons]
  go_simp
 ·repeat' (first | (with_reducible refine vhrun_nil ?_) | ((with_reducible refine vhrun_cons fun KK hKK => ?_); go_simp; refine hKK _ ?_; clear hKK KK))
  simp only [List.forall_mem_cons]
  go_simp
 go_simp
 refine vl_run [] 2 ⟨rfl, rfl⟩ ?_
 simp only [List.take, List.drop]
 repeat' (first | (with_reducible refine vrun_nil ?_) | ((with_reducible refine vrun_cons fun KK hKK => ?_); go_simp; refine hKK _ ?_; clear hKK KK))
 refine vl_nil ?_
 repeat' (with_reducible first | refine vseq ?_ | refine vthenN ?_)
 rw [txt_app, rowsC_set]
 refine vregion [] ?_
 repeat' (first | (with_reducible first | refine vseq ?_ | refine vthenN ?_ | refine vrun_nil ?_) | ((with_reducible refine vrun_cons fun KK hKK => ?_); go_simp; (first | (refine ⟨_, ⟨g6, rfl⟩, ?_⟩) | skip); refine hKK _ ?_; clear hKK KK))
 refine vregion [] ?_
 repeat' (first | (with_reducible first | refine vthenN ?_ | refine vrun_nil ?_) | ((with_reducible refine vcondT ?_ ?_); (focus (go_simp; done))) | ((with_reducible refine vrun_cons fun KK hKK => ?_); go_simp; refine hKK _ ?_; clear hKK KK))
 refine vregionL (vl_run [] 9 ⟨rfl, rfl⟩ ?_)
 simp only [List.take, List.drop]
 repeat' (first | (with_reducible refine vrun_nil ?_) | ((with_reducible refine vrun_cons fun KK hKK => ?_); go_simp; refine hKK _ ?_; clear hKK KK))
 refine vl_conv (fun p a w R => ⟨_, Rel.deadCell R (bi := 0) (j := 1) (r := 2) rfl rfl⟩) ?_
 simp only [List.set]
 refine vl_call [2] [] [] [some (.arr 148 3 false (TK.map Tk.av))] (.osl 0) rfl (by go_simp) ?_ ?_
 ·unfold HCall
  go_simp
  refine ⟨_, _, ⟨_, gd⟩, ?_⟩
  go_simp
  kernel_rfl
 go_simp
 refine vl_run [] 4 ⟨rfl, rfl⟩ ?_
 simp only [List.take, List.drop]
 repeat' (first | (with_reducible refine vrun_nil ?_) | ((with_reducible refine vrun_cons fun KK hKK => ?_); go_simp; refine hKK _ ?_; clear hKK KK))
 refine vl_nil ?_
 repeat' (with_reducible first | refine vseq ?_ | refine vthenN ?_)
 refine vregion [] ?_
 repeat' (first | (with_reducible first | refine vthenN ?_ | refine vret ?_ | refine vrun_nil ?_) | ((with_reducible refine vrun_cons fun KK hKK => ?_); go_simp; refine hKK _ ?_; clear hKK KK))
 go_simp
theorem w_arr10 (r : Ru) (s : St) (mv : List Sg) (n1 n2 : Bool) (x : Ev) (k : Nat) (hx : x.rank = k) (hk : k < s.q.length) (hr : r.ranks.length = s.q.length) (hql : s.q.length ≤ 1000000) (hqs : ∀ k, k < s.q.length → (qat s.q k).length ≤ 1000000) (hl : s.tk.length ≤ 1000000) (f : Nat) (hfe : (rat r.ranks k).feeder = f) (fl : f < s.q.length) (ht : tkIx s.tk x.car < 0) (h0 : arriveE r s x k = 0) :
  VH Tryz.prog 224 (townH r s mv n1 n2) [.ref 0 0, evA x] [0] (townH r ⟨s.q.set k (qat s.q k ++ [x.car]), s.tk, s.time⟩ mv n1 n2) (I 0) := by
 have hk2 : k < r.ranks.length := by omega
 have hqk := hqs k hk
 have hqk2 : (qat s.q k).length ≤ 999999999 := by omega
 have g1 := p_spot r s mv x.car hql hqs
 clear hqs
 obtain ⟨sa, sb, es⟩ := spotA_is s.q x.car
 rw [es] at g1
 clear es
 have g2 := p_free r s mv k hk hr
 have q1 := p_unless (!decide (0 ≤ spotK s.q x.car)) 5
 have q2 := p_unless (!waitsP r s k) 13
 have q3 := p_unless (freeP r s k) 16
 have g5 : VC Tryz.prog 88 [.sl 1 ([unl (!decide (0 ≤ spotK s.q x.car)) 5, unl (!waitsP r s k) 13, unl (freeP r s k) 16].map intA)] (I (arriveE r s x k)) := p_firstR _ rfl rfl
 rw [h0] at g5
 clear h0
 unfold waitsP feedN at *
 generalize decide (0 ≤ spotK s.q x.car) = D at *
 generalize unl (!D) 5 = A1 at *
 generalize unl (freeP r s k) 16 = A3 at *
 generalize freeP r s k = F at *
 have g6 := p_taken r ⟨s.q.set k (qat s.q k ++ [x.car]), s.tk, s.time⟩ mv x.car hl
 simp only at g6
 have h1 : (f : Int) ≠ -1 := by omega
 have e : (decide ((rat r.ranks k).feeder ≠ -1) && decide (0 < (qat s.q (rat r.ranks k).feeder.toNat).length)) = decide (0 < (qat s.q f).length) := by
  rw [hfe, decide_eq_true h1, Bool.true_and, Int.toNat_natCast]
 rw [e] at q2 g5
 generalize unl (!decide (0 < (qat s.q f).length)) 13 = A2 at *
 clear e
 have hmx : (if (f : Int) < 0 then 0 else (f : Int)) = f := if_neg (by omega)
 generalize tkIx s.tk x.car = A at *
 obtain ⟨kd, tm, rk, car⟩ := x
 simp only at hx g1 g6
 subst hx
 simp only [evA]
 refine VH_of Tryz.func224 rfl (by kernel_rfl) rfl (fun _ => by kernel_rfl) fun M0 w0 vs => ?_
 simp only [Tryz.ntmps224, Tryz.results224, enumA]
 unfold townH
 repeat' (first | (with_reducible first | refine vseq ?_ | refine vthenN ?_ | refine vrun_nil ?_ | refine vregion [] ?_) | ((with_reducible refine vrun_cons fun KK hKK => ?_); go_simp; (first | (refine ⟨_, ⟨g1, rfl⟩, ?_⟩) | skip); refine hKK _ ?_; clear hKK KK))
 refine vdrawL 11 11 [] rfl (by kernel_rfl) (by kernel_rfl) ?_
 simp only [List.take, List.drop]
 repeat' (first | (with_reducible first | refine vseq ?_ | refine vthenN ?_ | refine vrun_nil ?_ | refine vhrun_nil ?_) | ((with_reducible refine vhrun_cons fun KK hKK => ?_); go_simp; refine hKK _ ?_; clear hKK KK))
 refine vregion [] ?_
 repeat' (first | (with_reducible first | refine vseq ?_ | refine vthenN ?_ | refine vrun_nil ?_) | ((with_reducible refine vrun_cons fun KK hKK => ?_); go_simp; refine hKK _ ?_; clear hKK KK))
 refine vdrawL 14 14 [] rfl (by kernel_rfl) (by kernel_rfl) ?_
 simp only [List.take, List.drop]
 repeat' (first | (with_reducible first | refine vseq ?_ | refine vthenN ?_ | refine vrun_nil ?_ | refine vhrun_nil ?_) | ((with_reducible refine vhrun_cons fun KK hKK => ?_); go_simp; (first | (refine ⟨_, ⟨g2, rfl⟩, ?_⟩) | (with_reducible refine ⟨_, q1, ?_⟩) | (with_reducible refine ⟨_, q2, ?_⟩) | (with_reducible refine ⟨_, q3, ?_⟩) | (refine ⟨_, g5, ?_⟩) | skip); refine hKK _ ?_; clear hKK KK))
 refine vregion [] ?_
 repeat' (first | (with_reducible first | refine vseq ?_ | refine vthenN ?_ | refine vskip ?_ | refine vrun_nil ?_) | ((with_reducible refine vcondF ?_ ?_); (focus (go_simp; done))) | ((with_reducible refine vrun_cons fun KK hKK => ?_); go_simp; refine hKK _ ?_; clear hKK KK))
 refine vdrawZ 19 [0, 59, 59, 60, 60, 61, 61, 62, 62, 63, 3, 64, 64, 65] (by kernel_rfl) (by kernel_rfl) (by kernel_rfl) (unW 1) (lkp_unW 1) rfl ⟨rfl, rfl⟩ ?_
 simp only [List.take]
 repeat' (first | (with_reducible refine vhrun_nil ?_) | ((with_reducible refine vhrun_cons fun KK hKK => ?_); go_simp; refine hKK _ ?_; clear hKK KK))
 refine ⟨_, _, sp_app (id := 1) (k := k) (es := (qat s.q k).map txtA) (c := S car) (by exact rfl) (by exact rfl) (by go_simp) (by go_simp) ti62 ti9 (by exact rfl) (by go_simp), ?_, ?_, ?_⟩
 ·simp only [List.forall_mem_cons]
  go_simp
 ·repeat' (first | (with_reducible refine vhrun_nil ?_) | ((with_reducible refine vhrun_cons fun KK hKK => ?_); go_simp; refine hKK _ ?_; clear hKK KK))
  simp only [List.forall_mem_cons]
  go_simp
 go_simp
 refine vl_run [] 2 ⟨rfl, rfl⟩ ?_
 simp only [List.take, List.drop]
 repeat' (first | (with_reducible refine vrun_nil ?_) | ((with_reducible refine vrun_cons fun KK hKK => ?_); go_simp; refine hKK _ ?_; clear hKK KK))
 refine vl_nil ?_
 repeat' (with_reducible first | refine vseq ?_ | refine vthenN ?_)
 rw [txt_app, rowsC_set]
 refine vregion [] ?_
 repeat' (first | (with_reducible first | refine vseq ?_ | refine vthenN ?_ | refine vrun_nil ?_) | ((with_reducible refine vrun_cons fun KK hKK => ?_); go_simp; (first | (refine ⟨_, ⟨g6, rfl⟩, ?_⟩) | skip); refine hKK _ ?_; clear hKK KK))
 refine vregion [] ?_
 repeat' (first | (with_reducible first | refine vseq ?_ | refine vthenN ?_ | refine vskip ?_ | refine vrun_nil ?_) | ((with_reducible refine vcondF ?_ ?_); (focus (go_simp; done))) | ((with_reducible refine vrun_cons fun KK hKK => ?_); go_simp; refine hKK _ ?_; clear hKK KK))
 refine vregion [] ?_
 repeat' (first | (with_reducible first | refine vthenN ?_ | refine vret ?_ | refine vrun_nil ?_) | ((with_reducible refine vrun_cons fun KK hKK => ?_); go_simp; refine hKK _ ?_; clear hKK KK))
 go_simp
theorem w_arr11 (r : Ru) (s : St) (mv : List Sg) (n1 n2 : Bool) (x : Ev) (k : Nat) (hx : x.rank = k) (hk : k < s.q.length) (hr : r.ranks.length = s.q.length) (hql : s.q.length ≤ 1000000) (hqs : ∀ k, k < s.q.length → (qat s.q k).length ≤ 1000000) (hl : s.tk.length ≤ 1000000) (f : Nat) (hfe : (rat r.ranks k).feeder = f) (fl : f < s.q.length) (i : Nat) (ht : tkIx s.tk x.car = i) (hil : i < s.tk.length) (h0 : arriveE r s x k = 0) :
  VH Tryz.prog 224 (townH r s mv n1 n2) [.ref 0 0, evA x] [0] (townH r ⟨s.q.set k (qat s.q k ++ [x.car]), s.tk.eraseIdx i, s.time⟩ mv false n2) (I 0) := by
 have hk2 : k < r.ranks.length := by omega
 have hqk := hqs k hk
 have hqk2 : (qat s.q k).length ≤ 999999999 := by omega
 have g1 := p_spot r s mv x.car hql hqs
 clear hqs
 obtain ⟨sa, sb, es⟩ := spotA_is s.q x.car
 rw [es] at g1
 clear es
 have g2 := p_free r s mv k hk hr
 have q1 := p_unless (!decide (0 ≤ spotK s.q x.car)) 5
 have q2 := p_unless (!waitsP r s k) 13
 have q3 := p_unless (freeP r s k) 16
 have g5 : VC Tryz.prog 88 [.sl 1 ([unl (!decide (0 ≤ spotK s.q x.car)) 5, unl (!waitsP r s k) 13, unl (freeP r s k) 16].map intA)] (I (arriveE r s x k)) := p_firstR _ rfl rfl
 rw [h0] at g5
 clear h0
 unfold waitsP feedN at *
 generalize decide (0 ≤ spotK s.q x.car) = D at *
 generalize unl (!D) 5 = A1 at *
 generalize unl (freeP r s k) 16 = A3 at *
 generalize freeP r s k = F at *
 have g6 := p_taken r ⟨s.q.set k (qat s.q k ++ [x.car]), s.tk, s.time⟩ mv x.car hl
 simp only at g6
 have h1 : (f : Int) ≠ -1 := by omega
 have e : (decide ((rat r.ranks k).feeder ≠ -1) && decide (0 < (qat s.q (rat r.ranks k).feeder.toNat).length)) = decide (0 < (qat s.q f).length) := by
  rw [hfe, decide_eq_true h1, Bool.true_and, Int.toNat_natCast]
 rw [e] at q2 g5
 generalize unl (!decide (0 < (qat s.q f).length)) 13 = A2 at *
 clear e
 have hmx : (if (f : Int) < 0 then 0 else (f : Int)) = f := if_neg (by omega)
 rw [ht] at g6
 clear ht
 have gd := w_Delete (s.tk.map Tk.av) n1 i (by simpa using hil)
 rw [erase_map] at gd
 generalize s.tk.eraseIdx i = TK at *
 obtain ⟨w1, w2, w3, w4, w5, w6⟩ := ixs (m := i) (by omega)
 obtain ⟨kd, tm, rk, car⟩ := x
 simp only at hx g1 g6
 subst hx
 simp only [evA]
 refine VH_of Tryz.func224 rfl (by kernel_rfl) rfl (fun _ => by kernel_rfl) fun M0 w0 vs => ?_
 simp only [Tryz.ntmps224, Tryz.results224, enumA]
 unfold townH
 repeat' (first | (with_reducible first | refine vseq ?_ | refine vthenN ?_ | refine vrun_nil ?_ | refine vregion [] ?_) | ((with_reducible refine vrun_cons fun KK hKK => ?_); go_simp; (first | (refine ⟨_, ⟨g1, rfl⟩, ?_⟩) | skip); refine hKK _ ?_; clear hKK KK))
 refine vdrawL 11 11 [] rfl (by kernel_rfl) (by kernel_rfl) ?_
 simp only [List.take, List.drop]
 repeat' (first | (with_reducible first | refine vseq ?_ | refine vthenN ?_ | refine vrun_nil ?_ | refine vhrun_nil ?_) | ((with_reducible refine vhrun_cons fun KK hKK => ?_); go_simp; refine hKK _ ?_; clear hKK KK))
 refine vregion [] ?_
 repeat' (first | (with_reducible first | refine vseq ?_ | refine vthenN ?_ | refine vrun_nil ?_) | ((with_reducible refine vrun_cons fun KK hKK => ?_); go_simp; refine hKK _ ?_; clear hKK KK))
 refine vdrawL 14 14 [] rfl (by kernel_rfl) (by kernel_rfl) ?_
 simp only [List.take, List.drop]
 repeat' (first | (with_reducible first | refine vseq ?_ | refine vthenN ?_ | refine vrun_nil ?_ | refine vhrun_nil ?_) | ((with_reducible refine vhrun_cons fun KK hKK => ?_); go_simp; (first | (refine ⟨_, ⟨g2, rfl⟩, ?_⟩) | (with_reducible refine ⟨_, q1, ?_⟩) | (with_reducible refine ⟨_, q2, ?_⟩) | (with_reducible refine ⟨_, q3, ?_⟩) | (refine ⟨_, g5, ?_⟩) | skip); refine hKK _ ?_; clear hKK KK))
 refine vregion [] ?_
 repeat' (first | (with_reducible first | refine vseq ?_ | refine vthenN ?_ | refine vskip ?_ | refine vrun_nil ?_) | ((with_reducible refine vcondF ?_ ?_); (focus (go_simp; done))) | ((with_reducible refine vrun_cons fun KK hKK => ?_); go_simp; refine hKK _ ?_; clear hKK KK))
 refine vdrawZ 19 [0, 59, 59, 60, 60, 61, 61, 62, 62, 63, 3, 64, 64, 65] (by kernel_rfl) (by kernel_rfl) (by kernel_rfl) (unW 1) (lkp_unW 1) rfl ⟨rfl, rfl⟩ ?_
 simp only [List.take]
 repeat' (first | (with_reducible refine vhrun_nil ?_) | ((with_reducible refine vhrun_cons fun KK hKK => ?_); go_simp; refine hKK _ ?_; clear hKK KK))
 refine ⟨_, _, sp_app (id := 1) (k := k) (es := (qat s.q k).map txtA) (c := S car) (by exact rfl) (by exact rfl) (by go_simp) (by go_simp) ti62 ti9 (by exact rfl) (by go_simp), ?_, ?_, ?_⟩
 ·simp only [List.forall_mem_cons]
  go_simp
 ·repeat' (first | (with_reducible refine vhrun_nil ?_) | ((with_reducible refine vhrun_cons fun KK hKK => ?_); go_simp; refine hKK _ ?_; clear hKK KK))
  simp only [List.forall_mem_cons]
  go_simp
 go_simp
 refine vl_run [] 2 ⟨rfl, rfl⟩ ?_
 simp only [List.take, List.drop]
 repeat' (first | (with_reducible refine vrun_nil ?_) | ((with_reducible refine vrun_cons fun KK hKK => ?_); go_simp; refine hKK _ ?_; clear hKK KK))
 refine vl_nil ?_
 repeat' (with_reducible first | refine vseq ?_ | refine vthenN ?_)
 rw [txt_app, rowsC_set]
 refine vregion [] ?_
 repeat' (first | (with_reducible first | refine vseq ?_ | refine vthenN ?_ | refine vrun_nil ?_) | ((with_reducible refine vrun_cons fun KK hKK => ?_); go_simp; (first | (refine ⟨_, ⟨g6, rfl⟩, ?_⟩) | skip); refine hKK _ ?_; clear hKK KK))
 refine vregion [] ?_
 repeat' (first | (with_reducible first | refine vthenN ?_ | refine vrun_nil ?_) | ((with_reducible refine vcondT ?_ ?_); (focus (go_simp; done))) | ((with_reducible refine vrun_cons fun KK hKK => ?_); go_simp; refine hKK _ ?_; clear hKK KK))
 refine vregionL (vl_run [] 9 ⟨rfl, rfl⟩ ?_)
 simp only [List.take, List.drop]
 repeat' (first | (with_reducible refine vrun_nil ?_) | ((with_reducible refine vrun_cons fun KK hKK => ?_); go_simp; refine hKK _ ?_; clear hKK KK))
 refine vl_conv (fun p a w R => ⟨_, Rel.deadCell R (bi := 0) (j := 1) (r := 2) rfl rfl⟩) ?_
 simp only [List.set]
 refine vl_call [2] [] [] [some (.arr 148 3 false (TK.map Tk.av))] (.osl 0) rfl (by go_simp) ?_ ?_
 ·unfold HCall
  go_simp
  refine ⟨_, _, ⟨_, gd⟩, ?_⟩
  go_simp
  kernel_rfl
 go_simp
 refine vl_run [] 4 ⟨rfl, rfl⟩ ?_
 simp only [List.take, List.drop]
 repeat' (first | (with_reducible refine vrun_nil ?_) | ((with_reducible refine vrun_cons fun KK hKK => ?_); go_simp; refine hKK _ ?_; clear hKK KK))
 refine vl_nil ?_
 repeat' (with_reducible first | refine vseq ?_ | refine vthenN ?_)
 refine vregion [] ?_
 repeat' (first | (with_reducible first | refine vthenN ?_ | refine vret ?_ | refine vrun_nil ?_) | ((with_reducible refine vrun_cons fun KK hKK => ?_); go_simp; refine hKK _ ?_; clear hKK KK))
 go_simp
end Go.Proofs.YtoibondihdhnoaaGreatDoor
namespace Go.Proofs.YtoibondihdhnoaaGreatDoor
open Go.RowKit
set_option maxRecDepth 100000
set_option maxHeartbeats 2000000
theorem p_eventErr (r : Ru) (x : Ev) (hn : r.ranks.length ≤ 1000000) (hc : x.car.size ≤ 1000) : VC Tryz.prog 117 [rulesA r, evA x] (I (evE r x)) := by
 have i1 := p_within x.kind 0 5
 have i2 := p_within x.time 0 604800
 have i3 := p_within x.rank 0 ((r.ranks.length : Int) - 1)
 have i4 := p_isName x.car hc
 have u1 := p_unless (inR x.kind 0 5) 15
 have u2 := p_unless (inR x.time 0 604800) 2
 have u3 := p_unless (inR x.rank 0 ((r.ranks.length : Int) - 1)) 6
 have u4 := p_unless (!decide (x.kind = 4) || decide (x.car = ByteArray.empty)) 3
 have u5 := p_unless (decide (x.kind = 4) || isName x.car) 4
 have g5 : VC Tryz.prog 88 [.sl 1 ([unl (inR x.kind 0 5) 15, unl (inR x.time 0 604800) 2, unl (inR x.rank 0 ((r.ranks.length : Int) - 1)) 6, unl (!decide (x.kind = 4) || decide (x.car = ByteArray.empty)) 3, unl (decide (x.kind = 4) || isName x.car) 4].map intA)] (I (evE r x)) := p_firstR _ rfl rfl
 have hw : IntKind.i64.wrap ((r.ranks.length : Int) - 1) = (r.ranks.length : Int) - 1 := wrap_eq (by omega) (by omega)
 generalize evE r x = E at *
 generalize inR x.kind 0 5 = D1 at *
 generalize inR x.time 0 604800 = D2 at *
 generalize inR x.rank 0 ((r.ranks.length : Int) - 1) = D3 at *
 generalize isName x.car = D5 at *
 generalize unl D1 15 = A1 at *
 generalize unl D2 2 = A2 at *
 generalize unl D3 6 = A3 at *
 by_cases h4 : x.kind = 4
 ·rw [h4] at i1
  rw [decide_eq_true h4, Bool.not_true, Bool.false_or] at u4
  rw [decide_eq_true h4, Bool.true_or] at u5
  rw [decide_eq_true h4, Bool.not_true, Bool.false_or, Bool.true_or] at g5
  generalize unl true 4 = A5 at *
  have he : (ByteArray.empty : ByteArray) = ⟨#[]⟩ := rfl
  rw [he] at u4 g5
  generalize unl (decide (x.car = ⟨#[]⟩)) 3 = A4 at *
  clear he
  refine VC_of Tryz.func117 rfl (by kernel_rfl) (by kernel_rfl) rfl fun M0 w0 => ?_
  simp only [Tryz.ntmps117, Tryz.results117, enumA]
  repeat' (first | (with_reducible first | refine vseq ?_ | refine vthenN ?_ | refine vret ?_ | refine vrun_nil ?_ | refine vregion [] ?_ | refine vhrun_nil ?_) | ((with_reducible first | refine vrun_cons fun KK hKK => ?_ | refine vhrun_cons fun KK hKK => ?_); go_simp; (first | (with_reducible refine ⟨_, i1, ?_⟩) | (with_reducible refine ⟨_, i2, ?_⟩) | (with_reducible refine ⟨_, i3, ?_⟩) | (with_reducible refine ⟨_, u1, ?_⟩) | (with_reducible refine ⟨_, u2, ?_⟩) | (with_reducible refine ⟨_, u3, ?_⟩) | (with_reducible refine ⟨_, u4, ?_⟩) | (with_reducible refine ⟨_, u5, ?_⟩) | (refine ⟨_, g5, ?_⟩) | skip); refine hKK _ ?_; clear hKK KK) | ((refine vdrawL 34 34 [] rfl (by kernel_rfl) (by kernel_rfl) ?_); simp only [List.take, List.drop]))
  go_simp
 ·rw [decide_eq_false h4, Bool.not_false, Bool.true_or] at u4
  rw [decide_eq_false h4, Bool.false_or] at u5
  rw [decide_eq_false h4, Bool.not_false, Bool.true_or, Bool.false_or] at g5
  generalize unl true 3 = A4 at *
  generalize unl D5 4 = A5 at *
  refine VC_of Tryz.func117 rfl (by kernel_rfl) (by kernel_rfl) rfl fun M0 w0 => ?_
  simp only [Tryz.ntmps117, Tryz.results117, enumA]
  repeat' (first | (with_reducible first | refine vseq ?_ | refine vthenN ?_ | refine vret ?_ | refine vrun_nil ?_ | refine vregion [] ?_ | refine vhrun_nil ?_) | ((with_reducible first | refine vrun_cons fun KK hKK => ?_ | refine vhrun_cons fun KK hKK => ?_); go_simp; (first | (with_reducible refine ⟨_, i1, ?_⟩) | (with_reducible refine ⟨_, i2, ?_⟩) | (with_reducible refine ⟨_, i3, ?_⟩) | (with_reducible refine ⟨_, i4, ?_⟩) | (with_reducible refine ⟨_, u1, ?_⟩) | (with_reducible refine ⟨_, u2, ?_⟩) | (with_reducible refine ⟨_, u3, ?_⟩) | (with_reducible refine ⟨_, u4, ?_⟩) | (with_reducible refine ⟨_, u5, ?_⟩) | (refine ⟨_, g5, ?_⟩) | skip); refine hKK _ ?_; clear hKK KK) | ((refine vdrawL 34 34 [] rfl (by kernel_rfl) (by kernel_rfl) ?_); simp only [List.take, List.drop]))
  go_simp
end Go.Proofs.YtoibondihdhnoaaGreatDoor
