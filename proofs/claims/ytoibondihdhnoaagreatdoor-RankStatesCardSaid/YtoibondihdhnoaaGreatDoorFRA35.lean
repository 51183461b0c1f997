/- Texts in one: Walks: the state behind a log. -/
import Derived.Test.YtoibondihdhnoaaGreatDoorFRA31
import Derived.Test.YtoibondihdhnoaaGreatDoorFRA32
namespace Go.Proofs.YtoibondihdhnoaaGreatDoor
open Go.RowKit
set_option maxRecDepth 100000
set_option maxHeartbeats 2000000
theorem v_ReplayE (r : Ru) (l : List Ev) (n e : Int) (he : e ≠ 0) (g : VH Tryz.prog 85 [] [rulesA r, evsA l, tell0] [] [] (.tup [.lit (.pointer none), I n, I e])) :
  VC Tryz.prog 21 [rulesA r, evsA l] (.tup [.agg [nil_, nil_, I 0], I n, I e]) := by
 unfold tell0 at g
 refine VC_of Tryz.func21 rfl (by kernel_rfl) (by kernel_rfl) rfl fun M0 w0 => ?_
 simp only [Tryz.ntmps21, Tryz.results21, enumA]
 repeat' (with_reducible refine vseq ?_)
 refine vregion [] ?_
 repeat' (first | (with_reducible first | refine vseq ?_ | refine vthenN ?_ | refine vrun_nil ?_) | ((with_reducible refine vrun_cons fun KK hKK => ?_); go_simp; refine hKK _ ?_; clear hKK KK))
 refine vregionL (vl_run [] 2 ⟨rfl, rfl⟩ ?_)
 simp only [List.take, List.drop]
 repeat' (first | (with_reducible refine vrun_nil ?_) | ((with_reducible refine vrun_cons fun KK hKK => ?_); go_simp; refine hKK _ ?_; clear hKK KK))
 refine vl_call [] [] [] [] (.tup [.lit (.pointer none), I n, I e]) rfl (by go_simp) ?_ ?_
 ·unfold HCall
  go_simp
  refine ⟨_, _, ⟨_, g⟩, ?_⟩
  go_simp
  kernel_rfl
 go_simp
 refine vl_run [] 7 ⟨rfl, rfl⟩ ?_
 simp only [List.take, List.drop]
 repeat' (first | (with_reducible refine vrun_nil ?_) | ((with_reducible refine vrun_cons fun KK hKK => ?_); go_simp; refine hKK _ ?_; clear hKK KK))
 refine vl_nil ?_
 repeat' (first | (with_reducible first | refine vseq ?_ | refine vthenN ?_ | refine vthenR ?_ | refine vret ?_ | refine vrun_nil ?_ | refine vregion [] ?_) | ((with_reducible refine vcondT ?_ ?_); (focus (go_simp; done))) | ((with_reducible refine vrun_cons fun KK hKK => ?_); go_simp; refine hKK _ ?_; clear hKK KK))
 go_simp
theorem v_Replay (r : Ru) (l : List Ev) (s : St) (m : List Sg) (a : Bool) (g : VH Tryz.prog 85 [] [rulesA r, evsA l, tell0] [] [some (.bag 62 1 false none (rowsC s.q)), some (.box [.osl 0, .osl 2, I s.time, .sl 4 (r.ranks.map Rk.av), I r.back, I r.ret, .sl 3 (m.map Sg.av)]), some (.arr 148 3 a (s.tk.map Tk.av))] (.tup [.ref 1 0, I 0, I 0])) :
  VC Tryz.prog 21 [rulesA r, evsA l] (.tup [stateA s, I 0, I 0]) := by
 unfold tell0 at g
 refine VC_of Tryz.func21 rfl (by kernel_rfl) (by kernel_rfl) rfl fun M0 w0 => ?_
 simp only [Tryz.ntmps21, Tryz.results21, enumA]
 repeat' (with_reducible refine vseq ?_)
 refine vregion [] ?_
 repeat' (first | (with_reducible first | refine vseq ?_ | refine vthenN ?_ | refine vrun_nil ?_) | ((with_reducible refine vrun_cons fun KK hKK => ?_); go_simp; refine hKK _ ?_; clear hKK KK))
 refine vregionL (vl_run [] 2 ⟨rfl, rfl⟩ ?_)
 simp only [List.take, List.drop]
 repeat' (first | (with_reducible refine vrun_nil ?_) | ((with_reducible refine vrun_cons fun KK hKK => ?_); go_simp; refine hKK _ ?_; clear hKK KK))
 refine vl_call [] [] [] [some (.bag 62 1 false none (rowsC s.q)), some (.box [.osl 0, .osl 2, I s.time, .sl 4 (r.ranks.map Rk.av), I r.back, I r.ret, .sl 3 (m.map Sg.av)]), some (.arr 148 3 a (s.tk.map Tk.av))] (.tup [.ref 1 0, I 0, I 0]) rfl (by go_simp) ?_ ?_
 ·unfold HCall
  go_simp
  refine ⟨_, _, ⟨_, g⟩, ?_⟩
  go_simp
  kernel_rfl
 go_simp
 refine vl_run [] 7 ⟨rfl, rfl⟩ ?_
 simp only [List.take, List.drop]
 repeat' (first | (with_reducible refine vrun_nil ?_) | ((with_reducible refine vrun_cons fun KK hKK => ?_); go_simp; refine hKK _ ?_; clear hKK KK))
 refine vl_nil ?_
 repeat' (with_reducible first | refine vseq ?_ | refine vthenN ?_)
 refine vregion [] ?_
 repeat' (first | (with_reducible first | refine vseq ?_ | refine vthenN ?_ | refine vskip ?_ | refine vrun_nil ?_) | ((with_reducible refine vcondF ?_ ?_); (focus (go_simp; done))) | ((with_reducible refine vrun_cons fun KK hKK => ?_); go_simp; refine hKK _ ?_; clear hKK KK))
 refine vregion [] ?_
 repeat ((with_reducible refine vrun_cons fun KK hKK => ?_); go_simp; refine hKK _ ?_; clear hKK KK)
 refine vrun_nil ?_
 refine vthenN ?_
 refine vconv (fun p a w R => R.bagArr (id := 1) rfl (by kernel_rfl)) ?_
 go_simp
 refine vfreezeIn 0 0 1 rfl rfl rfl ?_
 refine vfreezeIn 0 1 3 rfl rfl rfl ?_
 repeat' (with_reducible refine vret ?_)
 go_simp
def stZ : St := ⟨[], [], 0⟩
def repR (r : Ru) (l : List Ev) : St × Nat × Int := if logE r l ≠ 0 then (stZ, 0, logE r l) else if (goP r 0 l (st0 r)).2.2 ≠ 0 then (stZ, (goP r 0 l (st0 r)).2.1, (goP r 0 l (st0 r)).2.2) else ((goP r 0 l (st0 r)).1, 0, 0)
theorem nil_state {w : World} {M : Nat → Nat → Prop} {v : Value} {n e : Int} (hv : V0 w M (.tup [.agg [nil_, nil_, I 0], I n, I e]) v) : V0 w M (.tup [stateA stZ, I n, I e]) v := by
 cases hv with
 | tup _ us hl hh =>
  refine .tup _ us hl fun i c u hc hu => ?_
  rcases i with _ | i
  ·simp only [List.getElem?_cons_zero, Option.some.injEq] at hc
   subst hc
   have h1 := hh 0 _ u rfl hu
   cases h1 with
   | agg _ vs hvl h1 h2 =>
    refine .agg _ vs hvl (fun c hc => ?_) fun j c2 u2 hc2 hu2 => ?_
    ·simp only [List.mem_cons, List.not_mem_nil, or_false] at hc
     rcases hc with rfl | rfl | rfl <;> rfl
    ·rcases j with _ | _ | _ | j
     ·simp only [List.getElem?_cons_zero, Option.some.injEq] at hc2
      subst hc2
      exact (h2 0 _ u2 rfl hu2).nilSl 1
     ·simp only [List.getElem?_cons_zero, List.getElem?_cons_succ, Option.some.injEq] at hc2
      subst hc2
      exact (h2 1 _ u2 rfl hu2).nilSl 3
     ·simp only [List.getElem?_cons_zero, List.getElem?_cons_succ, Option.some.injEq] at hc2
      subst hc2
      exact h2 2 _ u2 rfl hu2
     ·simp at hc2
  ·exact hh (i + 1) c u hc hu
structure SmallL (r : Ru) (l : List Ev) : Prop where
 n : r.ranks.length ≤ 1000000
 nm : ∀ k, k < r.ranks.length → (rat r.ranks k).name.size ≤ 1000
 c : ∀ x ∈ l, x.car.size ≤ 1000
theorem logE_ok {r : Ru} {l : List Ev} (h : logE r l = 0) : RuOK r ∧ (checkR r).2 = 0 ∧ l.length ≤ 200 := by
 unfold logE at h
 rw [fst_cons, fst_cons] at h
 exact ⟨(checkR_ok h.1).1, h.1, of_decide_eq_true (unl_zero (by decide) h.2.1)⟩
theorem runT_st0 {r : Ru} : ∀ (l : List Ev) (k : Nat) (t : T3), (goP r k l t.1).2.2 = 0 → (runT0 r k l (t, ())).1.1 = (goP r k l t.1).1
 | [], _, _, _ => rfl
 | x :: l, k, t, h => by
  obtain ⟨h1, h2⟩ := goP_cons h
  rw [runT0, goP, if_neg (by simp [h1]), if_neg (by simp [h1])]
  have e : (stepT r t x).1 = (apU r t.1 x).1 := by simp only [stepT, apR, if_pos h1]
  rw [← e] at h2 ⊢
  exact runT_st0 l (k + 1) (stepT r t x) h2
theorem p_Replay (r : Ru) (l : List Ev) (h : SmallL r l) : VC Tryz.prog 21 [rulesA r, evsA l] (.tup [stateA (repR r l).1, I ((repR r l).2.1 : Int), I (repR r l).2.2]) := by
 unfold repR
 by_cases h0 : logE r l = 0
 ·rw [if_neg (by simp [h0])]
  obtain ⟨hr, _, hl⟩ := logE_ok h0
  by_cases h1 : (goP r 0 l (st0 r)).2.2 = 0
  ·rw [if_neg (by simp [h1])]
   obtain ⟨z, hz⟩ : ∃ z, runT0 r 0 l (t0 r, ()) = z := ⟨_, rfl⟩
   have g := w_replay0 r l _ _ h.nm hr hl h.c h0 z hz (.inr ⟨h1, rfl, rfl⟩)
   have e := runT_st0 l 0 (t0 r) h1
   rw [hz] at e
   have := v_Replay r l z.1.1 z.1.2.1 z.1.2.2 g
   rw [e] at this
   exact this
  ·rw [if_pos h1]
   obtain ⟨z, hz⟩ : ∃ z, runT0 r 0 l (t0 r, ()) = z := ⟨_, rfl⟩
   have g := w_replay0 r l _ _ h.nm hr hl h.c h0 z hz (.inl ⟨h1, rfl, rfl⟩)
   exact (v_ReplayE r l _ _ h1 g).weak fun w M v hv => nil_state hv
 ·rw [if_pos h0]
  exact (v_ReplayE r l 0 _ h0 (w_replayE0 r l h.n h.nm h0)).weak fun w M v hv => nil_state hv
end Go.Proofs.YtoibondihdhnoaaGreatDoor
