/- Texts in one: Walks: stays and waits of a log. -/
import Derived.Test.YtoibondihdhnoaaGreatDoorFRA43
import Derived.Test.YtoibondihdhnoaaGreatDoorFRA32
namespace Go.Proofs.YtoibondihdhnoaaGreatDoor
open Go.RowKit
set_option maxRecDepth 100000
set_option maxHeartbeats 2000000
def errL (r : Ru) (l : List Ev) : Int := if logE r l ≠ 0 then logE r l else (goP r 0 l (st0 r)).2.2
def dyGo (log : List Ev) : Nat → List Ev → Dy → Dy
 | _, [], d => d
 | k, x :: l, d => dyGo log (k + 1) l (noteD log d k x)
theorem dyGo_wt (log : List Ev) : ∀ (l : List Ev) (k : Nat) (d : Dy), (dyGo log k l d).wt = d.wt ++ waitL log k l d.st
 | [], _, d => (List.append_nil _).symm
 | x :: l, k, d => by
  rw [dyGo, dyGo_wt log l, waitL, noteD_st, ← List.append_assoc]
  congr 1
  unfold noteD
  split
  ·rename_i h
   unfold waitOf
   rw [if_neg (by omega), List.append_nil]
  ·split
   ·rename_i h
    unfold waitOf
    rw [if_neg (by omega), List.append_nil]
   ·rfl
theorem runTD_out {r : Ru} {log : List Ev} : ∀ (l : List Ev) (k : Nat) (t : T3) (y : Dy × Bool × Bool), (goP r k l t.1).2.2 = 0 → (runTD log r k l (t, y)).2.1 = dyGo log k l y.1
 | [], _, _, y, _ => rfl
 | x :: l, k, t, y, h => by
  obtain ⟨h1, h2⟩ := goP_cons h
  obtain ⟨e1, e2⟩ := step_ok (t := t) h1
  rw [runTD, if_neg (by simp [h1]), dyGo]
  rw [← e1] at h2
  rw [runTD_out l (k + 1) (stepT r t x) _ h2]
theorem w_diaryOf (r : Ru) (l : List Ev) (h : SmallL r l) : (errL r l ≠ 0 ∧ ∃ d a, VH Tryz.prog 95 [] [rulesA r, evsA l] [] (diaryM d a) (.tup [.ref 2 0, I (errL r l)])) ∨
  (errL r l = 0 ∧ RuOK r ∧ (goP r 0 l (st0 r)).2.2 = 0 ∧ ∃ (a : Bool × Bool) (s : St) (mv : List Sg) (b : Bool), VH Tryz.prog 95 [] [rulesA r, evsA l] [] (diaryM (dyGo l 0 l ⟨[], [], [], []⟩) a ++ [some (.bag 62 1 false none (rowsC s.q)), some (.box [.osl 6, .osl 8, I s.time, .sl 4 (r.ranks.map Rk.av), I r.back, I r.ret, .sl 3 (mv.map Sg.av)]), some (.arr 148 3 b (s.tk.map Tk.av))]) (.tup [.ref 2 0, I 0])) := by
 unfold errL
 by_cases h0 : logE r l = 0
 ·rw [if_neg (by simp [h0])]
  obtain ⟨hr, _, hl⟩ := logE_ok h0
  obtain ⟨z, hz⟩ : ∃ z, runTD l r 0 l (t0 r, (⟨[], [], [], []⟩, true, true)) = z := ⟨_, rfl⟩
  by_cases h1 : (goP r 0 l (st0 r)).2.2 = 0
  ·have g := w_replayD r l _ _ h.nm hr hl h.c h0 z hz (.inr ⟨h1, rfl, rfl⟩)
   have e := runTD_out (log := l) l 0 (t0 r) (⟨[], [], [], []⟩, true, true) h1
   rw [hz] at e
   have := v_diary r l z.2.1 z.2.2 _ _ _ g
   rw [e] at this
   exact .inr ⟨h1, hr, h1, _, _, _, _, this⟩
  ·have g := w_replayD r l _ _ h.nm hr hl h.c h0 z hz (.inl ⟨h1, rfl, rfl⟩)
   exact .inl ⟨h1, _, _, v_diaryE r l z.2.1 z.2.2 _ _ g⟩
 ·rw [if_pos h0]
  exact .inl ⟨h0, _, _, v_diaryE r l ⟨[], [], [], []⟩ (true, true) 0 _ (w_replayED r l h.n h.nm h0)⟩
theorem p_Waits (r : Ru) (l : List Ev) (h : SmallL r l) : VC Tryz.prog 35 [rulesA r, evsA l] (.tup [.sl 3 ((if errL r l = 0 then waitD l 0 l else []).map Wt.av), I (errL r l)]) := by
 rcases w_diaryOf r l h with ⟨he, d, a, g⟩ | ⟨he, hr, h1, a, s, mv, b, g⟩
 ·rw [if_neg he]
  exact (v_WaitsE r l d a _ he g).weak fun w M v hv => tup_nilSl hv
 ·rw [if_pos he, he]
  have := v_Waits r l _ a s mv b g
  rw [dyGo_wt, List.nil_append, waits_law hr h1] at this
  exact this
end Go.Proofs.YtoibondihdhnoaaGreatDoor
