/- What the functions of duty compute, as plain functions: work, parts, broken rules, trips; no condition. -/
import Derived.Test.YtmfmpagfjgpodaaSpec
namespace Go.Proofs.Ytmfmpagfjgpodaa
open Go.RowKit

structure Rul where
  brk : Int
  rest : Int
  stint : Int
  shift : Int
  week : Int
def Rul.cells (r : Rul) : Array Value := #[.int .i64 r.brk, .int .i64 r.rest, .int .i64 r.stint, .int .i64 r.shift, .int .i64 r.week]
def ruleOk (n : Int) : Bool := inR n 1 2000000
def rulesErr (r : Rul) : Int :=
  if ruleOk r.brk && ruleOk r.rest && ruleOk r.stint && ruleOk r.shift && ruleOk r.week then unl (decide (r.brk ≤ r.rest)) 9 else 2

/-! ### Work in a span -/
def wk (f t : Int) (r : Rec) : Int := max 0 (min r.hi t - max r.lo f)
def workIn (l : List Rec) (f t : Int) : Int := (l.map (wk f t)).sum
theorem wk_walk (f t : Int) (r : Rec) : (if (if r.lo < f then f else r.lo) < if t < r.hi then t else r.hi then (if t < r.hi then t else r.hi) - if r.lo < f then f else r.lo else 0) = wk f t r := by
  unfold wk
  simp only [Int.max_def, Int.min_def]
  repeat' split
  all_goals omega
theorem workIn_succ (l : List Rec) (f t : Int) {k : Nat} (h : k < l.length) : workIn (l.take (k + 1)) f t = workIn (l.take k) f t + wk f t l[k] := by
  unfold workIn
  rw [List.take_succ_eq_append_getElem h, List.map_append, List.sum_append]
  simp
/-- Times that a record of work may bear. -/
def Timed (l : List Rec) : Prop := ∀ x ∈ l, 0 ≤ x.lo ∧ x.lo ≤ 10000000000 ∧ 0 ≤ x.hi ∧ x.hi ≤ 10000000000
theorem Timed.at_ {l : List Rec} (h : Timed l) {k : Nat} (hk : k < l.length) : 0 ≤ l[k].lo ∧ l[k].lo ≤ 10000000000 ∧ 0 ≤ l[k].hi ∧ l[k].hi ≤ 10000000000 := h _ (List.getElem_mem hk)
theorem workIn_bound {l : List Rec} (h : Timed l) (f t : Int) : ∀ k, k ≤ l.length → 0 ≤ workIn (l.take k) f t ∧ workIn (l.take k) f t ≤ 10000000000 * k := by
  intro k
  induction k with
  | zero => intro _; simp [workIn]
  | succ k ih =>
    intro hk
    have := h.at_ (k := k) (by omega)
    have := ih (by omega)
    rw [workIn_succ l f t (by omega)]
    unfold wk
    omega

end Go.Proofs.Ytmfmpagfjgpodaa
