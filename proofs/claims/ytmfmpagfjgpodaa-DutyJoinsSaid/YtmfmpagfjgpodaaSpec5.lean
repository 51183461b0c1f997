/- Answers of the functions of duty, as plain functions: broken rules, trips; no condition. -/
import Derived.Test.YtmfmpagfjgpodaaSpec4
namespace Go.Proofs.Ytmfmpagfjgpodaa
open Go.RowKit

/-- The answer of FirstBroken: rule, record, error. -/
def fbOut (r : Rul) (l : List Rec) : Int × Int × Int :=
  if bothErr r l ≠ 0 then (0, 0, bothErr r l) else ((firstBroken r l).2, (firstBroken r l).1, unl (decide ((firstBroken r l).2 ≠ 0)) 12)
/-- A trip: its start, the least and the greatest seconds that it takes, the next shift (-1: none). -/
structure Trip where
  start : Int
  lo : Int
  hi : Int
  next : Int
def Trip.cells (t : Trip) : Array Value := #[.int .i64 t.start, .int .i64 t.lo, .int .i64 t.hi, .int .i64 t.next]
/-- The records with a trip of a length behind them. -/
def withTrip (l : List Rec) (start len : Int) : List Rec := l ++ [⟨ByteArray.empty, start, start + len⟩]
/-- The first rule that a trip of a length breaks. -/
def breaksP (r : Rul) (l : List Rec) (start next len : Int) : Int :=
  if 0 < len ∧ brokenP r (withTrip l start len) ≠ 0 then brokenP r (withTrip l start len)
  else if next ≠ -1 ∧ next - (start + len) < r.rest then 4 else 0
def endOf (l : List Rec) : Int := if l.length = 0 then 0 else (rat l (l.length - 1)).hi
/-- The error of a trip, ahead of the broken rules. -/
def tripE (r : Rul) (l : List Rec) (t : Trip) : Int :=
  fst [bothErr r l, unl (decide ((l.length : Int) < 40)) 16, unl (isTime t.start && isTake t.lo && isTake t.hi) 2, unl (decide (t.lo ≤ t.hi)) 9, unl (t.next == -1 || isTime t.next) 2, unl (decide (endOf l ≤ t.start)) 26]
/-- The error of a trip. -/
def tripErrP (r : Rul) (l : List Rec) (t : Trip) : Int := if tripE r l t ≠ 0 then tripE r l t else unl (decide ((firstBroken r l).2 = 0)) 22

end Go.Proofs.Ytmfmpagfjgpodaa
