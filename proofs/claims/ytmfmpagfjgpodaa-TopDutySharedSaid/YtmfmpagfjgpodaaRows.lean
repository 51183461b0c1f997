/-
  No cell of these rows narrows 'for every input' (looked for: loops, veiled, ifaces, maps, wideKeys, modest, calm, conditions, laid).
  DERIVED. THE GIVEN ROWS OF THIS SEAT. 14 by the template 'for every input the law returns true; each argument reads behind the call as it read before'; 0 by the template 'total and deterministic' (their statements: YtmfmpagfjgpodaaTotals.lean).
  GIVEN WITH THE SEED: the statements are not yours to turn. If you find one false, say at which input.
  Laid BY PROGRAM, IN A SANDBOX (cutbox-rows.mjs): the forced cells as the released guide's own fill.sh prints them over the translation 3e5cbb927280d518… (all of the seat's roots in one cut). By AI agents, Wed Nov 11 2026. No macro, syntax, notation, axiom, sorry.
-/
import Derived.Test.YtmfmpagfjgpodaaChecked
import GoSem.Claim
import GoSem.ClaimJoined
import GoSem.ClaimMapViews
import Derived.JoinedTies
import Derived.KernelRfl
namespace Go.Proofs.Ytmfmpagfjgpodaa
/- THE CELL 'sum', in the pinned program and in every row, IS THE sha256 OF THE DUMP (.gsa) THAT YtmfmpagfjgpodaaProg.lean LOADS. Nothing in Lean hashes anything: it is a label: what it is worth is what the hold of that sum in a sandbox is worth. -/
noncomputable def Try.pinned : Pinned := { name := "ytmfmpagfjgpodaa", sum := "3e5cbb927280d5181b58336a7cc9b5bc724ce8a8677af4043500100baa35d27b", checked := Try.checked }
namespace Rows
def none {H : Type} : Left H := { results := [], args := [] }

/-- 'fiacrelaw07.DutyWorks': WHATEVER THE INPUT: true; the input reads as it did. -/
def dutyWorksSpec : ChangeSpec := { name := "dutyWorks", fn := fun _ => fun
  | [d1, d2] => { results := [.lit (.bool true)], args := [d1, d2] }
  | _ => none }
def dutyWorksRow : OpenClaim := { program := "ytmfmpagfjgpodaa", sum := "3e5cbb927280d5181b58336a7cc9b5bc724ce8a8677af4043500100baa35d27b", func := "fiacre/fiacrelaw07.DutyWorks", spec := "dutyWorks", unfollowed := true, recurses := true, apart := false }
def DutyWorksSaid : Prop := dutyWorksRow.holds Try.pinned (OpenSpec.ofChange dutyWorksSpec)

/-- ITS FALSE NEIGHBOUR: 'it returns false'. Refute it at one input. -/
def dutyWorksWrong : ChangeSpec := { name := "dutyWorks", fn := fun _ => fun
  | [d1, d2] => { results := [.lit (.bool false)], args := [d1, d2] }
  | _ => none }
def DutyWorksWrongFalsely : Prop := dutyWorksRow.holds Try.pinned (OpenSpec.ofChange dutyWorksWrong)

/-- 'fiacrelaw07.DutyAllows': WHATEVER THE INPUT: true; the input reads as it did. -/
def dutyAllowsSpec : ChangeSpec := { name := "dutyAllows", fn := fun _ => fun
  | [d1, d2, d3] => { results := [.lit (.bool true)], args := [d1, d2, d3] }
  | _ => none }
def dutyAllowsRow : OpenClaim := { program := "ytmfmpagfjgpodaa", sum := "3e5cbb927280d5181b58336a7cc9b5bc724ce8a8677af4043500100baa35d27b", func := "fiacre/fiacrelaw07.DutyAllows", spec := "dutyAllows", unfollowed := true, recurses := true, apart := false }
def DutyAllowsSaid : Prop := dutyAllowsRow.holds Try.pinned (OpenSpec.ofChange dutyAllowsSpec)

/-- ITS FALSE NEIGHBOUR: 'it returns false'. Refute it at one input. -/
def dutyAllowsWrong : ChangeSpec := { name := "dutyAllows", fn := fun _ => fun
  | [d1, d2, d3] => { results := [.lit (.bool false)], args := [d1, d2, d3] }
  | _ => none }
def DutyAllowsWrongFalsely : Prop := dutyAllowsRow.holds Try.pinned (OpenSpec.ofChange dutyAllowsWrong)

/-- 'fiacrelaw07.DutyLongest': WHATEVER THE INPUT: true; the input reads as it did. -/
def dutyLongestSpec : ChangeSpec := { name := "dutyLongest", fn := fun _ => fun
  | [d1, d2, d3] => { results := [.lit (.bool true)], args := [d1, d2, d3] }
  | _ => none }
def dutyLongestRow : OpenClaim := { program := "ytmfmpagfjgpodaa", sum := "3e5cbb927280d5181b58336a7cc9b5bc724ce8a8677af4043500100baa35d27b", func := "fiacre/fiacrelaw07.DutyLongest", spec := "dutyLongest", unfollowed := true, recurses := true, apart := false }
def DutyLongestSaid : Prop := dutyLongestRow.holds Try.pinned (OpenSpec.ofChange dutyLongestSpec)

/-- ITS FALSE NEIGHBOUR: 'it returns false'. Refute it at one input. -/
def dutyLongestWrong : ChangeSpec := { name := "dutyLongest", fn := fun _ => fun
  | [d1, d2, d3] => { results := [.lit (.bool false)], args := [d1, d2, d3] }
  | _ => none }
def DutyLongestWrongFalsely : Prop := dutyLongestRow.holds Try.pinned (OpenSpec.ofChange dutyLongestWrong)

/-- 'fiacrelaw07.DutyStints': WHATEVER THE INPUT: true; the input reads as it did. -/
def dutyStintsSpec : ChangeSpec := { name := "dutyStints", fn := fun _ => fun
  | [d1, d2] => { results := [.lit (.bool true)], args := [d1, d2] }
  | _ => none }
def dutyStintsRow : OpenClaim := { program := "ytmfmpagfjgpodaa", sum := "3e5cbb927280d5181b58336a7cc9b5bc724ce8a8677af4043500100baa35d27b", func := "fiacre/fiacrelaw07.DutyStints", spec := "dutyStints", unfollowed := true, recurses := true, apart := false }
def DutyStintsSaid : Prop := dutyStintsRow.holds Try.pinned (OpenSpec.ofChange dutyStintsSpec)

/-- ITS FALSE NEIGHBOUR: 'it returns false'. Refute it at one input. -/
def dutyStintsWrong : ChangeSpec := { name := "dutyStints", fn := fun _ => fun
  | [d1, d2] => { results := [.lit (.bool false)], args := [d1, d2] }
  | _ => none }
def DutyStintsWrongFalsely : Prop := dutyStintsRow.holds Try.pinned (OpenSpec.ofChange dutyStintsWrong)

/-- 'fiacrelaw07.DutyBroken': WHATEVER THE INPUT: true; the input reads as it did. -/
def dutyBrokenSpec : ChangeSpec := { name := "dutyBroken", fn := fun _ => fun
  | [d1, d2] => { results := [.lit (.bool true)], args := [d1, d2] }
  | _ => none }
def dutyBrokenRow : OpenClaim := { program := "ytmfmpagfjgpodaa", sum := "3e5cbb927280d5181b58336a7cc9b5bc724ce8a8677af4043500100baa35d27b", func := "fiacre/fiacrelaw07.DutyBroken", spec := "dutyBroken", unfollowed := true, recurses := true, apart := false }
def DutyBrokenSaid : Prop := dutyBrokenRow.holds Try.pinned (OpenSpec.ofChange dutyBrokenSpec)

/-- ITS FALSE NEIGHBOUR: 'it returns false'. Refute it at one input. -/
def dutyBrokenWrong : ChangeSpec := { name := "dutyBroken", fn := fun _ => fun
  | [d1, d2] => { results := [.lit (.bool false)], args := [d1, d2] }
  | _ => none }
def DutyBrokenWrongFalsely : Prop := dutyBrokenRow.holds Try.pinned (OpenSpec.ofChange dutyBrokenWrong)

/-- 'fiacrelaw07.DutyRests': WHATEVER THE INPUT: true; the input reads as it did. -/
def dutyRestsSpec : ChangeSpec := { name := "dutyRests", fn := fun _ => fun
  | [d1, d2, d3] => { results := [.lit (.bool true)], args := [d1, d2, d3] }
  | _ => none }
def dutyRestsRow : OpenClaim := { program := "ytmfmpagfjgpodaa", sum := "3e5cbb927280d5181b58336a7cc9b5bc724ce8a8677af4043500100baa35d27b", func := "fiacre/fiacrelaw07.DutyRests", spec := "dutyRests", unfollowed := true, recurses := true, apart := false }
def DutyRestsSaid : Prop := dutyRestsRow.holds Try.pinned (OpenSpec.ofChange dutyRestsSpec)

/-- ITS FALSE NEIGHBOUR: 'it returns false'. Refute it at one input. -/
def dutyRestsWrong : ChangeSpec := { name := "dutyRests", fn := fun _ => fun
  | [d1, d2, d3] => { results := [.lit (.bool false)], args := [d1, d2, d3] }
  | _ => none }
def DutyRestsWrongFalsely : Prop := dutyRestsRow.holds Try.pinned (OpenSpec.ofChange dutyRestsWrong)

/-- 'fiacrelaw07.DutyEarliest': WHATEVER THE INPUT: true; the input reads as it did. -/
def dutyEarliestSpec : ChangeSpec := { name := "dutyEarliest", fn := fun _ => fun
  | [d1, d2, d3] => { results := [.lit (.bool true)], args := [d1, d2, d3] }
  | _ => none }
def dutyEarliestRow : OpenClaim := { program := "ytmfmpagfjgpodaa", sum := "3e5cbb927280d5181b58336a7cc9b5bc724ce8a8677af4043500100baa35d27b", func := "fiacre/fiacrelaw07.DutyEarliest", spec := "dutyEarliest", unfollowed := true, recurses := true, apart := false }
def DutyEarliestSaid : Prop := dutyEarliestRow.holds Try.pinned (OpenSpec.ofChange dutyEarliestSpec)

/-- ITS FALSE NEIGHBOUR: 'it returns false'. Refute it at one input. -/
def dutyEarliestWrong : ChangeSpec := { name := "dutyEarliest", fn := fun _ => fun
  | [d1, d2, d3] => { results := [.lit (.bool false)], args := [d1, d2, d3] }
  | _ => none }
def DutyEarliestWrongFalsely : Prop := dutyEarliestRow.holds Try.pinned (OpenSpec.ofChange dutyEarliestWrong)

/-- 'fiacrelaw07.DutyKinds': WHATEVER THE INPUT: true; the input reads as it did. -/
def dutyKindsSpec : ChangeSpec := { name := "dutyKinds", fn := fun _ => fun
  | [d1, d2, d3] => { results := [.lit (.bool true)], args := [d1, d2, d3] }
  | _ => none }
def dutyKindsRow : OpenClaim := { program := "ytmfmpagfjgpodaa", sum := "3e5cbb927280d5181b58336a7cc9b5bc724ce8a8677af4043500100baa35d27b", func := "fiacre/fiacrelaw07.DutyKinds", spec := "dutyKinds", unfollowed := true, recurses := true, apart := false }
def DutyKindsSaid : Prop := dutyKindsRow.holds Try.pinned (OpenSpec.ofChange dutyKindsSpec)

/-- ITS FALSE NEIGHBOUR: 'it returns false'. Refute it at one input. -/
def dutyKindsWrong : ChangeSpec := { name := "dutyKinds", fn := fun _ => fun
  | [d1, d2, d3] => { results := [.lit (.bool false)], args := [d1, d2, d3] }
  | _ => none }
def DutyKindsWrongFalsely : Prop := dutyKindsRow.holds Try.pinned (OpenSpec.ofChange dutyKindsWrong)

/-- 'fiacrelaw07.DutyLicences': WHATEVER THE INPUT: true; the input reads as it did. -/
def dutyLicencesSpec : ChangeSpec := { name := "dutyLicences", fn := fun _ => fun
  | [d1, d2, d3] => { results := [.lit (.bool true)], args := [d1, d2, d3] }
  | _ => none }
def dutyLicencesRow : OpenClaim := { program := "ytmfmpagfjgpodaa", sum := "3e5cbb927280d5181b58336a7cc9b5bc724ce8a8677af4043500100baa35d27b", func := "fiacre/fiacrelaw07.DutyLicences", spec := "dutyLicences", unfollowed := true, recurses := true, apart := false }
def DutyLicencesSaid : Prop := dutyLicencesRow.holds Try.pinned (OpenSpec.ofChange dutyLicencesSpec)

/-- ITS FALSE NEIGHBOUR: 'it returns false'. Refute it at one input. -/
def dutyLicencesWrong : ChangeSpec := { name := "dutyLicences", fn := fun _ => fun
  | [d1, d2, d3] => { results := [.lit (.bool false)], args := [d1, d2, d3] }
  | _ => none }
def DutyLicencesWrongFalsely : Prop := dutyLicencesRow.holds Try.pinned (OpenSpec.ofChange dutyLicencesWrong)

/-- 'fiacrelaw07.DutyCars': WHATEVER THE INPUT: true; the input reads as it did. -/
def dutyCarsSpec : ChangeSpec := { name := "dutyCars", fn := fun _ => fun
  | [d1, d2, d3] => { results := [.lit (.bool true)], args := [d1, d2, d3] }
  | _ => none }
def dutyCarsRow : OpenClaim := { program := "ytmfmpagfjgpodaa", sum := "3e5cbb927280d5181b58336a7cc9b5bc724ce8a8677af4043500100baa35d27b", func := "fiacre/fiacrelaw07.DutyCars", spec := "dutyCars", unfollowed := true, recurses := true, apart := false }
def DutyCarsSaid : Prop := dutyCarsRow.holds Try.pinned (OpenSpec.ofChange dutyCarsSpec)

/-- ITS FALSE NEIGHBOUR: 'it returns false'. Refute it at one input. -/
def dutyCarsWrong : ChangeSpec := { name := "dutyCars", fn := fun _ => fun
  | [d1, d2, d3] => { results := [.lit (.bool false)], args := [d1, d2, d3] }
  | _ => none }
def DutyCarsWrongFalsely : Prop := dutyCarsRow.holds Try.pinned (OpenSpec.ofChange dutyCarsWrong)

/-- 'fiacretop.TopDutyRests': WHATEVER THE INPUT: true; the input reads as it did. -/
def topDutyRestsSpec : ChangeSpec := { name := "topDutyRests", fn := fun _ => fun
  | [d] => { results := [.lit (.bool true)], args := [d] }
  | _ => none }
def topDutyRestsRow : OpenClaim := { program := "ytmfmpagfjgpodaa", sum := "3e5cbb927280d5181b58336a7cc9b5bc724ce8a8677af4043500100baa35d27b", func := "fiacre/fiacretop.TopDutyRests", spec := "topDutyRests", unfollowed := true, recurses := true, apart := false }
def TopDutyRestsSaid : Prop := topDutyRestsRow.holds Try.pinned (OpenSpec.ofChange topDutyRestsSpec)

/-- ITS FALSE NEIGHBOUR: 'it returns false'. Refute it at one input. -/
def topDutyRestsWrong : ChangeSpec := { name := "topDutyRests", fn := fun _ => fun
  | [d] => { results := [.lit (.bool false)], args := [d] }
  | _ => none }
def TopDutyRestsWrongFalsely : Prop := topDutyRestsRow.holds Try.pinned (OpenSpec.ofChange topDutyRestsWrong)

/-- 'fiacrelaw07.DutyJoins': WHATEVER THE INPUT: true; the input reads as it did. -/
def dutyJoinsSpec : ChangeSpec := { name := "dutyJoins", fn := fun _ => fun
  | [d1, d2] => { results := [.lit (.bool true)], args := [d1, d2] }
  | _ => none }
def dutyJoinsRow : OpenClaim := { program := "ytmfmpagfjgpodaa", sum := "3e5cbb927280d5181b58336a7cc9b5bc724ce8a8677af4043500100baa35d27b", func := "fiacre/fiacrelaw07.DutyJoins", spec := "dutyJoins", unfollowed := true, recurses := true, apart := false }
def DutyJoinsSaid : Prop := dutyJoinsRow.holds Try.pinned (OpenSpec.ofChange dutyJoinsSpec)

/-- ITS FALSE NEIGHBOUR: 'it returns false'. Refute it at one input. -/
def dutyJoinsWrong : ChangeSpec := { name := "dutyJoins", fn := fun _ => fun
  | [d1, d2] => { results := [.lit (.bool false)], args := [d1, d2] }
  | _ => none }
def DutyJoinsWrongFalsely : Prop := dutyJoinsRow.holds Try.pinned (OpenSpec.ofChange dutyJoinsWrong)

/-- 'fiacrelaw07.DutyPlates': WHATEVER THE INPUT: true; the input reads as it did. -/
def dutyPlatesSpec : ChangeSpec := { name := "dutyPlates", fn := fun _ => fun
  | [d1, d2] => { results := [.lit (.bool true)], args := [d1, d2] }
  | _ => none }
def dutyPlatesRow : OpenClaim := { program := "ytmfmpagfjgpodaa", sum := "3e5cbb927280d5181b58336a7cc9b5bc724ce8a8677af4043500100baa35d27b", func := "fiacre/fiacrelaw07.DutyPlates", spec := "dutyPlates", unfollowed := true, recurses := true, apart := false }
def DutyPlatesSaid : Prop := dutyPlatesRow.holds Try.pinned (OpenSpec.ofChange dutyPlatesSpec)

/-- ITS FALSE NEIGHBOUR: 'it returns false'. Refute it at one input. -/
def dutyPlatesWrong : ChangeSpec := { name := "dutyPlates", fn := fun _ => fun
  | [d1, d2] => { results := [.lit (.bool false)], args := [d1, d2] }
  | _ => none }
def DutyPlatesWrongFalsely : Prop := dutyPlatesRow.holds Try.pinned (OpenSpec.ofChange dutyPlatesWrong)

/-- 'fiacretop.TopDutyShared': WHATEVER THE INPUT: true; the input reads as it did. -/
def topDutySharedSpec : ChangeSpec := { name := "topDutyShared", fn := fun _ => fun
  | [d1, d2] => { results := [.lit (.bool true)], args := [d1, d2] }
  | _ => none }
def topDutySharedRow : OpenClaim := { program := "ytmfmpagfjgpodaa", sum := "3e5cbb927280d5181b58336a7cc9b5bc724ce8a8677af4043500100baa35d27b", func := "fiacre/fiacretop.TopDutyShared", spec := "topDutyShared", unfollowed := true, recurses := true, apart := false }
def TopDutySharedSaid : Prop := topDutySharedRow.holds Try.pinned (OpenSpec.ofChange topDutySharedSpec)

/-- ITS FALSE NEIGHBOUR: 'it returns false'. Refute it at one input. -/
def topDutySharedWrong : ChangeSpec := { name := "topDutyShared", fn := fun _ => fun
  | [d1, d2] => { results := [.lit (.bool false)], args := [d1, d2] }
  | _ => none }
def TopDutySharedWrongFalsely : Prop := topDutySharedRow.holds Try.pinned (OpenSpec.ofChange topDutySharedWrong)

/- THE SECOND FORM. 'bulk': how many values and letters a reading holds, each counted each time it is reached (what is shared counts as often as it is met; a slice's spare places count too). A statement '..UptoSaid' is the law's where the arguments, and the package variables that the reading takes, are together of bulk at most 1048576: NARROWER than '..Said'. Prove '..Said' where nothing that the law and all that it calls make is longer than what came in: it says more and counts as full. Else prove '..UptoSaid'. A law counts once. -/
mutual
def uptoBulk {H : Type} : DataW H → Nat
  | .lit (.string bytes) => bytes.length + 1
  | .lit _ => 1
  | .nil => 1
  | .ptr d => uptoBulk d + 1
  | .slice elems spare => uptoBulkAll elems + uptoBulkAll spare + 1
  | .agg parts => uptoBulkAll parts + 1
  | .iface _ d => uptoBulk d + 1
  | .map entries => uptoBulkEntries entries + 1
  | .held _ => 1
def uptoBulkAll {H : Type} : List (DataW H) → Nat
  | [] => 0
  | d :: r => uptoBulk d + uptoBulkAll r
def uptoBulkEntries {H : Type} : List (Lit × DataW H) → Nat
  | [] => 0
  | x :: r => uptoBulkEntry x + uptoBulkEntries r
def uptoBulkEntry {H : Type} : Lit × DataW H → Nat
  | (.string bytes, d) => bytes.length + uptoBulk d + 1
  | (_, d) => uptoBulk d + 1
 end
def uptoSmall : (H : Type) → List (DataW H) → Bool := fun _ ds => decide (uptoBulkAll ds ≤ 1048576)
def OpenSpec.upto (s : _root_.Go.ChangeSpec) : _root_.Go.OpenSpec := { _root_.Go.OpenSpec.ofChange s with cond := some uptoSmall }

/-- 'fiacrelaw07.DutyWorks', WHERE WHAT IT READS IS OF BULK AT MOST 1048576: true; the input reads as it did. -/
def dutyWorksUptoRow : OpenClaim := { program := "ytmfmpagfjgpodaa", sum := "3e5cbb927280d5181b58336a7cc9b5bc724ce8a8677af4043500100baa35d27b", func := "fiacre/fiacrelaw07.DutyWorks", spec := "dutyWorks", unfollowed := true, recurses := true, apart := false, narrowed := true }
def DutyWorksUptoSaid : Prop := dutyWorksUptoRow.holds Try.pinned (OpenSpec.upto dutyWorksSpec)

/-- 'fiacrelaw07.DutyAllows', WHERE WHAT IT READS IS OF BULK AT MOST 1048576: true; the input reads as it did. -/
def dutyAllowsUptoRow : OpenClaim := { program := "ytmfmpagfjgpodaa", sum := "3e5cbb927280d5181b58336a7cc9b5bc724ce8a8677af4043500100baa35d27b", func := "fiacre/fiacrelaw07.DutyAllows", spec := "dutyAllows", unfollowed := true, recurses := true, apart := false, narrowed := true }
def DutyAllowsUptoSaid : Prop := dutyAllowsUptoRow.holds Try.pinned (OpenSpec.upto dutyAllowsSpec)

/-- 'fiacrelaw07.DutyLongest', WHERE WHAT IT READS IS OF BULK AT MOST 1048576: true; the input reads as it did. -/
def dutyLongestUptoRow : OpenClaim := { program := "ytmfmpagfjgpodaa", sum := "3e5cbb927280d5181b58336a7cc9b5bc724ce8a8677af4043500100baa35d27b", func := "fiacre/fiacrelaw07.DutyLongest", spec := "dutyLongest", unfollowed := true, recurses := true, apart := false, narrowed := true }
def DutyLongestUptoSaid : Prop := dutyLongestUptoRow.holds Try.pinned (OpenSpec.upto dutyLongestSpec)

/-- 'fiacrelaw07.DutyStints', WHERE WHAT IT READS IS OF BULK AT MOST 1048576: true; the input reads as it did. -/
def dutyStintsUptoRow : OpenClaim := { program := "ytmfmpagfjgpodaa", sum := "3e5cbb927280d5181b58336a7cc9b5bc724ce8a8677af4043500100baa35d27b", func := "fiacre/fiacrelaw07.DutyStints", spec := "dutyStints", unfollowed := true, recurses := true, apart := false, narrowed := true }
def DutyStintsUptoSaid : Prop := dutyStintsUptoRow.holds Try.pinned (OpenSpec.upto dutyStintsSpec)

/-- 'fiacrelaw07.DutyBroken', WHERE WHAT IT READS IS OF BULK AT MOST 1048576: true; the input reads as it did. -/
def dutyBrokenUptoRow : OpenClaim := { program := "ytmfmpagfjgpodaa", sum := "3e5cbb927280d5181b58336a7cc9b5bc724ce8a8677af4043500100baa35d27b", func := "fiacre/fiacrelaw07.DutyBroken", spec := "dutyBroken", unfollowed := true, recurses := true, apart := false, narrowed := true }
def DutyBrokenUptoSaid : Prop := dutyBrokenUptoRow.holds Try.pinned (OpenSpec.upto dutyBrokenSpec)

/-- 'fiacrelaw07.DutyRests', WHERE WHAT IT READS IS OF BULK AT MOST 1048576: true; the input reads as it did. -/
def dutyRestsUptoRow : OpenClaim := { program := "ytmfmpagfjgpodaa", sum := "3e5cbb927280d5181b58336a7cc9b5bc724ce8a8677af4043500100baa35d27b", func := "fiacre/fiacrelaw07.DutyRests", spec := "dutyRests", unfollowed := true, recurses := true, apart := false, narrowed := true }
def DutyRestsUptoSaid : Prop := dutyRestsUptoRow.holds Try.pinned (OpenSpec.upto dutyRestsSpec)

/-- 'fiacrelaw07.DutyEarliest', WHERE WHAT IT READS IS OF BULK AT MOST 1048576: true; the input reads as it did. -/
def dutyEarliestUptoRow : OpenClaim := { program := "ytmfmpagfjgpodaa", sum := "3e5cbb927280d5181b58336a7cc9b5bc724ce8a8677af4043500100baa35d27b", func := "fiacre/fiacrelaw07.DutyEarliest", spec := "dutyEarliest", unfollowed := true, recurses := true, apart := false, narrowed := true }
def DutyEarliestUptoSaid : Prop := dutyEarliestUptoRow.holds Try.pinned (OpenSpec.upto dutyEarliestSpec)

/-- 'fiacrelaw07.DutyKinds', WHERE WHAT IT READS IS OF BULK AT MOST 1048576: true; the input reads as it did. -/
def dutyKindsUptoRow : OpenClaim := { program := "ytmfmpagfjgpodaa", sum := "3e5cbb927280d5181b58336a7cc9b5bc724ce8a8677af4043500100baa35d27b", func := "fiacre/fiacrelaw07.DutyKinds", spec := "dutyKinds", unfollowed := true, recurses := true, apart := false, narrowed := true }
def DutyKindsUptoSaid : Prop := dutyKindsUptoRow.holds Try.pinned (OpenSpec.upto dutyKindsSpec)

/-- 'fiacrelaw07.DutyLicences', WHERE WHAT IT READS IS OF BULK AT MOST 1048576: true; the input reads as it did. -/
def dutyLicencesUptoRow : OpenClaim := { program := "ytmfmpagfjgpodaa", sum := "3e5cbb927280d5181b58336a7cc9b5bc724ce8a8677af4043500100baa35d27b", func := "fiacre/fiacrelaw07.DutyLicences", spec := "dutyLicences", unfollowed := true, recurses := true, apart := false, narrowed := true }
def DutyLicencesUptoSaid : Prop := dutyLicencesUptoRow.holds Try.pinned (OpenSpec.upto dutyLicencesSpec)

/-- 'fiacrelaw07.DutyCars', WHERE WHAT IT READS IS OF BULK AT MOST 1048576: true; the input reads as it did. -/
def dutyCarsUptoRow : OpenClaim := { program := "ytmfmpagfjgpodaa", sum := "3e5cbb927280d5181b58336a7cc9b5bc724ce8a8677af4043500100baa35d27b", func := "fiacre/fiacrelaw07.DutyCars", spec := "dutyCars", unfollowed := true, recurses := true, apart := false, narrowed := true }
def DutyCarsUptoSaid : Prop := dutyCarsUptoRow.holds Try.pinned (OpenSpec.upto dutyCarsSpec)

/-- 'fiacretop.TopDutyRests', WHERE WHAT IT READS IS OF BULK AT MOST 1048576: true; the input reads as it did. -/
def topDutyRestsUptoRow : OpenClaim := { program := "ytmfmpagfjgpodaa", sum := "3e5cbb927280d5181b58336a7cc9b5bc724ce8a8677af4043500100baa35d27b", func := "fiacre/fiacretop.TopDutyRests", spec := "topDutyRests", unfollowed := true, recurses := true, apart := false, narrowed := true }
def TopDutyRestsUptoSaid : Prop := topDutyRestsUptoRow.holds Try.pinned (OpenSpec.upto topDutyRestsSpec)

/-- 'fiacrelaw07.DutyJoins', WHERE WHAT IT READS IS OF BULK AT MOST 1048576: true; the input reads as it did. -/
def dutyJoinsUptoRow : OpenClaim := { program := "ytmfmpagfjgpodaa", sum := "3e5cbb927280d5181b58336a7cc9b5bc724ce8a8677af4043500100baa35d27b", func := "fiacre/fiacrelaw07.DutyJoins", spec := "dutyJoins", unfollowed := true, recurses := true, apart := false, narrowed := true }
def DutyJoinsUptoSaid : Prop := dutyJoinsUptoRow.holds Try.pinned (OpenSpec.upto dutyJoinsSpec)

/-- 'fiacrelaw07.DutyPlates', WHERE WHAT IT READS IS OF BULK AT MOST 1048576: true; the input reads as it did. -/
def dutyPlatesUptoRow : OpenClaim := { program := "ytmfmpagfjgpodaa", sum := "3e5cbb927280d5181b58336a7cc9b5bc724ce8a8677af4043500100baa35d27b", func := "fiacre/fiacrelaw07.DutyPlates", spec := "dutyPlates", unfollowed := true, recurses := true, apart := false, narrowed := true }
def DutyPlatesUptoSaid : Prop := dutyPlatesUptoRow.holds Try.pinned (OpenSpec.upto dutyPlatesSpec)

/-- 'fiacretop.TopDutyShared', WHERE WHAT IT READS IS OF BULK AT MOST 1048576: true; the input reads as it did. -/
def topDutySharedUptoRow : OpenClaim := { program := "ytmfmpagfjgpodaa", sum := "3e5cbb927280d5181b58336a7cc9b5bc724ce8a8677af4043500100baa35d27b", func := "fiacre/fiacretop.TopDutyShared", spec := "topDutyShared", unfollowed := true, recurses := true, apart := false, narrowed := true }
def TopDutySharedUptoSaid : Prop := topDutySharedUptoRow.holds Try.pinned (OpenSpec.upto topDutySharedSpec)

end Rows
end Go.Proofs.Ytmfmpagfjgpodaa
