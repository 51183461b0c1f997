/-
  NARROWER THAN 'FOR EVERY INPUT', by the rows' own cells (each row's printed sentence says how): FoundChains: laid · FoundRewards: laid · FoundStates: laid · FoundBeginnings: laid · FoundMarks: laid · FoundFewerMarks: laid · FoundCandidates: laid · FoundOverdues: laid · FoundDone: laid · FoundNoMore: laid.
  DERIVED. THE GIVEN ROWS OF THIS SEAT. 10 by the template 'for every input the law returns true; each argument reads behind the call as it read before'; 0 by the template 'total and deterministic' (their statements: YthbgghmjbaldlaaDoorTotals.lean).
  GIVEN WITH THE SEED: the statements are not yours to turn. If you find one false, say at which input.
  Laid BY PROGRAM, IN A SANDBOX (cutbox-rows.mjs): the forced cells as the released guide's own fill.sh prints them over the translation d04b31bc3e995b86… (all of the seat's roots in one cut). By AI agents, Wed Nov 11 2026. No macro, syntax, notation, axiom, sorry.
-/
import Derived.Test.YthbgghmjbaldlaaDoorChecked
import GoSem.Claim
import GoSem.ClaimJoined
import GoSem.ClaimMapViews
import Derived.JoinedTies
import Derived.KernelRfl
namespace Go.Proofs.YthbgghmjbaldlaaDoor
/- THE CELL 'sum', in the pinned program and in every row, IS THE sha256 OF THE DUMP (.gsa) THAT YthbgghmjbaldlaaDoorProg.lean LOADS. Nothing in Lean hashes anything: it is a label: what it is worth is what the hold of that sum in a sandbox is worth. -/
noncomputable def Tryd.pinned : Pinned := { name := "ythbgghmjbaldlaadoor", sum := "d04b31bc3e995b8693b2c49b2fdc4fdefdd306b83873a18b55254098836ec27e", checked := Tryd.checked }
namespace Rows
def none {H : Type} : Left H := { results := [], args := [] }

/- WHAT THE LISTED PACKAGE-LEVEL VARIABLES READ AS WHEN THE CALL BEGINS. Each datum BY PROGRAM (the guide's laid-datum.mjs) off the statement by which the dump's own 'gosem.cut.vars' lays the variable. In a bare row this is a premise. The card (YthbgghmjbaldlaaDoorCards.lean) ties it to the program's text. -/
def laid_math_bits_deBruijn32tab {H : Type} : DataW H := .agg [.lit (.int .u8 0), .lit (.int .u8 1), .lit (.int .u8 28), .lit (.int .u8 2), .lit (.int .u8 29), .lit (.int .u8 14), .lit (.int .u8 24), .lit (.int .u8 3), .lit (.int .u8 30), .lit (.int .u8 22), .lit (.int .u8 20), .lit (.int .u8 15), .lit (.int .u8 25), .lit (.int .u8 17), .lit (.int .u8 4), .lit (.int .u8 8), .lit (.int .u8 31), .lit (.int .u8 27), .lit (.int .u8 13), .lit (.int .u8 23), .lit (.int .u8 21), .lit (.int .u8 19), .lit (.int .u8 16), .lit (.int .u8 7), .lit (.int .u8 26), .lit (.int .u8 12), .lit (.int .u8 18), .lit (.int .u8 6), .lit (.int .u8 11), .lit (.int .u8 5), .lit (.int .u8 10), .lit (.int .u8 9)]
def laid_math_bits_deBruijn64tab {H : Type} : DataW H := .agg [.lit (.int .u8 0), .lit (.int .u8 1), .lit (.int .u8 56), .lit (.int .u8 2), .lit (.int .u8 57), .lit (.int .u8 49), .lit (.int .u8 28), .lit (.int .u8 3), .lit (.int .u8 61), .lit (.int .u8 58), .lit (.int .u8 42), .lit (.int .u8 50), .lit (.int .u8 38), .lit (.int .u8 29), .lit (.int .u8 17), .lit (.int .u8 4), .lit (.int .u8 62), .lit (.int .u8 47), .lit (.int .u8 59), .lit (.int .u8 36), .lit (.int .u8 45), .lit (.int .u8 43), .lit (.int .u8 51), .lit (.int .u8 22), .lit (.int .u8 53), .lit (.int .u8 39), .lit (.int .u8 33), .lit (.int .u8 30), .lit (.int .u8 24), .lit (.int .u8 18), .lit (.int .u8 12), .lit (.int .u8 5), .lit (.int .u8 63), .lit (.int .u8 55), .lit (.int .u8 48), .lit (.int .u8 27), .lit (.int .u8 60), .lit (.int .u8 41), .lit (.int .u8 37), .lit (.int .u8 16), .lit (.int .u8 46), .lit (.int .u8 35), .lit (.int .u8 44), .lit (.int .u8 21), .lit (.int .u8 52), .lit (.int .u8 32), .lit (.int .u8 23), .lit (.int .u8 11), .lit (.int .u8 54), .lit (.int .u8 26), .lit (.int .u8 40), .lit (.int .u8 15), .lit (.int .u8 34), .lit (.int .u8 20), .lit (.int .u8 31), .lit (.int .u8 10), .lit (.int .u8 25), .lit (.int .u8 14), .lit (.int .u8 19), .lit (.int .u8 9), .lit (.int .u8 13), .lit (.int .u8 8), .lit (.int .u8 7), .lit (.int .u8 6)]
def laid_internal_strconv_uint64pow10 {H : Type} : DataW H := .agg [.lit (.int .u64 1), .lit (.int .u64 10), .lit (.int .u64 100), .lit (.int .u64 1000), .lit (.int .u64 10000), .lit (.int .u64 100000), .lit (.int .u64 1000000), .lit (.int .u64 10000000), .lit (.int .u64 100000000), .lit (.int .u64 1000000000), .lit (.int .u64 10000000000), .lit (.int .u64 100000000000), .lit (.int .u64 1000000000000), .lit (.int .u64 10000000000000), .lit (.int .u64 100000000000000), .lit (.int .u64 1000000000000000), .lit (.int .u64 10000000000000000), .lit (.int .u64 100000000000000000), .lit (.int .u64 1000000000000000000), .lit (.int .u64 10000000000000000000)]

/-- 'fiacrelaw09.FoundChains': WHATEVER THE INPUT: true; the input reads as it did. -/
def foundChainsSpec : ChangeSpec := { name := "foundChains", fn := fun _ => fun
  | [d1, d2] => { results := [.lit (.bool true)], args := [d1, d2] }
  | _ => none }
def foundChainsRow : OpenClaim := { program := "ythbgghmjbaldlaadoor", sum := "d04b31bc3e995b8693b2c49b2fdc4fdefdd306b83873a18b55254098836ec27e", func := "fiacre/fiacrelaw09.FoundChains", spec := "foundChains", inPlace := ["internal/abi.NoEscape", "internal/bytealg.MakeNoZero"], unfollowed := true, recurses := true, named := ["internal/strconv.uint64pow10", "math/bits.deBruijn32tab", "math/bits.deBruijn64tab"], apart := false, laid := [("math/bits.deBruijn32tab", laid_math_bits_deBruijn32tab), ("math/bits.deBruijn64tab", laid_math_bits_deBruijn64tab), ("internal/strconv.uint64pow10", laid_internal_strconv_uint64pow10)] }
def FoundChainsSaid : Prop := foundChainsRow.holds Tryd.pinned (OpenSpec.ofChange foundChainsSpec)

/-- ITS FALSE NEIGHBOUR: 'it returns false'. Refute it at one input. -/
def foundChainsWrong : ChangeSpec := { name := "foundChains", fn := fun _ => fun
  | [d1, d2] => { results := [.lit (.bool false)], args := [d1, d2] }
  | _ => none }
def FoundChainsWrongFalsely : Prop := foundChainsRow.holds Tryd.pinned (OpenSpec.ofChange foundChainsWrong)

/-- 'fiacrelaw09.FoundRewards': WHATEVER THE INPUT: true; the input reads as it did. -/
def foundRewardsSpec : ChangeSpec := { name := "foundRewards", fn := fun _ => fun
  | [d1, d2] => { results := [.lit (.bool true)], args := [d1, d2] }
  | _ => none }
def foundRewardsRow : OpenClaim := { program := "ythbgghmjbaldlaadoor", sum := "d04b31bc3e995b8693b2c49b2fdc4fdefdd306b83873a18b55254098836ec27e", func := "fiacre/fiacrelaw09.FoundRewards", spec := "foundRewards", inPlace := ["internal/abi.NoEscape", "internal/bytealg.MakeNoZero"], unfollowed := true, recurses := true, named := ["internal/strconv.uint64pow10", "math/bits.deBruijn32tab", "math/bits.deBruijn64tab"], apart := false, laid := [("math/bits.deBruijn32tab", laid_math_bits_deBruijn32tab), ("math/bits.deBruijn64tab", laid_math_bits_deBruijn64tab), ("internal/strconv.uint64pow10", laid_internal_strconv_uint64pow10)] }
def FoundRewardsSaid : Prop := foundRewardsRow.holds Tryd.pinned (OpenSpec.ofChange foundRewardsSpec)

/-- ITS FALSE NEIGHBOUR: 'it returns false'. Refute it at one input. -/
def foundRewardsWrong : ChangeSpec := { name := "foundRewards", fn := fun _ => fun
  | [d1, d2] => { results := [.lit (.bool false)], args := [d1, d2] }
  | _ => none }
def FoundRewardsWrongFalsely : Prop := foundRewardsRow.holds Tryd.pinned (OpenSpec.ofChange foundRewardsWrong)

/-- 'fiacrelaw09.FoundStates': WHATEVER THE INPUT: true; the input reads as it did. -/
def foundStatesSpec : ChangeSpec := { name := "foundStates", fn := fun _ => fun
  | [d1, d2, d3] => { results := [.lit (.bool true)], args := [d1, d2, d3] }
  | _ => none }
def foundStatesRow : OpenClaim := { program := "ythbgghmjbaldlaadoor", sum := "d04b31bc3e995b8693b2c49b2fdc4fdefdd306b83873a18b55254098836ec27e", func := "fiacre/fiacrelaw09.FoundStates", spec := "foundStates", inPlace := ["internal/abi.NoEscape", "internal/bytealg.MakeNoZero"], unfollowed := true, recurses := true, named := ["internal/strconv.uint64pow10", "math/bits.deBruijn32tab", "math/bits.deBruijn64tab"], apart := false, laid := [("math/bits.deBruijn32tab", laid_math_bits_deBruijn32tab), ("math/bits.deBruijn64tab", laid_math_bits_deBruijn64tab), ("internal/strconv.uint64pow10", laid_internal_strconv_uint64pow10)] }
def FoundStatesSaid : Prop := foundStatesRow.holds Tryd.pinned (OpenSpec.ofChange foundStatesSpec)

/-- ITS FALSE NEIGHBOUR: 'it returns false'. Refute it at one input. -/
def foundStatesWrong : ChangeSpec := { name := "foundStates", fn := fun _ => fun
  | [d1, d2, d3] => { results := [.lit (.bool false)], args := [d1, d2, d3] }
  | _ => none }
def FoundStatesWrongFalsely : Prop := foundStatesRow.holds Tryd.pinned (OpenSpec.ofChange foundStatesWrong)

/-- 'fiacrelaw09.FoundBeginnings': WHATEVER THE INPUT: true; the input reads as it did. -/
def foundBeginningsSpec : ChangeSpec := { name := "foundBeginnings", fn := fun _ => fun
  | [d1, d2, d3] => { results := [.lit (.bool true)], args := [d1, d2, d3] }
  | _ => none }
def foundBeginningsRow : OpenClaim := { program := "ythbgghmjbaldlaadoor", sum := "d04b31bc3e995b8693b2c49b2fdc4fdefdd306b83873a18b55254098836ec27e", func := "fiacre/fiacrelaw09.FoundBeginnings", spec := "foundBeginnings", inPlace := ["internal/abi.NoEscape", "internal/bytealg.MakeNoZero"], unfollowed := true, recurses := true, named := ["internal/strconv.uint64pow10", "math/bits.deBruijn32tab", "math/bits.deBruijn64tab"], apart := false, laid := [("math/bits.deBruijn32tab", laid_math_bits_deBruijn32tab), ("math/bits.deBruijn64tab", laid_math_bits_deBruijn64tab), ("internal/strconv.uint64pow10", laid_internal_strconv_uint64pow10)] }
def FoundBeginningsSaid : Prop := foundBeginningsRow.holds Tryd.pinned (OpenSpec.ofChange foundBeginningsSpec)

/-- ITS FALSE NEIGHBOUR: 'it returns false'. Refute it at one input. -/
def foundBeginningsWrong : ChangeSpec := { name := "foundBeginnings", fn := fun _ => fun
  | [d1, d2, d3] => { results := [.lit (.bool false)], args := [d1, d2, d3] }
  | _ => none }
def FoundBeginningsWrongFalsely : Prop := foundBeginningsRow.holds Tryd.pinned (OpenSpec.ofChange foundBeginningsWrong)

/-- 'fiacrelaw09.FoundMarks': WHATEVER THE INPUT: true; the input reads as it did. -/
def foundMarksSpec : ChangeSpec := { name := "foundMarks", fn := fun _ => fun
  | [d1, d2] => { results := [.lit (.bool true)], args := [d1, d2] }
  | _ => none }
def foundMarksRow : OpenClaim := { program := "ythbgghmjbaldlaadoor", sum := "d04b31bc3e995b8693b2c49b2fdc4fdefdd306b83873a18b55254098836ec27e", func := "fiacre/fiacrelaw09.FoundMarks", spec := "foundMarks", inPlace := ["internal/abi.NoEscape", "internal/bytealg.MakeNoZero"], unfollowed := true, recurses := true, named := ["internal/strconv.uint64pow10", "math/bits.deBruijn32tab", "math/bits.deBruijn64tab"], apart := false, laid := [("math/bits.deBruijn32tab", laid_math_bits_deBruijn32tab), ("math/bits.deBruijn64tab", laid_math_bits_deBruijn64tab), ("internal/strconv.uint64pow10", laid_internal_strconv_uint64pow10)] }
def FoundMarksSaid : Prop := foundMarksRow.holds Tryd.pinned (OpenSpec.ofChange foundMarksSpec)

/-- ITS FALSE NEIGHBOUR: 'it returns false'. Refute it at one input. -/
def foundMarksWrong : ChangeSpec := { name := "foundMarks", fn := fun _ => fun
  | [d1, d2] => { results := [.lit (.bool false)], args := [d1, d2] }
  | _ => none }
def FoundMarksWrongFalsely : Prop := foundMarksRow.holds Tryd.pinned (OpenSpec.ofChange foundMarksWrong)

/-- 'fiacrelaw09.FoundFewerMarks': WHATEVER THE INPUT: true; the input reads as it did. -/
def foundFewerMarksSpec : ChangeSpec := { name := "foundFewerMarks", fn := fun _ => fun
  | [d1, d2, d3] => { results := [.lit (.bool true)], args := [d1, d2, d3] }
  | _ => none }
def foundFewerMarksRow : OpenClaim := { program := "ythbgghmjbaldlaadoor", sum := "d04b31bc3e995b8693b2c49b2fdc4fdefdd306b83873a18b55254098836ec27e", func := "fiacre/fiacrelaw09.FoundFewerMarks", spec := "foundFewerMarks", inPlace := ["internal/abi.NoEscape", "internal/bytealg.MakeNoZero"], unfollowed := true, recurses := true, named := ["internal/strconv.uint64pow10", "math/bits.deBruijn32tab", "math/bits.deBruijn64tab"], apart := false, laid := [("math/bits.deBruijn32tab", laid_math_bits_deBruijn32tab), ("math/bits.deBruijn64tab", laid_math_bits_deBruijn64tab), ("internal/strconv.uint64pow10", laid_internal_strconv_uint64pow10)] }
def FoundFewerMarksSaid : Prop := foundFewerMarksRow.holds Tryd.pinned (OpenSpec.ofChange foundFewerMarksSpec)

/-- ITS FALSE NEIGHBOUR: 'it returns false'. Refute it at one input. -/
def foundFewerMarksWrong : ChangeSpec := { name := "foundFewerMarks", fn := fun _ => fun
  | [d1, d2, d3] => { results := [.lit (.bool false)], args := [d1, d2, d3] }
  | _ => none }
def FoundFewerMarksWrongFalsely : Prop := foundFewerMarksRow.holds Tryd.pinned (OpenSpec.ofChange foundFewerMarksWrong)

/-- 'fiacrelaw09.FoundCandidates': WHATEVER THE INPUT: true; the input reads as it did. -/
def foundCandidatesSpec : ChangeSpec := { name := "foundCandidates", fn := fun _ => fun
  | [d1, d2] => { results := [.lit (.bool true)], args := [d1, d2] }
  | _ => none }
def foundCandidatesRow : OpenClaim := { program := "ythbgghmjbaldlaadoor", sum := "d04b31bc3e995b8693b2c49b2fdc4fdefdd306b83873a18b55254098836ec27e", func := "fiacre/fiacrelaw09.FoundCandidates", spec := "foundCandidates", inPlace := ["internal/abi.NoEscape", "internal/bytealg.MakeNoZero"], unfollowed := true, recurses := true, named := ["internal/strconv.uint64pow10", "math/bits.deBruijn32tab", "math/bits.deBruijn64tab"], apart := false, laid := [("math/bits.deBruijn32tab", laid_math_bits_deBruijn32tab), ("math/bits.deBruijn64tab", laid_math_bits_deBruijn64tab), ("internal/strconv.uint64pow10", laid_internal_strconv_uint64pow10)] }
def FoundCandidatesSaid : Prop := foundCandidatesRow.holds Tryd.pinned (OpenSpec.ofChange foundCandidatesSpec)

/-- ITS FALSE NEIGHBOUR: 'it returns false'. Refute it at one input. -/
def foundCandidatesWrong : ChangeSpec := { name := "foundCandidates", fn := fun _ => fun
  | [d1, d2] => { results := [.lit (.bool false)], args := [d1, d2] }
  | _ => none }
def FoundCandidatesWrongFalsely : Prop := foundCandidatesRow.holds Tryd.pinned (OpenSpec.ofChange foundCandidatesWrong)

/-- 'fiacrelaw09.FoundOverdues': WHATEVER THE INPUT: true; the input reads as it did. -/
def foundOverduesSpec : ChangeSpec := { name := "foundOverdues", fn := fun _ => fun
  | [d1, d2] => { results := [.lit (.bool true)], args := [d1, d2] }
  | _ => none }
def foundOverduesRow : OpenClaim := { program := "ythbgghmjbaldlaadoor", sum := "d04b31bc3e995b8693b2c49b2fdc4fdefdd306b83873a18b55254098836ec27e", func := "fiacre/fiacrelaw09.FoundOverdues", spec := "foundOverdues", inPlace := ["internal/abi.NoEscape", "internal/bytealg.MakeNoZero"], unfollowed := true, recurses := true, named := ["internal/strconv.uint64pow10", "math/bits.deBruijn32tab", "math/bits.deBruijn64tab"], apart := false, laid := [("math/bits.deBruijn32tab", laid_math_bits_deBruijn32tab), ("math/bits.deBruijn64tab", laid_math_bits_deBruijn64tab), ("internal/strconv.uint64pow10", laid_internal_strconv_uint64pow10)] }
def FoundOverduesSaid : Prop := foundOverduesRow.holds Tryd.pinned (OpenSpec.ofChange foundOverduesSpec)

/-- ITS FALSE NEIGHBOUR: 'it returns false'. Refute it at one input. -/
def foundOverduesWrong : ChangeSpec := { name := "foundOverdues", fn := fun _ => fun
  | [d1, d2] => { results := [.lit (.bool false)], args := [d1, d2] }
  | _ => none }
def FoundOverduesWrongFalsely : Prop := foundOverduesRow.holds Tryd.pinned (OpenSpec.ofChange foundOverduesWrong)

/-- 'fiacrelaw09.FoundDone': WHATEVER THE INPUT: true; the input reads as it did. -/
def foundDoneSpec : ChangeSpec := { name := "foundDone", fn := fun _ => fun
  | [d1, d2, d3] => { results := [.lit (.bool true)], args := [d1, d2, d3] }
  | _ => none }
def foundDoneRow : OpenClaim := { program := "ythbgghmjbaldlaadoor", sum := "d04b31bc3e995b8693b2c49b2fdc4fdefdd306b83873a18b55254098836ec27e", func := "fiacre/fiacrelaw09.FoundDone", spec := "foundDone", inPlace := ["internal/abi.NoEscape", "internal/bytealg.MakeNoZero"], unfollowed := true, recurses := true, named := ["internal/strconv.uint64pow10", "math/bits.deBruijn32tab", "math/bits.deBruijn64tab"], apart := false, laid := [("math/bits.deBruijn32tab", laid_math_bits_deBruijn32tab), ("math/bits.deBruijn64tab", laid_math_bits_deBruijn64tab), ("internal/strconv.uint64pow10", laid_internal_strconv_uint64pow10)] }
def FoundDoneSaid : Prop := foundDoneRow.holds Tryd.pinned (OpenSpec.ofChange foundDoneSpec)

/-- ITS FALSE NEIGHBOUR: 'it returns false'. Refute it at one input. -/
def foundDoneWrong : ChangeSpec := { name := "foundDone", fn := fun _ => fun
  | [d1, d2, d3] => { results := [.lit (.bool false)], args := [d1, d2, d3] }
  | _ => none }
def FoundDoneWrongFalsely : Prop := foundDoneRow.holds Tryd.pinned (OpenSpec.ofChange foundDoneWrong)

/-- 'fiacrelaw09.FoundNoMore': WHATEVER THE INPUT: true; the input reads as it did. -/
def foundNoMoreSpec : ChangeSpec := { name := "foundNoMore", fn := fun _ => fun
  | [d1, d2, d3] => { results := [.lit (.bool true)], args := [d1, d2, d3] }
  | _ => none }
def foundNoMoreRow : OpenClaim := { program := "ythbgghmjbaldlaadoor", sum := "d04b31bc3e995b8693b2c49b2fdc4fdefdd306b83873a18b55254098836ec27e", func := "fiacre/fiacrelaw09.FoundNoMore", spec := "foundNoMore", inPlace := ["internal/abi.NoEscape", "internal/bytealg.MakeNoZero"], unfollowed := true, recurses := true, named := ["internal/strconv.uint64pow10", "math/bits.deBruijn32tab", "math/bits.deBruijn64tab"], apart := false, laid := [("math/bits.deBruijn32tab", laid_math_bits_deBruijn32tab), ("math/bits.deBruijn64tab", laid_math_bits_deBruijn64tab), ("internal/strconv.uint64pow10", laid_internal_strconv_uint64pow10)] }
def FoundNoMoreSaid : Prop := foundNoMoreRow.holds Tryd.pinned (OpenSpec.ofChange foundNoMoreSpec)

/-- ITS FALSE NEIGHBOUR: 'it returns false'. Refute it at one input. -/
def foundNoMoreWrong : ChangeSpec := { name := "foundNoMore", fn := fun _ => fun
  | [d1, d2, d3] => { results := [.lit (.bool false)], args := [d1, d2, d3] }
  | _ => none }
def FoundNoMoreWrongFalsely : Prop := foundNoMoreRow.holds Tryd.pinned (OpenSpec.ofChange foundNoMoreWrong)

/- THE SECOND FORM. 'bulk': how many values and letters a reading holds, each counted each time it is reached (what is shared counts as often as it is met; a slice's spare places count too). A statement '..UptoSaid' is the law's where the arguments, and the package variables that the reading takes, are together of bulk at most 1048576: NARROWER than '..Said'. Prove '..Said' where nothing that the law and all that it calls make is longer than what came in: it says more and counts as full. Else prove '..UptoSaid'. A law counts once. -/
mutual
def uptoBulk {H : Type} : DataW H → Nat
  | .lit (.string bytes) => bytes.length + 1
  | .lit _ => 1
  | .nil => 1
  | .ptr d => uptoBulk d + 1
  | .slice elems spare => uptoBulkAll elems + uptoBulkAll spare + 1
  | .agg parts => uptoBulkAll parts + 1
  | .iface _ d => uptoBulk d + 1
  | .map entries => uptoBulkEntries entries + 1
  | .held _ => 1
def uptoBulkAll {H : Type} : List (DataW H) → Nat
  | [] => 0
  | d :: r => uptoBulk d + uptoBulkAll r
def uptoBulkEntries {H : Type} : List (Lit × DataW H) → Nat
  | [] => 0
  | x :: r => uptoBulkEntry x + uptoBulkEntries r
def uptoBulkEntry {H : Type} : Lit × DataW H → Nat
  | (.string bytes, d) => bytes.length + uptoBulk d + 1
  | (_, d) => uptoBulk d + 1
 end
def uptoSmall : (H : Type) → List (DataW H) → Bool := fun _ ds => decide (uptoBulkAll ds ≤ 1048576)
def OpenSpec.upto (s : _root_.Go.ChangeSpec) : _root_.Go.OpenSpec := { _root_.Go.OpenSpec.ofChange s with cond := some uptoSmall }

/-- 'fiacrelaw09.FoundChains', WHERE WHAT IT READS IS OF BULK AT MOST 1048576: true; the input reads as it did. -/
def foundChainsUptoRow : OpenClaim := { program := "ythbgghmjbaldlaadoor", sum := "d04b31bc3e995b8693b2c49b2fdc4fdefdd306b83873a18b55254098836ec27e", func := "fiacre/fiacrelaw09.FoundChains", spec := "foundChains", inPlace := ["internal/abi.NoEscape", "internal/bytealg.MakeNoZero"], unfollowed := true, recurses := true, named := ["internal/strconv.uint64pow10", "math/bits.deBruijn32tab", "math/bits.deBruijn64tab"], apart := false, laid := [("math/bits.deBruijn32tab", laid_math_bits_deBruijn32tab), ("math/bits.deBruijn64tab", laid_math_bits_deBruijn64tab), ("internal/strconv.uint64pow10", laid_internal_strconv_uint64pow10)], narrowed := true }
def FoundChainsUptoSaid : Prop := foundChainsUptoRow.holds Tryd.pinned (OpenSpec.upto foundChainsSpec)

/-- 'fiacrelaw09.FoundRewards', WHERE WHAT IT READS IS OF BULK AT MOST 1048576: true; the input reads as it did. -/
def foundRewardsUptoRow : OpenClaim := { program := "ythbgghmjbaldlaadoor", sum := "d04b31bc3e995b8693b2c49b2fdc4fdefdd306b83873a18b55254098836ec27e", func := "fiacre/fiacrelaw09.FoundRewards", spec := "foundRewards", inPlace := ["internal/abi.NoEscape", "internal/bytealg.MakeNoZero"], unfollowed := true, recurses := true, named := ["internal/strconv.uint64pow10", "math/bits.deBruijn32tab", "math/bits.deBruijn64tab"], apart := false, laid := [("math/bits.deBruijn32tab", laid_math_bits_deBruijn32tab), ("math/bits.deBruijn64tab", laid_math_bits_deBruijn64tab), ("internal/strconv.uint64pow10", laid_internal_strconv_uint64pow10)], narrowed := true }
def FoundRewardsUptoSaid : Prop := foundRewardsUptoRow.holds Tryd.pinned (OpenSpec.upto foundRewardsSpec)

/-- 'fiacrelaw09.FoundStates', WHERE WHAT IT READS IS OF BULK AT MOST 1048576: true; the input reads as it did. -/
def foundStatesUptoRow : OpenClaim := { program := "ythbgghmjbaldlaadoor", sum := "d04b31bc3e995b8693b2c49b2fdc4fdefdd306b83873a18b55254098836ec27e", func := "fiacre/fiacrelaw09.FoundStates", spec := "foundStates", inPlace := ["internal/abi.NoEscape", "internal/bytealg.MakeNoZero"], unfollowed := true, recurses := true, named := ["internal/strconv.uint64pow10", "math/bits.deBruijn32tab", "math/bits.deBruijn64tab"], apart := false, laid := [("math/bits.deBruijn32tab", laid_math_bits_deBruijn32tab), ("math/bits.deBruijn64tab", laid_math_bits_deBruijn64tab), ("internal/strconv.uint64pow10", laid_internal_strconv_uint64pow10)], narrowed := true }
def FoundStatesUptoSaid : Prop := foundStatesUptoRow.holds Tryd.pinned (OpenSpec.upto foundStatesSpec)

/-- 'fiacrelaw09.FoundBeginnings', WHERE WHAT IT READS IS OF BULK AT MOST 1048576: true; the input reads as it did. -/
def foundBeginningsUptoRow : OpenClaim := { program := "ythbgghmjbaldlaadoor", sum := "d04b31bc3e995b8693b2c49b2fdc4fdefdd306b83873a18b55254098836ec27e", func := "fiacre/fiacrelaw09.FoundBeginnings", spec := "foundBeginnings", inPlace := ["internal/abi.NoEscape", "internal/bytealg.MakeNoZero"], unfollowed := true, recurses := true, named := ["internal/strconv.uint64pow10", "math/bits.deBruijn32tab", "math/bits.deBruijn64tab"], apart := false, laid := [("math/bits.deBruijn32tab", laid_math_bits_deBruijn32tab), ("math/bits.deBruijn64tab", laid_math_bits_deBruijn64tab), ("internal/strconv.uint64pow10", laid_internal_strconv_uint64pow10)], narrowed := true }
def FoundBeginningsUptoSaid : Prop := foundBeginningsUptoRow.holds Tryd.pinned (OpenSpec.upto foundBeginningsSpec)

/-- 'fiacrelaw09.FoundMarks', WHERE WHAT IT READS IS OF BULK AT MOST 1048576: true; the input reads as it did. -/
def foundMarksUptoRow : OpenClaim := { program := "ythbgghmjbaldlaadoor", sum := "d04b31bc3e995b8693b2c49b2fdc4fdefdd306b83873a18b55254098836ec27e", func := "fiacre/fiacrelaw09.FoundMarks", spec := "foundMarks", inPlace := ["internal/abi.NoEscape", "internal/bytealg.MakeNoZero"], unfollowed := true, recurses := true, named := ["internal/strconv.uint64pow10", "math/bits.deBruijn32tab", "math/bits.deBruijn64tab"], apart := false, laid := [("math/bits.deBruijn32tab", laid_math_bits_deBruijn32tab), ("math/bits.deBruijn64tab", laid_math_bits_deBruijn64tab), ("internal/strconv.uint64pow10", laid_internal_strconv_uint64pow10)], narrowed := true }
def FoundMarksUptoSaid : Prop := foundMarksUptoRow.holds Tryd.pinned (OpenSpec.upto foundMarksSpec)

/-- 'fiacrelaw09.FoundFewerMarks', WHERE WHAT IT READS IS OF BULK AT MOST 1048576: true; the input reads as it did. -/
def foundFewerMarksUptoRow : OpenClaim := { program := "ythbgghmjbaldlaadoor", sum := "d04b31bc3e995b8693b2c49b2fdc4fdefdd306b83873a18b55254098836ec27e", func := "fiacre/fiacrelaw09.FoundFewerMarks", spec := "foundFewerMarks", inPlace := ["internal/abi.NoEscape", "internal/bytealg.MakeNoZero"], unfollowed := true, recurses := true, named := ["internal/strconv.uint64pow10", "math/bits.deBruijn32tab", "math/bits.deBruijn64tab"], apart := false, laid := [("math/bits.deBruijn32tab", laid_math_bits_deBruijn32tab), ("math/bits.deBruijn64tab", laid_math_bits_deBruijn64tab), ("internal/strconv.uint64pow10", laid_internal_strconv_uint64pow10)], narrowed := true }
def FoundFewerMarksUptoSaid : Prop := foundFewerMarksUptoRow.holds Tryd.pinned (OpenSpec.upto foundFewerMarksSpec)

/-- 'fiacrelaw09.FoundCandidates', WHERE WHAT IT READS IS OF BULK AT MOST 1048576: true; the input reads as it did. -/
def foundCandidatesUptoRow : OpenClaim := { program := "ythbgghmjbaldlaadoor", sum := "d04b31bc3e995b8693b2c49b2fdc4fdefdd306b83873a18b55254098836ec27e", func := "fiacre/fiacrelaw09.FoundCandidates", spec := "foundCandidates", inPlace := ["internal/abi.NoEscape", "internal/bytealg.MakeNoZero"], unfollowed := true, recurses := true, named := ["internal/strconv.uint64pow10", "math/bits.deBruijn32tab", "math/bits.deBruijn64tab"], apart := false, laid := [("math/bits.deBruijn32tab", laid_math_bits_deBruijn32tab), ("math/bits.deBruijn64tab", laid_math_bits_deBruijn64tab), ("internal/strconv.uint64pow10", laid_internal_strconv_uint64pow10)], narrowed := true }
def FoundCandidatesUptoSaid : Prop := foundCandidatesUptoRow.holds Tryd.pinned (OpenSpec.upto foundCandidatesSpec)

/-- 'fiacrelaw09.FoundOverdues', WHERE WHAT IT READS IS OF BULK AT MOST 1048576: true; the input reads as it did. -/
def foundOverduesUptoRow : OpenClaim := { program := "ythbgghmjbaldlaadoor", sum := "d04b31bc3e995b8693b2c49b2fdc4fdefdd306b83873a18b55254098836ec27e", func := "fiacre/fiacrelaw09.FoundOverdues", spec := "foundOverdues", inPlace := ["internal/abi.NoEscape", "internal/bytealg.MakeNoZero"], unfollowed := true, recurses := true, named := ["internal/strconv.uint64pow10", "math/bits.deBruijn32tab", "math/bits.deBruijn64tab"], apart := false, laid := [("math/bits.deBruijn32tab", laid_math_bits_deBruijn32tab), ("math/bits.deBruijn64tab", laid_math_bits_deBruijn64tab), ("internal/strconv.uint64pow10", laid_internal_strconv_uint64pow10)], narrowed := true }
def FoundOverduesUptoSaid : Prop := foundOverduesUptoRow.holds Tryd.pinned (OpenSpec.upto foundOverduesSpec)

/-- 'fiacrelaw09.FoundDone', WHERE WHAT IT READS IS OF BULK AT MOST 1048576: true; the input reads as it did. -/
def foundDoneUptoRow : OpenClaim := { program := "ythbgghmjbaldlaadoor", sum := "d04b31bc3e995b8693b2c49b2fdc4fdefdd306b83873a18b55254098836ec27e", func := "fiacre/fiacrelaw09.FoundDone", spec := "foundDone", inPlace := ["internal/abi.NoEscape", "internal/bytealg.MakeNoZero"], unfollowed := true, recurses := true, named := ["internal/strconv.uint64pow10", "math/bits.deBruijn32tab", "math/bits.deBruijn64tab"], apart := false, laid := [("math/bits.deBruijn32tab", laid_math_bits_deBruijn32tab), ("math/bits.deBruijn64tab", laid_math_bits_deBruijn64tab), ("internal/strconv.uint64pow10", laid_internal_strconv_uint64pow10)], narrowed := true }
def FoundDoneUptoSaid : Prop := foundDoneUptoRow.holds Tryd.pinned (OpenSpec.upto foundDoneSpec)

/-- 'fiacrelaw09.FoundNoMore', WHERE WHAT IT READS IS OF BULK AT MOST 1048576: true; the input reads as it did. -/
def foundNoMoreUptoRow : OpenClaim := { program := "ythbgghmjbaldlaadoor", sum := "d04b31bc3e995b8693b2c49b2fdc4fdefdd306b83873a18b55254098836ec27e", func := "fiacre/fiacrelaw09.FoundNoMore", spec := "foundNoMore", inPlace := ["internal/abi.NoEscape", "internal/bytealg.MakeNoZero"], unfollowed := true, recurses := true, named := ["internal/strconv.uint64pow10", "math/bits.deBruijn32tab", "math/bits.deBruijn64tab"], apart := false, laid := [("math/bits.deBruijn32tab", laid_math_bits_deBruijn32tab), ("math/bits.deBruijn64tab", laid_math_bits_deBruijn64tab), ("internal/strconv.uint64pow10", laid_internal_strconv_uint64pow10)], narrowed := true }
def FoundNoMoreUptoSaid : Prop := foundNoMoreUptoRow.holds Tryd.pinned (OpenSpec.upto foundNoMoreSpec)

end Rows
end Go.Proofs.YthbgghmjbaldlaaDoor
