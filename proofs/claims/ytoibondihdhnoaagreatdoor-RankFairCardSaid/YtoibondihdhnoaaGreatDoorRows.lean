/-
  NARROWER THAN 'FOR EVERY INPUT', by the rows' own cells (each row's printed sentence says how): RankReplays: laid · RankSeen: laid · RankOrder: laid · RankFirst: laid · RankRulesRight: laid · RankStays: laid · RankEventTexts: laid · RankStates: laid · RankFair: laid · RankStateTexts: laid · RankApplies: laid · RankKept: laid · RankPossible: laid · RankPlaces: laid · TopRankTold: laid.
  DERIVED. THE GIVEN ROWS OF THIS SEAT. 15 by the template 'for every input the law returns true; each argument reads behind the call as it read before'; 0 by the template 'total and deterministic' (their statements: YtoibondihdhnoaaGreatDoorTotals.lean).
  GIVEN WITH THE SEED: the statements are not yours to turn. If you find one false, say at which input.
  Laid BY PROGRAM, IN A SANDBOX (cutbox-rows.mjs): the forced cells as the released guide's own fill.sh prints them over the translation f1e370e4f1f0c686… (all of the seat's roots in one cut). By AI agents, Wed Nov 11 2026. No macro, syntax, notation, axiom, sorry.
-/
import Derived.Test.YtoibondihdhnoaaGreatDoorChecked
import GoSem.PinnedTables
import GoSem.Claim
import GoSem.ClaimJoined
import GoSem.ClaimMapViews
import Derived.JoinedTies
import Derived.KernelRfl
namespace Go.Proofs.YtoibondihdhnoaaGreatDoor
/- THE CELL 'sum', in the pinned program and in every row, IS THE sha256 OF THE DUMP (.gsa) THAT YtoibondihdhnoaaGreatDoorProg.lean LOADS. Nothing in Lean hashes anything: it is a label: what it is worth is what the hold of that sum in a sandbox is worth. -/
noncomputable def Tryz.pinned : Pinned := { name := "ytoibondihdhnoaagreatdoor", sum := "f1e370e4f1f0c6860f8b8a84e2edabd90c0b4352502bcfd822c9896facc278da", checked := Tryz.checked }
namespace Rows
def none {H : Type} : Left H := { results := [], args := [] }

/- WHAT THE LISTED PACKAGE-LEVEL VARIABLES READ AS WHEN THE CALL BEGINS. Each datum BY PROGRAM (the guide's laid-datum.mjs) off the statement by which the dump's own 'gosem.cut.vars' lays the variable. In a bare row this is a premise. The card (YtoibondihdhnoaaGreatDoorCards.lean) ties it to the program's text. -/
def laid_math_bits_deBruijn32tab {H : Type} : DataW H := .agg [.lit (.int .u8 0), .lit (.int .u8 1), .lit (.int .u8 28), .lit (.int .u8 2), .lit (.int .u8 29), .lit (.int .u8 14), .lit (.int .u8 24), .lit (.int .u8 3), .lit (.int .u8 30), .lit (.int .u8 22), .lit (.int .u8 20), .lit (.int .u8 15), .lit (.int .u8 25), .lit (.int .u8 17), .lit (.int .u8 4), .lit (.int .u8 8), .lit (.int .u8 31), .lit (.int .u8 27), .lit (.int .u8 13), .lit (.int .u8 23), .lit (.int .u8 21), .lit (.int .u8 19), .lit (.int .u8 16), .lit (.int .u8 7), .lit (.int .u8 26), .lit (.int .u8 12), .lit (.int .u8 18), .lit (.int .u8 6), .lit (.int .u8 11), .lit (.int .u8 5), .lit (.int .u8 10), .lit (.int .u8 9)]
def laid_math_bits_deBruijn64tab {H : Type} : DataW H := .agg [.lit (.int .u8 0), .lit (.int .u8 1), .lit (.int .u8 56), .lit (.int .u8 2), .lit (.int .u8 57), .lit (.int .u8 49), .lit (.int .u8 28), .lit (.int .u8 3), .lit (.int .u8 61), .lit (.int .u8 58), .lit (.int .u8 42), .lit (.int .u8 50), .lit (.int .u8 38), .lit (.int .u8 29), .lit (.int .u8 17), .lit (.int .u8 4), .lit (.int .u8 62), .lit (.int .u8 47), .lit (.int .u8 59), .lit (.int .u8 36), .lit (.int .u8 45), .lit (.int .u8 43), .lit (.int .u8 51), .lit (.int .u8 22), .lit (.int .u8 53), .lit (.int .u8 39), .lit (.int .u8 33), .lit (.int .u8 30), .lit (.int .u8 24), .lit (.int .u8 18), .lit (.int .u8 12), .lit (.int .u8 5), .lit (.int .u8 63), .lit (.int .u8 55), .lit (.int .u8 48), .lit (.int .u8 27), .lit (.int .u8 60), .lit (.int .u8 41), .lit (.int .u8 37), .lit (.int .u8 16), .lit (.int .u8 46), .lit (.int .u8 35), .lit (.int .u8 44), .lit (.int .u8 21), .lit (.int .u8 52), .lit (.int .u8 32), .lit (.int .u8 23), .lit (.int .u8 11), .lit (.int .u8 54), .lit (.int .u8 26), .lit (.int .u8 40), .lit (.int .u8 15), .lit (.int .u8 34), .lit (.int .u8 20), .lit (.int .u8 31), .lit (.int .u8 10), .lit (.int .u8 25), .lit (.int .u8 14), .lit (.int .u8 19), .lit (.int .u8 9), .lit (.int .u8 13), .lit (.int .u8 8), .lit (.int .u8 7), .lit (.int .u8 6)]
def laid_internal_strconv_uint64pow10 {H : Type} : DataW H := .agg [.lit (.int .u64 1), .lit (.int .u64 10), .lit (.int .u64 100), .lit (.int .u64 1000), .lit (.int .u64 10000), .lit (.int .u64 100000), .lit (.int .u64 1000000), .lit (.int .u64 10000000), .lit (.int .u64 100000000), .lit (.int .u64 1000000000), .lit (.int .u64 10000000000), .lit (.int .u64 100000000000), .lit (.int .u64 1000000000000), .lit (.int .u64 10000000000000), .lit (.int .u64 100000000000000), .lit (.int .u64 1000000000000000), .lit (.int .u64 10000000000000000), .lit (.int .u64 100000000000000000), .lit (.int .u64 1000000000000000000), .lit (.int .u64 10000000000000000000)]
def laid_unicode_utf8_acceptRanges {H : Type} : DataW H := .agg [.agg [.lit (.int .u8 128), .lit (.int .u8 191)], .agg [.lit (.int .u8 160), .lit (.int .u8 191)], .agg [.lit (.int .u8 128), .lit (.int .u8 159)], .agg [.lit (.int .u8 144), .lit (.int .u8 191)], .agg [.lit (.int .u8 128), .lit (.int .u8 143)], .agg [.lit (.int .u8 0), .lit (.int .u8 0)], .agg [.lit (.int .u8 0), .lit (.int .u8 0)], .agg [.lit (.int .u8 0), .lit (.int .u8 0)], .agg [.lit (.int .u8 0), .lit (.int .u8 0)], .agg [.lit (.int .u8 0), .lit (.int .u8 0)], .agg [.lit (.int .u8 0), .lit (.int .u8 0)], .agg [.lit (.int .u8 0), .lit (.int .u8 0)], .agg [.lit (.int .u8 0), .lit (.int .u8 0)], .agg [.lit (.int .u8 0), .lit (.int .u8 0)], .agg [.lit (.int .u8 0), .lit (.int .u8 0)], .agg [.lit (.int .u8 0), .lit (.int .u8 0)]]
def laid_strconv_ErrRange {H : Type} : DataW H := .iface "*errors.errorString" (.ptr (.agg [.lit (.string [118, 97, 108, 117, 101, 32, 111, 117, 116, 32, 111, 102, 32, 114, 97, 110, 103, 101])]))
def laid_strconv_ErrSyntax {H : Type} : DataW H := .iface "*errors.errorString" (.ptr (.agg [.lit (.string [105, 110, 118, 97, 108, 105, 100, 32, 115, 121, 110, 116, 97, 120])]))
def laid_fiacre_rank_kinds {H : Type} : DataW H := .iface "func table" (.agg [.agg [.lit (.string [97, 114, 114, 105, 118, 101]), .iface "func" (.lit (.string [40, 42, 102, 105, 97, 99, 114, 101, 47, 114, 97, 110, 107, 46, 116, 111, 119, 110, 41, 46, 97, 114, 114, 105, 118, 101]))], .agg [.lit (.string [115, 101, 114, 118, 101]), .iface "func" (.lit (.string [40, 42, 102, 105, 97, 99, 114, 101, 47, 114, 97, 110, 107, 46, 116, 111, 119, 110, 41, 46, 115, 101, 114, 118, 101]))], .agg [.lit (.string [100, 101, 99, 108, 105, 110, 101]), .iface "func" (.lit (.string [40, 42, 102, 105, 97, 99, 114, 101, 47, 114, 97, 110, 107, 46, 116, 111, 119, 110, 41, 46, 100, 101, 99, 108, 105, 110, 101]))], .agg [.lit (.string [108, 101, 97, 118, 101]), .iface "func" (.lit (.string [40, 42, 102, 105, 97, 99, 114, 101, 47, 114, 97, 110, 107, 46, 116, 111, 119, 110, 41, 46, 108, 101, 97, 118, 101]))], .agg [.lit (.string [99, 97, 108, 108]), .iface "func" (.lit (.string [40, 42, 102, 105, 97, 99, 114, 101, 47, 114, 97, 110, 107, 46, 116, 111, 119, 110, 41, 46, 99, 97, 108, 108]))], .agg [.lit (.string [114, 101, 116, 117, 114, 110]), .iface "func" (.lit (.string [40, 42, 102, 105, 97, 99, 114, 101, 47, 114, 97, 110, 107, 46, 116, 111, 119, 110, 41, 46, 98, 97, 99, 107]))]])
/-- One of Go's own tables, pinned by name: the form's constant. -/
def laid_unicode_utf8_first : DataW Unit := Go.Pinned.utf8First

/-- 'fiacrelaw04.RankReplays': WHATEVER THE INPUT: true; the input reads as it did. -/
def rankReplaysSpec : ChangeSpec := { name := "rankReplays", fn := fun _ => fun
  | [d1, d2] => { results := [.lit (.bool true)], args := [d1, d2] }
  | _ => none }
def rankReplaysRow : OpenClaim := { program := "ytoibondihdhnoaagreatdoor", sum := "f1e370e4f1f0c6860f8b8a84e2edabd90c0b4352502bcfd822c9896facc278da", func := "fiacre/fiacrelaw04.RankReplays", spec := "rankReplays", inPlace := ["internal/bytealg.CountString", "internal/bytealg.IndexByteString", "internal/bytealg.IndexString", "internal/abi.NoEscape", "internal/bytealg.MakeNoZero"], unfollowed := true, recurses := true, named := ["fiacre/rank.kinds", "unicode/utf8.first", "unicode/utf8.acceptRanges", "internal/bytealg.MaxLen", "strconv.ErrSyntax", "strconv.ErrRange", "internal/strconv.uint64pow10", "math/bits.deBruijn32tab", "math/bits.deBruijn64tab"], apart := false, laid := [("math/bits.deBruijn32tab", laid_math_bits_deBruijn32tab), ("math/bits.deBruijn64tab", laid_math_bits_deBruijn64tab), ("internal/strconv.uint64pow10", laid_internal_strconv_uint64pow10), ("unicode/utf8.acceptRanges", laid_unicode_utf8_acceptRanges), ("strconv.ErrRange", laid_strconv_ErrRange), ("strconv.ErrSyntax", laid_strconv_ErrSyntax), ("fiacre/rank.kinds", laid_fiacre_rank_kinds), ("unicode/utf8.first", laid_unicode_utf8_first)] }
def RankReplaysSaid : Prop := rankReplaysRow.holds Tryz.pinned (OpenSpec.ofChange rankReplaysSpec)

/-- ITS FALSE NEIGHBOUR: 'it returns false'. Refute it at one input. -/
def rankReplaysWrong : ChangeSpec := { name := "rankReplays", fn := fun _ => fun
  | [d1, d2] => { results := [.lit (.bool false)], args := [d1, d2] }
  | _ => none }
def RankReplaysWrongFalsely : Prop := rankReplaysRow.holds Tryz.pinned (OpenSpec.ofChange rankReplaysWrong)

/-- 'fiacrelaw04.RankSeen': WHATEVER THE INPUT: true; the input reads as it did. -/
def rankSeenSpec : ChangeSpec := { name := "rankSeen", fn := fun _ => fun
  | [d] => { results := [.lit (.bool true)], args := [d] }
  | _ => none }
def rankSeenRow : OpenClaim := { program := "ytoibondihdhnoaagreatdoor", sum := "f1e370e4f1f0c6860f8b8a84e2edabd90c0b4352502bcfd822c9896facc278da", func := "fiacre/fiacrelaw04.RankSeen", spec := "rankSeen", inPlace := ["internal/bytealg.CountString", "internal/bytealg.IndexByteString", "internal/bytealg.IndexString", "internal/abi.NoEscape", "internal/bytealg.MakeNoZero"], unfollowed := true, recurses := true, named := ["fiacre/rank.kinds", "unicode/utf8.first", "unicode/utf8.acceptRanges", "internal/bytealg.MaxLen", "strconv.ErrSyntax", "strconv.ErrRange", "internal/strconv.uint64pow10", "math/bits.deBruijn32tab", "math/bits.deBruijn64tab"], apart := false, laid := [("math/bits.deBruijn32tab", laid_math_bits_deBruijn32tab), ("math/bits.deBruijn64tab", laid_math_bits_deBruijn64tab), ("internal/strconv.uint64pow10", laid_internal_strconv_uint64pow10), ("unicode/utf8.acceptRanges", laid_unicode_utf8_acceptRanges), ("strconv.ErrRange", laid_strconv_ErrRange), ("strconv.ErrSyntax", laid_strconv_ErrSyntax), ("fiacre/rank.kinds", laid_fiacre_rank_kinds), ("unicode/utf8.first", laid_unicode_utf8_first)] }
def RankSeenSaid : Prop := rankSeenRow.holds Tryz.pinned (OpenSpec.ofChange rankSeenSpec)

/-- ITS FALSE NEIGHBOUR: 'it returns false'. Refute it at one input. -/
def rankSeenWrong : ChangeSpec := { name := "rankSeen", fn := fun _ => fun
  | [d] => { results := [.lit (.bool false)], args := [d] }
  | _ => none }
def RankSeenWrongFalsely : Prop := rankSeenRow.holds Tryz.pinned (OpenSpec.ofChange rankSeenWrong)

/-- 'fiacrelaw04.RankOrder': WHATEVER THE INPUT: true; the input reads as it did. -/
def rankOrderSpec : ChangeSpec := { name := "rankOrder", fn := fun _ => fun
  | [d1, d2] => { results := [.lit (.bool true)], args := [d1, d2] }
  | _ => none }
def rankOrderRow : OpenClaim := { program := "ytoibondihdhnoaagreatdoor", sum := "f1e370e4f1f0c6860f8b8a84e2edabd90c0b4352502bcfd822c9896facc278da", func := "fiacre/fiacrelaw04.RankOrder", spec := "rankOrder", inPlace := ["internal/bytealg.CountString", "internal/bytealg.IndexByteString", "internal/bytealg.IndexString", "internal/abi.NoEscape", "internal/bytealg.MakeNoZero"], unfollowed := true, recurses := true, named := ["fiacre/rank.kinds", "unicode/utf8.first", "unicode/utf8.acceptRanges", "internal/bytealg.MaxLen", "strconv.ErrSyntax", "strconv.ErrRange", "internal/strconv.uint64pow10", "math/bits.deBruijn32tab", "math/bits.deBruijn64tab"], apart := false, laid := [("math/bits.deBruijn32tab", laid_math_bits_deBruijn32tab), ("math/bits.deBruijn64tab", laid_math_bits_deBruijn64tab), ("internal/strconv.uint64pow10", laid_internal_strconv_uint64pow10), ("unicode/utf8.acceptRanges", laid_unicode_utf8_acceptRanges), ("strconv.ErrRange", laid_strconv_ErrRange), ("strconv.ErrSyntax", laid_strconv_ErrSyntax), ("fiacre/rank.kinds", laid_fiacre_rank_kinds), ("unicode/utf8.first", laid_unicode_utf8_first)] }
def RankOrderSaid : Prop := rankOrderRow.holds Tryz.pinned (OpenSpec.ofChange rankOrderSpec)

/-- ITS FALSE NEIGHBOUR: 'it returns false'. Refute it at one input. -/
def rankOrderWrong : ChangeSpec := { name := "rankOrder", fn := fun _ => fun
  | [d1, d2] => { results := [.lit (.bool false)], args := [d1, d2] }
  | _ => none }
def RankOrderWrongFalsely : Prop := rankOrderRow.holds Tryz.pinned (OpenSpec.ofChange rankOrderWrong)

/-- 'fiacrelaw04.RankFirst': WHATEVER THE INPUT: true; the input reads as it did. -/
def rankFirstSpec : ChangeSpec := { name := "rankFirst", fn := fun _ => fun
  | [d1, d2, d3] => { results := [.lit (.bool true)], args := [d1, d2, d3] }
  | _ => none }
def rankFirstRow : OpenClaim := { program := "ytoibondihdhnoaagreatdoor", sum := "f1e370e4f1f0c6860f8b8a84e2edabd90c0b4352502bcfd822c9896facc278da", func := "fiacre/fiacrelaw04.RankFirst", spec := "rankFirst", inPlace := ["internal/bytealg.CountString", "internal/bytealg.IndexByteString", "internal/bytealg.IndexString", "internal/abi.NoEscape", "internal/bytealg.MakeNoZero"], unfollowed := true, recurses := true, named := ["fiacre/rank.kinds", "unicode/utf8.first", "unicode/utf8.acceptRanges", "internal/bytealg.MaxLen", "strconv.ErrSyntax", "strconv.ErrRange", "internal/strconv.uint64pow10", "math/bits.deBruijn32tab", "math/bits.deBruijn64tab"], apart := false, laid := [("math/bits.deBruijn32tab", laid_math_bits_deBruijn32tab), ("math/bits.deBruijn64tab", laid_math_bits_deBruijn64tab), ("internal/strconv.uint64pow10", laid_internal_strconv_uint64pow10), ("unicode/utf8.acceptRanges", laid_unicode_utf8_acceptRanges), ("strconv.ErrRange", laid_strconv_ErrRange), ("strconv.ErrSyntax", laid_strconv_ErrSyntax), ("fiacre/rank.kinds", laid_fiacre_rank_kinds), ("unicode/utf8.first", laid_unicode_utf8_first)] }
def RankFirstSaid : Prop := rankFirstRow.holds Tryz.pinned (OpenSpec.ofChange rankFirstSpec)

/-- ITS FALSE NEIGHBOUR: 'it returns false'. Refute it at one input. -/
def rankFirstWrong : ChangeSpec := { name := "rankFirst", fn := fun _ => fun
  | [d1, d2, d3] => { results := [.lit (.bool false)], args := [d1, d2, d3] }
  | _ => none }
def RankFirstWrongFalsely : Prop := rankFirstRow.holds Tryz.pinned (OpenSpec.ofChange rankFirstWrong)

/-- 'fiacrelaw04.RankRulesRight': WHATEVER THE INPUT: true; the input reads as it did. -/
def rankRulesRightSpec : ChangeSpec := { name := "rankRulesRight", fn := fun _ => fun
  | [d] => { results := [.lit (.bool true)], args := [d] }
  | _ => none }
def rankRulesRightRow : OpenClaim := { program := "ytoibondihdhnoaagreatdoor", sum := "f1e370e4f1f0c6860f8b8a84e2edabd90c0b4352502bcfd822c9896facc278da", func := "fiacre/fiacrelaw04.RankRulesRight", spec := "rankRulesRight", inPlace := ["internal/bytealg.CountString", "internal/bytealg.IndexByteString", "internal/bytealg.IndexString", "internal/abi.NoEscape", "internal/bytealg.MakeNoZero"], unfollowed := true, recurses := true, named := ["fiacre/rank.kinds", "unicode/utf8.first", "unicode/utf8.acceptRanges", "internal/bytealg.MaxLen", "strconv.ErrSyntax", "strconv.ErrRange", "internal/strconv.uint64pow10", "math/bits.deBruijn32tab", "math/bits.deBruijn64tab"], apart := false, laid := [("math/bits.deBruijn32tab", laid_math_bits_deBruijn32tab), ("math/bits.deBruijn64tab", laid_math_bits_deBruijn64tab), ("internal/strconv.uint64pow10", laid_internal_strconv_uint64pow10), ("unicode/utf8.acceptRanges", laid_unicode_utf8_acceptRanges), ("strconv.ErrRange", laid_strconv_ErrRange), ("strconv.ErrSyntax", laid_strconv_ErrSyntax), ("fiacre/rank.kinds", laid_fiacre_rank_kinds), ("unicode/utf8.first", laid_unicode_utf8_first)] }
def RankRulesRightSaid : Prop := rankRulesRightRow.holds Tryz.pinned (OpenSpec.ofChange rankRulesRightSpec)

/-- ITS FALSE NEIGHBOUR: 'it returns false'. Refute it at one input. -/
def rankRulesRightWrong : ChangeSpec := { name := "rankRulesRight", fn := fun _ => fun
  | [d] => { results := [.lit (.bool false)], args := [d] }
  | _ => none }
def RankRulesRightWrongFalsely : Prop := rankRulesRightRow.holds Tryz.pinned (OpenSpec.ofChange rankRulesRightWrong)

/-- 'fiacrelaw04.RankStays': WHATEVER THE INPUT: true; the input reads as it did. -/
def rankStaysSpec : ChangeSpec := { name := "rankStays", fn := fun _ => fun
  | [d1, d2] => { results := [.lit (.bool true)], args := [d1, d2] }
  | _ => none }
def rankStaysRow : OpenClaim := { program := "ytoibondihdhnoaagreatdoor", sum := "f1e370e4f1f0c6860f8b8a84e2edabd90c0b4352502bcfd822c9896facc278da", func := "fiacre/fiacrelaw04.RankStays", spec := "rankStays", inPlace := ["internal/bytealg.CountString", "internal/bytealg.IndexByteString", "internal/bytealg.IndexString", "internal/abi.NoEscape", "internal/bytealg.MakeNoZero"], unfollowed := true, recurses := true, named := ["fiacre/rank.kinds", "unicode/utf8.first", "unicode/utf8.acceptRanges", "internal/bytealg.MaxLen", "strconv.ErrSyntax", "strconv.ErrRange", "internal/strconv.uint64pow10", "math/bits.deBruijn32tab", "math/bits.deBruijn64tab"], apart := false, laid := [("math/bits.deBruijn32tab", laid_math_bits_deBruijn32tab), ("math/bits.deBruijn64tab", laid_math_bits_deBruijn64tab), ("internal/strconv.uint64pow10", laid_internal_strconv_uint64pow10), ("unicode/utf8.acceptRanges", laid_unicode_utf8_acceptRanges), ("strconv.ErrRange", laid_strconv_ErrRange), ("strconv.ErrSyntax", laid_strconv_ErrSyntax), ("fiacre/rank.kinds", laid_fiacre_rank_kinds), ("unicode/utf8.first", laid_unicode_utf8_first)] }
def RankStaysSaid : Prop := rankStaysRow.holds Tryz.pinned (OpenSpec.ofChange rankStaysSpec)

/-- ITS FALSE NEIGHBOUR: 'it returns false'. Refute it at one input. -/
def rankStaysWrong : ChangeSpec := { name := "rankStays", fn := fun _ => fun
  | [d1, d2] => { results := [.lit (.bool false)], args := [d1, d2] }
  | _ => none }
def RankStaysWrongFalsely : Prop := rankStaysRow.holds Tryz.pinned (OpenSpec.ofChange rankStaysWrong)

/-- 'fiacrelaw04.RankEventTexts': WHATEVER THE INPUT: true; the input reads as it did. -/
def rankEventTextsSpec : ChangeSpec := { name := "rankEventTexts", fn := fun _ => fun
  | [d1, d2] => { results := [.lit (.bool true)], args := [d1, d2] }
  | _ => none }
def rankEventTextsRow : OpenClaim := { program := "ytoibondihdhnoaagreatdoor", sum := "f1e370e4f1f0c6860f8b8a84e2edabd90c0b4352502bcfd822c9896facc278da", func := "fiacre/fiacrelaw04.RankEventTexts", spec := "rankEventTexts", inPlace := ["internal/bytealg.CountString", "internal/bytealg.IndexByteString", "internal/bytealg.IndexString", "internal/abi.NoEscape", "internal/bytealg.MakeNoZero"], unfollowed := true, recurses := true, named := ["fiacre/rank.kinds", "unicode/utf8.first", "unicode/utf8.acceptRanges", "internal/bytealg.MaxLen", "strconv.ErrSyntax", "strconv.ErrRange", "internal/strconv.uint64pow10", "math/bits.deBruijn32tab", "math/bits.deBruijn64tab"], apart := false, laid := [("math/bits.deBruijn32tab", laid_math_bits_deBruijn32tab), ("math/bits.deBruijn64tab", laid_math_bits_deBruijn64tab), ("internal/strconv.uint64pow10", laid_internal_strconv_uint64pow10), ("unicode/utf8.acceptRanges", laid_unicode_utf8_acceptRanges), ("strconv.ErrRange", laid_strconv_ErrRange), ("strconv.ErrSyntax", laid_strconv_ErrSyntax), ("fiacre/rank.kinds", laid_fiacre_rank_kinds), ("unicode/utf8.first", laid_unicode_utf8_first)] }
def RankEventTextsSaid : Prop := rankEventTextsRow.holds Tryz.pinned (OpenSpec.ofChange rankEventTextsSpec)

/-- ITS FALSE NEIGHBOUR: 'it returns false'. Refute it at one input. -/
def rankEventTextsWrong : ChangeSpec := { name := "rankEventTexts", fn := fun _ => fun
  | [d1, d2] => { results := [.lit (.bool false)], args := [d1, d2] }
  | _ => none }
def RankEventTextsWrongFalsely : Prop := rankEventTextsRow.holds Tryz.pinned (OpenSpec.ofChange rankEventTextsWrong)

/-- 'fiacrelaw04.RankStates': WHATEVER THE INPUT: true; the input reads as it did. -/
def rankStatesSpec : ChangeSpec := { name := "rankStates", fn := fun _ => fun
  | [d1, d2, d3] => { results := [.lit (.bool true)], args := [d1, d2, d3] }
  | _ => none }
def rankStatesRow : OpenClaim := { program := "ytoibondihdhnoaagreatdoor", sum := "f1e370e4f1f0c6860f8b8a84e2edabd90c0b4352502bcfd822c9896facc278da", func := "fiacre/fiacrelaw04.RankStates", spec := "rankStates", inPlace := ["internal/bytealg.CountString", "internal/bytealg.IndexByteString", "internal/bytealg.IndexString", "internal/abi.NoEscape", "internal/bytealg.MakeNoZero"], unfollowed := true, recurses := true, named := ["fiacre/rank.kinds", "unicode/utf8.first", "unicode/utf8.acceptRanges", "internal/bytealg.MaxLen", "strconv.ErrSyntax", "strconv.ErrRange", "internal/strconv.uint64pow10", "math/bits.deBruijn32tab", "math/bits.deBruijn64tab"], apart := false, laid := [("math/bits.deBruijn32tab", laid_math_bits_deBruijn32tab), ("math/bits.deBruijn64tab", laid_math_bits_deBruijn64tab), ("internal/strconv.uint64pow10", laid_internal_strconv_uint64pow10), ("unicode/utf8.acceptRanges", laid_unicode_utf8_acceptRanges), ("strconv.ErrRange", laid_strconv_ErrRange), ("strconv.ErrSyntax", laid_strconv_ErrSyntax), ("fiacre/rank.kinds", laid_fiacre_rank_kinds), ("unicode/utf8.first", laid_unicode_utf8_first)] }
def RankStatesSaid : Prop := rankStatesRow.holds Tryz.pinned (OpenSpec.ofChange rankStatesSpec)

/-- ITS FALSE NEIGHBOUR: 'it returns false'. Refute it at one input. -/
def rankStatesWrong : ChangeSpec := { name := "rankStates", fn := fun _ => fun
  | [d1, d2, d3] => { results := [.lit (.bool false)], args := [d1, d2, d3] }
  | _ => none }
def RankStatesWrongFalsely : Prop := rankStatesRow.holds Tryz.pinned (OpenSpec.ofChange rankStatesWrong)

/-- 'fiacrelaw04.RankFair': WHATEVER THE INPUT: true; the input reads as it did. -/
def rankFairSpec : ChangeSpec := { name := "rankFair", fn := fun _ => fun
  | [d1, d2, d3] => { results := [.lit (.bool true)], args := [d1, d2, d3] }
  | _ => none }
def rankFairRow : OpenClaim := { program := "ytoibondihdhnoaagreatdoor", sum := "f1e370e4f1f0c6860f8b8a84e2edabd90c0b4352502bcfd822c9896facc278da", func := "fiacre/fiacrelaw04.RankFair", spec := "rankFair", inPlace := ["internal/bytealg.CountString", "internal/bytealg.IndexByteString", "internal/bytealg.IndexString", "internal/abi.NoEscape", "internal/bytealg.MakeNoZero"], unfollowed := true, recurses := true, named := ["fiacre/rank.kinds", "unicode/utf8.first", "unicode/utf8.acceptRanges", "internal/bytealg.MaxLen", "strconv.ErrSyntax", "strconv.ErrRange", "internal/strconv.uint64pow10", "math/bits.deBruijn32tab", "math/bits.deBruijn64tab"], apart := false, laid := [("math/bits.deBruijn32tab", laid_math_bits_deBruijn32tab), ("math/bits.deBruijn64tab", laid_math_bits_deBruijn64tab), ("internal/strconv.uint64pow10", laid_internal_strconv_uint64pow10), ("unicode/utf8.acceptRanges", laid_unicode_utf8_acceptRanges), ("strconv.ErrRange", laid_strconv_ErrRange), ("strconv.ErrSyntax", laid_strconv_ErrSyntax), ("fiacre/rank.kinds", laid_fiacre_rank_kinds), ("unicode/utf8.first", laid_unicode_utf8_first)] }
def RankFairSaid : Prop := rankFairRow.holds Tryz.pinned (OpenSpec.ofChange rankFairSpec)

/-- ITS FALSE NEIGHBOUR: 'it returns false'. Refute it at one input. -/
def rankFairWrong : ChangeSpec := { name := "rankFair", fn := fun _ => fun
  | [d1, d2, d3] => { results := [.lit (.bool false)], args := [d1, d2, d3] }
  | _ => none }
def RankFairWrongFalsely : Prop := rankFairRow.holds Tryz.pinned (OpenSpec.ofChange rankFairWrong)

/-- 'fiacrelaw04.RankStateTexts': WHATEVER THE INPUT: true; the input reads as it did. -/
def rankStateTextsSpec : ChangeSpec := { name := "rankStateTexts", fn := fun _ => fun
  | [d1, d2, d3] => { results := [.lit (.bool true)], args := [d1, d2, d3] }
  | _ => none }
def rankStateTextsRow : OpenClaim := { program := "ytoibondihdhnoaagreatdoor", sum := "f1e370e4f1f0c6860f8b8a84e2edabd90c0b4352502bcfd822c9896facc278da", func := "fiacre/fiacrelaw04.RankStateTexts", spec := "rankStateTexts", inPlace := ["internal/bytealg.CountString", "internal/bytealg.IndexByteString", "internal/bytealg.IndexString", "internal/abi.NoEscape", "internal/bytealg.MakeNoZero"], unfollowed := true, recurses := true, named := ["fiacre/rank.kinds", "unicode/utf8.first", "unicode/utf8.acceptRanges", "internal/bytealg.MaxLen", "strconv.ErrSyntax", "strconv.ErrRange", "internal/strconv.uint64pow10", "math/bits.deBruijn32tab", "math/bits.deBruijn64tab"], apart := false, laid := [("math/bits.deBruijn32tab", laid_math_bits_deBruijn32tab), ("math/bits.deBruijn64tab", laid_math_bits_deBruijn64tab), ("internal/strconv.uint64pow10", laid_internal_strconv_uint64pow10), ("unicode/utf8.acceptRanges", laid_unicode_utf8_acceptRanges), ("strconv.ErrRange", laid_strconv_ErrRange), ("strconv.ErrSyntax", laid_strconv_ErrSyntax), ("fiacre/rank.kinds", laid_fiacre_rank_kinds), ("unicode/utf8.first", laid_unicode_utf8_first)] }
def RankStateTextsSaid : Prop := rankStateTextsRow.holds Tryz.pinned (OpenSpec.ofChange rankStateTextsSpec)

/-- ITS FALSE NEIGHBOUR: 'it returns false'. Refute it at one input. -/
def rankStateTextsWrong : ChangeSpec := { name := "rankStateTexts", fn := fun _ => fun
  | [d1, d2, d3] => { results := [.lit (.bool false)], args := [d1, d2, d3] }
  | _ => none }
def RankStateTextsWrongFalsely : Prop := rankStateTextsRow.holds Tryz.pinned (OpenSpec.ofChange rankStateTextsWrong)

/-- 'fiacrelaw04.RankApplies': WHATEVER THE INPUT: true; the input reads as it did. -/
def rankAppliesSpec : ChangeSpec := { name := "rankApplies", fn := fun _ => fun
  | [d1, d2, d3] => { results := [.lit (.bool true)], args := [d1, d2, d3] }
  | _ => none }
def rankAppliesRow : OpenClaim := { program := "ytoibondihdhnoaagreatdoor", sum := "f1e370e4f1f0c6860f8b8a84e2edabd90c0b4352502bcfd822c9896facc278da", func := "fiacre/fiacrelaw04.RankApplies", spec := "rankApplies", inPlace := ["internal/bytealg.CountString", "internal/bytealg.IndexByteString", "internal/bytealg.IndexString", "internal/abi.NoEscape", "internal/bytealg.MakeNoZero"], unfollowed := true, recurses := true, named := ["fiacre/rank.kinds", "unicode/utf8.first", "unicode/utf8.acceptRanges", "internal/bytealg.MaxLen", "strconv.ErrSyntax", "strconv.ErrRange", "internal/strconv.uint64pow10", "math/bits.deBruijn32tab", "math/bits.deBruijn64tab"], apart := false, laid := [("math/bits.deBruijn32tab", laid_math_bits_deBruijn32tab), ("math/bits.deBruijn64tab", laid_math_bits_deBruijn64tab), ("internal/strconv.uint64pow10", laid_internal_strconv_uint64pow10), ("unicode/utf8.acceptRanges", laid_unicode_utf8_acceptRanges), ("strconv.ErrRange", laid_strconv_ErrRange), ("strconv.ErrSyntax", laid_strconv_ErrSyntax), ("fiacre/rank.kinds", laid_fiacre_rank_kinds), ("unicode/utf8.first", laid_unicode_utf8_first)] }
def RankAppliesSaid : Prop := rankAppliesRow.holds Tryz.pinned (OpenSpec.ofChange rankAppliesSpec)

/-- ITS FALSE NEIGHBOUR: 'it returns false'. Refute it at one input. -/
def rankAppliesWrong : ChangeSpec := { name := "rankApplies", fn := fun _ => fun
  | [d1, d2, d3] => { results := [.lit (.bool false)], args := [d1, d2, d3] }
  | _ => none }
def RankAppliesWrongFalsely : Prop := rankAppliesRow.holds Tryz.pinned (OpenSpec.ofChange rankAppliesWrong)

/-- 'fiacrelaw04.RankKept': WHATEVER THE INPUT: true; the input reads as it did. -/
def rankKeptSpec : ChangeSpec := { name := "rankKept", fn := fun _ => fun
  | [d1, d2, d3] => { results := [.lit (.bool true)], args := [d1, d2, d3] }
  | _ => none }
def rankKeptRow : OpenClaim := { program := "ytoibondihdhnoaagreatdoor", sum := "f1e370e4f1f0c6860f8b8a84e2edabd90c0b4352502bcfd822c9896facc278da", func := "fiacre/fiacrelaw04.RankKept", spec := "rankKept", inPlace := ["internal/bytealg.CountString", "internal/bytealg.IndexByteString", "internal/bytealg.IndexString", "internal/abi.NoEscape", "internal/bytealg.MakeNoZero"], unfollowed := true, recurses := true, named := ["fiacre/rank.kinds", "unicode/utf8.first", "unicode/utf8.acceptRanges", "internal/bytealg.MaxLen", "strconv.ErrSyntax", "strconv.ErrRange", "internal/strconv.uint64pow10", "math/bits.deBruijn32tab", "math/bits.deBruijn64tab"], apart := false, laid := [("math/bits.deBruijn32tab", laid_math_bits_deBruijn32tab), ("math/bits.deBruijn64tab", laid_math_bits_deBruijn64tab), ("internal/strconv.uint64pow10", laid_internal_strconv_uint64pow10), ("unicode/utf8.acceptRanges", laid_unicode_utf8_acceptRanges), ("strconv.ErrRange", laid_strconv_ErrRange), ("strconv.ErrSyntax", laid_strconv_ErrSyntax), ("fiacre/rank.kinds", laid_fiacre_rank_kinds), ("unicode/utf8.first", laid_unicode_utf8_first)] }
def RankKeptSaid : Prop := rankKeptRow.holds Tryz.pinned (OpenSpec.ofChange rankKeptSpec)

/-- ITS FALSE NEIGHBOUR: 'it returns false'. Refute it at one input. -/
def rankKeptWrong : ChangeSpec := { name := "rankKept", fn := fun _ => fun
  | [d1, d2, d3] => { results := [.lit (.bool false)], args := [d1, d2, d3] }
  | _ => none }
def RankKeptWrongFalsely : Prop := rankKeptRow.holds Tryz.pinned (OpenSpec.ofChange rankKeptWrong)

/-- 'fiacrelaw04.RankPossible': WHATEVER THE INPUT: true; the input reads as it did. -/
def rankPossibleSpec : ChangeSpec := { name := "rankPossible", fn := fun _ => fun
  | [d1, d2, d3] => { results := [.lit (.bool true)], args := [d1, d2, d3] }
  | _ => none }
def rankPossibleRow : OpenClaim := { program := "ytoibondihdhnoaagreatdoor", sum := "f1e370e4f1f0c6860f8b8a84e2edabd90c0b4352502bcfd822c9896facc278da", func := "fiacre/fiacrelaw04.RankPossible", spec := "rankPossible", inPlace := ["internal/bytealg.CountString", "internal/bytealg.IndexByteString", "internal/bytealg.IndexString", "internal/abi.NoEscape", "internal/bytealg.MakeNoZero"], unfollowed := true, recurses := true, named := ["fiacre/rank.kinds", "unicode/utf8.first", "unicode/utf8.acceptRanges", "internal/bytealg.MaxLen", "strconv.ErrSyntax", "strconv.ErrRange", "internal/strconv.uint64pow10", "math/bits.deBruijn32tab", "math/bits.deBruijn64tab"], apart := false, laid := [("math/bits.deBruijn32tab", laid_math_bits_deBruijn32tab), ("math/bits.deBruijn64tab", laid_math_bits_deBruijn64tab), ("internal/strconv.uint64pow10", laid_internal_strconv_uint64pow10), ("unicode/utf8.acceptRanges", laid_unicode_utf8_acceptRanges), ("strconv.ErrRange", laid_strconv_ErrRange), ("strconv.ErrSyntax", laid_strconv_ErrSyntax), ("fiacre/rank.kinds", laid_fiacre_rank_kinds), ("unicode/utf8.first", laid_unicode_utf8_first)] }
def RankPossibleSaid : Prop := rankPossibleRow.holds Tryz.pinned (OpenSpec.ofChange rankPossibleSpec)

/-- ITS FALSE NEIGHBOUR: 'it returns false'. Refute it at one input. -/
def rankPossibleWrong : ChangeSpec := { name := "rankPossible", fn := fun _ => fun
  | [d1, d2, d3] => { results := [.lit (.bool false)], args := [d1, d2, d3] }
  | _ => none }
def RankPossibleWrongFalsely : Prop := rankPossibleRow.holds Tryz.pinned (OpenSpec.ofChange rankPossibleWrong)

/-- 'fiacrelaw04.RankPlaces': WHATEVER THE INPUT: true; the input reads as it did. -/
def rankPlacesSpec : ChangeSpec := { name := "rankPlaces", fn := fun _ => fun
  | [d1, d2, d3] => { results := [.lit (.bool true)], args := [d1, d2, d3] }
  | _ => none }
def rankPlacesRow : OpenClaim := { program := "ytoibondihdhnoaagreatdoor", sum := "f1e370e4f1f0c6860f8b8a84e2edabd90c0b4352502bcfd822c9896facc278da", func := "fiacre/fiacrelaw04.RankPlaces", spec := "rankPlaces", inPlace := ["internal/bytealg.CountString", "internal/bytealg.IndexByteString", "internal/bytealg.IndexString", "internal/abi.NoEscape", "internal/bytealg.MakeNoZero"], unfollowed := true, recurses := true, named := ["fiacre/rank.kinds", "unicode/utf8.first", "unicode/utf8.acceptRanges", "internal/bytealg.MaxLen", "strconv.ErrSyntax", "strconv.ErrRange", "internal/strconv.uint64pow10", "math/bits.deBruijn32tab", "math/bits.deBruijn64tab"], apart := false, laid := [("math/bits.deBruijn32tab", laid_math_bits_deBruijn32tab), ("math/bits.deBruijn64tab", laid_math_bits_deBruijn64tab), ("internal/strconv.uint64pow10", laid_internal_strconv_uint64pow10), ("unicode/utf8.acceptRanges", laid_unicode_utf8_acceptRanges), ("strconv.ErrRange", laid_strconv_ErrRange), ("strconv.ErrSyntax", laid_strconv_ErrSyntax), ("fiacre/rank.kinds", laid_fiacre_rank_kinds), ("unicode/utf8.first", laid_unicode_utf8_first)] }
def RankPlacesSaid : Prop := rankPlacesRow.holds Tryz.pinned (OpenSpec.ofChange rankPlacesSpec)

/-- ITS FALSE NEIGHBOUR: 'it returns false'. Refute it at one input. -/
def rankPlacesWrong : ChangeSpec := { name := "rankPlaces", fn := fun _ => fun
  | [d1, d2, d3] => { results := [.lit (.bool false)], args := [d1, d2, d3] }
  | _ => none }
def RankPlacesWrongFalsely : Prop := rankPlacesRow.holds Tryz.pinned (OpenSpec.ofChange rankPlacesWrong)

/-- 'fiacretop.TopRankTold': WHATEVER THE INPUT: true; the input reads as it did. -/
def topRankToldSpec : ChangeSpec := { name := "topRankTold", fn := fun _ => fun
  | [d1, d2, d3] => { results := [.lit (.bool true)], args := [d1, d2, d3] }
  | _ => none }
def topRankToldRow : OpenClaim := { program := "ytoibondihdhnoaagreatdoor", sum := "f1e370e4f1f0c6860f8b8a84e2edabd90c0b4352502bcfd822c9896facc278da", func := "fiacre/fiacretop.TopRankTold", spec := "topRankTold", inPlace := ["internal/abi.NoEscape", "internal/bytealg.MakeNoZero", "internal/bytealg.CountString", "internal/bytealg.IndexByteString", "internal/bytealg.IndexString"], unfollowed := true, recurses := true, named := ["fiacre/rank.kinds", "internal/strconv.uint64pow10", "math/bits.deBruijn32tab", "math/bits.deBruijn64tab", "unicode/utf8.first", "unicode/utf8.acceptRanges", "internal/bytealg.MaxLen", "strconv.ErrSyntax", "strconv.ErrRange"], apart := false, laid := [("math/bits.deBruijn32tab", laid_math_bits_deBruijn32tab), ("math/bits.deBruijn64tab", laid_math_bits_deBruijn64tab), ("internal/strconv.uint64pow10", laid_internal_strconv_uint64pow10), ("unicode/utf8.acceptRanges", laid_unicode_utf8_acceptRanges), ("strconv.ErrRange", laid_strconv_ErrRange), ("strconv.ErrSyntax", laid_strconv_ErrSyntax), ("fiacre/rank.kinds", laid_fiacre_rank_kinds), ("unicode/utf8.first", laid_unicode_utf8_first)] }
def TopRankToldSaid : Prop := topRankToldRow.holds Tryz.pinned (OpenSpec.ofChange topRankToldSpec)

/-- ITS FALSE NEIGHBOUR: 'it returns false'. Refute it at one input. -/
def topRankToldWrong : ChangeSpec := { name := "topRankTold", fn := fun _ => fun
  | [d1, d2, d3] => { results := [.lit (.bool false)], args := [d1, d2, d3] }
  | _ => none }
def TopRankToldWrongFalsely : Prop := topRankToldRow.holds Tryz.pinned (OpenSpec.ofChange topRankToldWrong)

/- THE SECOND FORM. 'bulk': how many values and letters a reading holds, each counted each time it is reached (what is shared counts as often as it is met; a slice's spare places count too). A statement '..UptoSaid' is the law's where the arguments, and the package variables that the reading takes, are together of bulk at most 1048576: NARROWER than '..Said'. Prove '..Said' where nothing that the law and all that it calls make is longer than what came in: it says more and counts as full. Else prove '..UptoSaid'. A law counts once. -/
mutual
def uptoBulk {H : Type} : DataW H → Nat
  | .lit (.string bytes) => bytes.length + 1
  | .lit _ => 1
  | .nil => 1
  | .ptr d => uptoBulk d + 1
  | .slice elems spare => uptoBulkAll elems + uptoBulkAll spare + 1
  | .agg parts => uptoBulkAll parts + 1
  | .iface _ d => uptoBulk d + 1
  | .map entries => uptoBulkEntries entries + 1
  | .held _ => 1
def uptoBulkAll {H : Type} : List (DataW H) → Nat
  | [] => 0
  | d :: r => uptoBulk d + uptoBulkAll r
def uptoBulkEntries {H : Type} : List (Lit × DataW H) → Nat
  | [] => 0
  | x :: r => uptoBulkEntry x + uptoBulkEntries r
def uptoBulkEntry {H : Type} : Lit × DataW H → Nat
  | (.string bytes, d) => bytes.length + uptoBulk d + 1
  | (_, d) => uptoBulk d + 1
 end
def uptoSmall : (H : Type) → List (DataW H) → Bool := fun _ ds => decide (uptoBulkAll ds ≤ 1048576)
def OpenSpec.upto (s : _root_.Go.ChangeSpec) : _root_.Go.OpenSpec := { _root_.Go.OpenSpec.ofChange s with cond := some uptoSmall }

/-- 'fiacrelaw04.RankReplays', WHERE WHAT IT READS IS OF BULK AT MOST 1048576: true; the input reads as it did. -/
def rankReplaysUptoRow : OpenClaim := { program := "ytoibondihdhnoaagreatdoor", sum := "f1e370e4f1f0c6860f8b8a84e2edabd90c0b4352502bcfd822c9896facc278da", func := "fiacre/fiacrelaw04.RankReplays", spec := "rankReplays", inPlace := ["internal/bytealg.CountString", "internal/bytealg.IndexByteString", "internal/bytealg.IndexString", "internal/abi.NoEscape", "internal/bytealg.MakeNoZero"], unfollowed := true, recurses := true, named := ["fiacre/rank.kinds", "unicode/utf8.first", "unicode/utf8.acceptRanges", "internal/bytealg.MaxLen", "strconv.ErrSyntax", "strconv.ErrRange", "internal/strconv.uint64pow10", "math/bits.deBruijn32tab", "math/bits.deBruijn64tab"], apart := false, laid := [("math/bits.deBruijn32tab", laid_math_bits_deBruijn32tab), ("math/bits.deBruijn64tab", laid_math_bits_deBruijn64tab), ("internal/strconv.uint64pow10", laid_internal_strconv_uint64pow10), ("unicode/utf8.acceptRanges", laid_unicode_utf8_acceptRanges), ("strconv.ErrRange", laid_strconv_ErrRange), ("strconv.ErrSyntax", laid_strconv_ErrSyntax), ("fiacre/rank.kinds", laid_fiacre_rank_kinds), ("unicode/utf8.first", laid_unicode_utf8_first)], narrowed := true }
def RankReplaysUptoSaid : Prop := rankReplaysUptoRow.holds Tryz.pinned (OpenSpec.upto rankReplaysSpec)

/-- 'fiacrelaw04.RankSeen', WHERE WHAT IT READS IS OF BULK AT MOST 1048576: true; the input reads as it did. -/
def rankSeenUptoRow : OpenClaim := { program := "ytoibondihdhnoaagreatdoor", sum := "f1e370e4f1f0c6860f8b8a84e2edabd90c0b4352502bcfd822c9896facc278da", func := "fiacre/fiacrelaw04.RankSeen", spec := "rankSeen", inPlace := ["internal/bytealg.CountString", "internal/bytealg.IndexByteString", "internal/bytealg.IndexString", "internal/abi.NoEscape", "internal/bytealg.MakeNoZero"], unfollowed := true, recurses := true, named := ["fiacre/rank.kinds", "unicode/utf8.first", "unicode/utf8.acceptRanges", "internal/bytealg.MaxLen", "strconv.ErrSyntax", "strconv.ErrRange", "internal/strconv.uint64pow10", "math/bits.deBruijn32tab", "math/bits.deBruijn64tab"], apart := false, laid := [("math/bits.deBruijn32tab", laid_math_bits_deBruijn32tab), ("math/bits.deBruijn64tab", laid_math_bits_deBruijn64tab), ("internal/strconv.uint64pow10", laid_internal_strconv_uint64pow10), ("unicode/utf8.acceptRanges", laid_unicode_utf8_acceptRanges), ("strconv.ErrRange", laid_strconv_ErrRange), ("strconv.ErrSyntax", laid_strconv_ErrSyntax), ("fiacre/rank.kinds", laid_fiacre_rank_kinds), ("unicode/utf8.first", laid_unicode_utf8_first)], narrowed := true }
def RankSeenUptoSaid : Prop := rankSeenUptoRow.holds Tryz.pinned (OpenSpec.upto rankSeenSpec)

/-- 'fiacrelaw04.RankOrder', WHERE WHAT IT READS IS OF BULK AT MOST 1048576: true; the input reads as it did. -/
def rankOrderUptoRow : OpenClaim := { program := "ytoibondihdhnoaagreatdoor", sum := "f1e370e4f1f0c6860f8b8a84e2edabd90c0b4352502bcfd822c9896facc278da", func := "fiacre/fiacrelaw04.RankOrder", spec := "rankOrder", inPlace := ["internal/bytealg.CountString", "internal/bytealg.IndexByteString", "internal/bytealg.IndexString", "internal/abi.NoEscape", "internal/bytealg.MakeNoZero"], unfollowed := true, recurses := true, named := ["fiacre/rank.kinds", "unicode/utf8.first", "unicode/utf8.acceptRanges", "internal/bytealg.MaxLen", "strconv.ErrSyntax", "strconv.ErrRange", "internal/strconv.uint64pow10", "math/bits.deBruijn32tab", "math/bits.deBruijn64tab"], apart := false, laid := [("math/bits.deBruijn32tab", laid_math_bits_deBruijn32tab), ("math/bits.deBruijn64tab", laid_math_bits_deBruijn64tab), ("internal/strconv.uint64pow10", laid_internal_strconv_uint64pow10), ("unicode/utf8.acceptRanges", laid_unicode_utf8_acceptRanges), ("strconv.ErrRange", laid_strconv_ErrRange), ("strconv.ErrSyntax", laid_strconv_ErrSyntax), ("fiacre/rank.kinds", laid_fiacre_rank_kinds), ("unicode/utf8.first", laid_unicode_utf8_first)], narrowed := true }
def RankOrderUptoSaid : Prop := rankOrderUptoRow.holds Tryz.pinned (OpenSpec.upto rankOrderSpec)

/-- 'fiacrelaw04.RankFirst', WHERE WHAT IT READS IS OF BULK AT MOST 1048576: true; the input reads as it did. -/
def rankFirstUptoRow : OpenClaim := { program := "ytoibondihdhnoaagreatdoor", sum := "f1e370e4f1f0c6860f8b8a84e2edabd90c0b4352502bcfd822c9896facc278da", func := "fiacre/fiacrelaw04.RankFirst", spec := "rankFirst", inPlace := ["internal/bytealg.CountString", "internal/bytealg.IndexByteString", "internal/bytealg.IndexString", "internal/abi.NoEscape", "internal/bytealg.MakeNoZero"], unfollowed := true, recurses := true, named := ["fiacre/rank.kinds", "unicode/utf8.first", "unicode/utf8.acceptRanges", "internal/bytealg.MaxLen", "strconv.ErrSyntax", "strconv.ErrRange", "internal/strconv.uint64pow10", "math/bits.deBruijn32tab", "math/bits.deBruijn64tab"], apart := false, laid := [("math/bits.deBruijn32tab", laid_math_bits_deBruijn32tab), ("math/bits.deBruijn64tab", laid_math_bits_deBruijn64tab), ("internal/strconv.uint64pow10", laid_internal_strconv_uint64pow10), ("unicode/utf8.acceptRanges", laid_unicode_utf8_acceptRanges), ("strconv.ErrRange", laid_strconv_ErrRange), ("strconv.ErrSyntax", laid_strconv_ErrSyntax), ("fiacre/rank.kinds", laid_fiacre_rank_kinds), ("unicode/utf8.first", laid_unicode_utf8_first)], narrowed := true }
def RankFirstUptoSaid : Prop := rankFirstUptoRow.holds Tryz.pinned (OpenSpec.upto rankFirstSpec)

/-- 'fiacrelaw04.RankRulesRight', WHERE WHAT IT READS IS OF BULK AT MOST 1048576: true; the input reads as it did. -/
def rankRulesRightUptoRow : OpenClaim := { program := "ytoibondihdhnoaagreatdoor", sum := "f1e370e4f1f0c6860f8b8a84e2edabd90c0b4352502bcfd822c9896facc278da", func := "fiacre/fiacrelaw04.RankRulesRight", spec := "rankRulesRight", inPlace := ["internal/bytealg.CountString", "internal/bytealg.IndexByteString", "internal/bytealg.IndexString", "internal/abi.NoEscape", "internal/bytealg.MakeNoZero"], unfollowed := true, recurses := true, named := ["fiacre/rank.kinds", "unicode/utf8.first", "unicode/utf8.acceptRanges", "internal/bytealg.MaxLen", "strconv.ErrSyntax", "strconv.ErrRange", "internal/strconv.uint64pow10", "math/bits.deBruijn32tab", "math/bits.deBruijn64tab"], apart := false, laid := [("math/bits.deBruijn32tab", laid_math_bits_deBruijn32tab), ("math/bits.deBruijn64tab", laid_math_bits_deBruijn64tab), ("internal/strconv.uint64pow10", laid_internal_strconv_uint64pow10), ("unicode/utf8.acceptRanges", laid_unicode_utf8_acceptRanges), ("strconv.ErrRange", laid_strconv_ErrRange), ("strconv.ErrSyntax", laid_strconv_ErrSyntax), ("fiacre/rank.kinds", laid_fiacre_rank_kinds), ("unicode/utf8.first", laid_unicode_utf8_first)], narrowed := true }
def RankRulesRightUptoSaid : Prop := rankRulesRightUptoRow.holds Tryz.pinned (OpenSpec.upto rankRulesRightSpec)

/-- 'fiacrelaw04.RankStays', WHERE WHAT IT READS IS OF BULK AT MOST 1048576: true; the input reads as it did. -/
def rankStaysUptoRow : OpenClaim := { program := "ytoibondihdhnoaagreatdoor", sum := "f1e370e4f1f0c6860f8b8a84e2edabd90c0b4352502bcfd822c9896facc278da", func := "fiacre/fiacrelaw04.RankStays", spec := "rankStays", inPlace := ["internal/bytealg.CountString", "internal/bytealg.IndexByteString", "internal/bytealg.IndexString", "internal/abi.NoEscape", "internal/bytealg.MakeNoZero"], unfollowed := true, recurses := true, named := ["fiacre/rank.kinds", "unicode/utf8.first", "unicode/utf8.acceptRanges", "internal/bytealg.MaxLen", "strconv.ErrSyntax", "strconv.ErrRange", "internal/strconv.uint64pow10", "math/bits.deBruijn32tab", "math/bits.deBruijn64tab"], apart := false, laid := [("math/bits.deBruijn32tab", laid_math_bits_deBruijn32tab), ("math/bits.deBruijn64tab", laid_math_bits_deBruijn64tab), ("internal/strconv.uint64pow10", laid_internal_strconv_uint64pow10), ("unicode/utf8.acceptRanges", laid_unicode_utf8_acceptRanges), ("strconv.ErrRange", laid_strconv_ErrRange), ("strconv.ErrSyntax", laid_strconv_ErrSyntax), ("fiacre/rank.kinds", laid_fiacre_rank_kinds), ("unicode/utf8.first", laid_unicode_utf8_first)], narrowed := true }
def RankStaysUptoSaid : Prop := rankStaysUptoRow.holds Tryz.pinned (OpenSpec.upto rankStaysSpec)

/-- 'fiacrelaw04.RankEventTexts', WHERE WHAT IT READS IS OF BULK AT MOST 1048576: true; the input reads as it did. -/
def rankEventTextsUptoRow : OpenClaim := { program := "ytoibondihdhnoaagreatdoor", sum := "f1e370e4f1f0c6860f8b8a84e2edabd90c0b4352502bcfd822c9896facc278da", func := "fiacre/fiacrelaw04.RankEventTexts", spec := "rankEventTexts", inPlace := ["internal/bytealg.CountString", "internal/bytealg.IndexByteString", "internal/bytealg.IndexString", "internal/abi.NoEscape", "internal/bytealg.MakeNoZero"], unfollowed := true, recurses := true, named := ["fiacre/rank.kinds", "unicode/utf8.first", "unicode/utf8.acceptRanges", "internal/bytealg.MaxLen", "strconv.ErrSyntax", "strconv.ErrRange", "internal/strconv.uint64pow10", "math/bits.deBruijn32tab", "math/bits.deBruijn64tab"], apart := false, laid := [("math/bits.deBruijn32tab", laid_math_bits_deBruijn32tab), ("math/bits.deBruijn64tab", laid_math_bits_deBruijn64tab), ("internal/strconv.uint64pow10", laid_internal_strconv_uint64pow10), ("unicode/utf8.acceptRanges", laid_unicode_utf8_acceptRanges), ("strconv.ErrRange", laid_strconv_ErrRange), ("strconv.ErrSyntax", laid_strconv_ErrSyntax), ("fiacre/rank.kinds", laid_fiacre_rank_kinds), ("unicode/utf8.first", laid_unicode_utf8_first)], narrowed := true }
def RankEventTextsUptoSaid : Prop := rankEventTextsUptoRow.holds Tryz.pinned (OpenSpec.upto rankEventTextsSpec)

/-- 'fiacrelaw04.RankStates', WHERE WHAT IT READS IS OF BULK AT MOST 1048576: true; the input reads as it did. -/
def rankStatesUptoRow : OpenClaim := { program := "ytoibondihdhnoaagreatdoor", sum := "f1e370e4f1f0c6860f8b8a84e2edabd90c0b4352502bcfd822c9896facc278da", func := "fiacre/fiacrelaw04.RankStates", spec := "rankStates", inPlace := ["internal/bytealg.CountString", "internal/bytealg.IndexByteString", "internal/bytealg.IndexString", "internal/abi.NoEscape", "internal/bytealg.MakeNoZero"], unfollowed := true, recurses := true, named := ["fiacre/rank.kinds", "unicode/utf8.first", "unicode/utf8.acceptRanges", "internal/bytealg.MaxLen", "strconv.ErrSyntax", "strconv.ErrRange", "internal/strconv.uint64pow10", "math/bits.deBruijn32tab", "math/bits.deBruijn64tab"], apart := false, laid := [("math/bits.deBruijn32tab", laid_math_bits_deBruijn32tab), ("math/bits.deBruijn64tab", laid_math_bits_deBruijn64tab), ("internal/strconv.uint64pow10", laid_internal_strconv_uint64pow10), ("unicode/utf8.acceptRanges", laid_unicode_utf8_acceptRanges), ("strconv.ErrRange", laid_strconv_ErrRange), ("strconv.ErrSyntax", laid_strconv_ErrSyntax), ("fiacre/rank.kinds", laid_fiacre_rank_kinds), ("unicode/utf8.first", laid_unicode_utf8_first)], narrowed := true }
def RankStatesUptoSaid : Prop := rankStatesUptoRow.holds Tryz.pinned (OpenSpec.upto rankStatesSpec)

/-- 'fiacrelaw04.RankFair', WHERE WHAT IT READS IS OF BULK AT MOST 1048576: true; the input reads as it did. -/
def rankFairUptoRow : OpenClaim := { program := "ytoibondihdhnoaagreatdoor", sum := "f1e370e4f1f0c6860f8b8a84e2edabd90c0b4352502bcfd822c9896facc278da", func := "fiacre/fiacrelaw04.RankFair", spec := "rankFair", inPlace := ["internal/bytealg.CountString", "internal/bytealg.IndexByteString", "internal/bytealg.IndexString", "internal/abi.NoEscape", "internal/bytealg.MakeNoZero"], unfollowed := true, recurses := true, named := ["fiacre/rank.kinds", "unicode/utf8.first", "unicode/utf8.acceptRanges", "internal/bytealg.MaxLen", "strconv.ErrSyntax", "strconv.ErrRange", "internal/strconv.uint64pow10", "math/bits.deBruijn32tab", "math/bits.deBruijn64tab"], apart := false, laid := [("math/bits.deBruijn32tab", laid_math_bits_deBruijn32tab), ("math/bits.deBruijn64tab", laid_math_bits_deBruijn64tab), ("internal/strconv.uint64pow10", laid_internal_strconv_uint64pow10), ("unicode/utf8.acceptRanges", laid_unicode_utf8_acceptRanges), ("strconv.ErrRange", laid_strconv_ErrRange), ("strconv.ErrSyntax", laid_strconv_ErrSyntax), ("fiacre/rank.kinds", laid_fiacre_rank_kinds), ("unicode/utf8.first", laid_unicode_utf8_first)], narrowed := true }
def RankFairUptoSaid : Prop := rankFairUptoRow.holds Tryz.pinned (OpenSpec.upto rankFairSpec)

/-- 'fiacrelaw04.RankStateTexts', WHERE WHAT IT READS IS OF BULK AT MOST 1048576: true; the input reads as it did. -/
def rankStateTextsUptoRow : OpenClaim := { program := "ytoibondihdhnoaagreatdoor", sum := "f1e370e4f1f0c6860f8b8a84e2edabd90c0b4352502bcfd822c9896facc278da", func := "fiacre/fiacrelaw04.RankStateTexts", spec := "rankStateTexts", inPlace := ["internal/bytealg.CountString", "internal/bytealg.IndexByteString", "internal/bytealg.IndexString", "internal/abi.NoEscape", "internal/bytealg.MakeNoZero"], unfollowed := true, recurses := true, named := ["fiacre/rank.kinds", "unicode/utf8.first", "unicode/utf8.acceptRanges", "internal/bytealg.MaxLen", "strconv.ErrSyntax", "strconv.ErrRange", "internal/strconv.uint64pow10", "math/bits.deBruijn32tab", "math/bits.deBruijn64tab"], apart := false, laid := [("math/bits.deBruijn32tab", laid_math_bits_deBruijn32tab), ("math/bits.deBruijn64tab", laid_math_bits_deBruijn64tab), ("internal/strconv.uint64pow10", laid_internal_strconv_uint64pow10), ("unicode/utf8.acceptRanges", laid_unicode_utf8_acceptRanges), ("strconv.ErrRange", laid_strconv_ErrRange), ("strconv.ErrSyntax", laid_strconv_ErrSyntax), ("fiacre/rank.kinds", laid_fiacre_rank_kinds), ("unicode/utf8.first", laid_unicode_utf8_first)], narrowed := true }
def RankStateTextsUptoSaid : Prop := rankStateTextsUptoRow.holds Tryz.pinned (OpenSpec.upto rankStateTextsSpec)

/-- 'fiacrelaw04.RankApplies', WHERE WHAT IT READS IS OF BULK AT MOST 1048576: true; the input reads as it did. -/
def rankAppliesUptoRow : OpenClaim := { program := "ytoibondihdhnoaagreatdoor", sum := "f1e370e4f1f0c6860f8b8a84e2edabd90c0b4352502bcfd822c9896facc278da", func := "fiacre/fiacrelaw04.RankApplies", spec := "rankApplies", inPlace := ["internal/bytealg.CountString", "internal/bytealg.IndexByteString", "internal/bytealg.IndexString", "internal/abi.NoEscape", "internal/bytealg.MakeNoZero"], unfollowed := true, recurses := true, named := ["fiacre/rank.kinds", "unicode/utf8.first", "unicode/utf8.acceptRanges", "internal/bytealg.MaxLen", "strconv.ErrSyntax", "strconv.ErrRange", "internal/strconv.uint64pow10", "math/bits.deBruijn32tab", "math/bits.deBruijn64tab"], apart := false, laid := [("math/bits.deBruijn32tab", laid_math_bits_deBruijn32tab), ("math/bits.deBruijn64tab", laid_math_bits_deBruijn64tab), ("internal/strconv.uint64pow10", laid_internal_strconv_uint64pow10), ("unicode/utf8.acceptRanges", laid_unicode_utf8_acceptRanges), ("strconv.ErrRange", laid_strconv_ErrRange), ("strconv.ErrSyntax", laid_strconv_ErrSyntax), ("fiacre/rank.kinds", laid_fiacre_rank_kinds), ("unicode/utf8.first", laid_unicode_utf8_first)], narrowed := true }
def RankAppliesUptoSaid : Prop := rankAppliesUptoRow.holds Tryz.pinned (OpenSpec.upto rankAppliesSpec)

/-- 'fiacrelaw04.RankKept', WHERE WHAT IT READS IS OF BULK AT MOST 1048576: true; the input reads as it did. -/
def rankKeptUptoRow : OpenClaim := { program := "ytoibondihdhnoaagreatdoor", sum := "f1e370e4f1f0c6860f8b8a84e2edabd90c0b4352502bcfd822c9896facc278da", func := "fiacre/fiacrelaw04.RankKept", spec := "rankKept", inPlace := ["internal/bytealg.CountString", "internal/bytealg.IndexByteString", "internal/bytealg.IndexString", "internal/abi.NoEscape", "internal/bytealg.MakeNoZero"], unfollowed := true, recurses := true, named := ["fiacre/rank.kinds", "unicode/utf8.first", "unicode/utf8.acceptRanges", "internal/bytealg.MaxLen", "strconv.ErrSyntax", "strconv.ErrRange", "internal/strconv.uint64pow10", "math/bits.deBruijn32tab", "math/bits.deBruijn64tab"], apart := false, laid := [("math/bits.deBruijn32tab", laid_math_bits_deBruijn32tab), ("math/bits.deBruijn64tab", laid_math_bits_deBruijn64tab), ("internal/strconv.uint64pow10", laid_internal_strconv_uint64pow10), ("unicode/utf8.acceptRanges", laid_unicode_utf8_acceptRanges), ("strconv.ErrRange", laid_strconv_ErrRange), ("strconv.ErrSyntax", laid_strconv_ErrSyntax), ("fiacre/rank.kinds", laid_fiacre_rank_kinds), ("unicode/utf8.first", laid_unicode_utf8_first)], narrowed := true }
def RankKeptUptoSaid : Prop := rankKeptUptoRow.holds Tryz.pinned (OpenSpec.upto rankKeptSpec)

/-- 'fiacrelaw04.RankPossible', WHERE WHAT IT READS IS OF BULK AT MOST 1048576: true; the input reads as it did. -/
def rankPossibleUptoRow : OpenClaim := { program := "ytoibondihdhnoaagreatdoor", sum := "f1e370e4f1f0c6860f8b8a84e2edabd90c0b4352502bcfd822c9896facc278da", func := "fiacre/fiacrelaw04.RankPossible", spec := "rankPossible", inPlace := ["internal/bytealg.CountString", "internal/bytealg.IndexByteString", "internal/bytealg.IndexString", "internal/abi.NoEscape", "internal/bytealg.MakeNoZero"], unfollowed := true, recurses := true, named := ["fiacre/rank.kinds", "unicode/utf8.first", "unicode/utf8.acceptRanges", "internal/bytealg.MaxLen", "strconv.ErrSyntax", "strconv.ErrRange", "internal/strconv.uint64pow10", "math/bits.deBruijn32tab", "math/bits.deBruijn64tab"], apart := false, laid := [("math/bits.deBruijn32tab", laid_math_bits_deBruijn32tab), ("math/bits.deBruijn64tab", laid_math_bits_deBruijn64tab), ("internal/strconv.uint64pow10", laid_internal_strconv_uint64pow10), ("unicode/utf8.acceptRanges", laid_unicode_utf8_acceptRanges), ("strconv.ErrRange", laid_strconv_ErrRange), ("strconv.ErrSyntax", laid_strconv_ErrSyntax), ("fiacre/rank.kinds", laid_fiacre_rank_kinds), ("unicode/utf8.first", laid_unicode_utf8_first)], narrowed := true }
def RankPossibleUptoSaid : Prop := rankPossibleUptoRow.holds Tryz.pinned (OpenSpec.upto rankPossibleSpec)

/-- 'fiacrelaw04.RankPlaces', WHERE WHAT IT READS IS OF BULK AT MOST 1048576: true; the input reads as it did. -/
def rankPlacesUptoRow : OpenClaim := { program := "ytoibondihdhnoaagreatdoor", sum := "f1e370e4f1f0c6860f8b8a84e2edabd90c0b4352502bcfd822c9896facc278da", func := "fiacre/fiacrelaw04.RankPlaces", spec := "rankPlaces", inPlace := ["internal/bytealg.CountString", "internal/bytealg.IndexByteString", "internal/bytealg.IndexString", "internal/abi.NoEscape", "internal/bytealg.MakeNoZero"], unfollowed := true, recurses := true, named := ["fiacre/rank.kinds", "unicode/utf8.first", "unicode/utf8.acceptRanges", "internal/bytealg.MaxLen", "strconv.ErrSyntax", "strconv.ErrRange", "internal/strconv.uint64pow10", "math/bits.deBruijn32tab", "math/bits.deBruijn64tab"], apart := false, laid := [("math/bits.deBruijn32tab", laid_math_bits_deBruijn32tab), ("math/bits.deBruijn64tab", laid_math_bits_deBruijn64tab), ("internal/strconv.uint64pow10", laid_internal_strconv_uint64pow10), ("unicode/utf8.acceptRanges", laid_unicode_utf8_acceptRanges), ("strconv.ErrRange", laid_strconv_ErrRange), ("strconv.ErrSyntax", laid_strconv_ErrSyntax), ("fiacre/rank.kinds", laid_fiacre_rank_kinds), ("unicode/utf8.first", laid_unicode_utf8_first)], narrowed := true }
def RankPlacesUptoSaid : Prop := rankPlacesUptoRow.holds Tryz.pinned (OpenSpec.upto rankPlacesSpec)

/-- 'fiacretop.TopRankTold', WHERE WHAT IT READS IS OF BULK AT MOST 1048576: true; the input reads as it did. -/
def topRankToldUptoRow : OpenClaim := { program := "ytoibondihdhnoaagreatdoor", sum := "f1e370e4f1f0c6860f8b8a84e2edabd90c0b4352502bcfd822c9896facc278da", func := "fiacre/fiacretop.TopRankTold", spec := "topRankTold", inPlace := ["internal/abi.NoEscape", "internal/bytealg.MakeNoZero", "internal/bytealg.CountString", "internal/bytealg.IndexByteString", "internal/bytealg.IndexString"], unfollowed := true, recurses := true, named := ["fiacre/rank.kinds", "internal/strconv.uint64pow10", "math/bits.deBruijn32tab", "math/bits.deBruijn64tab", "unicode/utf8.first", "unicode/utf8.acceptRanges", "internal/bytealg.MaxLen", "strconv.ErrSyntax", "strconv.ErrRange"], apart := false, laid := [("math/bits.deBruijn32tab", laid_math_bits_deBruijn32tab), ("math/bits.deBruijn64tab", laid_math_bits_deBruijn64tab), ("internal/strconv.uint64pow10", laid_internal_strconv_uint64pow10), ("unicode/utf8.acceptRanges", laid_unicode_utf8_acceptRanges), ("strconv.ErrRange", laid_strconv_ErrRange), ("strconv.ErrSyntax", laid_strconv_ErrSyntax), ("fiacre/rank.kinds", laid_fiacre_rank_kinds), ("unicode/utf8.first", laid_unicode_utf8_first)], narrowed := true }
def TopRankToldUptoSaid : Prop := topRankToldUptoRow.holds Tryz.pinned (OpenSpec.upto topRankToldSpec)

end Rows
end Go.Proofs.YtoibondihdhnoaaGreatDoor
