/- Texts in one: Walks on plain values: slices.Repeat; the full product of two words by the shelf. -/
import Derived.Test.YthbgghmjbaldlaaFO14
import Derived.Test.YthbgghmjbaldlaaFO9
/-! QMo3: Walks on plain values: slices.Repeat; the full product of two words by the shelf. -/
namespace Go.Proofs.Ythbgghmjbaldlaa
open Go.RowKit
set_option maxRecDepth 100000
set_option maxHeartbeats 1000000
end Go.Proofs.Ythbgghmjbaldlaa
