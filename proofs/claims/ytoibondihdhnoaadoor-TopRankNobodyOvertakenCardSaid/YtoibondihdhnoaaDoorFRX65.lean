/- Texts in one: Walks: the text of an event. -/
import Derived.Test.YtoibondihdhnoaaDoorFRX43
import Derived.Test.YtoibondihdhnoaaDoorFRX48
namespace Go.Proofs.YtoibondihdhnoaaDoor
open Go.RowKit Go.Shelf
set_option maxRecDepth 100000
set_option maxHeartbeats 2000000
def d1w:List ByteArray:=[⟨#[97,114,114,105,118,101]⟩,⟨#[115,101,114,118,101]⟩,⟨#[100,101,99,108,105,110,101]⟩,⟨#[108,101,97,118,101]⟩,⟨#[99,97,108,108]⟩,⟨#[114,101,116,117,114,110]⟩]
def c6g (a:ByteArray) : Nat→Int
 | 0=>-1
 | k+1=>if tat d1w k=a then (k:Int) else c6g a k
@[go_sem] theorem d2n (a:ByteArray) : c6g a 0 = -1:=rfl
end Go.Proofs.YtoibondihdhnoaaDoor
