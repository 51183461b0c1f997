/- Texts in one: Walks: the text of an event. -/
import Derived.Test.YtoibondihdhnoaaGreatDoorFRQ9
import Derived.Test.YtoibondihdhnoaaGreatDoorFRQ41
import Derived.Test.YtoibondihdhnoaaGreatDoorFRQ46
namespace Go.Proofs.YtoibondihdhnoaaGreatDoor
open Go.RowKit Go.Shelf
set_option maxRecDepth 100000
set_option maxHeartbeats 2000000
def OT:List ByteArray:=[⟨#[97,114,114,105,118,101]⟩,⟨#[115,101,114,118,101]⟩,⟨#[100,101,99,108,105,110,101]⟩,⟨#[108,101,97,118,101]⟩,⟨#[99,97,108,108]⟩,⟨#[114,101,116,117,114,110]⟩]
def G9 (a:ByteArray) : Nat→Int
 | 0=>-1
 | k+1=>if tat OT k=a then (k:Int) else G9 a k
@[go_sem] theorem Rt (a:ByteArray) : G9 a 0 = -1:=rfl
end Go.Proofs.YtoibondihdhnoaaGreatDoor
