/- Texts in one: Walks: the text of an event. -/
import Derived.Test.YtoibondihdhnoaaGreatDoorFRB40
import Derived.Test.YtoibondihdhnoaaGreatDoorFRB45
namespace Go.Proofs.YtoibondihdhnoaaGreatDoor
open Go.RowKit Go.Shelf
set_option maxRecDepth 100000
set_option maxHeartbeats 2000000
def d2y:List ByteArray:=[⟨#[97,114,114,105,118,101]⟩,⟨#[115,101,114,118,101]⟩,⟨#[100,101,99,108,105,110,101]⟩,⟨#[108,101,97,118,101]⟩,⟨#[99,97,108,108]⟩,⟨#[114,101,116,117,114,110]⟩]
end Go.Proofs.YtoibondihdhnoaaGreatDoor
namespace Go.Proofs.YtoibondihdhnoaaGreatDoor
open Go.RowKit Go.Shelf
set_option maxRecDepth 100000
set_option maxHeartbeats 2000000
def c7k (a:ByteArray) : Nat→Int
 | 0=>-1
 | k+1=>if tat d2y k=a then (k:Int) else c7k a k
@[go_sem] theorem d3y (a:ByteArray) : c7k a 0 = -1:=rfl
end Go.Proofs.YtoibondihdhnoaaGreatDoor
