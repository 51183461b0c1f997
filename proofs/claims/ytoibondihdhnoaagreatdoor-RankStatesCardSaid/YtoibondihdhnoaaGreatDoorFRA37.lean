/- Texts in one: Walks on plain values: texts that are cut, decimal numerals, numbers that are read; texts of at most 1000 bytes. -/
import Derived.Test.YtoibondihdhnoaaGreatDoorFRA35
import Derived.Test.YtoibondihdhnoaaGreatDoorFRA36
namespace Go.Proofs.YtoibondihdhnoaaGreatDoor
open Go.RowKit
set_option maxRecDepth 100000
set_option maxHeartbeats 1000000
def txL (l : List UInt8) : List AV := [S (mkB l)]
attribute [go_sem] txL
theorem size_L (s : ByteArray) : s.data.toList.length = s.size := (Lib.size_eq s).symm
@[go_sem] theorem valF0 : valF 0 [] = 0 := valF_nil 0
@[go_sem] theorem fromTo_0 (c : UInt8) (l : List UInt8) : fromTo c l 0 = 0 := rfl
@[go_sem] theorem outTo_0 (c : UInt8) (l : List UInt8) : outTo c l 0 = [] := rfl
@[go_sem] theorem mkB_nil : mkB [] = ⟨#[]⟩ := rfl
def decT (n : Int) : ByteArray := mkB (Lib.itoa n)
end Go.Proofs.YtoibondihdhnoaaGreatDoor
