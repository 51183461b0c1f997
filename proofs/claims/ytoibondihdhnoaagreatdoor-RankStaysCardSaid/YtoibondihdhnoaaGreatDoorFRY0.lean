/- Texts in one: Functions of the library on this program: their layings, as plain structures; no condition. -/
import Derived.Shelf.Spec.SlicesGrow
import Derived.Shelf.Lays8
import Derived.Test.YtoibondihdhnoaaGreatDoorProg
namespace Go.Proofs.YtoibondihdhnoaaGreatDoor
open Go.RowKit Go.Shelf
set_option maxRecDepth 100000
def growLays_ren:Go.Shelf.Ren where
 f:=fun x=>match x with|4=>236|n=>n
 t:=fun x=>match x with|22=>62|25=>9|3=>3|4=>4|9=>9|20=>20|0=>0|n=>n
 g:=fun n=>n
theorem zY:Lays8.n4 Tryz.prog growLays_ren:={
 mixed:=by kernel_rfl
 f4:=⟨Tryz.f236.name,by kernel_rfl,Tryz.func236.trans (congrArg some (by kernel_rfl))⟩
 t0:=Tryz.underlying0
 a0:=Tryz.isAgg0
 z0:=Tryz.sizeOf0
 v0:=Tryz.zeroValue0
 t3:=Tryz.underlying3
 a3:=Tryz.isAgg3
 z3:=Tryz.sizeOf3
 v3:=Tryz.zeroValue3
 t4:=Tryz.underlying4
 a4:=Tryz.isAgg4
 z4:=Tryz.sizeOf4
 v4:=Tryz.zeroValue4
 t9:=Tryz.underlying9
 a9:=Tryz.isAgg9
 z9:=Tryz.sizeOf9
 v9:=Tryz.zeroValue9
 t20:=Tryz.underlying20
 a20:=Tryz.isAgg20
 z20:=Tryz.sizeOf20
 v20:=Tryz.zeroValue20
 t22:=Tryz.underlying62
 a22:=Tryz.isAgg62
 z22:=Tryz.sizeOf62
 v22:=Tryz.zeroValue62
}
end Go.Proofs.YtoibondihdhnoaaGreatDoor
