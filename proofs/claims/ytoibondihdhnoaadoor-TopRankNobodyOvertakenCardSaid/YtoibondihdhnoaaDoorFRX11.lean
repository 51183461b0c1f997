/- Texts in one: Functions of the library on this program: their layings, as plain structures; no condition. -/
import Derived.Shelf.Spec.SlicesGrow
import Derived.Shelf.Lays8
import Derived.Test.YtoibondihdhnoaaDoorProg
namespace Go.Proofs.YtoibondihdhnoaaDoor
open Go.RowKit Go.Shelf
set_option maxRecDepth 100000
def growLays_ren:Go.Shelf.Ren where
 f:=fun x=>match x with|4=>123|n=>n
 t:=fun x=>match x with|22=>81|25=>9|3=>3|4=>4|9=>9|20=>20|0=>0|n=>n
 g:=fun n=>n
theorem a7p:Lays8.n4 Tryd.prog growLays_ren:={
 mixed:=by kernel_rfl
 f4:=⟨Tryd.f123.name,by kernel_rfl,Tryd.func123.trans (congrArg some (by kernel_rfl))⟩
 t0:=Tryd.underlying0
 a0:=Tryd.isAgg0
 z0:=Tryd.sizeOf0
 v0:=Tryd.zeroValue0
 t3:=Tryd.underlying3
 a3:=Tryd.isAgg3
 z3:=Tryd.sizeOf3
 v3:=Tryd.zeroValue3
 t4:=Tryd.underlying4
 a4:=Tryd.isAgg4
 z4:=Tryd.sizeOf4
 v4:=Tryd.zeroValue4
 t9:=Tryd.underlying9
 a9:=Tryd.isAgg9
 z9:=Tryd.sizeOf9
 v9:=Tryd.zeroValue9
 t20:=Tryd.underlying20
 a20:=Tryd.isAgg20
 z20:=Tryd.sizeOf20
 v20:=Tryd.zeroValue20
 t22:=Tryd.underlying81
 a22:=Tryd.isAgg81
 z22:=Tryd.sizeOf81
 v22:=Tryd.zeroValue81
}
end Go.Proofs.YtoibondihdhnoaaDoor
