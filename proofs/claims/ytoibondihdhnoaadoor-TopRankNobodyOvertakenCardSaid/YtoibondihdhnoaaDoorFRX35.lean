/- Texts in one: Functions of the library on this program: their layings, as plain structures; no condition. -/
import Derived.Shelf.Strings.OnBuilder
import Derived.Test.YtoibondihdhnoaaDoorProg
namespace Go.Proofs.YtoibondihdhnoaaDoor
open Go.RowKit Go.Shelf
set_option maxRecDepth 100000
def a3v:Go.Shelf.Ren where
 f:=fun x=>match x with|156=>41|165=>60|166=>61|169=>62|240=>72|241=>73|276=>82|277=>83|n=>n
 t:=fun x=>match x with|31=>81|9=>9|3=>3|4=>4|0=>0|20=>20|72=>126|76=>129|70=>124|37=>120|75=>128|127=>146|164=>155|5=>5|80=>131|n=>n
 g:=fun n=>n
theorem b4p:Lays.n156 Tryd.prog a3v:={
 mixed:=by kernel_rfl
 f156:=Tryd.func41.trans (congrArg some (by kernel_rfl))
 f165:=Tryd.func60.trans (congrArg some (by kernel_rfl))
 f166:=Tryd.func61.trans (congrArg some (by kernel_rfl))
 f169:=Tryd.func62.trans (congrArg some (by kernel_rfl))
 f240:=Tryd.func72.trans (congrArg some (by kernel_rfl))
 f241:=Tryd.func73.trans (congrArg some (by kernel_rfl))
 f276:=Tryd.func82.trans (congrArg some (by kernel_rfl))
 f277:=Tryd.func83.trans (congrArg some (by kernel_rfl))
 t0:=Tryd.underlying0
 a0:=Tryd.isAgg0
 z0:=Tryd.sizeOf0
 v0:=Tryd.zeroValue0
 t3:=Tryd.underlying3
 a3:=Tryd.isAgg3
 z3:=Tryd.sizeOf3
 v3:=Tryd.zeroValue3
 t4:=Tryd.underlying4
 a4:=Tryd.isAgg4
 z4:=Tryd.sizeOf4
 v4:=Tryd.zeroValue4
 t9:=Tryd.underlying9
 a9:=Tryd.isAgg9
 z9:=Tryd.sizeOf9
 v9:=Tryd.zeroValue9
 t20:=Tryd.underlying20
 a20:=Tryd.isAgg20
 z20:=Tryd.sizeOf20
 v20:=Tryd.zeroValue20
 t31:=Tryd.underlying81
 a31:=Tryd.isAgg81
 z31:=Tryd.sizeOf81
 v31:=Tryd.zeroValue81
 t37:=Tryd.underlying120
 a37:=Tryd.isAgg120
 z37:=Tryd.sizeOf120
 v37:=Tryd.zeroValue120
 t70:=Tryd.underlying124
 a70:=Tryd.isAgg124
 z70:=Tryd.sizeOf124
 v70:=Tryd.zeroValue124
 t72:=Tryd.underlying126
 a72:=Tryd.isAgg126
 z72:=Tryd.sizeOf126
 v72:=Tryd.zeroValue126
 t75:=Tryd.underlying128
 a75:=Tryd.isAgg128
 z75:=Tryd.sizeOf128
 v75:=Tryd.zeroValue128
 t76:=Tryd.underlying129
 a76:=Tryd.isAgg129
 z76:=Tryd.sizeOf129
 v76:=Tryd.zeroValue129
 t127:=Tryd.underlying146
 a127:=Tryd.isAgg146
 z127:=Tryd.sizeOf146
 v127:=Tryd.zeroValue146
 t164:=Tryd.underlying155
 a164:=Tryd.isAgg155
 z164:=Tryd.sizeOf155
 v164:=Tryd.zeroValue155
}
end Go.Proofs.YtoibondihdhnoaaDoor
