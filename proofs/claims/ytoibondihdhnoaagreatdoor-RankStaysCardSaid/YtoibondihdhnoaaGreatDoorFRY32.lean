/- Texts in one: Functions of the library on this program: their layings, as plain structures; no condition. -/
import Derived.Shelf.Strings.OnBuilder
import Derived.Shelf.Strconv.Itoa4
import Derived.Test.YtoibondihdhnoaaGreatDoorProg
namespace Go.Proofs.YtoibondihdhnoaaGreatDoor
open Go.RowKit Go.Shelf
set_option maxRecDepth 100000
def FI:Go.Shelf.Ren where
 f:=fun x=>match x with|156=>102|165=>144|166=>145|169=>146|240=>160|241=>161|276=>170|277=>171|n=>n
 t:=fun x=>match x with|31=>62|9=>9|3=>3|4=>4|0=>0|20=>20|72=>218|76=>222|70=>216|37=>211|75=>221|127=>235|164=>239|5=>5|80=>224|n=>n
 g:=fun n=>n
theorem FJ:Lays.n156 Tryz.prog FI:={
 mixed:=by kernel_rfl
 f156:=Tryz.func102.trans (congrArg some (by kernel_rfl))
 f165:=Tryz.func144.trans (congrArg some (by kernel_rfl))
 f166:=Tryz.func145.trans (congrArg some (by kernel_rfl))
 f169:=Tryz.func146.trans (congrArg some (by kernel_rfl))
 f240:=Tryz.func160.trans (congrArg some (by kernel_rfl))
 f241:=Tryz.func161.trans (congrArg some (by kernel_rfl))
 f276:=Tryz.func170.trans (congrArg some (by kernel_rfl))
 f277:=Tryz.func171.trans (congrArg some (by kernel_rfl))
 t0:=Tryz.underlying0
 a0:=Tryz.isAgg0
 z0:=Tryz.sizeOf0
 v0:=Tryz.zeroValue0
 t3:=Tryz.underlying3
 a3:=Tryz.isAgg3
 z3:=Tryz.sizeOf3
 v3:=Tryz.zeroValue3
 t4:=Tryz.underlying4
 a4:=Tryz.isAgg4
 z4:=Tryz.sizeOf4
 v4:=Tryz.zeroValue4
 t9:=Tryz.underlying9
 a9:=Tryz.isAgg9
 z9:=Tryz.sizeOf9
 v9:=Tryz.zeroValue9
 t20:=Tryz.underlying20
 a20:=Tryz.isAgg20
 z20:=Tryz.sizeOf20
 v20:=Tryz.zeroValue20
 t31:=Tryz.underlying62
 a31:=Tryz.isAgg62
 z31:=Tryz.sizeOf62
 v31:=Tryz.zeroValue62
 t37:=Tryz.underlying211
 a37:=Tryz.isAgg211
 z37:=Tryz.sizeOf211
 v37:=Tryz.zeroValue211
 t70:=Tryz.underlying216
 a70:=Tryz.isAgg216
 z70:=Tryz.sizeOf216
 v70:=Tryz.zeroValue216
 t72:=Tryz.underlying218
 a72:=Tryz.isAgg218
 z72:=Tryz.sizeOf218
 v72:=Tryz.zeroValue218
 t75:=Tryz.underlying221
 a75:=Tryz.isAgg221
 z75:=Tryz.sizeOf221
 v75:=Tryz.zeroValue221
 t76:=Tryz.underlying222
 a76:=Tryz.isAgg222
 z76:=Tryz.sizeOf222
 v76:=Tryz.zeroValue222
 t127:=Tryz.underlying235
 a127:=Tryz.isAgg235
 z127:=Tryz.sizeOf235
 v127:=Tryz.zeroValue235
 t164:=Tryz.underlying239
 a164:=Tryz.isAgg239
 z164:=Tryz.sizeOf239
 v164:=Tryz.zeroValue239
}
end Go.Proofs.YtoibondihdhnoaaGreatDoor
