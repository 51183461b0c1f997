/- Texts in one: Functions of the library on this program: their layings, as plain structures; no condition. -/
import Derived.Shelf.Strconv.Itoa3
import Derived.Test.YtoibondihdhnoaaDoorProg
namespace Go.Proofs.YtoibondihdhnoaaDoor
open Go.RowKit Go.Shelf
set_option maxRecDepth 100000
def a8m:Go.Shelf.Ren where
 f:=fun x=>match x with|171=>40|243=>59|246=>71|283=>78|284=>79|285=>80|286=>81|129=>86|317=>85|318=>87|319=>88|320=>89|337=>90|338=>91|n=>n
 t:=fun x=>match x with|3=>3|9=>9|2=>2|4=>4|171=>149|0=>0|53=>150|37=>120|5=>5|173=>153|212=>161|51=>162|20=>20|213=>163|46=>164|232=>167|233=>168|n=>n
 g:=fun x=>match x with|17=>1|18=>3|19=>4|n=>n
theorem b9v:LaysM.n171 Tryd.prog a8m:={
 mixed:=by kernel_rfl
 f129:=Tryd.func86.trans (congrArg some (by kernel_rfl))
 f171:=Tryd.func40.trans (congrArg some (by kernel_rfl))
 f243:=Tryd.func59.trans (congrArg some (by kernel_rfl))
 f246:=Tryd.func71.trans (congrArg some (by kernel_rfl))
 f283:=Tryd.func78.trans (congrArg some (by kernel_rfl))
 f284:=Tryd.func79.trans (congrArg some (by kernel_rfl))
 f285:=Tryd.func80.trans (congrArg some (by kernel_rfl))
 f286:=Tryd.func81.trans (congrArg some (by kernel_rfl))
 f317:=Tryd.func85.trans (congrArg some (by kernel_rfl))
 f318:=Tryd.func87.trans (congrArg some (by kernel_rfl))
 f319:=Tryd.func88.trans (congrArg some (by kernel_rfl))
 f320:=Tryd.func89.trans (congrArg some (by kernel_rfl))
 f337:=Tryd.func90.trans (congrArg some (by kernel_rfl))
 f338:=Tryd.func91.trans (congrArg some (by kernel_rfl))
 t0:=Tryd.underlying0
 a0:=Tryd.isAgg0
 z0:=Tryd.sizeOf0
 v0:=Tryd.zeroValue0
 t2:=Tryd.underlying2
 a2:=Tryd.isAgg2
 z2:=Tryd.sizeOf2
 v2:=Tryd.zeroValue2
 t3:=Tryd.underlying3
 a3:=Tryd.isAgg3
 z3:=Tryd.sizeOf3
 v3:=Tryd.zeroValue3
 t4:=Tryd.underlying4
 a4:=Tryd.isAgg4
 z4:=Tryd.sizeOf4
 v4:=Tryd.zeroValue4
 t5:=Tryd.underlying5
 a5:=Tryd.isAgg5
 z5:=Tryd.sizeOf5
 v5:=Tryd.zeroValue5
 t9:=Tryd.underlying9
 a9:=Tryd.isAgg9
 z9:=Tryd.sizeOf9
 v9:=Tryd.zeroValue9
 t20:=Tryd.underlying20
 a20:=Tryd.isAgg20
 z20:=Tryd.sizeOf20
 v20:=Tryd.zeroValue20
 t37:=Tryd.underlying120
 a37:=Tryd.isAgg120
 z37:=Tryd.sizeOf120
 v37:=Tryd.zeroValue120
 t46:=Tryd.underlying164
 a46:=Tryd.isAgg164
 z46:=Tryd.sizeOf164
 v46:=Tryd.zeroValue164
 t51:=Tryd.underlying162
 a51:=Tryd.isAgg162
 z51:=Tryd.sizeOf162
 v51:=Tryd.zeroValue162
 t53:=Tryd.underlying150
 a53:=Tryd.isAgg150
 z53:=Tryd.sizeOf150
 v53:=Tryd.zeroValue150
 t171:=Tryd.underlying149
 a171:=Tryd.isAgg149
 z171:=Tryd.sizeOf149
 v171:=Tryd.zeroValue149
 t173:=Tryd.underlying153
 a173:=Tryd.isAgg153
 z173:=Tryd.sizeOf153
 v173:=Tryd.zeroValue153
 t212:=Tryd.underlying161
 a212:=Tryd.isAgg161
 z212:=Tryd.sizeOf161
 v212:=Tryd.zeroValue161
 t213:=Tryd.underlying163
 a213:=Tryd.isAgg163
 z213:=Tryd.sizeOf163
 t232:=Tryd.underlying167
 a232:=Tryd.isAgg167
 z232:=Tryd.sizeOf167
 v232:=Tryd.zeroValue167
 t233:=Tryd.underlying168
 a233:=Tryd.isAgg168
 z233:=Tryd.sizeOf168
 v233:=Tryd.zeroValue168
 g17:=by kernel_rfl
 g18:=by kernel_rfl
 g19:=by kernel_rfl
 i0:=by kernel_rfl
 i2:=by kernel_rfl
 i3:=by kernel_rfl
 i4:=by kernel_rfl
 i5:=by kernel_rfl
 i9:=by kernel_rfl
 i20:=by kernel_rfl
 i37:=by kernel_rfl
 i46:=by kernel_rfl
 i51:=by kernel_rfl
 i53:=by kernel_rfl
 i171:=by kernel_rfl
 i173:=by kernel_rfl
 i212:=by kernel_rfl
 i232:=by kernel_rfl
 i233:=by kernel_rfl
 m17:=by kernel_rfl
 m18:=by kernel_rfl
 m19:=by kernel_rfl
}
end Go.Proofs.YtoibondihdhnoaaDoor
