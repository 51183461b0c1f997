/- Texts in one: Functions of the library on this program: their layings, as plain structures; no condition. -/
import Derived.Shelf.Strings.OnBuilder
import Derived.Shelf.Strconv.Itoa4
import Derived.Test.YthbgghmjbaldlaaDoorProg
/-! QLay: Functions of the library on this program: their layings, as plain structures; no condition. -/
namespace Go.Proofs.YthbgghmjbaldlaaDoor
open Go.RowKit Go.Shelf
set_option maxRecDepth 100000
def laysJoin_ren : Go.Shelf.Ren where
  f := fun x => match x with | 156 => 105 | 165 => 119 | 166 => 120 | 169 => 121 | 240 => 125 | 241 => 126 | 276 => 132 | 277 => 133 | n => n
  t := fun x => match x with | 31 => 135 | 9 => 9 | 3 => 3 | 4 => 4 | 0 => 0 | 20 => 20 | 72 => 167 | 76 => 171 | 70 => 165 | 37 => 152 | 75 => 170 | 127 => 178 | 164 => 186 | 5 => 5 | 80 => 119 | n => n
  g := fun n => n
theorem laysJoin : Lays.n156 Tryd.prog laysJoin_ren := {
  mixed := by kernel_rfl
  f156 := Tryd.func105.trans (congrArg some (by kernel_rfl))
  f165 := Tryd.func119.trans (congrArg some (by kernel_rfl))
  f166 := Tryd.func120.trans (congrArg some (by kernel_rfl))
  f169 := Tryd.func121.trans (congrArg some (by kernel_rfl))
  f240 := Tryd.func125.trans (congrArg some (by kernel_rfl))
  f241 := Tryd.func126.trans (congrArg some (by kernel_rfl))
  f276 := Tryd.func132.trans (congrArg some (by kernel_rfl))
  f277 := Tryd.func133.trans (congrArg some (by kernel_rfl))
  t0 := Tryd.underlying0
  a0 := Tryd.isAgg0
  z0 := Tryd.sizeOf0
  v0 := Tryd.zeroValue0
  t3 := Tryd.underlying3
  a3 := Tryd.isAgg3
  z3 := Tryd.sizeOf3
  v3 := Tryd.zeroValue3
  t4 := Tryd.underlying4
  a4 := Tryd.isAgg4
  z4 := Tryd.sizeOf4
  v4 := Tryd.zeroValue4
  t9 := Tryd.underlying9
  a9 := Tryd.isAgg9
  z9 := Tryd.sizeOf9
  v9 := Tryd.zeroValue9
  t20 := Tryd.underlying20
  a20 := Tryd.isAgg20
  z20 := Tryd.sizeOf20
  v20 := Tryd.zeroValue20
  t31 := Tryd.underlying135
  a31 := Tryd.isAgg135
  z31 := Tryd.sizeOf135
  v31 := Tryd.zeroValue135
  t37 := Tryd.underlying152
  a37 := Tryd.isAgg152
  z37 := Tryd.sizeOf152
  v37 := Tryd.zeroValue152
  t70 := Tryd.underlying165
  a70 := Tryd.isAgg165
  z70 := Tryd.sizeOf165
  v70 := Tryd.zeroValue165
  t72 := Tryd.underlying167
  a72 := Tryd.isAgg167
  z72 := Tryd.sizeOf167
  v72 := Tryd.zeroValue167
  t75 := Tryd.underlying170
  a75 := Tryd.isAgg170
  z75 := Tryd.sizeOf170
  v75 := Tryd.zeroValue170
  t76 := Tryd.underlying171
  a76 := Tryd.isAgg171
  z76 := Tryd.sizeOf171
  v76 := Tryd.zeroValue171
  t127 := Tryd.underlying178
  a127 := Tryd.isAgg178
  z127 := Tryd.sizeOf178
  v127 := Tryd.zeroValue178
  t164 := Tryd.underlying186
  a164 := Tryd.isAgg186
  z164 := Tryd.sizeOf186
  v164 := Tryd.zeroValue186
}
def laysItoa_ren : Go.Shelf.Ren where
  f := fun x => match x with | 171 => 104 | 243 => 118 | 246 => 124 | 283 => 128 | 284 => 129 | 285 => 130 | 286 => 131 | 129 => 135 | 317 => 134 | 318 => 136 | 319 => 137 | 320 => 138 | 337 => 139 | 338 => 140 | n => n
  t := fun x => match x with | 3 => 3 | 9 => 9 | 2 => 2 | 4 => 4 | 171 => 180 | 0 => 0 | 53 => 181 | 37 => 152 | 5 => 5 | 173 => 184 | 212 => 190 | 51 => 191 | 20 => 20 | 213 => 192 | 46 => 193 | 232 => 196 | 233 => 197 | n => n
  g := fun x => match x with | 17 => 0 | 18 => 2 | 19 => 3 | n => n
theorem laysItoa : Lays.n171 Tryd.prog laysItoa_ren := {
  mixed := by kernel_rfl
  f129 := Tryd.func135.trans (congrArg some (by kernel_rfl))
  f171 := Tryd.func104.trans (congrArg some (by kernel_rfl))
  f243 := Tryd.func118.trans (congrArg some (by kernel_rfl))
  f246 := Tryd.func124.trans (congrArg some (by kernel_rfl))
  f283 := Tryd.func128.trans (congrArg some (by kernel_rfl))
  f284 := Tryd.func129.trans (congrArg some (by kernel_rfl))
  f285 := Tryd.func130.trans (congrArg some (by kernel_rfl))
  f286 := Tryd.func131.trans (congrArg some (by kernel_rfl))
  f317 := Tryd.func134.trans (congrArg some (by kernel_rfl))
  f318 := Tryd.func136.trans (congrArg some (by kernel_rfl))
  f319 := Tryd.func137.trans (congrArg some (by kernel_rfl))
  f320 := Tryd.func138.trans (congrArg some (by kernel_rfl))
  f337 := Tryd.func139.trans (congrArg some (by kernel_rfl))
  f338 := Tryd.func140.trans (congrArg some (by kernel_rfl))
  t0 := Tryd.underlying0
  a0 := Tryd.isAgg0
  z0 := Tryd.sizeOf0
  v0 := Tryd.zeroValue0
  t2 := Tryd.underlying2
  a2 := Tryd.isAgg2
  z2 := Tryd.sizeOf2
  v2 := Tryd.zeroValue2
  t3 := Tryd.underlying3
  a3 := Tryd.isAgg3
  z3 := Tryd.sizeOf3
  v3 := Tryd.zeroValue3
  t4 := Tryd.underlying4
  a4 := Tryd.isAgg4
  z4 := Tryd.sizeOf4
  v4 := Tryd.zeroValue4
  t5 := Tryd.underlying5
  a5 := Tryd.isAgg5
  z5 := Tryd.sizeOf5
  v5 := Tryd.zeroValue5
  t9 := Tryd.underlying9
  a9 := Tryd.isAgg9
  z9 := Tryd.sizeOf9
  v9 := Tryd.zeroValue9
  t20 := Tryd.underlying20
  a20 := Tryd.isAgg20
  z20 := Tryd.sizeOf20
  v20 := Tryd.zeroValue20
  t37 := Tryd.underlying152
  a37 := Tryd.isAgg152
  z37 := Tryd.sizeOf152
  v37 := Tryd.zeroValue152
  t46 := Tryd.underlying193
  a46 := Tryd.isAgg193
  z46 := Tryd.sizeOf193
  v46 := Tryd.zeroValue193
  t51 := Tryd.underlying191
  a51 := Tryd.isAgg191
  z51 := Tryd.sizeOf191
  v51 := Tryd.zeroValue191
  t53 := Tryd.underlying181
  a53 := Tryd.isAgg181
  z53 := Tryd.sizeOf181
  v53 := Tryd.zeroValue181
  t171 := Tryd.underlying180
  a171 := Tryd.isAgg180
  z171 := Tryd.sizeOf180
  v171 := Tryd.zeroValue180
  t173 := Tryd.underlying184
  a173 := Tryd.isAgg184
  z173 := Tryd.sizeOf184
  v173 := Tryd.zeroValue184
  t212 := Tryd.underlying190
  a212 := Tryd.isAgg190
  z212 := Tryd.sizeOf190
  v212 := Tryd.zeroValue190
  t213 := Tryd.underlying192
  a213 := Tryd.isAgg192
  z213 := Tryd.sizeOf192
  t232 := Tryd.underlying196
  a232 := Tryd.isAgg196
  z232 := Tryd.sizeOf196
  v232 := Tryd.zeroValue196
  t233 := Tryd.underlying197
  a233 := Tryd.isAgg197
  z233 := Tryd.sizeOf197
  v233 := Tryd.zeroValue197
  g17 := by kernel_rfl
  g18 := by kernel_rfl
  g19 := by kernel_rfl
}
end Go.Proofs.YthbgghmjbaldlaaDoor
