/- Texts in one: Functions of the library on this program: their layings, as plain structures; no condition. -/
import Derived.Shelf.Strings.OnBuilder
import Derived.Shelf.Strconv.Itoa4
import Derived.Test.YthbgghmjbaldlaaGreatDoorProg
/-! QLay: Functions of the library on this program: their layings, as plain structures; no condition. -/
namespace Go.Proofs.YthbgghmjbaldlaaGreatDoor
open Go.RowKit Go.Shelf
set_option maxRecDepth 100000
def laysJoin_ren : Go.Shelf.Ren where
  f := fun x => match x with | 156 => 76 | 165 => 117 | 166 => 118 | 169 => 119 | 240 => 139 | 241 => 140 | 276 => 156 | 277 => 157 | n => n
  t := fun x => match x with | 31 => 122 | 9 => 9 | 3 => 3 | 4 => 4 | 0 => 0 | 20 => 20 | 72 => 171 | 76 => 175 | 70 => 168 | 37 => 169 | 75 => 174 | 127 => 199 | 164 => 210 | 5 => 5 | 80 => 145 | n => n
  g := fun n => n
theorem laysJoin : Lays.n156 Tryz.prog laysJoin_ren := {
  mixed := by kernel_rfl
  f156 := Tryz.func76.trans (congrArg some (by kernel_rfl))
  f165 := Tryz.func117.trans (congrArg some (by kernel_rfl))
  f166 := Tryz.func118.trans (congrArg some (by kernel_rfl))
  f169 := Tryz.func119.trans (congrArg some (by kernel_rfl))
  f240 := Tryz.func139.trans (congrArg some (by kernel_rfl))
  f241 := Tryz.func140.trans (congrArg some (by kernel_rfl))
  f276 := Tryz.func156.trans (congrArg some (by kernel_rfl))
  f277 := Tryz.func157.trans (congrArg some (by kernel_rfl))
  t0 := Tryz.underlying0
  a0 := Tryz.isAgg0
  z0 := Tryz.sizeOf0
  v0 := Tryz.zeroValue0
  t3 := Tryz.underlying3
  a3 := Tryz.isAgg3
  z3 := Tryz.sizeOf3
  v3 := Tryz.zeroValue3
  t4 := Tryz.underlying4
  a4 := Tryz.isAgg4
  z4 := Tryz.sizeOf4
  v4 := Tryz.zeroValue4
  t9 := Tryz.underlying9
  a9 := Tryz.isAgg9
  z9 := Tryz.sizeOf9
  v9 := Tryz.zeroValue9
  t20 := Tryz.underlying20
  a20 := Tryz.isAgg20
  z20 := Tryz.sizeOf20
  v20 := Tryz.zeroValue20
  t31 := Tryz.underlying122
  a31 := Tryz.isAgg122
  z31 := Tryz.sizeOf122
  v31 := Tryz.zeroValue122
  t37 := Tryz.underlying169
  a37 := Tryz.isAgg169
  z37 := Tryz.sizeOf169
  v37 := Tryz.zeroValue169
  t70 := Tryz.underlying168
  a70 := Tryz.isAgg168
  z70 := Tryz.sizeOf168
  v70 := Tryz.zeroValue168
  t72 := Tryz.underlying171
  a72 := Tryz.isAgg171
  z72 := Tryz.sizeOf171
  v72 := Tryz.zeroValue171
  t75 := Tryz.underlying174
  a75 := Tryz.isAgg174
  z75 := Tryz.sizeOf174
  v75 := Tryz.zeroValue174
  t76 := Tryz.underlying175
  a76 := Tryz.isAgg175
  z76 := Tryz.sizeOf175
  v76 := Tryz.zeroValue175
  t127 := Tryz.underlying199
  a127 := Tryz.isAgg199
  z127 := Tryz.sizeOf199
  v127 := Tryz.zeroValue199
  t164 := Tryz.underlying210
  a164 := Tryz.isAgg210
  z164 := Tryz.sizeOf210
  v164 := Tryz.zeroValue210
}
def laysItoa_ren : Go.Shelf.Ren where
  f := fun x => match x with | 171 => 77 | 243 => 120 | 246 => 141 | 283 => 158 | 284 => 159 | 285 => 160 | 286 => 161 | 129 => 172 | 317 => 171 | 318 => 173 | 319 => 174 | 320 => 175 | 337 => 184 | 338 => 185 | n => n
  t := fun x => match x with | 3 => 3 | 9 => 9 | 2 => 2 | 4 => 4 | 171 => 213 | 0 => 0 | 53 => 196 | 37 => 169 | 5 => 5 | 173 => 216 | 212 => 230 | 51 => 193 | 20 => 20 | 213 => 231 | 46 => 165 | 232 => 249 | 233 => 250 | n => n
  g := fun x => match x with | 17 => 2 | 18 => 7 | 19 => 8 | n => n
theorem laysItoa : Lays.n171 Tryz.prog laysItoa_ren := {
  mixed := by kernel_rfl
  f129 := Tryz.func172.trans (congrArg some (by kernel_rfl))
  f171 := Tryz.func77.trans (congrArg some (by kernel_rfl))
  f243 := Tryz.func120.trans (congrArg some (by kernel_rfl))
  f246 := Tryz.func141.trans (congrArg some (by kernel_rfl))
  f283 := Tryz.func158.trans (congrArg some (by kernel_rfl))
  f284 := Tryz.func159.trans (congrArg some (by kernel_rfl))
  f285 := Tryz.func160.trans (congrArg some (by kernel_rfl))
  f286 := Tryz.func161.trans (congrArg some (by kernel_rfl))
  f317 := Tryz.func171.trans (congrArg some (by kernel_rfl))
  f318 := Tryz.func173.trans (congrArg some (by kernel_rfl))
  f319 := Tryz.func174.trans (congrArg some (by kernel_rfl))
  f320 := Tryz.func175.trans (congrArg some (by kernel_rfl))
  f337 := Tryz.func184.trans (congrArg some (by kernel_rfl))
  f338 := Tryz.func185.trans (congrArg some (by kernel_rfl))
  t0 := Tryz.underlying0
  a0 := Tryz.isAgg0
  z0 := Tryz.sizeOf0
  v0 := Tryz.zeroValue0
  t2 := Tryz.underlying2
  a2 := Tryz.isAgg2
  z2 := Tryz.sizeOf2
  v2 := Tryz.zeroValue2
  t3 := Tryz.underlying3
  a3 := Tryz.isAgg3
  z3 := Tryz.sizeOf3
  v3 := Tryz.zeroValue3
  t4 := Tryz.underlying4
  a4 := Tryz.isAgg4
  z4 := Tryz.sizeOf4
  v4 := Tryz.zeroValue4
  t5 := Tryz.underlying5
  a5 := Tryz.isAgg5
  z5 := Tryz.sizeOf5
  v5 := Tryz.zeroValue5
  t9 := Tryz.underlying9
  a9 := Tryz.isAgg9
  z9 := Tryz.sizeOf9
  v9 := Tryz.zeroValue9
  t20 := Tryz.underlying20
  a20 := Tryz.isAgg20
  z20 := Tryz.sizeOf20
  v20 := Tryz.zeroValue20
  t37 := Tryz.underlying169
  a37 := Tryz.isAgg169
  z37 := Tryz.sizeOf169
  v37 := Tryz.zeroValue169
  t46 := Tryz.underlying165
  a46 := Tryz.isAgg165
  z46 := Tryz.sizeOf165
  v46 := Tryz.zeroValue165
  t51 := Tryz.underlying193
  a51 := Tryz.isAgg193
  z51 := Tryz.sizeOf193
  v51 := Tryz.zeroValue193
  t53 := Tryz.underlying196
  a53 := Tryz.isAgg196
  z53 := Tryz.sizeOf196
  v53 := Tryz.zeroValue196
  t171 := Tryz.underlying213
  a171 := Tryz.isAgg213
  z171 := Tryz.sizeOf213
  v171 := Tryz.zeroValue213
  t173 := Tryz.underlying216
  a173 := Tryz.isAgg216
  z173 := Tryz.sizeOf216
  v173 := Tryz.zeroValue216
  t212 := Tryz.underlying230
  a212 := Tryz.isAgg230
  z212 := Tryz.sizeOf230
  v212 := Tryz.zeroValue230
  t213 := Tryz.underlying231
  a213 := Tryz.isAgg231
  z213 := Tryz.sizeOf231
  t232 := Tryz.underlying249
  a232 := Tryz.isAgg249
  z232 := Tryz.sizeOf249
  v232 := Tryz.zeroValue249
  t233 := Tryz.underlying250
  a233 := Tryz.isAgg250
  z233 := Tryz.sizeOf250
  v233 := Tryz.zeroValue250
  g17 := by kernel_rfl
  g18 := by kernel_rfl
  g19 := by kernel_rfl
}
end Go.Proofs.YthbgghmjbaldlaaGreatDoor
