/- Texts in one: Functions of the library on this program: their layings, as plain structures; no condition. -/
import Derived.Shelf.Bits.Mul64
import Derived.Test.YthbgghmjbaldlaaGreatDoorProg
/-! QLay3: Functions of the library on this program: their layings, as plain structures; no condition. -/
namespace Go.Proofs.YthbgghmjbaldlaaGreatDoor
open Go.RowKit Go.Shelf
set_option maxRecDepth 100000
def laysMul_ren : Go.Shelf.Ren where
  f := fun x => match x with | 212 => 116 | 263 => 137 | 264 => 138 | n => n
  t := fun x => match x with | 46 => 165 | 51 => 193 | 146 => 194 | 53 => 196 | 148 => 197 | n => n
  g := fun n => n
theorem laysMul : Lays.n212 Tryz.prog laysMul_ren := {
  mixed := by kernel_rfl
  f212 := Tryz.func116.trans (congrArg some (by kernel_rfl))
  f263 := Tryz.func137.trans (congrArg some (by kernel_rfl))
  f264 := Tryz.func138.trans (congrArg some (by kernel_rfl))
  t46 := Tryz.underlying165
  a46 := Tryz.isAgg165
  z46 := Tryz.sizeOf165
  v46 := Tryz.zeroValue165
  t51 := Tryz.underlying193
  a51 := Tryz.isAgg193
  z51 := Tryz.sizeOf193
  v51 := Tryz.zeroValue193
  t53 := Tryz.underlying196
  a53 := Tryz.isAgg196
  z53 := Tryz.sizeOf196
  v53 := Tryz.zeroValue196
  t146 := Tryz.underlying194
  a146 := Tryz.isAgg194
  z146 := Tryz.sizeOf194
  v146 := Tryz.zeroValue194
  t148 := Tryz.underlying197
  a148 := Tryz.isAgg197
  z148 := Tryz.sizeOf197
  v148 := Tryz.zeroValue197
}
end Go.Proofs.YthbgghmjbaldlaaGreatDoor
