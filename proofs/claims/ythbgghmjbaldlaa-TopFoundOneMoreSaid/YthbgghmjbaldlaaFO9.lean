/- Texts in one: Functions of the library on this program: their layings, as plain structures; no condition. -/
import Derived.Shelf.Bits.Mul64
import Derived.Test.YthbgghmjbaldlaaProg
/-! QLay3: Functions of the library on this program: their layings, as plain structures; no condition. -/
namespace Go.Proofs.Ythbgghmjbaldlaa
open Go.RowKit Go.Shelf
set_option maxRecDepth 100000
def laysMul_ren : Go.Shelf.Ren where
  f := fun x => match x with | 212 => 51 | 263 => 64 | 264 => 65 | n => n
  t := fun x => match x with | 46 => 105 | 51 => 124 | 146 => 125 | 53 => 127 | 148 => 128 | n => n
  g := fun n => n
theorem laysMul : Lays.n212 Try.prog laysMul_ren := {
  mixed := by kernel_rfl
  f212 := Try.func51.trans (congrArg some (by kernel_rfl))
  f263 := Try.func64.trans (congrArg some (by kernel_rfl))
  f264 := Try.func65.trans (congrArg some (by kernel_rfl))
  t46 := Try.underlying105
  a46 := Try.isAgg105
  z46 := Try.sizeOf105
  v46 := Try.zeroValue105
  t51 := Try.underlying124
  a51 := Try.isAgg124
  z51 := Try.sizeOf124
  v51 := Try.zeroValue124
  t53 := Try.underlying127
  a53 := Try.isAgg127
  z53 := Try.sizeOf127
  v53 := Try.zeroValue127
  t146 := Try.underlying125
  a146 := Try.isAgg125
  z146 := Try.sizeOf125
  v146 := Try.zeroValue125
  t148 := Try.underlying128
  a148 := Try.isAgg128
  z148 := Try.sizeOf128
  v148 := Try.zeroValue128
}
end Go.Proofs.Ythbgghmjbaldlaa
