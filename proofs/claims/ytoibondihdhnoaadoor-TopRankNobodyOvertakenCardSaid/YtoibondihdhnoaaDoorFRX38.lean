/- Texts in one: Plain laws of texts: cutting at a byte, decimal numerals; no program in sight. -/
import Derived.Lib.SplitLaws
import Derived.Lib.ItoaMem
import Derived.Lib.AtoiAll
import Derived.Lib.Strings
namespace Go.Proofs.YtoibondihdhnoaaDoor
open Go.Lib
def att (p:List UInt8) : List (List UInt8)→List (List UInt8)
 | []=>[p]
 | h::t=>(p++h)::t
def d3d (c:UInt8) : List UInt8→List (List UInt8)
 | []=>[[]]
 | x::r=>if x=c then []::d3d c r else att [x] (d3d c r)
def b4s (c:UInt8) (l:List UInt8) : Nat→Nat
 | 0=>0
 | k+1=>if l[k]? = some c then k+1 else b4s c l k
def c7v (c:UInt8) (l:List UInt8) : Nat→List (List UInt8)
 | 0=>[]
 | k+1=>if l[k]? = some c then c7v c l k++[(l.drop (b4s c l k)).take (k - b4s c l k)] else c7v c l k
def mkB (l:List UInt8) : ByteArray:=⟨l.toArray⟩
def dig (b:UInt8) : Nat:=b.toNat - 48
def d4m (acc:Nat) (l:List UInt8) : Nat:=l.foldl (fun a b=>a*10+dig b) acc
theorem c4d (acc:Nat) : d4m acc []=acc:=List.foldl_nil ..
end Go.Proofs.YtoibondihdhnoaaDoor
