/- Texts in one: Walks: an event is read. -/
import Derived.Test.YtoibondihdhnoaaDoorFRX42
import Derived.Test.YtoibondihdhnoaaDoorFRX17
import Derived.Test.YtoibondihdhnoaaDoorFRX41
namespace Go.Proofs.YtoibondihdhnoaaDoor
open Go.RowKit
set_option maxRecDepth 100000
set_option maxHeartbeats 2000000
abbrev Kd:Type:=ByteArray×Value
def d5d (q:Kd) : List AV:=[S q.1,.lit q.2]
attribute [go_sem] d5d
def d3g (l:List Kd) (k:Nat) : Kd:=l.getD k (ByteArray.empty,undef)
theorem c4l {l:List Kd} {k:Nat} (h:k < l.length) : d3g l k=l[k]:=by simp [d3g,h]
theorem d3h {l:List Kd} {k:Nat} (h:k < l.length) : l[k]=d3g l k:=(c4l h).symm
attribute [go_sem] d3h
structure ToldS (s:St) : Prop where
 q1:0 < s.q.length
 q2:∀ l∈s.q,∀ c∈l,c8_ c=true
 t1:∀ t∈s.tk,c8_ t.car=true∧(-999999999≤t.time∧t.time≤999999999)∧(-999999999≤t.rank∧t.rank≤999999999)
 tm : -999999999≤s.time∧s.time≤999999999
end Go.Proofs.YtoibondihdhnoaaDoor
