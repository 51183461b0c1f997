/- Texts in one: Rules of the d5a with their checks in one: of every program; no condition. -/
import Derived.Test.YtoibondihdhnoaaGreatDoorFRP8
import Derived.Test.YtoibondihdhnoaaGreatDoorFRP7
namespace Go.Proofs.YtoibondihdhnoaaGreatDoor
open Go.RowKit
theorem az {α:Type} : (∀ l:List α,l.take 0=[])∧(∀ n,([] : List α).take n=[])∧(∀ (n:Nat) (a:α) (l:List α),(a::l).take (n+1)=a::l.take n)∧(∀ l:List α,l.drop 0=l)∧(∀ n,([] : List α).drop n=[])∧(∀ (n:Nat) (a:α) (l:List α),(a::l).drop (n+1)=l.drop n)∧(∀ l:List α,List.append [] l=l)∧∀ (a:α) (l m:List α),List.append (a::l) m=a::List.append l m:=
 ⟨fun _=>rfl,fun _=>List.take_nil,fun _ _ _=>rfl,fun _=>rfl,fun _=>List.drop_nil,fun _ _ _=>rfl,fun _=>rfl,fun _ _ _=>rfl⟩
theorem qh {a b:Bool} (h:(a&&b)=true) : a=true∧b=true:=by simpa using h
section
variable {P:Program} {M0:Nat→Nat→Prop} {w0:Bas} {N:Nm} {st:VS} {Q:Exit→VS→Prop}
theorem aP {f:FuncId} {fn:Func} {c:Code} {args:List AV} {r:AV} (hf:P.funcs[f]? = some fn) (hb:fn.body=some c) (hg:(l8 P f&&eY (n0 fn.ntmps) c)=true) (hn:Nat.ble args.length fn.ntmps=true)
  (h:∀ M0 w0,VWp P M0 w0 (n0 fn.ntmps) c (Di P fn.results.toList r) ⟨aF 0 args,[]⟩) : VC P f args r:=PO hf hb (qh hg).1 (qh hg).2 hn h
theorem bc {id:Nat} {l:List Oper} (len n:Nat) (ow:List Nat) (_hl:l.length=len) (hB:(P.follows .mixedOrders&&Dl l n)=true) (h:mI P l (l.take n) st fun aL=>dS P ow l (l.drop n) aL (Q .normal)) :
  VWp P M0 w0 N (.region id l.toArray true) Q st:=EH n ow (qh hB).1 (qh hB).2 h
theorem fR {id:Nat} {l:List Oper} (n:Nat) (ow:List Nat) (A:List Slot) (hB:(P.follows .mixedOrders&&(Region.specB l.toArray n&&DO l n A))=true) (hs:sOK st.h.length st.s∧hOK st.h.length st.h)
  (h:iI P l (isA A) (l.take n) 0 st fun T=>xj P l T A∧dS P ow l (l.drop n) ⟨dV st.h.length A++T.s,T.h++eh A⟩ (Q .normal)) : VWp P M0 w0 N (.region id l.toArray true) Q st:=
 Rs n ow A (qh hB).1 (qh (qh hB).2).1 (qh (qh hB).2).2 hs.1 hs.2 h
end
end Go.Proofs.YtoibondihdhnoaaGreatDoor
