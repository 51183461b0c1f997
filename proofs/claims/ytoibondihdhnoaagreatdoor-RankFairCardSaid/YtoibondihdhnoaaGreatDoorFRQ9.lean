/- Texts in one: Rules of the d3b with their checks in one: of every program; no condition. -/
import Derived.Test.YtoibondihdhnoaaGreatDoorFRQ8
import Derived.Test.YtoibondihdhnoaaGreatDoorFRQ7
namespace Go.Proofs.YtoibondihdhnoaaGreatDoor
open Go.RowKit
theorem au {α:Type} : (∀ l:List α,l.take 0=[])∧(∀ n,([] : List α).take n=[])∧(∀ (n:Nat) (a:α) (l:List α),(a::l).take (n+1)=a::l.take n)∧(∀ l:List α,l.drop 0=l)∧(∀ n,([] : List α).drop n=[])∧(∀ (n:Nat) (a:α) (l:List α),(a::l).drop (n+1)=l.drop n)∧(∀ l:List α,List.append [] l=l)∧∀ (a:α) (l m:List α),List.append (a::l) m=a::List.append l m:=
 ⟨fun _=>rfl,fun _=>List.take_nil,fun _ _ _=>rfl,fun _=>rfl,fun _=>List.drop_nil,fun _ _ _=>rfl,fun _=>rfl,fun _ _ _=>rfl⟩
theorem pX {a b:Bool} (h:(a&&b)=true) : a=true∧b=true:=by simpa using h
section
variable {P:Program} {M0:Nat→Nat→Prop} {w0:Bas} {N:Nm} {st:VS} {Q:Exit→VS→Prop}
theorem aL {f:FuncId} {fn:Func} {c:Code} {args:List AV} {r:AV} (hf:P.funcs[f]? = some fn) (hb:fn.body=some c) (hg:(lN P f&&e_ (n0 fn.ntmps) c)=true) (hn:Nat.ble args.length fn.ntmps=true)
  (h:∀ M0 w0,VWp P M0 w0 (n0 fn.ntmps) c (CF P fn.results.toList r) ⟨aC 0 args,[]⟩) : VC P f args r:=O0 hf hb (pX hg).1 (pX hg).2 hn h
theorem bw {id:Nat} {l:List Oper} (len n:Nat) (ow:List Nat) (_hl:l.length=len) (hB:(P.follows .mixedOrders&&CI l n)=true) (h:mT P l (l.take n) st fun aI=>dU P ow l (l.drop n) aI (Q .normal)) :
  VWp P M0 w0 N (.region id l.toArray true) Q st:=oB n ow (pX hB).1 (pX hB).2 h
theorem fM {id:Nat} {l:List Oper} (n:Nat) (ow:List Nat) (A:List Slot) (hB:(P.follows .mixedOrders&&(Region.specB l.toArray n&&Dh l n A))=true) (hs:sOK st.h.length st.s∧hOK st.h.length st.h)
  (h:iP P l (isA A) (l.take n) 0 st fun T=>wR P l T A∧dU P ow l (l.drop n) ⟨dP st.h.length A++T.s,T.h++eg A⟩ (Q .normal)) : VWp P M0 w0 N (.region id l.toArray true) Q st:=
 Qu n ow A (pX hB).1 (pX (pX hB).2).1 (pX (pX hB).2).2 hs.1 hs.2 h
end
end Go.Proofs.YtoibondihdhnoaaGreatDoor
