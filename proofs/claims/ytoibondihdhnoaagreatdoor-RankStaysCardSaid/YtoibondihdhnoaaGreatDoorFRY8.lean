/- Texts in one: Rules of the d4m with their checks in one: of every program; no condition. -/
import Derived.Test.YtoibondihdhnoaaGreatDoorFRY7
import Derived.Test.YtoibondihdhnoaaGreatDoorFRY6
namespace Go.Proofs.YtoibondihdhnoaaGreatDoor
open Go.RowKit
theorem aA {α:Type} : (∀ l:List α,l.take 0=[])∧(∀ n,([] : List α).take n=[])∧(∀ (n:Nat) (a:α) (l:List α),(a::l).take (n+1)=a::l.take n)∧(∀ l:List α,l.drop 0=l)∧(∀ n,([] : List α).drop n=[])∧(∀ (n:Nat) (a:α) (l:List α),(a::l).drop (n+1)=l.drop n)∧(∀ l:List α,List.append [] l=l)∧∀ (a:α) (l m:List α),List.append (a::l) m=a::List.append l m:=
 ⟨fun _=>rfl,fun _=>List.take_nil,fun _ _ _=>rfl,fun _=>rfl,fun _=>List.drop_nil,fun _ _ _=>rfl,fun _=>rfl,fun _ _ _=>rfl⟩
theorem p8 {a b:Bool} (h:(a&&b)=true) : a=true∧b=true:=by simpa using h
section
variable {P:Program} {M0:Nat→Nat→Prop} {w0:Bas} {N:Nm} {st:VS} {Q:Exit→VS→Prop}
theorem aJ {f:FuncId} {fn:Func} {c:Code} {args:List AV} {r:AV} (hf:P.funcs[f]? = some fn) (hb:fn.body=some c) (hg:(lL P f&&fg (n0 fn.ntmps) c)=true) (hn:Nat.ble args.length fn.ntmps=true)
  (h:∀ M0 w0,VWp P M0 w0 (n0 fn.ntmps) c (CH P fn.results.toList r) ⟨aC 0 args,[]⟩) : VC P f args r:=CJ hf hb (p8 hg).1 (p8 hg).2 hn h
theorem bf {id:Nat} {l:List Oper} (len n:Nat) (ow:List Nat) (_hl:l.length=len) (hB:(P.follows .mixedOrders&&zv l n)=true) (h:jt P l (l.take n) st fun aK=>dP P ow l (l.drop n) aK (Q .normal)) :
  VWp P M0 w0 N (.region id l.toArray true) Q st:=na n ow (p8 hB).1 (p8 hB).2 h
theorem fG {id:Nat} {l:List Oper} (n:Nat) (ow:List Nat) (A:List Slot) (hB:(P.follows .mixedOrders&&(Region.specB l.toArray n&&Dn l n A))=true) (hs:sOK st.h.length st.s∧hOK st.h.length st.h)
  (h:iN P l (isA A) (l.take n) 0 st fun T=>w7 P l T A∧dP P ow l (l.drop n) ⟨dL st.h.length A++T.s,T.h++d_ A⟩ (Q .normal)) : VWp P M0 w0 N (.region id l.toArray true) Q st:=
 P4 n ow A (p8 hB).1 (p8 (p8 hB).2).1 (p8 (p8 hB).2).2 hs.1 hs.2 h
end
end Go.Proofs.YtoibondihdhnoaaGreatDoor
