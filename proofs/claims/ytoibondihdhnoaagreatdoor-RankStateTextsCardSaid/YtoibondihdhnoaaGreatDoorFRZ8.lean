/- Texts in one: Rules of the d7b with their checks in one: of every program; no condition. -/
import Derived.Test.YtoibondihdhnoaaGreatDoorFRZ7
import Derived.Test.YtoibondihdhnoaaGreatDoorFRZ6
namespace Go.Proofs.YtoibondihdhnoaaGreatDoor
open Go.RowKit
theorem aA {α:Type} : (∀ l:List α,l.take 0=[])∧(∀ n,([] : List α).take n=[])∧(∀ (n:Nat) (a:α) (l:List α),(a::l).take (n+1)=a::l.take n)∧(∀ l:List α,l.drop 0=l)∧(∀ n,([] : List α).drop n=[])∧(∀ (n:Nat) (a:α) (l:List α),(a::l).drop (n+1)=l.drop n)∧(∀ l:List α,List.append [] l=l)∧∀ (a:α) (l m:List α),List.append (a::l) m=a::List.append l m:=
 ⟨fun _=>rfl,fun _=>List.take_nil,fun _ _ _=>rfl,fun _=>rfl,fun _=>List.drop_nil,fun _ _ _=>rfl,fun _=>rfl,fun _ _ _=>rfl⟩
theorem pA {a b:Bool} (h:(a&&b)=true) : a=true∧b=true:=by simpa using h
section
variable {P:Program} {M0:Nat→Nat→Prop} {w0:Bas} {N:Nm} {st:VS} {Q:Exit→VS→Prop}
theorem aK {f:FuncId} {fn:Func} {c:Code} {args:List AV} {r:AV} (hf:P.funcs[f]? = some fn) (hb:fn.body=some c) (hg:(ln P f&&fJ (n0 fn.ntmps) c)=true) (hn:Nat.ble args.length fn.ntmps=true)
  (h:∀ M0 w0,VWp P M0 w0 (n0 fn.ntmps) c (Da P fn.results.toList r) ⟨az 0 args,[]⟩) : VC P f args r:=il hf hb (pA hg).1 (pA hg).2 hn h
theorem aQ {id:Nat} {l:List Oper} (len n:Nat) (ow:List Nat) (_hl:l.length=len) (hB:(P.follows .mixedOrders&&zK l n)=true) (h:l8 P l (l.take n) st fun aR=>eA P ow l (l.drop n) aR (Q .normal)) :
  VWp P M0 w0 N (.region id l.toArray true) Q st:=mH n ow (pA hB).1 (pA hB).2 h
theorem BB {id:Nat} {l:List Oper} (n:Nat) (ow:List Nat) (A:List Slot) (hB:(P.follows .mixedOrders&&(Region.specB l.toArray n&&DH l n A))=true) (hs:sOK st.h.length st.s∧hOK st.h.length st.h)
  (h:kq P l (isA A) (l.take n) 0 st fun T=>xj P l T A∧eA P ow l (l.drop n) ⟨kV st.h.length A++T.s,T.h++me A⟩ (Q .normal)) : VWp P M0 w0 N (.region id l.toArray true) Q st:=
 QU n ow A (pA hB).1 (pA (pA hB).2).1 (pA (pA hB).2).2 hs.1 hs.2 h
end
end Go.Proofs.YtoibondihdhnoaaGreatDoor
