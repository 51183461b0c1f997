/- Texts in one: Rules of the d2z with their checks in one: of every program; no condition. -/
import Derived.Test.YtoibondihdhnoaaGreatDoorFRK8
import Derived.Test.YtoibondihdhnoaaGreatDoorFRK7
namespace Go.Proofs.YtoibondihdhnoaaGreatDoor
open Go.RowKit
theorem ax {α:Type} : (∀ l:List α,l.take 0=[])∧(∀ n,([] : List α).take n=[])∧(∀ (n:Nat) (a:α) (l:List α),(a::l).take (n+1)=a::l.take n)∧(∀ l:List α,l.drop 0=l)∧(∀ n,([] : List α).drop n=[])∧(∀ (n:Nat) (a:α) (l:List α),(a::l).drop (n+1)=l.drop n)∧(∀ l:List α,List.append [] l=l)∧∀ (a:α) (l m:List α),List.append (a::l) m=a::List.append l m:=
 ⟨fun _=>rfl,fun _=>List.take_nil,fun _ _ _=>rfl,fun _=>rfl,fun _=>List.drop_nil,fun _ _ _=>rfl,fun _=>rfl,fun _ _ _=>rfl⟩
theorem p9 {a b:Bool} (h:(a&&b)=true) : a=true∧b=true:=by simpa using h
section
variable {P:Program} {M0:Nat→Nat→Prop} {w0:Bas} {N:Nm} {st:VS} {Q:Exit→VS→Prop}
theorem aQ {f:FuncId} {fn:Func} {c:Code} {args:List AV} {r:AV} (hf:P.funcs[f]? = some fn) (hb:fn.body=some c) (hg:(lP P f&&fk (n0 fn.ntmps) c)=true) (hn:Nat.ble args.length fn.ntmps=true)
  (h:∀ M0 w0,VWp P M0 w0 (n0 fn.ntmps) c (C0 P fn.results.toList r) ⟨aB 0 args,[]⟩) : VC P f args r:=sD hf hb (p9 hg).1 (p9 hg).2 hn h
theorem bg {id:Nat} {l:List Oper} (len n:Nat) (ow:List Nat) (_hl:l.length=len) (hB:(P.follows .mixedOrders&&C3 l n)=true) (h:mX P l (l.take n) st fun aK=>ef P ow l (l.drop n) aK (Q .normal)) :
  VWp P M0 w0 N (.region id l.toArray true) Q st:=oF n ow (p9 hB).1 (p9 hB).2 h
theorem fR {id:Nat} {l:List Oper} (n:Nat) (ow:List Nat) (A:List Slot) (hB:(P.follows .mixedOrders&&(Region.specB l.toArray n&&Df l n A))=true) (hs:sOK st.h.length st.s∧hOK st.h.length st.h)
  (h:iE P l (isA A) (l.take n) 0 st fun T=>w7 P l T A∧ef P ow l (l.drop n) ⟨d_ st.h.length A++T.s,T.h++ez A⟩ (Q .normal)) : VWp P M0 w0 N (.region id l.toArray true) Q st:=
 PT n ow A (p9 hB).1 (p9 (p9 hB).2).1 (p9 (p9 hB).2).2 hs.1 hs.2 h
end
end Go.Proofs.YtoibondihdhnoaaGreatDoor
