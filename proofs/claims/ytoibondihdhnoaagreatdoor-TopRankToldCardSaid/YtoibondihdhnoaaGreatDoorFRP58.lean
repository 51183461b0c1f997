/- Texts in one: A row is appended to a row of the call's own, whichever other operations stand behind it: of every program; no condition. -/
import Derived.Test.YtoibondihdhnoaaGreatDoorFRP15
namespace Go.Proofs.YtoibondihdhnoaaGreatDoor
open Go.RowKit
section
variable {P:Program} {M0:Nat→Nat→Prop} {w0:Bas} {N:Nm}
theorem PH {h0:Hp} {E:Operand→AV} {o:Oper} {d t id sz:Nat} {x y:Operand} {ti te:TI} {nl:Bool} {es es':List (List AV)} (cj:o.op = .call ⟨.builtin .append,#[x,y],#[t,t]⟩) (hd:o.dst=some d) (hx:E x = .osl id) (hy:E y = .sl sz es)
  (aX:aY P t=some ti) (fM:aY P ti.elem=some te) (hi:h0[id]? = some (some (.arr ti.elem sz nl es'))) (hc:ti.kind=1∧ti.esz=sz∧te.size=sz∧te.zero.length=sz∧te.bytes≤100000) (dI:nl=true→0 < es.length) (f_:es'.length+es.length≤1000000000) :
  xE P M0 w0 N h0 E o d (.osl id) (purge id) (fZ id 0 (h0.set id (some (.arr ti.elem sz false (es'++es))))):=fun uT p a w s R hE K' Q' hK=>by
 obtain ⟨dst,op,ty,pos,after,guard⟩:=o;simp only at cj hd;subst cj hd;have ex:ev ⟨s,h0⟩ x = .osl id:=(hE x (by simp [Op.operands,Call.operands])).trans hx;have ey:ev ⟨s,h0⟩ y = .sl sz es:=(hE y (by simp [Op.operands,Call.operands])).trans hy;obtain ⟨c1,c2,c3,c4,c5⟩:=hc;obtain ⟨v,w',p',aC,R'⟩:=H0 (P:=P) (ty:=ty) (d:=d) R (eZ uT d rfl) aX ex ey hi fM c1 rfl c2 c3 c4 dI f_ c5 rfl;unfold Oper.wp;simp only [execOp,resolve,invoke,builtin,Sem.run_bind,Sem.run_pure,Result.andThen_ok,List.map_toArray,List.map_cons,List.map_nil,aC];exact hK _ _ _ R'
end
end Go.Proofs.YtoibondihdhnoaaGreatDoor
