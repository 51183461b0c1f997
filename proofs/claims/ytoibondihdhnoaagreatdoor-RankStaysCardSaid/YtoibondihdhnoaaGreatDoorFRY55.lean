/- Texts in one: A row is appended to a row of the call's own, whichever other operations stand behind it: of every program; no condition. -/
import Derived.Test.YtoibondihdhnoaaGreatDoorFRY14
namespace Go.Proofs.YtoibondihdhnoaaGreatDoor
open Go.RowKit
section
variable {P:Program} {M0:Nat→Nat→Prop} {w0:Bas} {N:Nm}
theorem OO {h0:Hp} {E:Operand→AV} {o:Oper} {d t id sz:Nat} {x y:Operand} {ti te:TI} {nl:Bool} {es es':List (List AV)} (cT:o.op = .call ⟨.builtin .append,#[x,y],#[t,t]⟩) (hd:o.dst=some d) (hx:E x = .osl id) (hy:E y = .sl sz es)
  (aV:aU P t=some ti) (fD:aU P ti.elem=some te) (hi:h0[id]? = some (some (.arr ti.elem sz nl es'))) (hc:ti.kind=1∧ti.esz=sz∧te.size=sz∧te.zero.length=sz∧te.bytes≤100000) (dB:nl=true→0 < es.length) (fU:es'.length+es.length≤1000000000) :
  xr P M0 w0 N h0 E o d (.osl id) (purge id) (fT id 0 (h0.set id (some (.arr ti.elem sz false (es'++es))))):=fun ve p a w s R hE K' Q' hK=>by
 obtain ⟨dst,op,ty,pos,after,guard⟩:=o;simp only at cT hd;subst cT hd;have ex:ev ⟨s,h0⟩ x = .osl id:=(hE x (by simp [Op.operands,Call.operands])).trans hx;have ey:ev ⟨s,h0⟩ y = .sl sz es:=(hE y (by simp [Op.operands,Call.operands])).trans hy;obtain ⟨c1,c2,c3,c4,c5⟩:=hc;obtain ⟨v,w',p',aD,R'⟩:=Gr (P:=P) (ty:=ty) (d:=d) R (fh ve d rfl) aV ex ey hi fD c1 rfl c2 c3 c4 dB fU c5 rfl;unfold Oper.wp;simp only [execOp,resolve,invoke,builtin,Sem.run_bind,Sem.run_pure,Result.andThen_ok,List.map_toArray,List.map_cons,List.map_nil,aD];exact hK _ _ _ R'
end
end Go.Proofs.YtoibondihdhnoaaGreatDoor
