/- Texts in one: A row is appended to a row of the call's own, whichever other operations stand behind it: of every program; no condition. -/
import Derived.Test.YtoibondihdhnoaaDoorFRX17
namespace Go.Proofs.YtoibondihdhnoaaDoor
open Go.RowKit
section
variable {P:Program} {M0:Nat→Nat→Prop} {w0:Bas} {N:Nm}
theorem d1s {h0:Hp} {E:Operand→AV} {o:Oper} {d t id sz:Nat} {x y:Operand} {ti te:TI} {nl:Bool} {es es':List (List AV)} (hop:o.op = .call ⟨.builtin .append,#[x,y],#[t,t]⟩) (hd:o.dst=some d) (hx:E x = .osl id) (hy:E y = .sl sz es)
  (hti:c3_ P t=some ti) (hte:c3_ P ti.elem=some te) (hi:h0[id]? = some (some (.arr ti.elem sz nl es'))) (hc:ti.kind=1∧ti.esz=sz∧te.size=sz∧te.zero.length=sz∧te.bytes≤100000) (hnil:nl=true→0 < es.length) (hmax:es'.length+es.length≤1000000000) :
  d2b P M0 w0 N h0 E o d (.osl id) (purge id) (j3_ id 0 (h0.set id (some (.arr ti.elem sz false (es'++es))))):=fun hdb p a w s R hE K' Q' hK=>by
 obtain ⟨dst,op,ty,pos,after,guard⟩:=o;simp only at hop hd;subst hop hd;have ex:ev ⟨s,h0⟩ x = .osl id:=(hE x (by simp [Op.operands,Call.operands])).trans hx;have ey:ev ⟨s,h0⟩ y = .sl sz es:=(hE y (by simp [Op.operands,Call.operands])).trans hy;obtain ⟨c1,c2,c3,c4,c5⟩:=hc;obtain ⟨v,w',p',hrun,R'⟩:=a5k (P:=P) (ty:=ty) (d:=d) R (f8_ hdb d rfl) hti ex ey hi hte c1 rfl c2 c3 c4 hnil hmax c5 rfl;unfold Oper.wp;simp only [execOp,resolve,invoke,builtin,Sem.run_bind,Sem.run_pure,Result.andThen_ok,List.map_toArray,List.map_cons,List.map_nil,hrun];exact hK _ _ _ R'
end
end Go.Proofs.YtoibondihdhnoaaDoor
