/- Texts in one: What a law's row gives at its door: the world's shape beside its listed variables; tables of texts; of every program; no condition. -/
import Derived.Test.YtoibondihdhnoaaGreatDoorFRY57
import Derived.LaidLaws
import Derived.Lib.LaidTab
import Derived.LaidSub
import Derived.Handed
import Derived.HandedShaped
import Derived.Stop.LaidErr
import Derived.Lay
namespace Go.Proofs.YtoibondihdhnoaaGreatDoor
open Go.ChangeShapes Go.WideShapes Go.ChangeAt Go.RowKit Go.Deep
theorem zN {H:Type} {enc:TypeId×Value→H} {a:Assume} {C:Checked} {os:Os} {f:FuncId} {fn:Func} {s:ChangeSpec} {conds:List PathCond} {apart fresh handsOn again:Bool} {X:World→Array Value→Prop}
  (hX:∀ (w w':World) (args:Array Value),w.heap=w'.heap→X w args→X w' args)
  (own:ownKnob C.prog.godebug=none) (started:os.Started) (sV:C.prog.inits.idxOf? f=none) (lV:C.prog.funcs[f]? = some fn)
  (witness:∃ (w:World) (tape:Tape) (i:Input),w.os=os∧(w.forCall tape i).Shaped C.prog∧i.vars=[]∧Input.okWide C.prog (w.forCall tape i) .any w.heap.size f i ∧
   ((s.pre enc C.prog fn conds apart (w.forCall tape i).memory i.args∧X (w.forCall tape i).memory i.args)∧sizedMet enc C.prog fn (OpenSpec.ofChange s) apart (w.forCall tape i).memory i.args)∧a.holds C.prog (lone (Frame.enter C.prog f i.args .normal) [] (w.forCall tape i)))
  (oe:∀ (W:World) (base:Nat) (args:Array Value) (ds gs:List (DataW H)) (before:List MemPlace),
   (∀ (j:Nat) t v,fn.params[j]? = some t→args[j]? = some v→Value.okWide C.prog W .any base t v) →
   DataW.Whole enc C.prog fn.params.toList s.vars apart W args.toList ds gs before →
   conds.all (PathCond.test C.prog ⟨fn.params.toList,ds,s.plain.varTypes C.prog,gs⟩)=true →
   W.ShapedOpen C.prog→X W args →
   a.holds C.prog (lone (Frame.enter C.prog f args .normal) [] W) →
   Calls C.prog f args W fun e W'=>∃ v,e = .returned v∧s.post enc C.prog fn apart fresh handsOn again W args v W') :
  ReturnsInHanded a C os f .any (fun w args=>(s.pre enc C.prog fn conds apart w args∧X w args)∧sizedMet enc C.prog fn (OpenSpec.ofChange s) apart w args) (s.post enc C.prog fn apart fresh handsOn again):=by
 refine returnsInHanded_of_calls own started sV witness ?_;intro w tape i _ lq _ oW Df sW;obtain ⟨_,_,_,Pb,Dg,_,_,_,_,cS⟩:=oW;have e:Pb=fn:=Option.some.inj (Dg.symm.trans lV);subst e;obtain ⟨⟨⟨ds,gs,before,hw,hc⟩,hx⟩,_⟩:=Df;have Pc:=DataW.Whole.of_heap (w':=w.forCall tape i) (by rfl) hw;refine (oe (w.forCall tape i) w.heap.size i.args ds gs before cS Pc hc lq (hX _ _ _ (by rfl) hx) sW).mono fun e W' ⟨v,he,hp⟩=>?_;subst he;exact ChangeSpec.post_blind hp
theorem Dh {P:Program} {W:World} {l:List (String×DataW Unit)} {x:String×DataW Unit} (h:laidMetH P l W) (name:String) (hx:(l.filter fun x=>x.2.handleName?.isNone).filter (fun y=>y.1 == name)=[x]) : laidMet P [x] W:=by
 rw [←hx];exact (laidMetH_iff.1 h).1.filter _
theorem Pd {n:Int} (h:(Lit.int .i64 n).wf=true) : -9223372036854775808≤n∧n≤9223372036854775807:=by
 simpa [Lit.wf,IntKind.min,IntKind.max,IntKind.bits,IntKind.signed] using h
end Go.Proofs.YtoibondihdhnoaaGreatDoor
