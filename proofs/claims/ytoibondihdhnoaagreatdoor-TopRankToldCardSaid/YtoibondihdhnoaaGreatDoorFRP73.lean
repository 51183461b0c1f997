/- Texts in one: The types of the laws' arguments, opened; no condition. -/
import Derived.Test.YtoibondihdhnoaaGreatDoorFRP71
import Derived.Test.YtoibondihdhnoaaGreatDoorFRP72
import Derived.Test.YtoibondihdhnoaaGreatDoorFRP10
namespace Go.Proofs.YtoibondihdhnoaaGreatDoor
open Go.ChangeShapes Go.WideShapes Go.ChangeAt Go.RowKit Go.Deep
set_option maxRecDepth 100000
def Big (n:Int) : Prop:=-9223372036854775808≤n∧n≤9223372036854775807
section
variable {H:Type} {enc:TypeId×Value→H} {w:World} {base:Nat} {spare:Nat→Bool} {held:Bool}
theorem s0:Tryz.prog.cellsOf 3=1:=by kernel_rfl
theorem Q3:Tryz.prog.cellsOf 4=1:=by kernel_rfl
theorem IW:Tryz.prog.cellsOf 9=1:=by kernel_rfl
theorem Q4:Tryz.prog.cellsOf 22=1:=by kernel_rfl
theorem Q5:Tryz.prog.cellsOf 24=3:=by kernel_rfl
theorem IX:Tryz.prog.cellsOf 58=4:=by kernel_rfl
theorem IY:Tryz.prog.cellsOf 61=4:=by kernel_rfl
theorem lim {n:Nat} (h:n≤maxLen) : n≤9223372036854775807:=by simp only [maxLen] at h;omega
theorem rm:Opens enc Tryz.prog w base spare held 3 (fun n=>[I n]) Big:=(QO Tryz.underlying3).map id (fun _=>rfl) (fun _ h=>QZ h)
theorem IZ:Opens enc Tryz.prog w base spare held 9 (fun s=>[S s]) (fun s=>s.size≤maxLen):=QP Tryz.underlying9
theorem Q6:Opens enc Tryz.prog w base spare held 4 (fun b=>[B b]) (fun _=>True):=QQ Tryz.underlying4
theorem Q7:Opens enc Tryz.prog w base spare held 61 Rk.av (fun x=>x.name.size≤maxLen∧Big x.places∧Big x.feeder):=
 (DI Tryz.underlying61 rfl IY (oJ IW IZ (oJ s0 rm (oJ s0 rm (oJ Q3 Q6 (DH _)))))).map (fun q=>(⟨q.1,q.2.1,q.2.2.1,q.2.2.2.1⟩ : Rk)) (fun _=>rfl) (fun _ h=>⟨h.1,h.2.1,h.2.2.1⟩)
theorem Q8:Opens enc Tryz.prog w base spare held 58 Ev.av (fun x=>x.car.size≤maxLen∧Big x.kind∧Big x.time∧Big x.rank):=
 (DI Tryz.underlying58 rfl IX (oJ s0 rm (oJ s0 rm (oJ s0 rm (oJ IW IZ (DH _)))))).map (fun q=>(⟨q.1,q.2.1,q.2.2.1,q.2.2.2.1⟩ : Ev)) (fun _=>rfl) (fun _ h=>⟨h.2.2.2.1,h.1,h.2.1,h.2.2.1⟩)
theorem Q9:Opens enc Tryz.prog w base spare held 24 (fun r:Ru=>[.sl 4 (r.ranks.map Rk.av),I r.back,I r.ret]) (fun r=>r.ranks.length≤maxLen∧(∀ x∈r.ranks,x.name.size≤maxLen∧Big x.places∧Big x.feeder)∧Big r.back∧Big r.ret):=
 (DI Tryz.underlying24 rfl Q5 (oJ Q4 (IU Tryz.underlying22 IY (by decide) Q7) (oJ s0 rm (oJ s0 rm (DH _))))).map (fun q=>(⟨q.1,q.2.1,q.2.2.1⟩ : Ru)) (fun _=>rfl) (fun _ h=>⟨h.1.1,h.1.2,h.2.1,h.2.2.1⟩)
theorem Q_ {r:Reach} {b0:Nat} {v:Value} {d:DataW H} {p:List MemPlace} (hv:Value.okWide Tryz.prog w r b0 3 v) (h:DataW.Trod enc Tryz.prog w base spare held 3 v d p) :
  ∃ n:Int,Big n∧V0 w (fun _ _=>False) (I n) v:=IV (P:=Tryz.prog) (t:=3) (f:=fun n:Int=>I n) rm (QV (t:=3) Tryz.underlying3 hv) h
theorem Ra {r:Reach} {b0:Nat} {v:Value} {d:DataW H} {p:List MemPlace} (hv:Value.okWide Tryz.prog w r b0 25 v) (h:DataW.Trod enc Tryz.prog w base spare held 25 v d p) :
  ∃ n:List Ev,(n.length≤maxLen∧∀ x∈n,x.car.size≤maxLen∧Big x.kind∧Big x.time∧Big x.rank)∧V0 w (fun _ _=>False) (iZ n) v:=IV (P:=Tryz.prog) (t:=25) (f:=fun l:List Ev=>iZ l) (IU Tryz.underlying25 IX (by decide) Q8) (QU (t:=25) Tryz.underlying25 hv) h
theorem Rb {r:Reach} {b0:Nat} {v:Value} {d:DataW H} {p:List MemPlace} (hv:Value.okWide Tryz.prog w r b0 24 v) (h:DataW.Trod enc Tryz.prog w base spare held 24 v d p) :
  ∃ n:Ru,(n.ranks.length≤maxLen∧(∀ x∈n.ranks,x.name.size≤maxLen∧Big x.places∧Big x.feeder)∧Big n.back∧Big n.ret)∧V0 w (fun _ _=>False) (cY n) v:=QT (P:=Tryz.prog) (t:=24) (F:=fun r:Ru=>[.sl 4 (r.ranks.map Rk.av),I r.back,I r.ret]) (by kernel_rfl) Q9 hv h
end
theorem own:ownKnob Tryz.prog.godebug=none:=by kernel_rfl
theorem DM:laidOutB Tryz.prog=true:=by kernel_rfl
end Go.Proofs.YtoibondihdhnoaaGreatDoor
