/- Texts in one: The types of the laws' arguments, opened; no condition. -/
import Derived.Test.YtoibondihdhnoaaGreatDoorFRY57
import Derived.Test.YtoibondihdhnoaaGreatDoorFRY58
import Derived.Test.YtoibondihdhnoaaGreatDoorFRY9
namespace Go.Proofs.YtoibondihdhnoaaGreatDoor
open Go.ChangeShapes Go.WideShapes Go.ChangeAt Go.RowKit Go.Deep
set_option maxRecDepth 100000
def Big (n:Int) : Prop:=-9223372036854775808≤n∧n≤9223372036854775807
section
variable {H:Type} {enc:TypeId×Value→H} {w:World} {base:Nat} {spare:Nat→Bool} {held:Bool}
theorem sX:Tryz.prog.cellsOf 3=1:=by kernel_rfl
theorem Pe:Tryz.prog.cellsOf 4=1:=by kernel_rfl
theorem Hw:Tryz.prog.cellsOf 9=1:=by kernel_rfl
theorem Pf:Tryz.prog.cellsOf 22=1:=by kernel_rfl
theorem Pg:Tryz.prog.cellsOf 24=3:=by kernel_rfl
theorem Hy:Tryz.prog.cellsOf 58=4:=by kernel_rfl
theorem Hz:Tryz.prog.cellsOf 61=4:=by kernel_rfl
theorem lim {n:Nat} (h:n≤maxLen) : n≤9223372036854775807:=by simp only [maxLen] at h;omega
theorem ri:Opens enc Tryz.prog w base spare held 3 (fun n=>[I n]) Big:=(O4 Tryz.underlying3).map id (fun _=>rfl) (fun _ h=>Pd h)
theorem HJ:Opens enc Tryz.prog w base spare held 9 (fun s=>[S s]) (fun s=>s.size≤maxLen):=O5 Tryz.underlying9
theorem Ph:Opens enc Tryz.prog w base spare held 4 (fun b=>[B b]) (fun _=>True):=O6 Tryz.underlying4
theorem Pj:Opens enc Tryz.prog w base spare held 61 Rk.av (fun x=>x.name.size≤maxLen∧Big x.places∧Big x.feeder):=
 (De Tryz.underlying61 rfl Hz (od Hw HJ (od sX ri (od sX ri (od Pe Ph (Dd _)))))).map (fun q=>(⟨q.1,q.2.1,q.2.2.1,q.2.2.2.1⟩ : Rk)) (fun _=>rfl) (fun _ h=>⟨h.1,h.2.1,h.2.2.1⟩)
theorem Pk:Opens enc Tryz.prog w base spare held 58 Ev.av (fun x=>x.car.size≤maxLen∧Big x.kind∧Big x.time∧Big x.rank):=
 (De Tryz.underlying58 rfl Hy (od sX ri (od sX ri (od sX ri (od Hw HJ (Dd _)))))).map (fun q=>(⟨q.1,q.2.1,q.2.2.1,q.2.2.2.1⟩ : Ev)) (fun _=>rfl) (fun _ h=>⟨h.2.2.2.1,h.1,h.2.1,h.2.2.1⟩)
theorem Pm:Opens enc Tryz.prog w base spare held 24 (fun r:Ru=>[.sl 4 (r.ranks.map Rk.av),I r.back,I r.ret]) (fun r=>r.ranks.length≤maxLen∧(∀ x∈r.ranks,x.name.size≤maxLen∧Big x.places∧Big x.feeder)∧Big r.back∧Big r.ret):=
 (De Tryz.underlying24 rfl Pg (od Pf (Hu Tryz.underlying22 Hz (by decide) Pj) (od sX ri (od sX ri (Dd _))))).map (fun q=>(⟨q.1,q.2.1,q.2.2.1⟩ : Ru)) (fun _=>rfl) (fun _ h=>⟨h.1.1,h.1.2,h.2.1,h.2.2.1⟩)
theorem Pn {r:Reach} {b0:Nat} {v:Value} {d:DataW H} {p:List MemPlace} (hv:Value.okWide Tryz.prog w r b0 3 v) (h:DataW.Trod enc Tryz.prog w base spare held 3 v d p) :
  ∃ n:Int,Big n∧V0 w (fun _ _=>False) (I n) v:=Hv (P:=Tryz.prog) (t:=3) (f:=fun n:Int=>I n) ri (O_ (t:=3) Tryz.underlying3 hv) h
theorem zO {r:Reach} {b0:Nat} {v:Value} {d:DataW H} {p:List MemPlace} (hv:Value.okWide Tryz.prog w r b0 25 v) (h:DataW.Trod enc Tryz.prog w base spare held 25 v d p) :
  ∃ n:List Ev,(n.length≤maxLen∧∀ x∈n,x.car.size≤maxLen∧Big x.kind∧Big x.time∧Big x.rank)∧V0 w (fun _ _=>False) (cF n) v:=Hv (P:=Tryz.prog) (t:=25) (f:=fun l:List Ev=>cF l) (Hu Tryz.underlying25 Hy (by decide) Pk) (O9 (t:=25) Tryz.underlying25 hv) h
theorem zP {r:Reach} {b0:Nat} {v:Value} {d:DataW H} {p:List MemPlace} (hv:Value.okWide Tryz.prog w r b0 24 v) (h:DataW.Trod enc Tryz.prog w base spare held 24 v d p) :
  ∃ n:Ru,(n.ranks.length≤maxLen∧(∀ x∈n.ranks,x.name.size≤maxLen∧Big x.places∧Big x.feeder)∧Big n.back∧Big n.ret)∧V0 w (fun _ _=>False) (bN n) v:=O8 (P:=Tryz.prog) (t:=24) (F:=fun r:Ru=>[.sl 4 (r.ranks.map Rk.av),I r.back,I r.ret]) (by kernel_rfl) Pm hv h
end
theorem own:ownKnob Tryz.prog.godebug=none:=by kernel_rfl
theorem p5:laidOutB Tryz.prog=true:=by kernel_rfl
end Go.Proofs.YtoibondihdhnoaaGreatDoor
