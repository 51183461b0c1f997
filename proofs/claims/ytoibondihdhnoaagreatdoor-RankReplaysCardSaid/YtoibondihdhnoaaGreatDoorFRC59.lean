/- Texts in one: The types of the laws' arguments, opened; no condition. -/
import Derived.Test.YtoibondihdhnoaaGreatDoorFRC57
import Derived.Test.YtoibondihdhnoaaGreatDoorFRC58
import Derived.Test.YtoibondihdhnoaaGreatDoorFRC8
namespace Go.Proofs.YtoibondihdhnoaaGreatDoor
open Go.ChangeShapes Go.WideShapes Go.ChangeAt Go.RowKit Go.Deep
set_option maxRecDepth 100000
def Big (n:Int) : Prop:=-9223372036854775808≤n∧n≤9223372036854775807
section
variable {H:Type} {enc:TypeId×Value→H} {w:World} {base:Nat} {spare:Nat→Bool} {held:Bool}
theorem a4f:Tryz.prog.cellsOf 3=1:=by kernel_rfl
theorem c9x:Tryz.prog.cellsOf 4=1:=by kernel_rfl
theorem c4l:Tryz.prog.cellsOf 9=1:=by kernel_rfl
theorem c7n:Tryz.prog.cellsOf 22=1:=by kernel_rfl
theorem c7o:Tryz.prog.cellsOf 24=3:=by kernel_rfl
theorem b9y:Tryz.prog.cellsOf 58=4:=by kernel_rfl
theorem b9z:Tryz.prog.cellsOf 61=4:=by kernel_rfl
theorem lim {n:Nat} (h:n≤maxLen) : n≤9223372036854775807:=by simp only [maxLen] at h;omega
theorem b1w:Opens enc Tryz.prog w base spare held 3 (fun n=>[I n]) Big:=(b9w Tryz.underlying3).map id (fun _=>rfl) (fun _ h=>c3l h)
theorem c9y:Opens enc Tryz.prog w base spare held 9 (fun s=>[S s]) (fun s=>s.size≤maxLen):=b0d Tryz.underlying9
theorem c9z:Opens enc Tryz.prog w base spare held 4 (fun b=>[B b]) (fun _=>True):=b5q Tryz.underlying4
theorem d3a:Opens enc Tryz.prog w base spare held 61 Rk.av (fun x=>x.name.size≤maxLen∧Big x.places∧Big x.feeder):=
 (x9_ Tryz.underlying61 rfl b9z (f6_ c4l c9y (f6_ a4f b1w (f6_ a4f b1w (f6_ c9x c9z (a2i _)))))).map (fun q=>(⟨q.1,q.2.1,q.2.2.1,q.2.2.2.1⟩ : Rk)) (fun _=>rfl) (fun _ h=>⟨h.1,h.2.1,h.2.2.1⟩)
theorem d3b:Opens enc Tryz.prog w base spare held 58 Ev.av (fun x=>x.car.size≤maxLen∧Big x.kind∧Big x.time∧Big x.rank):=
 (x9_ Tryz.underlying58 rfl b9y (f6_ a4f b1w (f6_ a4f b1w (f6_ a4f b1w (f6_ c4l c9y (a2i _)))))).map (fun q=>(⟨q.1,q.2.1,q.2.2.1,q.2.2.2.1⟩ : Ev)) (fun _=>rfl) (fun _ h=>⟨h.2.2.2.1,h.1,h.2.1,h.2.2.1⟩)
theorem c7p:Opens enc Tryz.prog w base spare held 24 (fun r:Ru=>[.sl 4 (r.ranks.map Rk.av),I r.back,I r.ret]) (fun r=>r.ranks.length≤maxLen∧(∀ x∈r.ranks,x.name.size≤maxLen∧Big x.places∧Big x.feeder)∧Big r.back∧Big r.ret):=
 (x9_ Tryz.underlying24 rfl c7o (f6_ c7n (a4e Tryz.underlying22 b9z (by decide) d3a) (f6_ a4f b1w (f6_ a4f b1w (a2i _))))).map (fun q=>(⟨q.1,q.2.1,q.2.2.1⟩ : Ru)) (fun _=>rfl) (fun _ h=>⟨h.1.1,h.1.2,h.2.1,h.2.2.1⟩)
theorem c0a {r:Reach} {b0:Nat} {v:Value} {d:DataW H} {p:List MemPlace} (hv:Value.okWide Tryz.prog w r b0 25 v) (h:DataW.Trod enc Tryz.prog w base spare held 25 v d p) :
  ∃ n:List Ev,(n.length≤maxLen∧∀ x∈n,x.car.size≤maxLen∧Big x.kind∧Big x.time∧Big x.rank)∧V0 w (fun _ _=>False) (r3_ n) v:=c7m (P:=Tryz.prog) (t:=25) (f:=fun l:List Ev=>r3_ l) (a4e Tryz.underlying25 b9y (by decide) d3b) (b9x (t:=25) Tryz.underlying25 hv) h
theorem c3m {r:Reach} {b0:Nat} {v:Value} {d:DataW H} {p:List MemPlace} (hv:Value.okWide Tryz.prog w r b0 24 v) (h:DataW.Trod enc Tryz.prog w base spare held 24 v d p) :
  ∃ n:Ru,(n.ranks.length≤maxLen∧(∀ x∈n.ranks,x.name.size≤maxLen∧Big x.places∧Big x.feeder)∧Big n.back∧Big n.ret)∧V0 w (fun _ _=>False) (c4_ n) v:=c7l (P:=Tryz.prog) (t:=24) (F:=fun r:Ru=>[.sl 4 (r.ranks.map Rk.av),I r.back,I r.ret]) (by kernel_rfl) c7p hv h
end
theorem own:ownKnob Tryz.prog.godebug=none:=by kernel_rfl
theorem c0b:laidOutB Tryz.prog=true:=by kernel_rfl
end Go.Proofs.YtoibondihdhnoaaGreatDoor
