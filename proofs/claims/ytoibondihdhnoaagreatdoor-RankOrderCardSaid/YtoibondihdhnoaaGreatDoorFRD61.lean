/- Texts in one: The types of the laws' arguments, opened; no condition. -/
import Derived.Test.YtoibondihdhnoaaGreatDoorFRD59
import Derived.Test.YtoibondihdhnoaaGreatDoorFRD60
import Derived.Test.YtoibondihdhnoaaGreatDoorFRD8
namespace Go.Proofs.YtoibondihdhnoaaGreatDoor
open Go.ChangeShapes Go.WideShapes Go.ChangeAt Go.RowKit Go.Deep
set_option maxRecDepth 100000
def Big (n:Int) : Prop:=-9223372036854775808≤n∧n≤9223372036854775807
section
variable {H:Type} {enc:TypeId×Value→H} {w:World} {base:Nat} {spare:Nat→Bool} {held:Bool}
theorem a5g:Tryz.prog.cellsOf 3=1:=by kernel_rfl
theorem d0w:Tryz.prog.cellsOf 4=1:=by kernel_rfl
theorem c5h:Tryz.prog.cellsOf 9=1:=by kernel_rfl
theorem c8l:Tryz.prog.cellsOf 22=1:=by kernel_rfl
theorem c8m:Tryz.prog.cellsOf 24=3:=by kernel_rfl
theorem c0v:Tryz.prog.cellsOf 58=4:=by kernel_rfl
theorem c0w:Tryz.prog.cellsOf 61=4:=by kernel_rfl
theorem lim {n:Nat} (h:n≤maxLen) : n≤9223372036854775807:=by simp only [maxLen] at h;omega
theorem b2o:Opens enc Tryz.prog w base spare held 3 (fun n=>[I n]) Big:=(c0k Tryz.underlying3).map id (fun _=>rfl) (fun _ h=>c4d h)
theorem d0x:Opens enc Tryz.prog w base spare held 9 (fun s=>[S s]) (fun s=>s.size≤maxLen):=b0t Tryz.underlying9
theorem d0y:Opens enc Tryz.prog w base spare held 4 (fun b=>[B b]) (fun _=>True):=b6h Tryz.underlying4
theorem d5i:Opens enc Tryz.prog w base spare held 61 Rk.av (fun x=>x.name.size≤maxLen∧Big x.places∧Big x.feeder):=
 (y5_ Tryz.underlying61 rfl c0w (f6_ c5h d0x (f6_ a5g b2o (f6_ a5g b2o (f6_ d0w d0y (a2q _)))))).map (fun q=>(⟨q.1,q.2.1,q.2.2.1,q.2.2.2.1⟩ : Rk)) (fun _=>rfl) (fun _ h=>⟨h.1,h.2.1,h.2.2.1⟩)
theorem d5j:Opens enc Tryz.prog w base spare held 58 Ev.av (fun x=>x.car.size≤maxLen∧Big x.kind∧Big x.time∧Big x.rank):=
 (y5_ Tryz.underlying58 rfl c0v (f6_ a5g b2o (f6_ a5g b2o (f6_ a5g b2o (f6_ c5h d0x (a2q _)))))).map (fun q=>(⟨q.1,q.2.1,q.2.2.1,q.2.2.2.1⟩ : Ev)) (fun _=>rfl) (fun _ h=>⟨h.2.2.2.1,h.1,h.2.1,h.2.2.1⟩)
theorem c8n:Opens enc Tryz.prog w base spare held 24 (fun r:Ru=>[.sl 4 (r.ranks.map Rk.av),I r.back,I r.ret]) (fun r=>r.ranks.length≤maxLen∧(∀ x∈r.ranks,x.name.size≤maxLen∧Big x.places∧Big x.feeder)∧Big r.back∧Big r.ret):=
 (y5_ Tryz.underlying24 rfl c8m (f6_ c8l (a4w Tryz.underlying22 c0w (by decide) d5i) (f6_ a5g b2o (f6_ a5g b2o (a2q _))))).map (fun q=>(⟨q.1,q.2.1,q.2.2.1⟩ : Ru)) (fun _=>rfl) (fun _ h=>⟨h.1.1,h.1.2,h.2.1,h.2.2.1⟩)
theorem c0x {r:Reach} {b0:Nat} {v:Value} {d:DataW H} {p:List MemPlace} (hv:Value.okWide Tryz.prog w r b0 25 v) (h:DataW.Trod enc Tryz.prog w base spare held 25 v d p) :
  ∃ n:List Ev,(n.length≤maxLen∧∀ x∈n,x.car.size≤maxLen∧Big x.kind∧Big x.time∧Big x.rank)∧V0 w (fun _ _=>False) (q5_ n) v:=c8f (P:=Tryz.prog) (t:=25) (f:=fun l:List Ev=>q5_ l) (a4w Tryz.underlying25 c0v (by decide) d5j) (c0l (t:=25) Tryz.underlying25 hv) h
theorem c4e {r:Reach} {b0:Nat} {v:Value} {d:DataW H} {p:List MemPlace} (hv:Value.okWide Tryz.prog w r b0 24 v) (h:DataW.Trod enc Tryz.prog w base spare held 24 v d p) :
  ∃ n:Ru,(n.ranks.length≤maxLen∧(∀ x∈n.ranks,x.name.size≤maxLen∧Big x.places∧Big x.feeder)∧Big n.back∧Big n.ret)∧V0 w (fun _ _=>False) (c3_ n) v:=c8e (P:=Tryz.prog) (t:=24) (F:=fun r:Ru=>[.sl 4 (r.ranks.map Rk.av),I r.back,I r.ret]) (by kernel_rfl) c8n hv h
end
theorem own:ownKnob Tryz.prog.godebug=none:=by kernel_rfl
theorem c0y:laidOutB Tryz.prog=true:=by kernel_rfl
end Go.Proofs.YtoibondihdhnoaaGreatDoor
