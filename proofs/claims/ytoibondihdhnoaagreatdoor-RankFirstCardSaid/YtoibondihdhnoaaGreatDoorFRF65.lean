/- Texts in one: The types of the laws' arguments, opened; no condition. -/
import Derived.Test.YtoibondihdhnoaaGreatDoorFRF63
import Derived.Test.YtoibondihdhnoaaGreatDoorFRF64
import Derived.Test.YtoibondihdhnoaaGreatDoorFRF8
namespace Go.Proofs.YtoibondihdhnoaaGreatDoor
open Go.ChangeShapes Go.WideShapes Go.ChangeAt Go.RowKit Go.Deep
set_option maxRecDepth 100000
def Big (n:Int) : Prop:=-9223372036854775808≤n∧n≤9223372036854775807
section
variable {H:Type} {enc:TypeId×Value→H} {w:World} {base:Nat} {spare:Nat→Bool} {held:Bool}
theorem a4w:Tryz.prog.cellsOf 3=1:=by kernel_rfl
theorem d0z:Tryz.prog.cellsOf 4=1:=by kernel_rfl
theorem c5m:Tryz.prog.cellsOf 9=1:=by kernel_rfl
theorem c8q:Tryz.prog.cellsOf 22=1:=by kernel_rfl
theorem c8r:Tryz.prog.cellsOf 24=3:=by kernel_rfl
theorem c1a:Tryz.prog.cellsOf 58=4:=by kernel_rfl
theorem c1b:Tryz.prog.cellsOf 61=4:=by kernel_rfl
theorem lim {n:Nat} (h:n≤maxLen) : n≤9223372036854775807:=by simp only [maxLen] at h;omega
theorem b0x:Opens enc Tryz.prog w base spare held 3 (fun n=>[I n]) Big:=(c0x Tryz.underlying3).map id (fun _=>rfl) (fun _ h=>c4i h)
theorem d1a:Opens enc Tryz.prog w base spare held 9 (fun s=>[S s]) (fun s=>s.size≤maxLen):=b0w Tryz.underlying9
theorem d1b:Opens enc Tryz.prog w base spare held 4 (fun b=>[B b]) (fun _=>True):=b6i Tryz.underlying4
theorem d5k:Opens enc Tryz.prog w base spare held 61 Rk.av (fun x=>x.name.size≤maxLen∧Big x.places∧Big x.feeder):=
 (y8_ Tryz.underlying61 rfl c1b (f9_ c5m d1a (f9_ a4w b0x (f9_ a4w b0x (f9_ d0z d1b (a2o _)))))).map (fun q=>(⟨q.1,q.2.1,q.2.2.1,q.2.2.2.1⟩ : Rk)) (fun _=>rfl) (fun _ h=>⟨h.1,h.2.1,h.2.2.1⟩)
theorem d5l:Opens enc Tryz.prog w base spare held 58 Ev.av (fun x=>x.car.size≤maxLen∧Big x.kind∧Big x.time∧Big x.rank):=
 (y8_ Tryz.underlying58 rfl c1a (f9_ a4w b0x (f9_ a4w b0x (f9_ a4w b0x (f9_ c5m d1a (a2o _)))))).map (fun q=>(⟨q.1,q.2.1,q.2.2.1,q.2.2.2.1⟩ : Ev)) (fun _=>rfl) (fun _ h=>⟨h.2.2.2.1,h.1,h.2.1,h.2.2.1⟩)
theorem c8s:Opens enc Tryz.prog w base spare held 24 (fun r:Ru=>[.sl 4 (r.ranks.map Rk.av),I r.back,I r.ret]) (fun r=>r.ranks.length≤maxLen∧(∀ x∈r.ranks,x.name.size≤maxLen∧Big x.places∧Big x.feeder)∧Big r.back∧Big r.ret):=
 (y8_ Tryz.underlying24 rfl c8r (f9_ c8q (a4v Tryz.underlying22 c1b (by decide) d5k) (f9_ a4w b0x (f9_ a4w b0x (a2o _))))).map (fun q=>(⟨q.1,q.2.1,q.2.2.1⟩ : Ru)) (fun _=>rfl) (fun _ h=>⟨h.1.1,h.1.2,h.2.1,h.2.2.1⟩)
theorem d1c {r:Reach} {b0:Nat} {v:Value} {d:DataW H} {p:List MemPlace} (hv:Value.okWide Tryz.prog w r b0 3 v) (h:DataW.Trod enc Tryz.prog w base spare held 3 v d p) :
  ∃ n:Int,Big n∧V0 w (fun _ _=>False) (I n) v:=c0y (P:=Tryz.prog) (t:=3) (f:=fun n:Int=>I n) b0x (c8p (t:=3) Tryz.underlying3 hv) h
theorem c1c {r:Reach} {b0:Nat} {v:Value} {d:DataW H} {p:List MemPlace} (hv:Value.okWide Tryz.prog w r b0 25 v) (h:DataW.Trod enc Tryz.prog w base spare held 25 v d p) :
  ∃ n:List Ev,(n.length≤maxLen∧∀ x∈n,x.car.size≤maxLen∧Big x.kind∧Big x.time∧Big x.rank)∧V0 w (fun _ _=>False) (q5_ n) v:=c0y (P:=Tryz.prog) (t:=25) (f:=fun l:List Ev=>q5_ l) (a4v Tryz.underlying25 c1a (by decide) d5l) (c0z (t:=25) Tryz.underlying25 hv) h
theorem c4j {r:Reach} {b0:Nat} {v:Value} {d:DataW H} {p:List MemPlace} (hv:Value.okWide Tryz.prog w r b0 24 v) (h:DataW.Trod enc Tryz.prog w base spare held 24 v d p) :
  ∃ n:Ru,(n.ranks.length≤maxLen∧(∀ x∈n.ranks,x.name.size≤maxLen∧Big x.places∧Big x.feeder)∧Big n.back∧Big n.ret)∧V0 w (fun _ _=>False) (c5_ n) v:=c8o (P:=Tryz.prog) (t:=24) (F:=fun r:Ru=>[.sl 4 (r.ranks.map Rk.av),I r.back,I r.ret]) (by kernel_rfl) c8s hv h
end
theorem own:ownKnob Tryz.prog.godebug=none:=by kernel_rfl
theorem b2n:laidOutB Tryz.prog=true:=by kernel_rfl
end Go.Proofs.YtoibondihdhnoaaGreatDoor
