/- Texts in one: The types of the laws' arguments, opened; no condition. -/
import Derived.Test.YtoibondihdhnoaaGreatDoorFRE61
import Derived.Test.YtoibondihdhnoaaGreatDoorFRE62
import Derived.Test.YtoibondihdhnoaaGreatDoorFRE8
namespace Go.Proofs.YtoibondihdhnoaaGreatDoor
open Go.ChangeShapes Go.WideShapes Go.ChangeAt Go.RowKit Go.Deep
set_option maxRecDepth 100000
def Big (n:Int) : Prop:=-9223372036854775808≤n∧n≤9223372036854775807
section
variable {H:Type} {enc:TypeId×Value→H} {w:World} {base:Nat} {spare:Nat→Bool} {held:Bool}
theorem a4v:Tryz.prog.cellsOf 3=1:=by kernel_rfl
theorem d1c:Tryz.prog.cellsOf 4=1:=by kernel_rfl
theorem c5p:Tryz.prog.cellsOf 9=1:=by kernel_rfl
theorem c8v:Tryz.prog.cellsOf 22=1:=by kernel_rfl
theorem c8w:Tryz.prog.cellsOf 24=3:=by kernel_rfl
theorem c1e:Tryz.prog.cellsOf 58=4:=by kernel_rfl
theorem c1f:Tryz.prog.cellsOf 61=4:=by kernel_rfl
theorem lim {n:Nat} (h:n≤maxLen) : n≤9223372036854775807:=by simp only [maxLen] at h;omega
theorem b2p:Opens enc Tryz.prog w base spare held 3 (fun n=>[I n]) Big:=(c1c Tryz.underlying3).map id (fun _=>rfl) (fun _ h=>c4l h)
theorem d1d:Opens enc Tryz.prog w base spare held 9 (fun s=>[S s]) (fun s=>s.size≤maxLen):=b0x Tryz.underlying9
theorem d1e:Opens enc Tryz.prog w base spare held 4 (fun b=>[B b]) (fun _=>True):=b6k Tryz.underlying4
theorem d5m:Opens enc Tryz.prog w base spare held 61 Rk.av (fun x=>x.name.size≤maxLen∧Big x.places∧Big x.feeder):=
 (z0_ Tryz.underlying61 rfl c1f (g1_ c5p d1d (g1_ a4v b2p (g1_ a4v b2p (g1_ d1c d1e (a2p _)))))).map (fun q=>(⟨q.1,q.2.1,q.2.2.1,q.2.2.2.1⟩ : Rk)) (fun _=>rfl) (fun _ h=>⟨h.1,h.2.1,h.2.2.1⟩)
theorem d5n:Opens enc Tryz.prog w base spare held 58 Ev.av (fun x=>x.car.size≤maxLen∧Big x.kind∧Big x.time∧Big x.rank):=
 (z0_ Tryz.underlying58 rfl c1e (g1_ a4v b2p (g1_ a4v b2p (g1_ a4v b2p (g1_ c5p d1d (a2p _)))))).map (fun q=>(⟨q.1,q.2.1,q.2.2.1,q.2.2.2.1⟩ : Ev)) (fun _=>rfl) (fun _ h=>⟨h.2.2.2.1,h.1,h.2.1,h.2.2.1⟩)
theorem c8x:Opens enc Tryz.prog w base spare held 24 (fun r:Ru=>[.sl 4 (r.ranks.map Rk.av),I r.back,I r.ret]) (fun r=>r.ranks.length≤maxLen∧(∀ x∈r.ranks,x.name.size≤maxLen∧Big x.places∧Big x.feeder)∧Big r.back∧Big r.ret):=
 (z0_ Tryz.underlying24 rfl c8w (g1_ c8v (a4u Tryz.underlying22 c1f (by decide) d5m) (g1_ a4v b2p (g1_ a4v b2p (a2p _))))).map (fun q=>(⟨q.1,q.2.1,q.2.2.1⟩ : Ru)) (fun _=>rfl) (fun _ h=>⟨h.1.1,h.1.2,h.2.1,h.2.2.1⟩)
theorem c1g {r:Reach} {b0:Nat} {v:Value} {d:DataW H} {p:List MemPlace} (hv:Value.okWide Tryz.prog w r b0 25 v) (h:DataW.Trod enc Tryz.prog w base spare held 25 v d p) :
  ∃ n:List Ev,(n.length≤maxLen∧∀ x∈n,x.car.size≤maxLen∧Big x.kind∧Big x.time∧Big x.rank)∧V0 w (fun _ _=>False) (n8_ n) v:=c8u (P:=Tryz.prog) (t:=25) (f:=fun l:List Ev=>n8_ l) (a4u Tryz.underlying25 c1e (by decide) d5n) (c1d (t:=25) Tryz.underlying25 hv) h
theorem c4m {r:Reach} {b0:Nat} {v:Value} {d:DataW H} {p:List MemPlace} (hv:Value.okWide Tryz.prog w r b0 24 v) (h:DataW.Trod enc Tryz.prog w base spare held 24 v d p) :
  ∃ n:Ru,(n.ranks.length≤maxLen∧(∀ x∈n.ranks,x.name.size≤maxLen∧Big x.places∧Big x.feeder)∧Big n.back∧Big n.ret)∧V0 w (fun _ _=>False) (c4_ n) v:=c8t (P:=Tryz.prog) (t:=24) (F:=fun r:Ru=>[.sl 4 (r.ranks.map Rk.av),I r.back,I r.ret]) (by kernel_rfl) c8x hv h
end
theorem own:ownKnob Tryz.prog.godebug=none:=by kernel_rfl
theorem c1h:laidOutB Tryz.prog=true:=by kernel_rfl
end Go.Proofs.YtoibondihdhnoaaGreatDoor
