/- Texts in one: The types of the laws' arguments, opened; no condition. -/
import Derived.Test.YtoibondihdhnoaaDoorFRX8
import Derived.Test.YtoibondihdhnoaaDoorFRX9
import Derived.Test.YtoibondihdhnoaaDoorFRX7
namespace Go.Proofs.YtoibondihdhnoaaDoor
open Go.ChangeShapes Go.WideShapes Go.ChangeAt Go.RowKit Go.Deep
set_option maxRecDepth 100000
def Big (n:Int) : Prop:=-9223372036854775808≤n∧n≤9223372036854775807
section
variable {H:Type} {enc:TypeId×Value→H} {w:World} {base:Nat} {spare:Nat→Bool} {held:Bool}
theorem a4n:Tryd.prog.cellsOf 3=1:=by kernel_rfl
theorem d0c:Tryd.prog.cellsOf 4=1:=by kernel_rfl
theorem c5o:Tryd.prog.cellsOf 9=1:=by kernel_rfl
theorem c6k:Tryd.prog.cellsOf 22=1:=by kernel_rfl
theorem c6l:Tryd.prog.cellsOf 24=3:=by kernel_rfl
theorem b7q:Tryd.prog.cellsOf 29=4:=by kernel_rfl
theorem b7r:Tryd.prog.cellsOf 40=4:=by kernel_rfl
theorem lim {n:Nat} (h:n≤maxLen) : n≤9223372036854775807:=by simp only [maxLen] at h;omega
theorem b1p:Opens enc Tryd.prog w base spare held 3 (fun n=>[I n]) Big:=(c2e Tryd.underlying3).map id (fun _=>rfl) (fun _ h=>c5n h)
theorem d0d:Opens enc Tryd.prog w base spare held 9 (fun s=>[S s]) (fun s=>s.size≤maxLen):=b1l Tryd.underlying9
theorem d0e:Opens enc Tryd.prog w base spare held 4 (fun b=>[B b]) (fun _=>True):=b7n Tryd.underlying4
theorem d4z:Opens enc Tryd.prog w base spare held 40 Rk.av (fun x=>x.name.size≤maxLen∧Big x.places∧Big x.feeder):=
 (a0f Tryd.underlying40 rfl b7r (h7_ c5o d0d (h7_ a4n b1p (h7_ a4n b1p (h7_ d0c d0e (a3p _)))))).map (fun q=>(⟨q.1,q.2.1,q.2.2.1,q.2.2.2.1⟩ : Rk)) (fun _=>rfl) (fun _ h=>⟨h.1,h.2.1,h.2.2.1⟩)
theorem d5a:Opens enc Tryd.prog w base spare held 29 Ev.av (fun x=>x.car.size≤maxLen∧Big x.kind∧Big x.time∧Big x.rank):=
 (a0f Tryd.underlying29 rfl b7q (h7_ a4n b1p (h7_ a4n b1p (h7_ a4n b1p (h7_ c5o d0d (a3p _)))))).map (fun q=>(⟨q.1,q.2.1,q.2.2.1,q.2.2.2.1⟩ : Ev)) (fun _=>rfl) (fun _ h=>⟨h.2.2.2.1,h.1,h.2.1,h.2.2.1⟩)
theorem c6m:Opens enc Tryd.prog w base spare held 24 (fun r:Ru=>[.sl 4 (r.ranks.map Rk.av),I r.back,I r.ret]) (fun r=>r.ranks.length≤maxLen∧(∀ x∈r.ranks,x.name.size≤maxLen∧Big x.places∧Big x.feeder)∧Big r.back∧Big r.ret):=
 (a0f Tryd.underlying24 rfl c6l (h7_ c6k (a5x Tryd.underlying22 b7r (by decide) d4z) (h7_ a4n b1p (h7_ a4n b1p (a3p _))))).map (fun q=>(⟨q.1,q.2.1,q.2.2.1⟩ : Ru)) (fun _=>rfl) (fun _ h=>⟨h.1.1,h.1.2,h.2.1,h.2.2.1⟩)
theorem b7s {r:Reach} {b0:Nat} {v:Value} {d:DataW H} {p:List MemPlace} (hv:Value.okWide Tryd.prog w r b0 25 v) (h:DataW.Trod enc Tryd.prog w base spare held 25 v d p) :
  ∃ n:List Ev,(n.length≤maxLen∧∀ x∈n,x.car.size≤maxLen∧Big x.kind∧Big x.time∧Big x.rank)∧V0 w (fun _ _=>False) (w2_ n) v:=c9u (P:=Tryd.prog) (t:=25) (f:=fun l:List Ev=>w2_ l) (a5x Tryd.underlying25 b7q (by decide) d5a) (c2f (t:=25) Tryd.underlying25 hv) h
theorem c2l {r:Reach} {b0:Nat} {v:Value} {d:DataW H} {p:List MemPlace} (hv:Value.okWide Tryd.prog w r b0 24 v) (h:DataW.Trod enc Tryd.prog w base spare held 24 v d p) :
  ∃ n:Ru,(n.ranks.length≤maxLen∧(∀ x∈n.ranks,x.name.size≤maxLen∧Big x.places∧Big x.feeder)∧Big n.back∧Big n.ret)∧V0 w (fun _ _=>False) (c4_ n) v:=c9t (P:=Tryd.prog) (t:=24) (F:=fun r:Ru=>[.sl 4 (r.ranks.map Rk.av),I r.back,I r.ret]) (by kernel_rfl) c6m hv h
end
theorem own:ownKnob Tryd.prog.godebug=none:=by kernel_rfl
theorem b7t:laidOutB Tryd.prog=true:=by kernel_rfl
end Go.Proofs.YtoibondihdhnoaaDoor
