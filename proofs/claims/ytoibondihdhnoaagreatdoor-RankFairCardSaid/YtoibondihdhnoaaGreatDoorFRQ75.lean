/- Texts in one: The types of the laws' arguments, opened; no condition. -/
import Derived.Test.YtoibondihdhnoaaGreatDoorFRQ73
import Derived.Test.YtoibondihdhnoaaGreatDoorFRQ74
import Derived.Test.YtoibondihdhnoaaGreatDoorFRQ10
namespace Go.Proofs.YtoibondihdhnoaaGreatDoor
open Go.ChangeShapes Go.WideShapes Go.ChangeAt Go.RowKit Go.Deep
set_option maxRecDepth 100000
def Big (n:Int) : Prop:=-9223372036854775808≤n∧n≤9223372036854775807
section
variable {H:Type} {enc:TypeId×Value→H} {w:World} {base:Nat} {spare:Nat→Bool} {held:Bool}
theorem sK:Tryz.prog.cellsOf 3=1:=by kernel_rfl
theorem P6:Tryz.prog.cellsOf 4=1:=by kernel_rfl
theorem HJ:Tryz.prog.cellsOf 9=1:=by kernel_rfl
theorem P7:Tryz.prog.cellsOf 22=1:=by kernel_rfl
theorem P8:Tryz.prog.cellsOf 24=3:=by kernel_rfl
theorem HO:Tryz.prog.cellsOf 58=4:=by kernel_rfl
theorem HV:Tryz.prog.cellsOf 61=4:=by kernel_rfl
theorem lim {n:Nat} (h:n≤maxLen) : n≤9223372036854775807:=by simp only [maxLen] at h;omega
theorem sL:Opens enc Tryz.prog w base spare held 3 (fun n=>[I n]) Big:=(PU Tryz.underlying3).map id (fun _=>rfl) (fun _ h=>P5 h)
theorem De:Opens enc Tryz.prog w base spare held 9 (fun s=>[S s]) (fun s=>s.size≤maxLen):=PV Tryz.underlying9
theorem P9:Opens enc Tryz.prog w base spare held 4 (fun b=>[B b]) (fun _=>True):=PW Tryz.underlying4
theorem P_:Opens enc Tryz.prog w base spare held 61 Rk.av (fun x=>x.name.size≤maxLen∧Big x.places∧Big x.feeder):=
 (Da Tryz.underlying61 rfl HV (n8 HJ De (n8 sK sL (n8 sK sL (n8 P6 P9 (C_ _)))))).map (fun q=>(⟨q.1,q.2.1,q.2.2.1,q.2.2.2.1⟩ : Rk)) (fun _=>rfl) (fun _ h=>⟨h.1,h.2.1,h.2.2.1⟩)
theorem Qa:Opens enc Tryz.prog w base spare held 58 Ev.av (fun x=>x.car.size≤maxLen∧Big x.kind∧Big x.time∧Big x.rank):=
 (Da Tryz.underlying58 rfl HO (n8 sK sL (n8 sK sL (n8 sK sL (n8 HJ De (C_ _)))))).map (fun q=>(⟨q.1,q.2.1,q.2.2.1,q.2.2.2.1⟩ : Ev)) (fun _=>rfl) (fun _ h=>⟨h.2.2.2.1,h.1,h.2.1,h.2.2.1⟩)
theorem Qb:Opens enc Tryz.prog w base spare held 24 (fun r:Ru=>[.sl 4 (r.ranks.map Rk.av),I r.back,I r.ret]) (fun r=>r.ranks.length≤maxLen∧(∀ x∈r.ranks,x.name.size≤maxLen∧Big x.places∧Big x.feeder)∧Big r.back∧Big r.ret):=
 (Da Tryz.underlying24 rfl P8 (n8 P7 (Hy Tryz.underlying22 HV (by decide) P_) (n8 sK sL (n8 sK sL (C_ _))))).map (fun q=>(⟨q.1,q.2.1,q.2.2.1⟩ : Ru)) (fun _=>rfl) (fun _ h=>⟨h.1.1,h.1.2,h.2.1,h.2.2.1⟩)
theorem Qc {r:Reach} {b0:Nat} {v:Value} {d:DataW H} {p:List MemPlace} (hv:Value.okWide Tryz.prog w r b0 9 v) (h:DataW.Trod enc Tryz.prog w base spare held 9 v d p) :
  ∃ n:ByteArray,n.size≤maxLen∧V0 w (fun _ _=>False) (S n) v:=Hz (P:=Tryz.prog) (t:=9) (f:=fun n:ByteArray=>S n) De (P1 (t:=9) Tryz.underlying9 hv) h
theorem Qd {r:Reach} {b0:Nat} {v:Value} {d:DataW H} {p:List MemPlace} (hv:Value.okWide Tryz.prog w r b0 25 v) (h:DataW.Trod enc Tryz.prog w base spare held 25 v d p) :
  ∃ n:List Ev,(n.length≤maxLen∧∀ x∈n,x.car.size≤maxLen∧Big x.kind∧Big x.time∧Big x.rank)∧V0 w (fun _ _=>False) (cp n) v:=Hz (P:=Tryz.prog) (t:=25) (f:=fun l:List Ev=>cp l) (Hy Tryz.underlying25 HO (by decide) Qa) (P0 (t:=25) Tryz.underlying25 hv) h
theorem Qe {r:Reach} {b0:Nat} {v:Value} {d:DataW H} {p:List MemPlace} (hv:Value.okWide Tryz.prog w r b0 24 v) (h:DataW.Trod enc Tryz.prog w base spare held 24 v d p) :
  ∃ n:Ru,(n.ranks.length≤maxLen∧(∀ x∈n.ranks,x.name.size≤maxLen∧Big x.places∧Big x.feeder)∧Big n.back∧Big n.ret)∧V0 w (fun _ _=>False) (bJ n) v:=PZ (P:=Tryz.prog) (t:=24) (F:=fun r:Ru=>[.sl 4 (r.ranks.map Rk.av),I r.back,I r.ret]) (by kernel_rfl) Qb hv h
end
theorem own:ownKnob Tryz.prog.godebug=none:=by kernel_rfl
theorem Df:laidOutB Tryz.prog=true:=by kernel_rfl
end Go.Proofs.YtoibondihdhnoaaGreatDoor
