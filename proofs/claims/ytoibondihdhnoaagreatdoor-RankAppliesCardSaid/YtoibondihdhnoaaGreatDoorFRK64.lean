/- Texts in one: The types of the laws' arguments, opened; no condition. -/
import Derived.Test.YtoibondihdhnoaaGreatDoorFRK62
import Derived.Test.YtoibondihdhnoaaGreatDoorFRK63
import Derived.Test.YtoibondihdhnoaaGreatDoorFRK10
namespace Go.Proofs.YtoibondihdhnoaaGreatDoor
open Go.ChangeShapes Go.WideShapes Go.ChangeAt Go.RowKit Go.Deep
set_option maxRecDepth 100000
def Big (n:Int) : Prop:=-9223372036854775808≤n∧n≤9223372036854775807
section
variable {H:Type} {enc:TypeId×Value→H} {w:World} {base:Nat} {spare:Nat→Bool} {held:Bool}
theorem pa:Tryz.prog.cellsOf 3=1:=by kernel_rfl
theorem Pk:Tryz.prog.cellsOf 4=1:=by kernel_rfl
theorem zD:Tryz.prog.cellsOf 9=1:=by kernel_rfl
theorem Pm:Tryz.prog.cellsOf 22=1:=by kernel_rfl
theorem Pn:Tryz.prog.cellsOf 24=3:=by kernel_rfl
theorem Po:Tryz.prog.cellsOf 29=1:=by kernel_rfl
theorem Pp:Tryz.prog.cellsOf 30=1:=by kernel_rfl
theorem Pq:Tryz.prog.cellsOf 32=3:=by kernel_rfl
theorem Pr:Tryz.prog.cellsOf 58=4:=by kernel_rfl
theorem Ho:Tryz.prog.cellsOf 61=4:=by kernel_rfl
theorem Ps:Tryz.prog.cellsOf 62=1:=by kernel_rfl
theorem Hq:Tryz.prog.cellsOf 148=3:=by kernel_rfl
theorem lim {n:Nat} (h:n≤maxLen) : n≤9223372036854775807:=by simp only [maxLen] at h;omega
theorem pb:Opens enc Tryz.prog w base spare held 3 (fun n=>[I n]) Big:=(O_ Tryz.underlying3).map id (fun _=>rfl) (fun _ h=>Pj h)
theorem zE:Opens enc Tryz.prog w base spare held 9 (fun s=>[S s]) (fun s=>s.size≤maxLen):=Pb Tryz.underlying9
theorem Pt:Opens enc Tryz.prog w base spare held 4 (fun b=>[B b]) (fun _=>True):=Pc Tryz.underlying4
theorem Pu:Opens enc Tryz.prog w base spare held 61 Rk.av (fun x=>x.name.size≤maxLen∧Big x.places∧Big x.feeder):=
 (wZ Tryz.underlying61 rfl Ho (kp zD zE (kp pa pb (kp pa pb (kp Pk Pt (wY _)))))).map (fun q=>(⟨q.1,q.2.1,q.2.2.1,q.2.2.2.1⟩ : Rk)) (fun _=>rfl) (fun _ h=>⟨h.1,h.2.1,h.2.2.1⟩)
theorem Pv:Opens enc Tryz.prog w base spare held 58 Ev.av (fun x=>x.car.size≤maxLen∧Big x.kind∧Big x.time∧Big x.rank):=
 (wZ Tryz.underlying58 rfl Pr (kp pa pb (kp pa pb (kp pa pb (kp zD zE (wY _)))))).map (fun q=>(⟨q.1,q.2.1,q.2.2.1,q.2.2.2.1⟩ : Ev)) (fun _=>rfl) (fun _ h=>⟨h.2.2.2.1,h.1,h.2.1,h.2.2.1⟩)
theorem Pw:Opens enc Tryz.prog w base spare held 148 Tk.av (fun x=>x.car.size≤maxLen∧Big x.rank∧Big x.time):=
 (wZ Tryz.underlying148 rfl Hq (kp zD zE (kp pa pb (kp pa pb (wY _))))).map (fun q=>(⟨q.1,q.2.1,q.2.2.1⟩ : Tk)) (fun _=>rfl) (fun _ h=>⟨h.1,h.2.1,h.2.2.1⟩)
theorem Px:Opens enc Tryz.prog w base spare held 24 (fun r:Ru=>[.sl 4 (r.ranks.map Rk.av),I r.back,I r.ret]) (fun r=>r.ranks.length≤maxLen∧(∀ x∈r.ranks,x.name.size≤maxLen∧Big x.places∧Big x.feeder)∧Big r.back∧Big r.ret):=
 (wZ Tryz.underlying24 rfl Pn (kp Pm (zB Tryz.underlying22 Ho (by decide) Pu) (kp pa pb (kp pa pb (wY _))))).map (fun q=>(⟨q.1,q.2.1,q.2.2.1⟩ : Ru)) (fun _=>rfl) (fun _ h=>⟨h.1.1,h.1.2,h.2.1,h.2.2.1⟩)
theorem Py:Opens enc Tryz.prog w base spare held 62 (fun l:List ByteArray=>[.sl 1 (l.map bU)]) (fun l=>l.length≤maxLen∧∀ x∈l,x.size≤maxLen):=zB Tryz.underlying62 zD (by decide) zE
theorem Pz:Opens enc Tryz.prog w base spare held 32 (fun s:St=>[hJ s.q,.sl 3 (s.tk.map Tk.av),I s.time]) (fun s=>s.q.length≤maxLen∧(∀ l∈s.q,l.length≤maxLen∧∀ x∈l,x.size≤maxLen)∧s.tk.length≤maxLen∧(∀ x∈s.tk,x.car.size≤maxLen∧Big x.rank∧Big x.time)∧Big s.time):=
 (wZ Tryz.underlying32 rfl Pq (kp Po (zB Tryz.underlying29 Ps (by decide) Py) (kp Pp (zB Tryz.underlying30 Hq (by decide) Pw) (kp pa pb (wY _))))).map (fun q=>(⟨q.1,q.2.1,q.2.2.1⟩ : St)) (fun q=>by simp [hJ,bo,List.map_map,Function.comp_def]) (fun _ h=>⟨h.1.1,h.1.2,h.2.1.1,h.2.1.2,h.2.2.1⟩)
theorem PA {r:Reach} {b0:Nat} {v:Value} {d:DataW H} {p:List MemPlace} (hv:Value.okWide Tryz.prog w r b0 24 v) (h:DataW.Trod enc Tryz.prog w base spare held 24 v d p) :
  ∃ n:Ru,(n.ranks.length≤maxLen∧(∀ x∈n.ranks,x.name.size≤maxLen∧Big x.places∧Big x.feeder)∧Big n.back∧Big n.ret)∧V0 w (fun _ _=>False) (b8 n) v:=C_ (P:=Tryz.prog) (t:=24) (F:=fun r:Ru=>[.sl 4 (r.ranks.map Rk.av),I r.back,I r.ret]) (by kernel_rfl) Px hv h
theorem PB {r:Reach} {b0:Nat} {v:Value} {d:DataW H} {p:List MemPlace} (hv:Value.okWide Tryz.prog w r b0 58 v) (h:DataW.Trod enc Tryz.prog w base spare held 58 v d p) :
  ∃ n:Ev,(n.car.size≤maxLen∧Big n.kind∧Big n.time∧Big n.rank)∧V0 w (fun _ _=>False) (evA n) v:=C_ (P:=Tryz.prog) (t:=58) (F:=Ev.av) (by kernel_rfl) Pv hv h
theorem PC {r:Reach} {b0:Nat} {v:Value} {d:DataW H} {p:List MemPlace} (hv:Value.okWide Tryz.prog w r b0 32 v) (h:DataW.Trod enc Tryz.prog w base spare held 32 v d p) :
  ∃ n:St,(n.q.length≤maxLen∧(∀ l∈n.q,l.length≤maxLen∧∀ x∈l,x.size≤maxLen)∧n.tk.length≤maxLen∧(∀ x∈n.tk,x.car.size≤maxLen∧Big x.rank∧Big x.time)∧Big n.time)∧V0 w (fun _ _=>False) (da n) v:=C_ (P:=Tryz.prog) (t:=32) (F:=fun s:St=>[hJ s.q,.sl 3 (s.tk.map Tk.av),I s.time]) (by kernel_rfl) Pz hv h
end
theorem own:ownKnob Tryz.prog.godebug=none:=by kernel_rfl
theorem Dd:laidOutB Tryz.prog=true:=by kernel_rfl
end Go.Proofs.YtoibondihdhnoaaGreatDoor
