/- Texts in one: The types of the laws' arguments, opened; no condition. -/
import Derived.Test.YtoibondihdhnoaaGreatDoorFRB57
import Derived.Test.YtoibondihdhnoaaGreatDoorFRB58
import Derived.Test.YtoibondihdhnoaaGreatDoorFRB8
namespace Go.Proofs.YtoibondihdhnoaaGreatDoor
open Go.ChangeShapes Go.WideShapes Go.ChangeAt Go.RowKit Go.Deep
set_option maxRecDepth 100000
def Big (n:Int) : Prop:=-9223372036854775808≤n∧n≤9223372036854775807
section
variable {H:Type} {enc:TypeId×Value→H} {w:World} {base:Nat} {spare:Nat→Bool} {held:Bool}
theorem a5s:Tryz.prog.cellsOf 3=1:=by kernel_rfl
theorem d2z:Tryz.prog.cellsOf 4=1:=by kernel_rfl
theorem c2y:Tryz.prog.cellsOf 9=1:=by kernel_rfl
theorem d0l:Tryz.prog.cellsOf 22=1:=by kernel_rfl
theorem d0m:Tryz.prog.cellsOf 24=3:=by kernel_rfl
theorem d0n:Tryz.prog.cellsOf 29=1:=by kernel_rfl
theorem d0o:Tryz.prog.cellsOf 30=1:=by kernel_rfl
theorem d0p:Tryz.prog.cellsOf 32=3:=by kernel_rfl
theorem c2z:Tryz.prog.cellsOf 61=4:=by kernel_rfl
theorem d0q:Tryz.prog.cellsOf 62=1:=by kernel_rfl
theorem b6q:Tryz.prog.cellsOf 148=3:=by kernel_rfl
theorem lim {n:Nat} (h:n≤maxLen) : n≤9223372036854775807:=by simp only [maxLen] at h;omega
theorem b4e:Opens enc Tryz.prog w base spare held 3 (fun n=>[I n]) Big:=(c2w Tryz.underlying3).map id (fun _=>rfl) (fun _ h=>c6e h)
theorem c6f:Opens enc Tryz.prog w base spare held 9 (fun s=>[S s]) (fun s=>s.size≤maxLen):=b2d Tryz.underlying9
theorem d3a:Opens enc Tryz.prog w base spare held 4 (fun b=>[B b]) (fun _=>True):=b8m Tryz.underlying4
theorem d6i:Opens enc Tryz.prog w base spare held 61 Rk.av (fun x=>x.name.size≤maxLen∧Big x.places∧Big x.feeder):=
 (r7_ Tryz.underlying61 rfl c2z (e8_ c2y c6f (e8_ a5s b4e (e8_ a5s b4e (e8_ d2z d3a (a0c _)))))).map (fun q=>(⟨q.1,q.2.1,q.2.2.1,q.2.2.2.1⟩ : Rk)) (fun _=>rfl) (fun _ h=>⟨h.1,h.2.1,h.2.2.1⟩)
theorem d6j:Opens enc Tryz.prog w base spare held 148 Tk.av (fun x=>x.car.size≤maxLen∧Big x.rank∧Big x.time):=
 (r7_ Tryz.underlying148 rfl b6q (e8_ c2y c6f (e8_ a5s b4e (e8_ a5s b4e (a0c _))))).map (fun q=>(⟨q.1,q.2.1,q.2.2.1⟩ : Tk)) (fun _=>rfl) (fun _ h=>⟨h.1,h.2.1,h.2.2.1⟩)
theorem d0r:Opens enc Tryz.prog w base spare held 24 (fun r:Ru=>[.sl 4 (r.ranks.map Rk.av),I r.back,I r.ret]) (fun r=>r.ranks.length≤maxLen∧(∀ x∈r.ranks,x.name.size≤maxLen∧Big x.places∧Big x.feeder)∧Big r.back∧Big r.ret):=
 (r7_ Tryz.underlying24 rfl d0m (e8_ d0l (v5_ Tryz.underlying22 c2z (by decide) d6i) (e8_ a5s b4e (e8_ a5s b4e (a0c _))))).map (fun q=>(⟨q.1,q.2.1,q.2.2.1⟩ : Ru)) (fun _=>rfl) (fun _ h=>⟨h.1.1,h.1.2,h.2.1,h.2.2.1⟩)
theorem d0s:Opens enc Tryz.prog w base spare held 62 (fun l:List ByteArray=>[.sl 1 (l.map p1_)]) (fun l=>l.length≤maxLen∧∀ x∈l,x.size≤maxLen):=v5_ Tryz.underlying62 c2y (by decide) c6f
theorem d0t:Opens enc Tryz.prog w base spare held 32 (fun s:St=>[a1b s.q,.sl 3 (s.tk.map Tk.av),I s.time]) (fun s=>s.q.length≤maxLen∧(∀ l∈s.q,l.length≤maxLen∧∀ x∈l,x.size≤maxLen)∧s.tk.length≤maxLen∧(∀ x∈s.tk,x.car.size≤maxLen∧Big x.rank∧Big x.time)∧Big s.time):=
 (r7_ Tryz.underlying32 rfl d0p (e8_ d0n (v5_ Tryz.underlying29 d0q (by decide) d0s) (e8_ d0o (v5_ Tryz.underlying30 b6q (by decide) d6j) (e8_ a5s b4e (a0c _))))).map (fun q=>(⟨q.1,q.2.1,q.2.2.1⟩ : St)) (fun q=>by simp [a1b,f6_,List.map_map,Function.comp_def]) (fun _ h=>⟨h.1.1,h.1.2,h.2.1.1,h.2.1.2,h.2.2.1⟩)
theorem d3b {r:Reach} {b0:Nat} {v:Value} {d:DataW H} {p:List MemPlace} (hv:Value.okWide Tryz.prog w r b0 9 v) (h:DataW.Trod enc Tryz.prog w base spare held 9 v d p) :
  ∃ n:ByteArray,n.size≤maxLen∧V0 w (fun _ _=>False) (S n) v:=d0k (P:=Tryz.prog) (t:=9) (f:=fun n:ByteArray=>S n) c6f (b8n (t:=9) Tryz.underlying9 hv) h
theorem c6g {r:Reach} {b0:Nat} {v:Value} {d:DataW H} {p:List MemPlace} (hv:Value.okWide Tryz.prog w r b0 24 v) (h:DataW.Trod enc Tryz.prog w base spare held 24 v d p) :
  ∃ n:Ru,(n.ranks.length≤maxLen∧(∀ x∈n.ranks,x.name.size≤maxLen∧Big x.places∧Big x.feeder)∧Big n.back∧Big n.ret)∧V0 w (fun _ _=>False) (e0_ n) v:=c2x (P:=Tryz.prog) (t:=24) (F:=fun r:Ru=>[.sl 4 (r.ranks.map Rk.av),I r.back,I r.ret]) (by kernel_rfl) d0r hv h
theorem c6h {r:Reach} {b0:Nat} {v:Value} {d:DataW H} {p:List MemPlace} (hv:Value.okWide Tryz.prog w r b0 32 v) (h:DataW.Trod enc Tryz.prog w base spare held 32 v d p) :
  ∃ n:St,(n.q.length≤maxLen∧(∀ l∈n.q,l.length≤maxLen∧∀ x∈l,x.size≤maxLen)∧n.tk.length≤maxLen∧(∀ x∈n.tk,x.car.size≤maxLen∧Big x.rank∧Big x.time)∧Big n.time)∧V0 w (fun _ _=>False) (i0_ n) v:=c2x (P:=Tryz.prog) (t:=32) (F:=fun s:St=>[a1b s.q,.sl 3 (s.tk.map Tk.av),I s.time]) (by kernel_rfl) d0t hv h
end
theorem own:ownKnob Tryz.prog.godebug=none:=by kernel_rfl
theorem b4f:laidOutB Tryz.prog=true:=by kernel_rfl
end Go.Proofs.YtoibondihdhnoaaGreatDoor
