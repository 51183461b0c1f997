/- Texts in one: The types of the laws' arguments, opened; no condition. -/
import Derived.Test.YtoibondihdhnoaaGreatDoorFRL64
import Derived.Test.YtoibondihdhnoaaGreatDoorFRL65
import Derived.Test.YtoibondihdhnoaaGreatDoorFRL8
namespace Go.Proofs.YtoibondihdhnoaaGreatDoor
open Go.ChangeShapes Go.WideShapes Go.ChangeAt Go.RowKit Go.Deep
set_option maxRecDepth 100000
def Big (n:Int) : Prop:=-9223372036854775808≤n∧n≤9223372036854775807
section
variable {H:Type} {enc:TypeId×Value→H} {w:World} {base:Nat} {spare:Nat→Bool} {held:Bool}
theorem z1_:Tryz.prog.cellsOf 3=1:=by kernel_rfl
theorem d0l:Tryz.prog.cellsOf 4=1:=by kernel_rfl
theorem b4g:Tryz.prog.cellsOf 9=1:=by kernel_rfl
theorem c8d:Tryz.prog.cellsOf 22=1:=by kernel_rfl
theorem c8e:Tryz.prog.cellsOf 24=3:=by kernel_rfl
theorem c8f:Tryz.prog.cellsOf 29=1:=by kernel_rfl
theorem c8g:Tryz.prog.cellsOf 30=1:=by kernel_rfl
theorem c8h:Tryz.prog.cellsOf 32=3:=by kernel_rfl
theorem c8i:Tryz.prog.cellsOf 58=4:=by kernel_rfl
theorem c0x:Tryz.prog.cellsOf 61=4:=by kernel_rfl
theorem c8j:Tryz.prog.cellsOf 62=1:=by kernel_rfl
theorem b4h:Tryz.prog.cellsOf 148=3:=by kernel_rfl
theorem lim {n:Nat} (h:n≤maxLen) : n≤9223372036854775807:=by simp only [maxLen] at h;omega
theorem a4w:Opens enc Tryz.prog w base spare held 3 (fun n=>[I n]) Big:=(c0w Tryz.underlying3).map id (fun _=>rfl) (fun _ h=>c4b h)
theorem c4c:Opens enc Tryz.prog w base spare held 9 (fun s=>[S s]) (fun s=>s.size≤maxLen):=b0g Tryz.underlying9
theorem d0m:Opens enc Tryz.prog w base spare held 4 (fun b=>[B b]) (fun _=>True):=b6e Tryz.underlying4
theorem d4p:Opens enc Tryz.prog w base spare held 61 Rk.av (fun x=>x.name.size≤maxLen∧Big x.places∧Big x.feeder):=
 (n0_ Tryz.underlying61 rfl c0x (d9_ b4g c4c (d9_ z1_ a4w (d9_ z1_ a4w (d9_ d0l d0m (s2_ _)))))).map (fun q=>(⟨q.1,q.2.1,q.2.2.1,q.2.2.2.1⟩ : Rk)) (fun _=>rfl) (fun _ h=>⟨h.1,h.2.1,h.2.2.1⟩)
theorem d4q:Opens enc Tryz.prog w base spare held 58 Ev.av (fun x=>x.car.size≤maxLen∧Big x.kind∧Big x.time∧Big x.rank):=
 (n0_ Tryz.underlying58 rfl c8i (d9_ z1_ a4w (d9_ z1_ a4w (d9_ z1_ a4w (d9_ b4g c4c (s2_ _)))))).map (fun q=>(⟨q.1,q.2.1,q.2.2.1,q.2.2.2.1⟩ : Ev)) (fun _=>rfl) (fun _ h=>⟨h.2.2.2.1,h.1,h.2.1,h.2.2.1⟩)
theorem d4r:Opens enc Tryz.prog w base spare held 148 Tk.av (fun x=>x.car.size≤maxLen∧Big x.rank∧Big x.time):=
 (n0_ Tryz.underlying148 rfl b4h (d9_ b4g c4c (d9_ z1_ a4w (d9_ z1_ a4w (s2_ _))))).map (fun q=>(⟨q.1,q.2.1,q.2.2.1⟩ : Tk)) (fun _=>rfl) (fun _ h=>⟨h.1,h.2.1,h.2.2.1⟩)
theorem c8k:Opens enc Tryz.prog w base spare held 24 (fun r:Ru=>[.sl 4 (r.ranks.map Rk.av),I r.back,I r.ret]) (fun r=>r.ranks.length≤maxLen∧(∀ x∈r.ranks,x.name.size≤maxLen∧Big x.places∧Big x.feeder)∧Big r.back∧Big r.ret):=
 (n0_ Tryz.underlying24 rfl c8e (d9_ c8d (t7_ Tryz.underlying22 c0x (by decide) d4p) (d9_ z1_ a4w (d9_ z1_ a4w (s2_ _))))).map (fun q=>(⟨q.1,q.2.1,q.2.2.1⟩ : Ru)) (fun _=>rfl) (fun _ h=>⟨h.1.1,h.1.2,h.2.1,h.2.2.1⟩)
theorem c8l:Opens enc Tryz.prog w base spare held 62 (fun l:List ByteArray=>[.sl 1 (l.map r0_)]) (fun l=>l.length≤maxLen∧∀ x∈l,x.size≤maxLen):=t7_ Tryz.underlying62 b4g (by decide) c4c
theorem c8m:Opens enc Tryz.prog w base spare held 32 (fun s:St=>[p2_ s.q,.sl 3 (s.tk.map Tk.av),I s.time]) (fun s=>s.q.length≤maxLen∧(∀ l∈s.q,l.length≤maxLen∧∀ x∈l,x.size≤maxLen)∧s.tk.length≤maxLen∧(∀ x∈s.tk,x.car.size≤maxLen∧Big x.rank∧Big x.time)∧Big s.time):=
 (n0_ Tryz.underlying32 rfl c8h (d9_ c8f (t7_ Tryz.underlying29 c8j (by decide) c8l) (d9_ c8g (t7_ Tryz.underlying30 b4h (by decide) d4r) (d9_ z1_ a4w (s2_ _))))).map (fun q=>(⟨q.1,q.2.1,q.2.2.1⟩ : St)) (fun q=>by simp [p2_,e7_,List.map_map,Function.comp_def]) (fun _ h=>⟨h.1.1,h.1.2,h.2.1.1,h.2.1.2,h.2.2.1⟩)
theorem c4d {r:Reach} {b0:Nat} {v:Value} {d:DataW H} {p:List MemPlace} (hv:Value.okWide Tryz.prog w r b0 24 v) (h:DataW.Trod enc Tryz.prog w base spare held 24 v d p) :
  ∃ n:Ru,(n.ranks.length≤maxLen∧(∀ x∈n.ranks,x.name.size≤maxLen∧Big x.places∧Big x.feeder)∧Big n.back∧Big n.ret)∧V0 w (fun _ _=>False) (d1_ n) v:=b2d (P:=Tryz.prog) (t:=24) (F:=fun r:Ru=>[.sl 4 (r.ranks.map Rk.av),I r.back,I r.ret]) (by kernel_rfl) c8k hv h
theorem c4e {r:Reach} {b0:Nat} {v:Value} {d:DataW H} {p:List MemPlace} (hv:Value.okWide Tryz.prog w r b0 58 v) (h:DataW.Trod enc Tryz.prog w base spare held 58 v d p) :
  ∃ n:Ev,(n.car.size≤maxLen∧Big n.kind∧Big n.time∧Big n.rank)∧V0 w (fun _ _=>False) (evA n) v:=b2d (P:=Tryz.prog) (t:=58) (F:=Ev.av) (by kernel_rfl) d4q hv h
theorem c4f {r:Reach} {b0:Nat} {v:Value} {d:DataW H} {p:List MemPlace} (hv:Value.okWide Tryz.prog w r b0 32 v) (h:DataW.Trod enc Tryz.prog w base spare held 32 v d p) :
  ∃ n:St,(n.q.length≤maxLen∧(∀ l∈n.q,l.length≤maxLen∧∀ x∈l,x.size≤maxLen)∧n.tk.length≤maxLen∧(∀ x∈n.tk,x.car.size≤maxLen∧Big x.rank∧Big x.time)∧Big n.time)∧V0 w (fun _ _=>False) (j0_ n) v:=b2d (P:=Tryz.prog) (t:=32) (F:=fun s:St=>[p2_ s.q,.sl 3 (s.tk.map Tk.av),I s.time]) (by kernel_rfl) c8m hv h
end
theorem own:ownKnob Tryz.prog.godebug=none:=by kernel_rfl
theorem b2e:laidOutB Tryz.prog=true:=by kernel_rfl
end Go.Proofs.YtoibondihdhnoaaGreatDoor
