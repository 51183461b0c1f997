/- Texts in one: The types of the laws' arguments, opened; no condition. -/
import Derived.Test.YtoibondihdhnoaaGreatDoorFRM62
import Derived.Test.YtoibondihdhnoaaGreatDoorFRM63
import Derived.Test.YtoibondihdhnoaaGreatDoorFRM8
namespace Go.Proofs.YtoibondihdhnoaaGreatDoor
open Go.ChangeShapes Go.WideShapes Go.ChangeAt Go.RowKit Go.Deep
set_option maxRecDepth 100000
def Big (n:Int) : Prop:=-9223372036854775808≤n∧n≤9223372036854775807
section
variable {H:Type} {enc:TypeId×Value→H} {w:World} {base:Nat} {spare:Nat→Bool} {held:Bool}
theorem a4n:Tryz.prog.cellsOf 3=1:=by kernel_rfl
theorem d1a:Tryz.prog.cellsOf 4=1:=by kernel_rfl
theorem c1h:Tryz.prog.cellsOf 9=1:=by kernel_rfl
theorem c8k:Tryz.prog.cellsOf 22=1:=by kernel_rfl
theorem c8l:Tryz.prog.cellsOf 24=3:=by kernel_rfl
theorem c8m:Tryz.prog.cellsOf 29=1:=by kernel_rfl
theorem c8n:Tryz.prog.cellsOf 30=1:=by kernel_rfl
theorem c8o:Tryz.prog.cellsOf 32=3:=by kernel_rfl
theorem c1i:Tryz.prog.cellsOf 61=4:=by kernel_rfl
theorem c8p:Tryz.prog.cellsOf 62=1:=by kernel_rfl
theorem b4j:Tryz.prog.cellsOf 148=3:=by kernel_rfl
theorem lim {n:Nat} (h:n≤maxLen) : n≤9223372036854775807:=by simp only [maxLen] at h;omega
theorem b0l:Opens enc Tryz.prog w base spare held 3 (fun n=>[I n]) Big:=(c1f Tryz.underlying3).map id (fun _=>rfl) (fun _ h=>c4k h)
theorem c8q:Opens enc Tryz.prog w base spare held 9 (fun s=>[S s]) (fun s=>s.size≤maxLen):=b0k Tryz.underlying9
theorem d1b:Opens enc Tryz.prog w base spare held 4 (fun b=>[B b]) (fun _=>True):=b6m Tryz.underlying4
theorem d5d:Opens enc Tryz.prog w base spare held 61 Rk.av (fun x=>x.name.size≤maxLen∧Big x.places∧Big x.feeder):=
 (r4_ Tryz.underlying61 rfl c1i (f7_ c1h c8q (f7_ a4n b0l (f7_ a4n b0l (f7_ d1a d1b (y8_ _)))))).map (fun q=>(⟨q.1,q.2.1,q.2.2.1,q.2.2.2.1⟩ : Rk)) (fun _=>rfl) (fun _ h=>⟨h.1,h.2.1,h.2.2.1⟩)
theorem d5e:Opens enc Tryz.prog w base spare held 148 Tk.av (fun x=>x.car.size≤maxLen∧Big x.rank∧Big x.time):=
 (r4_ Tryz.underlying148 rfl b4j (f7_ c1h c8q (f7_ a4n b0l (f7_ a4n b0l (y8_ _))))).map (fun q=>(⟨q.1,q.2.1,q.2.2.1⟩ : Tk)) (fun _=>rfl) (fun _ h=>⟨h.1,h.2.1,h.2.2.1⟩)
theorem c8r:Opens enc Tryz.prog w base spare held 24 (fun r:Ru=>[.sl 4 (r.ranks.map Rk.av),I r.back,I r.ret]) (fun r=>r.ranks.length≤maxLen∧(∀ x∈r.ranks,x.name.size≤maxLen∧Big x.places∧Big x.feeder)∧Big r.back∧Big r.ret):=
 (r4_ Tryz.underlying24 rfl c8l (f7_ c8k (u9_ Tryz.underlying22 c1i (by decide) d5d) (f7_ a4n b0l (f7_ a4n b0l (y8_ _))))).map (fun q=>(⟨q.1,q.2.1,q.2.2.1⟩ : Ru)) (fun _=>rfl) (fun _ h=>⟨h.1.1,h.1.2,h.2.1,h.2.2.1⟩)
theorem c8s:Opens enc Tryz.prog w base spare held 62 (fun l:List ByteArray=>[.sl 1 (l.map u6_)]) (fun l=>l.length≤maxLen∧∀ x∈l,x.size≤maxLen):=u9_ Tryz.underlying62 c1h (by decide) c8q
theorem c8t:Opens enc Tryz.prog w base spare held 32 (fun s:St=>[v0_ s.q,.sl 3 (s.tk.map Tk.av),I s.time]) (fun s=>s.q.length≤maxLen∧(∀ l∈s.q,l.length≤maxLen∧∀ x∈l,x.size≤maxLen)∧s.tk.length≤maxLen∧(∀ x∈s.tk,x.car.size≤maxLen∧Big x.rank∧Big x.time)∧Big s.time):=
 (r4_ Tryz.underlying32 rfl c8o (f7_ c8m (u9_ Tryz.underlying29 c8p (by decide) c8s) (f7_ c8n (u9_ Tryz.underlying30 b4j (by decide) d5e) (f7_ a4n b0l (y8_ _))))).map (fun q=>(⟨q.1,q.2.1,q.2.2.1⟩ : St)) (fun q=>by simp [v0_,e9_,List.map_map,Function.comp_def]) (fun _ h=>⟨h.1.1,h.1.2,h.2.1.1,h.2.1.2,h.2.2.1⟩)
theorem d1c {r:Reach} {b0:Nat} {v:Value} {d:DataW H} {p:List MemPlace} (hv:Value.okWide Tryz.prog w r b0 3 v) (h:DataW.Trod enc Tryz.prog w base spare held 3 v d p) :
  ∃ n:Int,Big n∧V0 w (fun _ _=>False) (I n) v:=c8i (P:=Tryz.prog) (t:=3) (f:=fun n:Int=>I n) b0l (c8j (t:=3) Tryz.underlying3 hv) h
theorem c4l {r:Reach} {b0:Nat} {v:Value} {d:DataW H} {p:List MemPlace} (hv:Value.okWide Tryz.prog w r b0 24 v) (h:DataW.Trod enc Tryz.prog w base spare held 24 v d p) :
  ∃ n:Ru,(n.ranks.length≤maxLen∧(∀ x∈n.ranks,x.name.size≤maxLen∧Big x.places∧Big x.feeder)∧Big n.back∧Big n.ret)∧V0 w (fun _ _=>False) (c6_ n) v:=c1g (P:=Tryz.prog) (t:=24) (F:=fun r:Ru=>[.sl 4 (r.ranks.map Rk.av),I r.back,I r.ret]) (by kernel_rfl) c8r hv h
theorem c4m {r:Reach} {b0:Nat} {v:Value} {d:DataW H} {p:List MemPlace} (hv:Value.okWide Tryz.prog w r b0 32 v) (h:DataW.Trod enc Tryz.prog w base spare held 32 v d p) :
  ∃ n:St,(n.q.length≤maxLen∧(∀ l∈n.q,l.length≤maxLen∧∀ x∈l,x.size≤maxLen)∧n.tk.length≤maxLen∧(∀ x∈n.tk,x.car.size≤maxLen∧Big x.rank∧Big x.time)∧Big n.time)∧V0 w (fun _ _=>False) (f0_ n) v:=c1g (P:=Tryz.prog) (t:=32) (F:=fun s:St=>[v0_ s.q,.sl 3 (s.tk.map Tk.av),I s.time]) (by kernel_rfl) c8t hv h
end
theorem own:ownKnob Tryz.prog.godebug=none:=by kernel_rfl
theorem b2i:laidOutB Tryz.prog=true:=by kernel_rfl
end Go.Proofs.YtoibondihdhnoaaGreatDoor
