/- Texts in one: The types of the laws' arguments, opened; no condition. -/
import Derived.Test.YtoibondihdhnoaaGreatDoorFRN63
import Derived.Test.YtoibondihdhnoaaGreatDoorFRN64
import Derived.Test.YtoibondihdhnoaaGreatDoorFRN8
namespace Go.Proofs.YtoibondihdhnoaaGreatDoor
open Go.ChangeShapes Go.WideShapes Go.ChangeAt Go.RowKit Go.Deep
set_option maxRecDepth 100000
def Big (n:Int) : Prop:=-9223372036854775808≤n∧n≤9223372036854775807
section
variable {H:Type} {enc:TypeId×Value→H} {w:World} {base:Nat} {spare:Nat→Bool} {held:Bool}
theorem a2m:Tryz.prog.cellsOf 3=1:=by kernel_rfl
theorem d0y:Tryz.prog.cellsOf 4=1:=by kernel_rfl
theorem b4m:Tryz.prog.cellsOf 9=1:=by kernel_rfl
theorem c8o:Tryz.prog.cellsOf 22=1:=by kernel_rfl
theorem c8p:Tryz.prog.cellsOf 24=3:=by kernel_rfl
theorem c8q:Tryz.prog.cellsOf 29=1:=by kernel_rfl
theorem c8r:Tryz.prog.cellsOf 30=1:=by kernel_rfl
theorem c8s:Tryz.prog.cellsOf 32=3:=by kernel_rfl
theorem c1a:Tryz.prog.cellsOf 61=4:=by kernel_rfl
theorem c8t:Tryz.prog.cellsOf 62=1:=by kernel_rfl
theorem b4n:Tryz.prog.cellsOf 148=3:=by kernel_rfl
theorem c4i:Tryz.prog.cellsOf 124=2:=by kernel_rfl
theorem lim {n:Nat} (h:n≤maxLen) : n≤9223372036854775807:=by simp only [maxLen] at h;omega
theorem b0o:Opens enc Tryz.prog w base spare held 3 (fun n=>[I n]) Big:=(c0z Tryz.underlying3).map id (fun _=>rfl) (fun _ h=>c4h h)
theorem c4j:Opens enc Tryz.prog w base spare held 9 (fun s=>[S s]) (fun s=>s.size≤maxLen):=b0n Tryz.underlying9
theorem d0z:Opens enc Tryz.prog w base spare held 4 (fun b=>[B b]) (fun _=>True):=b6m Tryz.underlying4
theorem d5c:Opens enc Tryz.prog w base spare held 61 Rk.av (fun x=>x.name.size≤maxLen∧Big x.places∧Big x.feeder):=
 (n4_ Tryz.underlying61 rfl c1a (e5_ b4m c4j (e5_ a2m b0o (e5_ a2m b0o (e5_ d0y d0z (s8_ _)))))).map (fun q=>(⟨q.1,q.2.1,q.2.2.1,q.2.2.2.1⟩ : Rk)) (fun _=>rfl) (fun _ h=>⟨h.1,h.2.1,h.2.2.1⟩)
theorem d5d:Opens enc Tryz.prog w base spare held 148 Tk.av (fun x=>x.car.size≤maxLen∧Big x.rank∧Big x.time):=
 (n4_ Tryz.underlying148 rfl b4n (e5_ b4m c4j (e5_ a2m b0o (e5_ a2m b0o (s8_ _))))).map (fun q=>(⟨q.1,q.2.1,q.2.2.1⟩ : Tk)) (fun _=>rfl) (fun _ h=>⟨h.1,h.2.1,h.2.2.1⟩)
theorem c8u:Opens enc Tryz.prog w base spare held 24 (fun r:Ru=>[.sl 4 (r.ranks.map Rk.av),I r.back,I r.ret]) (fun r=>r.ranks.length≤maxLen∧(∀ x∈r.ranks,x.name.size≤maxLen∧Big x.places∧Big x.feeder)∧Big r.back∧Big r.ret):=
 (n4_ Tryz.underlying24 rfl c8p (e5_ c8o (u3_ Tryz.underlying22 c1a (by decide) d5c) (e5_ a2m b0o (e5_ a2m b0o (s8_ _))))).map (fun q=>(⟨q.1,q.2.1,q.2.2.1⟩ : Ru)) (fun _=>rfl) (fun _ h=>⟨h.1.1,h.1.2,h.2.1,h.2.2.1⟩)
theorem c8v:Opens enc Tryz.prog w base spare held 62 (fun l:List ByteArray=>[.sl 1 (l.map n5_)]) (fun l=>l.length≤maxLen∧∀ x∈l,x.size≤maxLen):=u3_ Tryz.underlying62 b4m (by decide) c4j
theorem c8w:Opens enc Tryz.prog w base spare held 32 (fun s:St=>[x1_ s.q,.sl 3 (s.tk.map Tk.av),I s.time]) (fun s=>s.q.length≤maxLen∧(∀ l∈s.q,l.length≤maxLen∧∀ x∈l,x.size≤maxLen)∧s.tk.length≤maxLen∧(∀ x∈s.tk,x.car.size≤maxLen∧Big x.rank∧Big x.time)∧Big s.time):=
 (n4_ Tryz.underlying32 rfl c8s (e5_ c8q (u3_ Tryz.underlying29 c8t (by decide) c8v) (e5_ c8r (u3_ Tryz.underlying30 b4n (by decide) d5d) (e5_ a2m b0o (s8_ _))))).map (fun q=>(⟨q.1,q.2.1,q.2.2.1⟩ : St)) (fun q=>by simp [x1_,f3_,List.map_map,Function.comp_def]) (fun _ h=>⟨h.1.1,h.1.2,h.2.1.1,h.2.1.2,h.2.2.1⟩)
theorem d5e:Opens enc Tryz.prog w base spare held 124 (fun q:Int×ByteArray=>[I q.1,S q.2]) (fun q=>Big q.1∧q.2.size≤maxLen):=
 (n4_ Tryz.underlying124 rfl c4i (e5_ a2m b0o (e5_ b4m c4j (s8_ _)))).map (fun q=>(q.1,q.2.1)) (fun _=>rfl) (fun _ h=>⟨h.1,h.2.1⟩)
theorem c4k {r:Reach} {b0:Nat} {v:Value} {d:DataW H} {p:List MemPlace} (hv:Value.okWide Tryz.prog w r b0 24 v) (h:DataW.Trod enc Tryz.prog w base spare held 24 v d p) :
  ∃ n:Ru,(n.ranks.length≤maxLen∧(∀ x∈n.ranks,x.name.size≤maxLen∧Big x.places∧Big x.feeder)∧Big n.back∧Big n.ret)∧V0 w (fun _ _=>False) (c3_ n) v:=b2i (P:=Tryz.prog) (t:=24) (F:=fun r:Ru=>[.sl 4 (r.ranks.map Rk.av),I r.back,I r.ret]) (by kernel_rfl) c8u hv h
theorem c4l {r:Reach} {b0:Nat} {v:Value} {d:DataW H} {p:List MemPlace} (hv:Value.okWide Tryz.prog w r b0 32 v) (h:DataW.Trod enc Tryz.prog w base spare held 32 v d p) :
  ∃ n:St,(n.q.length≤maxLen∧(∀ l∈n.q,l.length≤maxLen∧∀ x∈l,x.size≤maxLen)∧n.tk.length≤maxLen∧(∀ x∈n.tk,x.car.size≤maxLen∧Big x.rank∧Big x.time)∧Big n.time)∧V0 w (fun _ _=>False) (e3_ n) v:=b2i (P:=Tryz.prog) (t:=32) (F:=fun s:St=>[x1_ s.q,.sl 3 (s.tk.map Tk.av),I s.time]) (by kernel_rfl) c8w hv h
theorem d2r {r:Reach} {b0:Nat} {v:Value} {d:DataW H} {p:List MemPlace} (hv:Value.okWide Tryz.prog w r b0 124 v) (h:DataW.Trod enc Tryz.prog w base spare held 124 v d p) :
  ∃ n:Int×ByteArray,(Big n.1∧n.2.size≤maxLen)∧V0 w (fun _ _=>False) (.agg [I n.1,S n.2]) v:=b2i (P:=Tryz.prog) (t:=124) (F:=fun q:Int×ByteArray=>[I q.1,S q.2]) (by kernel_rfl) d5e hv h
end
theorem own:ownKnob Tryz.prog.godebug=none:=by kernel_rfl
theorem b2j:laidOutB Tryz.prog=true:=by kernel_rfl
end Go.Proofs.YtoibondihdhnoaaGreatDoor
