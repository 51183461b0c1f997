/- Texts in one: The types of the laws' arguments, opened; no condition. -/
import Derived.Test.YtoibondihdhnoaaGreatDoorFRZ46
import Derived.Test.YtoibondihdhnoaaGreatDoorFRZ47
import Derived.Test.YtoibondihdhnoaaGreatDoorFRZ9
namespace Go.Proofs.YtoibondihdhnoaaGreatDoor
open Go.ChangeShapes Go.WideShapes Go.ChangeAt Go.RowKit Go.Deep
set_option maxRecDepth 100000
def Big (n:Int) : Prop:=-9223372036854775808≤n∧n≤9223372036854775807
section
variable {H:Type} {enc:TypeId×Value→H} {w:World} {base:Nat} {spare:Nat→Bool} {held:Bool}
theorem mo:Tryz.prog.cellsOf 3=1:=by kernel_rfl
theorem OB:Tryz.prog.cellsOf 4=1:=by kernel_rfl
theorem wQ:Tryz.prog.cellsOf 9=1:=by kernel_rfl
theorem OC:Tryz.prog.cellsOf 22=1:=by kernel_rfl
theorem OD:Tryz.prog.cellsOf 24=3:=by kernel_rfl
theorem OE:Tryz.prog.cellsOf 29=1:=by kernel_rfl
theorem OF:Tryz.prog.cellsOf 30=1:=by kernel_rfl
theorem OG:Tryz.prog.cellsOf 32=3:=by kernel_rfl
theorem Hy:Tryz.prog.cellsOf 45=3:=by kernel_rfl
theorem OH:Tryz.prog.cellsOf 58=4:=by kernel_rfl
theorem Hz:Tryz.prog.cellsOf 61=4:=by kernel_rfl
theorem OI:Tryz.prog.cellsOf 62=1:=by kernel_rfl
theorem HD:Tryz.prog.cellsOf 148=3:=by kernel_rfl
theorem lim {n:Nat} (h:n≤maxLen) : n≤9223372036854775807:=by simp only [maxLen] at h;omega
theorem mq:Opens enc Tryz.prog w base spare held 3 (fun n=>[I n]) Big:=(Oo Tryz.underlying3).map id (fun _=>rfl) (fun _ h=>OA h)
theorem uc:Opens enc Tryz.prog w base spare held 9 (fun s=>[S s]) (fun s=>s.size≤maxLen):=Oq Tryz.underlying9
theorem OJ:Opens enc Tryz.prog w base spare held 4 (fun b=>[B b]) (fun _=>True):=Ot Tryz.underlying4
theorem OK:Opens enc Tryz.prog w base spare held 61 Rk.av (fun x=>x.name.size≤maxLen∧Big x.places∧Big x.feeder):=
 (ub Tryz.underlying61 rfl Hz (iG wQ uc (iG mo mq (iG mo mq (iG OB OJ (ua _)))))).map (fun q=>(⟨q.1,q.2.1,q.2.2.1,q.2.2.2.1⟩ : Rk)) (fun _=>rfl) (fun _ h=>⟨h.1,h.2.1,h.2.2.1⟩)
theorem OL:Opens enc Tryz.prog w base spare held 58 Ev.av (fun x=>x.car.size≤maxLen∧Big x.kind∧Big x.time∧Big x.rank):=
 (ub Tryz.underlying58 rfl OH (iG mo mq (iG mo mq (iG mo mq (iG wQ uc (ua _)))))).map (fun q=>(⟨q.1,q.2.1,q.2.2.1,q.2.2.2.1⟩ : Ev)) (fun _=>rfl) (fun _ h=>⟨h.2.2.2.1,h.1,h.2.1,h.2.2.1⟩)
theorem OM:Opens enc Tryz.prog w base spare held 45 Sg.av (fun x=>x.car.size≤maxLen):=
 (ub Tryz.underlying45 rfl Hy (iG mo mq (iG mo mq (iG wQ uc (ua _))))).map (fun q=>(⟨q.1,q.2.1,q.2.2.1⟩ : Sg)) (fun _=>rfl) (fun _ h=>h.2.2.1)
theorem ON:Opens enc Tryz.prog w base spare held 148 Tk.av (fun x=>x.car.size≤maxLen∧Big x.rank∧Big x.time):=
 (ub Tryz.underlying148 rfl HD (iG wQ uc (iG mo mq (iG mo mq (ua _))))).map (fun q=>(⟨q.1,q.2.1,q.2.2.1⟩ : Tk)) (fun _=>rfl) (fun _ h=>⟨h.1,h.2.1,h.2.2.1⟩)
theorem OO:Opens enc Tryz.prog w base spare held 24 (fun r:Ru=>[.sl 4 (r.ranks.map Rk.av),I r.back,I r.ret]) (fun r=>r.ranks.length≤maxLen∧(∀ x∈r.ranks,x.name.size≤maxLen∧Big x.places∧Big x.feeder)∧Big r.back∧Big r.ret):=
 (ub Tryz.underlying24 rfl OD (iG OC (wM Tryz.underlying22 Hz (by decide) OK) (iG mo mq (iG mo mq (ua _))))).map (fun q=>(⟨q.1,q.2.1,q.2.2.1⟩ : Ru)) (fun _=>rfl) (fun _ h=>⟨h.1.1,h.1.2,h.2.1,h.2.2.1⟩)
theorem OP:Opens enc Tryz.prog w base spare held 62 (fun l:List ByteArray=>[.sl 1 (l.map cL)]) (fun l=>l.length≤maxLen∧∀ x∈l,x.size≤maxLen):=wM Tryz.underlying62 wQ (by decide) uc
theorem OQ:Opens enc Tryz.prog w base spare held 32 (fun s:St=>[ot s.q,.sl 3 (s.tk.map Tk.av),I s.time]) (fun s=>s.q.length≤maxLen∧(∀ l∈s.q,l.length≤maxLen∧∀ x∈l,x.size≤maxLen)∧s.tk.length≤maxLen∧(∀ x∈s.tk,x.car.size≤maxLen∧Big x.rank∧Big x.time)∧Big s.time):=
 (ub Tryz.underlying32 rfl OG (iG OE (wM Tryz.underlying29 OI (by decide) OP) (iG OF (wM Tryz.underlying30 HD (by decide) ON) (iG mo mq (ua _))))).map (fun q=>(⟨q.1,q.2.1,q.2.2.1⟩ : St)) (fun q=>by simp [ot,cA,List.map_map,Function.comp_def]) (fun _ h=>⟨h.1.1,h.1.2,h.2.1.1,h.2.1.2,h.2.2.1⟩)
theorem H0 {r:Reach} {b0:Nat} {v:Value} {d:DataW H} {p:List MemPlace} (hv:Value.okWide Tryz.prog w r b0 9 v) (h:DataW.Trod enc Tryz.prog w base spare held 9 v d p) :
  ∃ n:ByteArray,n.size≤maxLen∧V0 w (fun _ _=>False) (S n) v:=Hw (P:=Tryz.prog) (t:=9) (f:=fun n:ByteArray=>S n) uc (Ox (t:=9) Tryz.underlying9 hv) h
theorem OR {r:Reach} {b0:Nat} {v:Value} {d:DataW H} {p:List MemPlace} (hv:Value.okWide Tryz.prog w r b0 40 v) (h:DataW.Trod enc Tryz.prog w base spare held 40 v d p) :
  ∃ n:List Sg,(n.length≤maxLen∧∀ x∈n,x.car.size≤maxLen)∧V0 w (fun _ _=>False) (qK n) v:=Hw (P:=Tryz.prog) (t:=40) (f:=fun l:List Sg=>qK l) (wM Tryz.underlying40 Hy (by decide) OM) (Ow (t:=40) Tryz.underlying40 hv) h
theorem C6 {r:Reach} {b0:Nat} {v:Value} {d:DataW H} {p:List MemPlace} (hv:Value.okWide Tryz.prog w r b0 24 v) (h:DataW.Trod enc Tryz.prog w base spare held 24 v d p) :
  ∃ n:Ru,(n.ranks.length≤maxLen∧(∀ x∈n.ranks,x.name.size≤maxLen∧Big x.places∧Big x.feeder)∧Big n.back∧Big n.ret)∧V0 w (fun _ _=>False) (ct n) v:=C2 (P:=Tryz.prog) (t:=24) (F:=fun r:Ru=>[.sl 4 (r.ranks.map Rk.av),I r.back,I r.ret]) (by kernel_rfl) OO hv h
theorem H3 {r:Reach} {b0:Nat} {v:Value} {d:DataW H} {p:List MemPlace} (hv:Value.okWide Tryz.prog w r b0 58 v) (h:DataW.Trod enc Tryz.prog w base spare held 58 v d p) :
  ∃ n:Ev,(n.car.size≤maxLen∧Big n.kind∧Big n.time∧Big n.rank)∧V0 w (fun _ _=>False) (evA n) v:=C2 (P:=Tryz.prog) (t:=58) (F:=Ev.av) (by kernel_rfl) OL hv h
theorem H4 {r:Reach} {b0:Nat} {v:Value} {d:DataW H} {p:List MemPlace} (hv:Value.okWide Tryz.prog w r b0 32 v) (h:DataW.Trod enc Tryz.prog w base spare held 32 v d p) :
  ∃ n:St,(n.q.length≤maxLen∧(∀ l∈n.q,l.length≤maxLen∧∀ x∈l,x.size≤maxLen)∧n.tk.length≤maxLen∧(∀ x∈n.tk,x.car.size≤maxLen∧Big x.rank∧Big x.time)∧Big n.time)∧V0 w (fun _ _=>False) (ez n) v:=C2 (P:=Tryz.prog) (t:=32) (F:=fun s:St=>[ot s.q,.sl 3 (s.tk.map Tk.av),I s.time]) (by kernel_rfl) OQ hv h
end
theorem own:ownKnob Tryz.prog.godebug=none:=by kernel_rfl
theorem ou:laidOutB Tryz.prog=true:=by kernel_rfl
end Go.Proofs.YtoibondihdhnoaaGreatDoor
